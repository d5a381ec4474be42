/- Texts of this claim, one behind the other. -/
import Derived.Test.YtniplmjbligmlaaDoorProg
import Derived.Test.YtniplmjbligmlaaDoorMgDiskCalls0
import Derived.Test.YtniplmjbligmlaaDoorWLast
/-! The program's types as a table: of each its form, how many cells and bytes it has, and its zero. -/
namespace Go.Proofs.YtniplmjbligmlaaDoor.V
set_option linter.unusedVariables false
def tb : Tb := [(1, ⟨.other, 1, 8, [.nilFunc]⟩),
  (2, ⟨(.int .i64), 1, 8, [.int .i64 0]⟩),
  (3, ⟨(.int .i64), 1, 8, [.int .i64 0]⟩),
  (4, ⟨.bool, 1, 1, [.bool false]⟩),
  (5, ⟨(.int .u8), 1, 1, [.int .u8 0]⟩),
  (6, ⟨(.int .u8), 1, 1, [.int .u8 0]⟩),
  (7, ⟨(.struct [(2, 0), (3, 1), (4, 2), (6, 3)]), 4, 24, [.int .i64 0, .int .i64 0, .bool false, .int .u8 0]⟩),
  (8, ⟨(.struct [(2, 0), (3, 1), (4, 2), (6, 3)]), 4, 24, [.int .i64 0, .int .i64 0, .bool false, .int .u8 0]⟩),
  (9, ⟨.string, 1, 16, [.string ⟨#[]⟩]⟩),
  (10, ⟨.string, 1, 16, [.string ⟨#[]⟩]⟩),
  (11, ⟨.string, 1, 16, [.string ⟨#[]⟩]⟩),
  (12, ⟨(.int .u64), 1, 8, [.int .u64 0]⟩),
  (13, ⟨(.struct [(9, 0), (12, 1)]), 2, 24, [.string ⟨#[]⟩, .int .u64 0]⟩),
  (14, ⟨(.struct [(9, 0), (12, 1)]), 2, 24, [.string ⟨#[]⟩, .int .u64 0]⟩),
  (15, ⟨(.ptr 150), 1, 8, [.pointer none]⟩),
  (16, ⟨(.ptr 153), 1, 8, [.pointer none]⟩),
  (17, ⟨(.ptr 162), 1, 8, [.pointer none]⟩),
  (18, ⟨(.struct [(17, 0)]), 1, 8, [.pointer none]⟩),
  (19, ⟨(.struct [(17, 0)]), 1, 8, [.pointer none]⟩),
  (20, ⟨.iface, 1, 16, [.nilIface]⟩),
  (21, ⟨(.int .i32), 1, 4, [.int .i32 0]⟩),
  (22, ⟨(.slice 9), 1, 24, [.slice none 0 0]⟩),
  (23, ⟨(.slice 42), 1, 24, [.slice none 0 0]⟩),
  (24, ⟨(.struct [(22, 0), (23, 1)]), 2, 48, [.slice none 0 0, .slice none 0 0]⟩),
  (25, ⟨(.struct [(22, 0), (23, 1)]), 2, 48, [.slice none 0 0, .slice none 0 0]⟩),
  (26, ⟨.other, 1, 8, [.nilFunc]⟩),
  (27, ⟨(.int .i64), 1, 8, [.int .i64 0]⟩),
  (29, ⟨.other, 1, 8, [.nilFunc]⟩),
  (30, ⟨.other, 1, 8, [.nilFunc]⟩),
  (31, ⟨.other, 1, 8, [.nilFunc]⟩),
  (32, ⟨.other, 1, 8, [.nilFunc]⟩),
  (33, ⟨(.slice 4), 1, 24, [.slice none 0 0]⟩),
  (35, ⟨.other, 1, 8, [.nilFunc]⟩),
  (36, ⟨.other, 1, 8, [.nilFunc]⟩),
  (37, ⟨.other, 1, 8, [.nilFunc]⟩),
  (38, ⟨.other, 1, 8, [.nilFunc]⟩),
  (39, ⟨.other, 1, 8, [.nilFunc]⟩),
  (40, ⟨.other, 1, 8, [.nilFunc]⟩),
  (41, ⟨(.struct [(3, 0), (9, 1)]), 2, 24, [.int .i64 0, .string ⟨#[]⟩]⟩),
  (42, ⟨(.struct [(3, 0), (9, 1)]), 2, 24, [.int .i64 0, .string ⟨#[]⟩]⟩),
  (43, ⟨.other, 1, 8, [.nilFunc]⟩),
  (44, ⟨.other, 1, 8, [.nilFunc]⟩),
  (45, ⟨(.struct [(25, 0), (3, 2)]), 3, 56, [.slice none 0 0, .slice none 0 0, .int .i64 0]⟩),
  (46, ⟨(.struct [(25, 0), (3, 2)]), 3, 56, [.slice none 0 0, .slice none 0 0, .int .i64 0]⟩),
  (48, ⟨.other, 1, 8, [.nilFunc]⟩),
  (49, ⟨.other, 1, 8, [.nilFunc]⟩),
  (50, ⟨(.slice 3), 1, 24, [.slice none 0 0]⟩),
  (51, ⟨(.struct [(3, 0), (3, 1), (50, 2)]), 3, 40, [.int .i64 0, .int .i64 0, .slice none 0 0]⟩),
  (52, ⟨(.struct [(3, 0), (3, 1), (50, 2)]), 3, 40, [.int .i64 0, .int .i64 0, .slice none 0 0]⟩),
  (53, ⟨.other, 1, 8, [.nilFunc]⟩),
  (54, ⟨.other, 1, 8, [.nilFunc]⟩),
  (55, ⟨.other, 1, 8, [.nilFunc]⟩),
  (56, ⟨.other, 1, 8, [.nilFunc]⟩),
  (57, ⟨.other, 1, 8, [.nilFunc]⟩),
  (58, ⟨.other, 1, 8, [.nilFunc]⟩),
  (59, ⟨.other, 1, 8, [.nilFunc]⟩),
  (60, ⟨(.struct [(3, 0), (9, 1)]), 2, 24, [.int .i64 0, .string ⟨#[]⟩]⟩),
  (61, ⟨.other, 1, 8, [.nilFunc]⟩),
  (62, ⟨.other, 1, 8, [.nilFunc]⟩),
  (63, ⟨.other, 1, 8, [.nilFunc]⟩),
  (64, ⟨.other, 1, 8, [.nilFunc]⟩),
  (65, ⟨(.struct [(3, 0)]), 1, 8, [.int .i64 0]⟩),
  (66, ⟨(.struct [(3, 0)]), 1, 8, [.int .i64 0]⟩),
  (67, ⟨.other, 1, 8, [.nilFunc]⟩),
  (68, ⟨.other, 1, 8, [.nilFunc]⟩),
  (69, ⟨.other, 1, 8, [.nilFunc]⟩),
  (70, ⟨.other, 1, 8, [.nilFunc]⟩),
  (71, ⟨.other, 1, 8, [.nilFunc]⟩),
  (72, ⟨.other, 1, 8, [.nilFunc]⟩),
  (73, ⟨.other, 1, 8, [.nilFunc]⟩),
  (74, ⟨.other, 1, 8, [.nilFunc]⟩),
  (76, ⟨.other, 1, 8, [.nilFunc]⟩),
  (78, ⟨.other, 1, 8, [.nilFunc]⟩),
  (80, ⟨.other, 1, 8, [.nilFunc]⟩),
  (81, ⟨.other, 1, 8, [.nilFunc]⟩),
  (82, ⟨.other, 1, 8, [.nilFunc]⟩),
  (83, ⟨.other, 1, 8, [.nilFunc]⟩),
  (84, ⟨.other, 1, 8, [.nilFunc]⟩),
  (85, ⟨.other, 1, 8, [.nilFunc]⟩),
  (86, ⟨.other, 1, 8, [.nilFunc]⟩),
  (87, ⟨.other, 1, 8, [.nilFunc]⟩),
  (88, ⟨.other, 1, 8, [.nilFunc]⟩),
  (89, ⟨.other, 1, 8, [.nilFunc]⟩),
  (90, ⟨.other, 1, 8, [.nilFunc]⟩),
  (91, ⟨.other, 1, 8, [.nilFunc]⟩),
  (92, ⟨.other, 1, 8, [.nilFunc]⟩),
  (93, ⟨.other, 1, 8, [.nilFunc]⟩),
  (94, ⟨(.struct [(3, 0), (3, 1)]), 2, 16, [.int .i64 0, .int .i64 0]⟩),
  (95, ⟨(.struct [(3, 0), (3, 1)]), 2, 16, [.int .i64 0, .int .i64 0]⟩),
  (96, ⟨(.slice 95), 1, 24, [.slice none 0 0]⟩),
  (97, ⟨.other, 1, 8, [.nilFunc]⟩),
  (98, ⟨.other, 1, 8, [.nilFunc]⟩),
  (99, ⟨.other, 1, 8, [.nilFunc]⟩),
  (100, ⟨(.ptr 102), 1, 8, [.pointer none]⟩),
  (101, ⟨(.struct [(9, 0), (3, 1)]), 2, 24, [.string ⟨#[]⟩, .int .i64 0]⟩),
  (102, ⟨(.struct [(9, 0), (3, 1)]), 2, 24, [.string ⟨#[]⟩, .int .i64 0]⟩),
  (103, ⟨.other, 1, 8, [.nilFunc]⟩),
  (104, ⟨.other, 1, 8, [.nilFunc]⟩),
  (105, ⟨.other, 1, 8, [.nilFunc]⟩),
  (106, ⟨.other, 1, 8, [.nilFunc]⟩),
  (107, ⟨.other, 1, 8, [.nilFunc]⟩),
  (108, ⟨.other, 1, 8, [.nilFunc]⟩),
  (109, ⟨(.int .u64), 1, 8, [.int .u64 0]⟩),
  (110, ⟨(.int .u64), 1, 8, [.int .u64 0]⟩),
  (112, ⟨.other, 1, 8, [.nilFunc]⟩),
  (114, ⟨.other, 1, 8, [.nilFunc]⟩),
  (115, ⟨.other, 1, 8, [.nilFunc]⟩),
  (117, ⟨.other, 1, 8, [.nilFunc]⟩),
  (118, ⟨.other, 1, 8, [.nilFunc]⟩),
  (122, ⟨.other, 1, 8, [.nilFunc]⟩),
  (123, ⟨.other, 1, 8, [.nilFunc]⟩),
  (124, ⟨(.ptr 120), 1, 8, [.pointer none]⟩),
  (125, ⟨.other, 1, 8, [.nilFunc]⟩),
  (126, ⟨(.slice 5), 1, 24, [.slice none 0 0]⟩),
  (127, ⟨(.int .u32), 1, 4, [.int .u32 0]⟩),
  (128, ⟨.other, 1, 8, [.nilFunc]⟩),
  (130, ⟨.other, 1, 8, [.nilFunc]⟩),
  (132, ⟨.other, 1, 8, [.nilFunc]⟩),
  (133, ⟨.other, 1, 8, [.nilFunc]⟩),
  (135, ⟨.other, 1, 8, [.nilFunc]⟩),
  (136, ⟨.other, 1, 8, [.nilFunc]⟩),
  (137, ⟨(.array 16 127), 16, 64, [.int .u32 0, .int .u32 0, .int .u32 0, .int .u32 0, .int .u32 0, .int .u32 0, .int .u32 0, .int .u32 0, .int .u32 0, .int .u32 0, .int .u32 0, .int .u32 0, .int .u32 0, .int .u32 0, .int .u32 0, .int .u32 0]⟩),
  (138, ⟨.other, 1, 8, [.nilFunc]⟩),
  (139, ⟨.other, 1, 8, [.nilFunc]⟩),
  (140, ⟨.other, 1, 8, [.nilFunc]⟩),
  (141, ⟨.other, 1, 8, [.nilFunc]⟩),
  (142, ⟨.other, 1, 8, [.nilFunc]⟩),
  (143, ⟨.other, 1, 8, [.nilFunc]⟩),
  (145, ⟨(.struct [(5, 0), (5, 1)]), 2, 2, [.int .u8 0, .int .u8 0]⟩),
  (146, ⟨(.struct [(5, 0), (5, 1)]), 2, 2, [.int .u8 0, .int .u8 0]⟩),
  (147, ⟨(.array 16 146), 32, 32, [.int .u8 0, .int .u8 0, .int .u8 0, .int .u8 0, .int .u8 0, .int .u8 0, .int .u8 0, .int .u8 0, .int .u8 0, .int .u8 0, .int .u8 0, .int .u8 0, .int .u8 0, .int .u8 0, .int .u8 0, .int .u8 0, .int .u8 0, .int .u8 0, .int .u8 0, .int .u8 0, .int .u8 0, .int .u8 0, .int .u8 0, .int .u8 0, .int .u8 0, .int .u8 0, .int .u8 0, .int .u8 0, .int .u8 0, .int .u8 0, .int .u8 0, .int .u8 0]⟩),
  (148, ⟨.other, 1, 8, [.nilFunc]⟩),
  (149, ⟨(.struct [(17, 0), (17, 1), (17, 2), (9, 3)]), 4, 40, [.pointer none, .pointer none, .pointer none, .string ⟨#[]⟩]⟩),
  (150, ⟨(.struct [(17, 0), (17, 1), (17, 2), (9, 3)]), 4, 40, [.pointer none, .pointer none, .pointer none, .string ⟨#[]⟩]⟩),
  (151, ⟨(.array 0 16), 0, 0, []⟩),
  (152, ⟨(.struct [(151, 0)]), 0, 0, []⟩),
  (153, ⟨(.struct [(151, 0)]), 0, 0, []⟩),
  (154, ⟨.other, 1, 8, [.nilFunc]⟩),
  (155, ⟨(.int .u8), 1, 1, [.int .u8 0]⟩),
  (156, ⟨(.int .u8), 1, 1, [.int .u8 0]⟩),
  (157, ⟨.other, 1, 8, [.nilFunc]⟩),
  (158, ⟨(.ptr 5), 1, 8, [.pointer none]⟩),
  (159, ⟨(.int .i32), 1, 4, [.int .i32 0]⟩),
  (160, ⟨(.int .i32), 1, 4, [.int .i32 0]⟩),
  (161, ⟨(.struct [(12, 0), (12, 1), (127, 2), (155, 3), (5, 4), (5, 5), (156, 6), (157, 7), (158, 8), (159, 9), (160, 10)]), 11, 48, [.int .u64 0, .int .u64 0, .int .u32 0, .int .u8 0, .int .u8 0, .int .u8 0, .int .u8 0, .nilFunc, .pointer none, .int .i32 0, .int .i32 0]⟩),
  (162, ⟨(.struct [(12, 0), (12, 1), (127, 2), (155, 3), (5, 4), (5, 5), (156, 6), (157, 7), (158, 8), (159, 9), (160, 10)]), 11, 48, [.int .u64 0, .int .u64 0, .int .u32 0, .int .u8 0, .int .u8 0, .int .u8 0, .int .u8 0, .nilFunc, .pointer none, .int .i32 0, .int .i32 0]⟩),
  (163, ⟨.other, 1, 8, [.pointer none]⟩)]
set_option maxRecDepth 100000 in
theorem tbOk : TbOk Tryd.prog tb := tbOk_cons ⟨⟨_, Tryd.underlying1, rfl⟩, ⟨_, (by kernel_rfl : Tryd.prog.info? 1 = some Tryd.t1), rfl, rfl, rfl⟩, rfl, rfl, by decide⟩ (
  tbOk_cons ⟨⟨_, Tryd.underlying2, rfl⟩, ⟨_, (by kernel_rfl : Tryd.prog.info? 2 = some Tryd.t2), rfl, rfl, rfl⟩, rfl, rfl, by decide⟩ (
  tbOk_cons ⟨⟨_, Tryd.underlying3, rfl⟩, ⟨_, (by kernel_rfl : Tryd.prog.info? 3 = some Tryd.t3), rfl, rfl, rfl⟩, rfl, rfl, by decide⟩ (
  tbOk_cons ⟨⟨_, Tryd.underlying4, rfl⟩, ⟨_, (by kernel_rfl : Tryd.prog.info? 4 = some Tryd.t4), rfl, rfl, rfl⟩, rfl, rfl, by decide⟩ (
  tbOk_cons ⟨⟨_, Tryd.underlying5, rfl⟩, ⟨_, (by kernel_rfl : Tryd.prog.info? 5 = some Tryd.t5), rfl, rfl, rfl⟩, rfl, rfl, by decide⟩ (
  tbOk_cons ⟨⟨_, Tryd.underlying6, rfl⟩, ⟨_, (by kernel_rfl : Tryd.prog.info? 6 = some Tryd.t6), rfl, rfl, rfl⟩, rfl, rfl, by decide⟩ (
  tbOk_cons ⟨⟨_, Tryd.underlying7, rfl⟩, ⟨_, (by kernel_rfl : Tryd.prog.info? 7 = some Tryd.t7), rfl, rfl, rfl⟩, rfl, rfl, by decide⟩ (
  tbOk_cons ⟨⟨_, Tryd.underlying8, rfl⟩, ⟨_, (by kernel_rfl : Tryd.prog.info? 8 = some Tryd.t8), rfl, rfl, rfl⟩, rfl, rfl, by decide⟩ (
  tbOk_cons ⟨⟨_, Tryd.underlying9, rfl⟩, ⟨_, (by kernel_rfl : Tryd.prog.info? 9 = some Tryd.t9), rfl, rfl, rfl⟩, rfl, rfl, by decide⟩ (
  tbOk_cons ⟨⟨_, Tryd.underlying10, rfl⟩, ⟨_, (by kernel_rfl : Tryd.prog.info? 10 = some Tryd.t10), rfl, rfl, rfl⟩, rfl, rfl, by decide⟩ (
  tbOk_cons ⟨⟨_, Tryd.underlying11, rfl⟩, ⟨_, (by kernel_rfl : Tryd.prog.info? 11 = some Tryd.t11), rfl, rfl, rfl⟩, rfl, rfl, by decide⟩ (
  tbOk_cons ⟨⟨_, Tryd.underlying12, rfl⟩, ⟨_, (by kernel_rfl : Tryd.prog.info? 12 = some Tryd.t12), rfl, rfl, rfl⟩, rfl, rfl, by decide⟩ (
  tbOk_cons ⟨⟨_, Tryd.underlying13, rfl⟩, ⟨_, (by kernel_rfl : Tryd.prog.info? 13 = some Tryd.t13), rfl, rfl, rfl⟩, rfl, rfl, by decide⟩ (
  tbOk_cons ⟨⟨_, Tryd.underlying14, rfl⟩, ⟨_, (by kernel_rfl : Tryd.prog.info? 14 = some Tryd.t14), rfl, rfl, rfl⟩, rfl, rfl, by decide⟩ (
  tbOk_cons ⟨⟨_, Tryd.underlying15, rfl⟩, ⟨_, (by kernel_rfl : Tryd.prog.info? 15 = some Tryd.t15), rfl, rfl, rfl⟩, rfl, rfl, by decide⟩ (
  tbOk_cons ⟨⟨_, Tryd.underlying16, rfl⟩, ⟨_, (by kernel_rfl : Tryd.prog.info? 16 = some Tryd.t16), rfl, rfl, rfl⟩, rfl, rfl, by decide⟩ (
  tbOk_cons ⟨⟨_, Tryd.underlying17, rfl⟩, ⟨_, (by kernel_rfl : Tryd.prog.info? 17 = some Tryd.t17), rfl, rfl, rfl⟩, rfl, rfl, by decide⟩ (
  tbOk_cons ⟨⟨_, Tryd.underlying18, rfl⟩, ⟨_, (by kernel_rfl : Tryd.prog.info? 18 = some Tryd.t18), rfl, rfl, rfl⟩, rfl, rfl, by decide⟩ (
  tbOk_cons ⟨⟨_, Tryd.underlying19, rfl⟩, ⟨_, (by kernel_rfl : Tryd.prog.info? 19 = some Tryd.t19), rfl, rfl, rfl⟩, rfl, rfl, by decide⟩ (
  tbOk_cons ⟨⟨_, Tryd.underlying20, rfl⟩, ⟨_, (by kernel_rfl : Tryd.prog.info? 20 = some Tryd.t20), rfl, rfl, rfl⟩, rfl, rfl, by decide⟩ (
  tbOk_cons ⟨⟨_, Tryd.underlying21, rfl⟩, ⟨_, (by kernel_rfl : Tryd.prog.info? 21 = some Tryd.t21), rfl, rfl, rfl⟩, rfl, rfl, by decide⟩ (
  tbOk_cons ⟨⟨_, Tryd.underlying22, rfl⟩, ⟨_, (by kernel_rfl : Tryd.prog.info? 22 = some Tryd.t22), rfl, rfl, rfl⟩, rfl, rfl, by decide⟩ (
  tbOk_cons ⟨⟨_, Tryd.underlying23, rfl⟩, ⟨_, (by kernel_rfl : Tryd.prog.info? 23 = some Tryd.t23), rfl, rfl, rfl⟩, rfl, rfl, by decide⟩ (
  tbOk_cons ⟨⟨_, Tryd.underlying24, rfl⟩, ⟨_, (by kernel_rfl : Tryd.prog.info? 24 = some Tryd.t24), rfl, rfl, rfl⟩, rfl, rfl, by decide⟩ (
  tbOk_cons ⟨⟨_, Tryd.underlying25, rfl⟩, ⟨_, (by kernel_rfl : Tryd.prog.info? 25 = some Tryd.t25), rfl, rfl, rfl⟩, rfl, rfl, by decide⟩ (
  tbOk_cons ⟨⟨_, Tryd.underlying26, rfl⟩, ⟨_, (by kernel_rfl : Tryd.prog.info? 26 = some Tryd.t26), rfl, rfl, rfl⟩, rfl, rfl, by decide⟩ (
  tbOk_cons ⟨⟨_, Tryd.underlying27, rfl⟩, ⟨_, (by kernel_rfl : Tryd.prog.info? 27 = some Tryd.t27), rfl, rfl, rfl⟩, rfl, rfl, by decide⟩ (
  tbOk_cons ⟨⟨_, Tryd.underlying29, rfl⟩, ⟨_, (by kernel_rfl : Tryd.prog.info? 29 = some Tryd.t29), rfl, rfl, rfl⟩, rfl, rfl, by decide⟩ (
  tbOk_cons ⟨⟨_, Tryd.underlying30, rfl⟩, ⟨_, (by kernel_rfl : Tryd.prog.info? 30 = some Tryd.t30), rfl, rfl, rfl⟩, rfl, rfl, by decide⟩ (
  tbOk_cons ⟨⟨_, Tryd.underlying31, rfl⟩, ⟨_, (by kernel_rfl : Tryd.prog.info? 31 = some Tryd.t31), rfl, rfl, rfl⟩, rfl, rfl, by decide⟩ (
  tbOk_cons ⟨⟨_, Tryd.underlying32, rfl⟩, ⟨_, (by kernel_rfl : Tryd.prog.info? 32 = some Tryd.t32), rfl, rfl, rfl⟩, rfl, rfl, by decide⟩ (
  tbOk_cons ⟨⟨_, Tryd.underlying33, rfl⟩, ⟨_, (by kernel_rfl : Tryd.prog.info? 33 = some Tryd.t33), rfl, rfl, rfl⟩, rfl, rfl, by decide⟩ (
  tbOk_cons ⟨⟨_, Tryd.underlying35, rfl⟩, ⟨_, (by kernel_rfl : Tryd.prog.info? 35 = some Tryd.t35), rfl, rfl, rfl⟩, rfl, rfl, by decide⟩ (
  tbOk_cons ⟨⟨_, Tryd.underlying36, rfl⟩, ⟨_, (by kernel_rfl : Tryd.prog.info? 36 = some Tryd.t36), rfl, rfl, rfl⟩, rfl, rfl, by decide⟩ (
  tbOk_cons ⟨⟨_, Tryd.underlying37, rfl⟩, ⟨_, (by kernel_rfl : Tryd.prog.info? 37 = some Tryd.t37), rfl, rfl, rfl⟩, rfl, rfl, by decide⟩ (
  tbOk_cons ⟨⟨_, Tryd.underlying38, rfl⟩, ⟨_, (by kernel_rfl : Tryd.prog.info? 38 = some Tryd.t38), rfl, rfl, rfl⟩, rfl, rfl, by decide⟩ (
  tbOk_cons ⟨⟨_, Tryd.underlying39, rfl⟩, ⟨_, (by kernel_rfl : Tryd.prog.info? 39 = some Tryd.t39), rfl, rfl, rfl⟩, rfl, rfl, by decide⟩ (
  tbOk_cons ⟨⟨_, Tryd.underlying40, rfl⟩, ⟨_, (by kernel_rfl : Tryd.prog.info? 40 = some Tryd.t40), rfl, rfl, rfl⟩, rfl, rfl, by decide⟩ (
  tbOk_cons ⟨⟨_, Tryd.underlying41, rfl⟩, ⟨_, (by kernel_rfl : Tryd.prog.info? 41 = some Tryd.t41), rfl, rfl, rfl⟩, rfl, rfl, by decide⟩ (
  tbOk_cons ⟨⟨_, Tryd.underlying42, rfl⟩, ⟨_, (by kernel_rfl : Tryd.prog.info? 42 = some Tryd.t42), rfl, rfl, rfl⟩, rfl, rfl, by decide⟩ (
  tbOk_cons ⟨⟨_, Tryd.underlying43, rfl⟩, ⟨_, (by kernel_rfl : Tryd.prog.info? 43 = some Tryd.t43), rfl, rfl, rfl⟩, rfl, rfl, by decide⟩ (
  tbOk_cons ⟨⟨_, Tryd.underlying44, rfl⟩, ⟨_, (by kernel_rfl : Tryd.prog.info? 44 = some Tryd.t44), rfl, rfl, rfl⟩, rfl, rfl, by decide⟩ (
  tbOk_cons ⟨⟨_, Tryd.underlying45, rfl⟩, ⟨_, (by kernel_rfl : Tryd.prog.info? 45 = some Tryd.t45), rfl, rfl, rfl⟩, rfl, rfl, by decide⟩ (
  tbOk_cons ⟨⟨_, Tryd.underlying46, rfl⟩, ⟨_, (by kernel_rfl : Tryd.prog.info? 46 = some Tryd.t46), rfl, rfl, rfl⟩, rfl, rfl, by decide⟩ (
  tbOk_cons ⟨⟨_, Tryd.underlying48, rfl⟩, ⟨_, (by kernel_rfl : Tryd.prog.info? 48 = some Tryd.t48), rfl, rfl, rfl⟩, rfl, rfl, by decide⟩ (
  tbOk_cons ⟨⟨_, Tryd.underlying49, rfl⟩, ⟨_, (by kernel_rfl : Tryd.prog.info? 49 = some Tryd.t49), rfl, rfl, rfl⟩, rfl, rfl, by decide⟩ (
  tbOk_cons ⟨⟨_, Tryd.underlying50, rfl⟩, ⟨_, (by kernel_rfl : Tryd.prog.info? 50 = some Tryd.t50), rfl, rfl, rfl⟩, rfl, rfl, by decide⟩ (
  tbOk_cons ⟨⟨_, Tryd.underlying51, rfl⟩, ⟨_, (by kernel_rfl : Tryd.prog.info? 51 = some Tryd.t51), rfl, rfl, rfl⟩, rfl, rfl, by decide⟩ (
  tbOk_cons ⟨⟨_, Tryd.underlying52, rfl⟩, ⟨_, (by kernel_rfl : Tryd.prog.info? 52 = some Tryd.t52), rfl, rfl, rfl⟩, rfl, rfl, by decide⟩ (
  tbOk_cons ⟨⟨_, Tryd.underlying53, rfl⟩, ⟨_, (by kernel_rfl : Tryd.prog.info? 53 = some Tryd.t53), rfl, rfl, rfl⟩, rfl, rfl, by decide⟩ (
  tbOk_cons ⟨⟨_, Tryd.underlying54, rfl⟩, ⟨_, (by kernel_rfl : Tryd.prog.info? 54 = some Tryd.t54), rfl, rfl, rfl⟩, rfl, rfl, by decide⟩ (
  tbOk_cons ⟨⟨_, Tryd.underlying55, rfl⟩, ⟨_, (by kernel_rfl : Tryd.prog.info? 55 = some Tryd.t55), rfl, rfl, rfl⟩, rfl, rfl, by decide⟩ (
  tbOk_cons ⟨⟨_, Tryd.underlying56, rfl⟩, ⟨_, (by kernel_rfl : Tryd.prog.info? 56 = some Tryd.t56), rfl, rfl, rfl⟩, rfl, rfl, by decide⟩ (
  tbOk_cons ⟨⟨_, Tryd.underlying57, rfl⟩, ⟨_, (by kernel_rfl : Tryd.prog.info? 57 = some Tryd.t57), rfl, rfl, rfl⟩, rfl, rfl, by decide⟩ (
  tbOk_cons ⟨⟨_, Tryd.underlying58, rfl⟩, ⟨_, (by kernel_rfl : Tryd.prog.info? 58 = some Tryd.t58), rfl, rfl, rfl⟩, rfl, rfl, by decide⟩ (
  tbOk_cons ⟨⟨_, Tryd.underlying59, rfl⟩, ⟨_, (by kernel_rfl : Tryd.prog.info? 59 = some Tryd.t59), rfl, rfl, rfl⟩, rfl, rfl, by decide⟩ (
  tbOk_cons ⟨⟨_, Tryd.underlying60, rfl⟩, ⟨_, (by kernel_rfl : Tryd.prog.info? 60 = some Tryd.t60), rfl, rfl, rfl⟩, rfl, rfl, by decide⟩ (
  tbOk_cons ⟨⟨_, Tryd.underlying61, rfl⟩, ⟨_, (by kernel_rfl : Tryd.prog.info? 61 = some Tryd.t61), rfl, rfl, rfl⟩, rfl, rfl, by decide⟩ (
  tbOk_cons ⟨⟨_, Tryd.underlying62, rfl⟩, ⟨_, (by kernel_rfl : Tryd.prog.info? 62 = some Tryd.t62), rfl, rfl, rfl⟩, rfl, rfl, by decide⟩ (
  tbOk_cons ⟨⟨_, Tryd.underlying63, rfl⟩, ⟨_, (by kernel_rfl : Tryd.prog.info? 63 = some Tryd.t63), rfl, rfl, rfl⟩, rfl, rfl, by decide⟩ (
  tbOk_cons ⟨⟨_, Tryd.underlying64, rfl⟩, ⟨_, (by kernel_rfl : Tryd.prog.info? 64 = some Tryd.t64), rfl, rfl, rfl⟩, rfl, rfl, by decide⟩ (
  tbOk_cons ⟨⟨_, Tryd.underlying65, rfl⟩, ⟨_, (by kernel_rfl : Tryd.prog.info? 65 = some Tryd.t65), rfl, rfl, rfl⟩, rfl, rfl, by decide⟩ (
  tbOk_cons ⟨⟨_, Tryd.underlying66, rfl⟩, ⟨_, (by kernel_rfl : Tryd.prog.info? 66 = some Tryd.t66), rfl, rfl, rfl⟩, rfl, rfl, by decide⟩ (
  tbOk_cons ⟨⟨_, Tryd.underlying67, rfl⟩, ⟨_, (by kernel_rfl : Tryd.prog.info? 67 = some Tryd.t67), rfl, rfl, rfl⟩, rfl, rfl, by decide⟩ (
  tbOk_cons ⟨⟨_, Tryd.underlying68, rfl⟩, ⟨_, (by kernel_rfl : Tryd.prog.info? 68 = some Tryd.t68), rfl, rfl, rfl⟩, rfl, rfl, by decide⟩ (
  tbOk_cons ⟨⟨_, Tryd.underlying69, rfl⟩, ⟨_, (by kernel_rfl : Tryd.prog.info? 69 = some Tryd.t69), rfl, rfl, rfl⟩, rfl, rfl, by decide⟩ (
  tbOk_cons ⟨⟨_, Tryd.underlying70, rfl⟩, ⟨_, (by kernel_rfl : Tryd.prog.info? 70 = some Tryd.t70), rfl, rfl, rfl⟩, rfl, rfl, by decide⟩ (
  tbOk_cons ⟨⟨_, Tryd.underlying71, rfl⟩, ⟨_, (by kernel_rfl : Tryd.prog.info? 71 = some Tryd.t71), rfl, rfl, rfl⟩, rfl, rfl, by decide⟩ (
  tbOk_cons ⟨⟨_, Tryd.underlying72, rfl⟩, ⟨_, (by kernel_rfl : Tryd.prog.info? 72 = some Tryd.t72), rfl, rfl, rfl⟩, rfl, rfl, by decide⟩ (
  tbOk_cons ⟨⟨_, Tryd.underlying73, rfl⟩, ⟨_, (by kernel_rfl : Tryd.prog.info? 73 = some Tryd.t73), rfl, rfl, rfl⟩, rfl, rfl, by decide⟩ (
  tbOk_cons ⟨⟨_, Tryd.underlying74, rfl⟩, ⟨_, (by kernel_rfl : Tryd.prog.info? 74 = some Tryd.t74), rfl, rfl, rfl⟩, rfl, rfl, by decide⟩ (
  tbOk_cons ⟨⟨_, Tryd.underlying76, rfl⟩, ⟨_, (by kernel_rfl : Tryd.prog.info? 76 = some Tryd.t76), rfl, rfl, rfl⟩, rfl, rfl, by decide⟩ (
  tbOk_cons ⟨⟨_, Tryd.underlying78, rfl⟩, ⟨_, (by kernel_rfl : Tryd.prog.info? 78 = some Tryd.t78), rfl, rfl, rfl⟩, rfl, rfl, by decide⟩ (
  tbOk_cons ⟨⟨_, Tryd.underlying80, rfl⟩, ⟨_, (by kernel_rfl : Tryd.prog.info? 80 = some Tryd.t80), rfl, rfl, rfl⟩, rfl, rfl, by decide⟩ (
  tbOk_cons ⟨⟨_, Tryd.underlying81, rfl⟩, ⟨_, (by kernel_rfl : Tryd.prog.info? 81 = some Tryd.t81), rfl, rfl, rfl⟩, rfl, rfl, by decide⟩ (
  tbOk_cons ⟨⟨_, Tryd.underlying82, rfl⟩, ⟨_, (by kernel_rfl : Tryd.prog.info? 82 = some Tryd.t82), rfl, rfl, rfl⟩, rfl, rfl, by decide⟩ (
  tbOk_cons ⟨⟨_, Tryd.underlying83, rfl⟩, ⟨_, (by kernel_rfl : Tryd.prog.info? 83 = some Tryd.t83), rfl, rfl, rfl⟩, rfl, rfl, by decide⟩ (
  tbOk_cons ⟨⟨_, Tryd.underlying84, rfl⟩, ⟨_, (by kernel_rfl : Tryd.prog.info? 84 = some Tryd.t84), rfl, rfl, rfl⟩, rfl, rfl, by decide⟩ (
  tbOk_cons ⟨⟨_, Tryd.underlying85, rfl⟩, ⟨_, (by kernel_rfl : Tryd.prog.info? 85 = some Tryd.t85), rfl, rfl, rfl⟩, rfl, rfl, by decide⟩ (
  tbOk_cons ⟨⟨_, Tryd.underlying86, rfl⟩, ⟨_, (by kernel_rfl : Tryd.prog.info? 86 = some Tryd.t86), rfl, rfl, rfl⟩, rfl, rfl, by decide⟩ (
  tbOk_cons ⟨⟨_, Tryd.underlying87, rfl⟩, ⟨_, (by kernel_rfl : Tryd.prog.info? 87 = some Tryd.t87), rfl, rfl, rfl⟩, rfl, rfl, by decide⟩ (
  tbOk_cons ⟨⟨_, Tryd.underlying88, rfl⟩, ⟨_, (by kernel_rfl : Tryd.prog.info? 88 = some Tryd.t88), rfl, rfl, rfl⟩, rfl, rfl, by decide⟩ (
  tbOk_cons ⟨⟨_, Tryd.underlying89, rfl⟩, ⟨_, (by kernel_rfl : Tryd.prog.info? 89 = some Tryd.t89), rfl, rfl, rfl⟩, rfl, rfl, by decide⟩ (
  tbOk_cons ⟨⟨_, Tryd.underlying90, rfl⟩, ⟨_, (by kernel_rfl : Tryd.prog.info? 90 = some Tryd.t90), rfl, rfl, rfl⟩, rfl, rfl, by decide⟩ (
  tbOk_cons ⟨⟨_, Tryd.underlying91, rfl⟩, ⟨_, (by kernel_rfl : Tryd.prog.info? 91 = some Tryd.t91), rfl, rfl, rfl⟩, rfl, rfl, by decide⟩ (
  tbOk_cons ⟨⟨_, Tryd.underlying92, rfl⟩, ⟨_, (by kernel_rfl : Tryd.prog.info? 92 = some Tryd.t92), rfl, rfl, rfl⟩, rfl, rfl, by decide⟩ (
  tbOk_cons ⟨⟨_, Tryd.underlying93, rfl⟩, ⟨_, (by kernel_rfl : Tryd.prog.info? 93 = some Tryd.t93), rfl, rfl, rfl⟩, rfl, rfl, by decide⟩ (
  tbOk_cons ⟨⟨_, Tryd.underlying94, rfl⟩, ⟨_, (by kernel_rfl : Tryd.prog.info? 94 = some Tryd.t94), rfl, rfl, rfl⟩, rfl, rfl, by decide⟩ (
  tbOk_cons ⟨⟨_, Tryd.underlying95, rfl⟩, ⟨_, (by kernel_rfl : Tryd.prog.info? 95 = some Tryd.t95), rfl, rfl, rfl⟩, rfl, rfl, by decide⟩ (
  tbOk_cons ⟨⟨_, Tryd.underlying96, rfl⟩, ⟨_, (by kernel_rfl : Tryd.prog.info? 96 = some Tryd.t96), rfl, rfl, rfl⟩, rfl, rfl, by decide⟩ (
  tbOk_cons ⟨⟨_, Tryd.underlying97, rfl⟩, ⟨_, (by kernel_rfl : Tryd.prog.info? 97 = some Tryd.t97), rfl, rfl, rfl⟩, rfl, rfl, by decide⟩ (
  tbOk_cons ⟨⟨_, Tryd.underlying98, rfl⟩, ⟨_, (by kernel_rfl : Tryd.prog.info? 98 = some Tryd.t98), rfl, rfl, rfl⟩, rfl, rfl, by decide⟩ (
  tbOk_cons ⟨⟨_, Tryd.underlying99, rfl⟩, ⟨_, (by kernel_rfl : Tryd.prog.info? 99 = some Tryd.t99), rfl, rfl, rfl⟩, rfl, rfl, by decide⟩ (
  tbOk_cons ⟨⟨_, Tryd.underlying100, rfl⟩, ⟨_, (by kernel_rfl : Tryd.prog.info? 100 = some Tryd.t100), rfl, rfl, rfl⟩, rfl, rfl, by decide⟩ (
  tbOk_cons ⟨⟨_, Tryd.underlying101, rfl⟩, ⟨_, (by kernel_rfl : Tryd.prog.info? 101 = some Tryd.t101), rfl, rfl, rfl⟩, rfl, rfl, by decide⟩ (
  tbOk_cons ⟨⟨_, Tryd.underlying102, rfl⟩, ⟨_, (by kernel_rfl : Tryd.prog.info? 102 = some Tryd.t102), rfl, rfl, rfl⟩, rfl, rfl, by decide⟩ (
  tbOk_cons ⟨⟨_, Tryd.underlying103, rfl⟩, ⟨_, (by kernel_rfl : Tryd.prog.info? 103 = some Tryd.t103), rfl, rfl, rfl⟩, rfl, rfl, by decide⟩ (
  tbOk_cons ⟨⟨_, Tryd.underlying104, rfl⟩, ⟨_, (by kernel_rfl : Tryd.prog.info? 104 = some Tryd.t104), rfl, rfl, rfl⟩, rfl, rfl, by decide⟩ (
  tbOk_cons ⟨⟨_, Tryd.underlying105, rfl⟩, ⟨_, (by kernel_rfl : Tryd.prog.info? 105 = some Tryd.t105), rfl, rfl, rfl⟩, rfl, rfl, by decide⟩ (
  tbOk_cons ⟨⟨_, Tryd.underlying106, rfl⟩, ⟨_, (by kernel_rfl : Tryd.prog.info? 106 = some Tryd.t106), rfl, rfl, rfl⟩, rfl, rfl, by decide⟩ (
  tbOk_cons ⟨⟨_, Tryd.underlying107, rfl⟩, ⟨_, (by kernel_rfl : Tryd.prog.info? 107 = some Tryd.t107), rfl, rfl, rfl⟩, rfl, rfl, by decide⟩ (
  tbOk_cons ⟨⟨_, Tryd.underlying108, rfl⟩, ⟨_, (by kernel_rfl : Tryd.prog.info? 108 = some Tryd.t108), rfl, rfl, rfl⟩, rfl, rfl, by decide⟩ (
  tbOk_cons ⟨⟨_, Tryd.underlying109, rfl⟩, ⟨_, (by kernel_rfl : Tryd.prog.info? 109 = some Tryd.t109), rfl, rfl, rfl⟩, rfl, rfl, by decide⟩ (
  tbOk_cons ⟨⟨_, Tryd.underlying110, rfl⟩, ⟨_, (by kernel_rfl : Tryd.prog.info? 110 = some Tryd.t110), rfl, rfl, rfl⟩, rfl, rfl, by decide⟩ (
  tbOk_cons ⟨⟨_, Tryd.underlying112, rfl⟩, ⟨_, (by kernel_rfl : Tryd.prog.info? 112 = some Tryd.t112), rfl, rfl, rfl⟩, rfl, rfl, by decide⟩ (
  tbOk_cons ⟨⟨_, Tryd.underlying114, rfl⟩, ⟨_, (by kernel_rfl : Tryd.prog.info? 114 = some Tryd.t114), rfl, rfl, rfl⟩, rfl, rfl, by decide⟩ (
  tbOk_cons ⟨⟨_, Tryd.underlying115, rfl⟩, ⟨_, (by kernel_rfl : Tryd.prog.info? 115 = some Tryd.t115), rfl, rfl, rfl⟩, rfl, rfl, by decide⟩ (
  tbOk_cons ⟨⟨_, Tryd.underlying117, rfl⟩, ⟨_, (by kernel_rfl : Tryd.prog.info? 117 = some Tryd.t117), rfl, rfl, rfl⟩, rfl, rfl, by decide⟩ (
  tbOk_cons ⟨⟨_, Tryd.underlying118, rfl⟩, ⟨_, (by kernel_rfl : Tryd.prog.info? 118 = some Tryd.t118), rfl, rfl, rfl⟩, rfl, rfl, by decide⟩ (
  tbOk_cons ⟨⟨_, Tryd.underlying122, rfl⟩, ⟨_, (by kernel_rfl : Tryd.prog.info? 122 = some Tryd.t122), rfl, rfl, rfl⟩, rfl, rfl, by decide⟩ (
  tbOk_cons ⟨⟨_, Tryd.underlying123, rfl⟩, ⟨_, (by kernel_rfl : Tryd.prog.info? 123 = some Tryd.t123), rfl, rfl, rfl⟩, rfl, rfl, by decide⟩ (
  tbOk_cons ⟨⟨_, Tryd.underlying124, rfl⟩, ⟨_, (by kernel_rfl : Tryd.prog.info? 124 = some Tryd.t124), rfl, rfl, rfl⟩, rfl, rfl, by decide⟩ (
  tbOk_cons ⟨⟨_, Tryd.underlying125, rfl⟩, ⟨_, (by kernel_rfl : Tryd.prog.info? 125 = some Tryd.t125), rfl, rfl, rfl⟩, rfl, rfl, by decide⟩ (
  tbOk_cons ⟨⟨_, Tryd.underlying126, rfl⟩, ⟨_, (by kernel_rfl : Tryd.prog.info? 126 = some Tryd.t126), rfl, rfl, rfl⟩, rfl, rfl, by decide⟩ (
  tbOk_cons ⟨⟨_, Tryd.underlying127, rfl⟩, ⟨_, (by kernel_rfl : Tryd.prog.info? 127 = some Tryd.t127), rfl, rfl, rfl⟩, rfl, rfl, by decide⟩ (
  tbOk_cons ⟨⟨_, Tryd.underlying128, rfl⟩, ⟨_, (by kernel_rfl : Tryd.prog.info? 128 = some Tryd.t128), rfl, rfl, rfl⟩, rfl, rfl, by decide⟩ (
  tbOk_cons ⟨⟨_, Tryd.underlying130, rfl⟩, ⟨_, (by kernel_rfl : Tryd.prog.info? 130 = some Tryd.t130), rfl, rfl, rfl⟩, rfl, rfl, by decide⟩ (
  tbOk_cons ⟨⟨_, Tryd.underlying132, rfl⟩, ⟨_, (by kernel_rfl : Tryd.prog.info? 132 = some Tryd.t132), rfl, rfl, rfl⟩, rfl, rfl, by decide⟩ (
  tbOk_cons ⟨⟨_, Tryd.underlying133, rfl⟩, ⟨_, (by kernel_rfl : Tryd.prog.info? 133 = some Tryd.t133), rfl, rfl, rfl⟩, rfl, rfl, by decide⟩ (
  tbOk_cons ⟨⟨_, Tryd.underlying135, rfl⟩, ⟨_, (by kernel_rfl : Tryd.prog.info? 135 = some Tryd.t135), rfl, rfl, rfl⟩, rfl, rfl, by decide⟩ (
  tbOk_cons ⟨⟨_, Tryd.underlying136, rfl⟩, ⟨_, (by kernel_rfl : Tryd.prog.info? 136 = some Tryd.t136), rfl, rfl, rfl⟩, rfl, rfl, by decide⟩ (
  tbOk_cons ⟨⟨_, Tryd.underlying137, rfl⟩, ⟨_, (by kernel_rfl : Tryd.prog.info? 137 = some Tryd.t137), rfl, rfl, rfl⟩, rfl, rfl, by decide⟩ (
  tbOk_cons ⟨⟨_, Tryd.underlying138, rfl⟩, ⟨_, (by kernel_rfl : Tryd.prog.info? 138 = some Tryd.t138), rfl, rfl, rfl⟩, rfl, rfl, by decide⟩ (
  tbOk_cons ⟨⟨_, Tryd.underlying139, rfl⟩, ⟨_, (by kernel_rfl : Tryd.prog.info? 139 = some Tryd.t139), rfl, rfl, rfl⟩, rfl, rfl, by decide⟩ (
  tbOk_cons ⟨⟨_, Tryd.underlying140, rfl⟩, ⟨_, (by kernel_rfl : Tryd.prog.info? 140 = some Tryd.t140), rfl, rfl, rfl⟩, rfl, rfl, by decide⟩ (
  tbOk_cons ⟨⟨_, Tryd.underlying141, rfl⟩, ⟨_, (by kernel_rfl : Tryd.prog.info? 141 = some Tryd.t141), rfl, rfl, rfl⟩, rfl, rfl, by decide⟩ (
  tbOk_cons ⟨⟨_, Tryd.underlying142, rfl⟩, ⟨_, (by kernel_rfl : Tryd.prog.info? 142 = some Tryd.t142), rfl, rfl, rfl⟩, rfl, rfl, by decide⟩ (
  tbOk_cons ⟨⟨_, Tryd.underlying143, rfl⟩, ⟨_, (by kernel_rfl : Tryd.prog.info? 143 = some Tryd.t143), rfl, rfl, rfl⟩, rfl, rfl, by decide⟩ (
  tbOk_cons ⟨⟨_, Tryd.underlying145, rfl⟩, ⟨_, (by kernel_rfl : Tryd.prog.info? 145 = some Tryd.t145), rfl, rfl, rfl⟩, rfl, rfl, by decide⟩ (
  tbOk_cons ⟨⟨_, Tryd.underlying146, rfl⟩, ⟨_, (by kernel_rfl : Tryd.prog.info? 146 = some Tryd.t146), rfl, rfl, rfl⟩, rfl, rfl, by decide⟩ (
  tbOk_cons ⟨⟨_, Tryd.underlying147, rfl⟩, ⟨_, (by kernel_rfl : Tryd.prog.info? 147 = some Tryd.t147), rfl, rfl, rfl⟩, rfl, rfl, by decide⟩ (
  tbOk_cons ⟨⟨_, Tryd.underlying148, rfl⟩, ⟨_, (by kernel_rfl : Tryd.prog.info? 148 = some Tryd.t148), rfl, rfl, rfl⟩, rfl, rfl, by decide⟩ (
  tbOk_cons ⟨⟨_, Tryd.underlying149, rfl⟩, ⟨_, (by kernel_rfl : Tryd.prog.info? 149 = some Tryd.t149), rfl, rfl, rfl⟩, rfl, rfl, by decide⟩ (
  tbOk_cons ⟨⟨_, Tryd.underlying150, rfl⟩, ⟨_, (by kernel_rfl : Tryd.prog.info? 150 = some Tryd.t150), rfl, rfl, rfl⟩, rfl, rfl, by decide⟩ (
  tbOk_cons ⟨⟨_, Tryd.underlying151, rfl⟩, ⟨_, (by kernel_rfl : Tryd.prog.info? 151 = some Tryd.t151), rfl, rfl, rfl⟩, rfl, rfl, by decide⟩ (
  tbOk_cons ⟨⟨_, Tryd.underlying152, rfl⟩, ⟨_, (by kernel_rfl : Tryd.prog.info? 152 = some Tryd.t152), rfl, rfl, rfl⟩, rfl, rfl, by decide⟩ (
  tbOk_cons ⟨⟨_, Tryd.underlying153, rfl⟩, ⟨_, (by kernel_rfl : Tryd.prog.info? 153 = some Tryd.t153), rfl, rfl, rfl⟩, rfl, rfl, by decide⟩ (
  tbOk_cons ⟨⟨_, Tryd.underlying154, rfl⟩, ⟨_, (by kernel_rfl : Tryd.prog.info? 154 = some Tryd.t154), rfl, rfl, rfl⟩, rfl, rfl, by decide⟩ (
  tbOk_cons ⟨⟨_, Tryd.underlying155, rfl⟩, ⟨_, (by kernel_rfl : Tryd.prog.info? 155 = some Tryd.t155), rfl, rfl, rfl⟩, rfl, rfl, by decide⟩ (
  tbOk_cons ⟨⟨_, Tryd.underlying156, rfl⟩, ⟨_, (by kernel_rfl : Tryd.prog.info? 156 = some Tryd.t156), rfl, rfl, rfl⟩, rfl, rfl, by decide⟩ (
  tbOk_cons ⟨⟨_, Tryd.underlying157, rfl⟩, ⟨_, (by kernel_rfl : Tryd.prog.info? 157 = some Tryd.t157), rfl, rfl, rfl⟩, rfl, rfl, by decide⟩ (
  tbOk_cons ⟨⟨_, Tryd.underlying158, rfl⟩, ⟨_, (by kernel_rfl : Tryd.prog.info? 158 = some Tryd.t158), rfl, rfl, rfl⟩, rfl, rfl, by decide⟩ (
  tbOk_cons ⟨⟨_, Tryd.underlying159, rfl⟩, ⟨_, (by kernel_rfl : Tryd.prog.info? 159 = some Tryd.t159), rfl, rfl, rfl⟩, rfl, rfl, by decide⟩ (
  tbOk_cons ⟨⟨_, Tryd.underlying160, rfl⟩, ⟨_, (by kernel_rfl : Tryd.prog.info? 160 = some Tryd.t160), rfl, rfl, rfl⟩, rfl, rfl, by decide⟩ (
  tbOk_cons ⟨⟨_, Tryd.underlying161, rfl⟩, ⟨_, (by kernel_rfl : Tryd.prog.info? 161 = some Tryd.t161), rfl, rfl, rfl⟩, rfl, rfl, by decide⟩ (
  tbOk_cons ⟨⟨_, Tryd.underlying162, rfl⟩, ⟨_, (by kernel_rfl : Tryd.prog.info? 162 = some Tryd.t162), rfl, rfl, rfl⟩, rfl, rfl, by decide⟩ (
  tbOk_cons ⟨⟨_, Tryd.underlying163, rfl⟩, ⟨_, (by kernel_rfl : Tryd.prog.info? 163 = some Tryd.t163), rfl, rfl, rfl⟩, rfl, rfl, by decide⟩ (
  tbOk_nil _)))))))))))))))))))))))))))))))))))))))))))))))))))))))))))))))))))))))))))))))))))))))))))))))))))))))))))))))))))))))))))))))))))))))))))))))))))
end Go.Proofs.YtniplmjbligmlaaDoor.V

/-! Layer 1 of the program, walked: numbers as bytes, texts with their length ahead. -/
namespace Go.Proofs.YtniplmjbligmlaaDoor.V
open Go.RowKit
set_option linter.unusedVariables false
set_option linter.unusedSimpArgs false
section
variable {M F0 F : Nat → Prop} {w0 w : World} {B : List Box} {R : List (World → Prop)} {K : Ending → World → Prop}
set_option maxRecDepth 100000
set_option maxHeartbeats 4000000
theorem sl_le_Put (H : St M F0 w0 F B R w) {n size : Int} {s : ByteArray} {e : Int} (h0 : 0 ≤ n) (h1 : n < 18446744073709551616) (hr : putS n size = (s, e)) (k : ∀ Fx w', St M F0 w0 Fx B R w' → K (.returned (.tuple #[.string s, .int .i64 e])) w') : Calls Tryd.prog 74 #[.int .u64 n, .int .i64 size] w K := by
  refine St.fn0 H (R0 := []) no_mem (fun H => ?_)
  refine sx_enter Tryd.func74 Tryd.ntmps74 rfl rfl (fun a A => ?_)
  obtain ⟨n, rfl⟩ := Int.eq_ofNat_of_zero_le h0
  have hcase : (size < 1 ∧ s = ⟨#[]⟩ ∧ e = 1) ∨ (size > 8 ∧ s = ⟨#[]⟩ ∧ e = 1) ∨ (1 ≤ size ∧ size < 8 ∧ n ≥ 256 ^ size.toNat ∧ s = ⟨#[]⟩ ∧ e = 1) ∨ (1 ≤ size ∧ size ≤ 8 ∧ n < 256 ^ size.toNat ∧ s = Go.Proofs.YtniplmjbligmlaaDoor.V.B (putL n size.toNat) ∧ e = 0) := by
    unfold putS at hr
    rw [Int.toNat_natCast] at hr
    split at hr
    · rename_i h
      obtain ⟨rfl, rfl⟩ := Prod.mk.inj hr
      rcases h with h | h | h
      · exact .inl ⟨h, rfl, rfl⟩
      · exact .inr (.inl ⟨h, rfl, rfl⟩)
      · by_cases hs : 1 ≤ size ∧ size < 8
        · exact .inr (.inr (.inl ⟨hs.1, hs.2, h, rfl, rfl⟩))
        · by_cases h8 : size = 8
          · exfalso
            rw [h8] at h
            have : (256 : Nat) ^ (8 : Int).toNat = 18446744073709551616 := by decide
            omega
          · rcases Int.lt_or_le size 1 with h | h
            · exact .inl ⟨h, rfl, rfl⟩
            · exact .inr (.inl ⟨by omega, rfl, rfl⟩)
    · rename_i h
      obtain ⟨rfl, rfl⟩ := Prod.mk.inj hr
      simp only [not_or] at h
      exact .inr (.inr (.inr ⟨by omega, by omega, by omega, rfl, rfl⟩))
  clear hr
  rcases hcase with ⟨c1, rfl, rfl⟩ | ⟨c1, rfl, rfl⟩ | ⟨c1, c2, c3, rfl, rfl⟩ | ⟨c1, c2, c3, rfl, rfl⟩
  · repeat' (first
    | (refine sx_ret tbOk H A rfl ?_; exact H.ret0 fun Fx Hx => k Fx _ Hx)
    | with_reducible refine wp_seq ?_
    | with_reducible refine sx_region ?_
    | with_reducible refine wp_block ?_
    | with_reducible refine wpList_nil ?_
    | with_reducible refine sx_then ?_
    | with_reducible refine sx_inb ?_
    | with_reducible refine wp_skip ?_
    | with_reducible refine wp_ret ?_
    | with_reducible refine wp_exit ?_
    | with_reducible refine sx_then_ret ?_
    | with_reducible refine sx_inb_ret ?_
    | with_reducible refine sx_then_exit ?_
    | with_reducible refine sx_inb_exit ?_
    | with_reducible refine sx_inb_other rfl ?_
    | with_reducible refine sx_if_t A rfl ?_
    | with_reducible refine sx_if_f A rfl ?_
    | ((with_reducible refine sx_at ?_); first
      | (refine sx_pure A tbOk rfl rfl rfl ?_; clear A; intro a A)
      | (refine sx_skip A rfl rfl ?_; clear A; intro a A)
      | ((with_reducible refine g_bin ?_); first | ((refine g_int A rfl ?_); first | (refine sx_cmp A rfl rfl rfl rfl ?_; clear A; intro a A) | (refine sx_arith A rfl rfl rfl rfl ?_; clear A; intro a A) | (refine sx_shl A rfl rfl rfl rfl ?_; clear A; intro a A) | (refine sx_shr A rfl rfl rfl rfl ?_; clear A; intro a A)) | ((refine g_str A rfl ?_); first | (refine sx_scmp A rfl rfl rfl rfl ?_; clear A; intro a A) | (refine sx_concat A rfl rfl rfl rfl ?_; clear A; intro a A)))
      | ((with_reducible refine g_load ?_); first | (refine sx_load_all H A tbOk rfl rfl rfl rfl rfl ?_; clear A; intro a A) | (refine sx_load H A tbOk rfl rfl rfl rfl ?_; clear A; intro a A))
      | ((with_reducible refine g_store ?_); refine sx_store H A tbOk rfl rfl rfl rfl ?_; clear H; intro w_ H)
      | ((with_reducible refine g_box ?_); refine sx_box H A rfl rfl rfl ?_; clear H A; intro b_ a w_ A H)
      | ((with_reducible refine g_alloc ?_); refine sx_alloc H A tbOk rfl rfl rfl ?_; clear H A; intro b_ a w_ A H)
      | ((with_reducible refine g_build ?_); refine sx_build A tbOk rfl rfl rfl rfl rfl rfl ?_; clear A; intro a A)
      | ((with_reducible refine g_builtin ?_); first | (refine sx_min A rfl rfl rfl rfl ?_; clear A; intro a A) | (refine sx_max A rfl rfl rfl rfl ?_; clear A; intro a A))
      | ((with_reducible refine g_slice ?_); first | (refine sx_sstr A tbOk rfl rfl rfl rfl rfl rfl ?_; clear A; intro a A) | (refine sx_cut H A tbOk rfl rfl rfl rfl rfl rfl rfl ?_; clear A H; intro A_ c_ a hc_ A H))
      | ((with_reducible refine g_index ?_); refine sx_sidx A tbOk rfl rfl rfl rfl rfl ?_; clear A; intro a A)
      | ((with_reducible refine g_idx ?_); first | (refine sx_idx H A tbOk rfl rfl rfl rfl rfl rfl ?_; clear A; intro a A) | (refine sx_oidx H A tbOk rfl rfl rfl rfl rfl rfl ?_; clear A; intro a A))
      | ((with_reducible refine g_conv ?_); refine sx_conv A tbOk rfl rfl rfl rfl rfl ?_; clear A; intro a A)
      )
    | ((with_reducible refine g_draw ?_); refine qx_region H (by kernel_rfl) (by kernel_rfl) ?_)
    | ((with_reducible refine qx_nil ?_); clear H; intro w_ F_ H)
    | ((with_reducible refine q_at ?_); first
      | (refine qx_pure A tbOk rfl rfl rfl ?_; clear A; intro a A)
      | (refine qx_skip A rfl rfl ?_; clear A; intro a A)
      | ((with_reducible refine qg_bin ?_); first | ((refine qg_int A rfl ?_); first | (refine qx_cmp A rfl rfl rfl rfl ?_; clear A; intro a A) | (refine qx_arith A rfl rfl rfl rfl ?_; clear A; intro a A)) | ((refine qg_str A rfl ?_); first | (refine qx_scmp A rfl rfl rfl rfl ?_; clear A; intro a A) | (refine qx_concat A rfl rfl rfl rfl ?_; clear A; intro a A)))
      | ((with_reducible refine qg_builtin ?_); first | (refine qx_min A rfl rfl rfl rfl ?_; clear A; intro a A) | (refine qx_max A rfl rfl rfl rfl ?_; clear A; intro a A))
      | ((with_reducible refine qg_slice ?_); refine qx_sstr A tbOk rfl rfl rfl rfl rfl rfl ?_; clear A; intro a A)
      | ((with_reducible refine qg_load ?_); refine qx_load A tbOk rfl rfl rfl rfl ?_; clear A; intro a A)
      | ((with_reducible refine qg_idx ?_); first | (refine qx_idx H A tbOk rfl rfl rfl rfl rfl rfl ?_; clear A; intro a A) | (refine qx_oidx H A tbOk rfl rfl rfl rfl rfl rfl ?_; clear A; intro a A)))
    )
  · repeat' (first
    | (refine sx_ret tbOk H A rfl ?_; exact H.ret0 fun Fx Hx => k Fx _ Hx)
    | with_reducible refine wp_seq ?_
    | with_reducible refine sx_region ?_
    | with_reducible refine wp_block ?_
    | with_reducible refine wpList_nil ?_
    | with_reducible refine sx_then ?_
    | with_reducible refine sx_inb ?_
    | with_reducible refine wp_skip ?_
    | with_reducible refine wp_ret ?_
    | with_reducible refine wp_exit ?_
    | with_reducible refine sx_then_ret ?_
    | with_reducible refine sx_inb_ret ?_
    | with_reducible refine sx_then_exit ?_
    | with_reducible refine sx_inb_exit ?_
    | with_reducible refine sx_inb_other rfl ?_
    | with_reducible refine sx_if_t A rfl ?_
    | with_reducible refine sx_if_f A rfl ?_
    | ((with_reducible refine sx_at ?_); first
      | (refine sx_pure A tbOk rfl rfl rfl ?_; clear A; intro a A)
      | (refine sx_skip A rfl rfl ?_; clear A; intro a A)
      | ((with_reducible refine g_bin ?_); first | ((refine g_int A rfl ?_); first | (refine sx_cmp A rfl rfl rfl rfl ?_; clear A; intro a A) | (refine sx_arith A rfl rfl rfl rfl ?_; clear A; intro a A) | (refine sx_shl A rfl rfl rfl rfl ?_; clear A; intro a A) | (refine sx_shr A rfl rfl rfl rfl ?_; clear A; intro a A)) | ((refine g_str A rfl ?_); first | (refine sx_scmp A rfl rfl rfl rfl ?_; clear A; intro a A) | (refine sx_concat A rfl rfl rfl rfl ?_; clear A; intro a A)))
      | ((with_reducible refine g_load ?_); first | (refine sx_load_all H A tbOk rfl rfl rfl rfl rfl ?_; clear A; intro a A) | (refine sx_load H A tbOk rfl rfl rfl rfl ?_; clear A; intro a A))
      | ((with_reducible refine g_store ?_); refine sx_store H A tbOk rfl rfl rfl rfl ?_; clear H; intro w_ H)
      | ((with_reducible refine g_box ?_); refine sx_box H A rfl rfl rfl ?_; clear H A; intro b_ a w_ A H)
      | ((with_reducible refine g_alloc ?_); refine sx_alloc H A tbOk rfl rfl rfl ?_; clear H A; intro b_ a w_ A H)
      | ((with_reducible refine g_build ?_); refine sx_build A tbOk rfl rfl rfl rfl rfl rfl ?_; clear A; intro a A)
      | ((with_reducible refine g_builtin ?_); first | (refine sx_min A rfl rfl rfl rfl ?_; clear A; intro a A) | (refine sx_max A rfl rfl rfl rfl ?_; clear A; intro a A))
      | ((with_reducible refine g_slice ?_); first | (refine sx_sstr A tbOk rfl rfl rfl rfl rfl rfl ?_; clear A; intro a A) | (refine sx_cut H A tbOk rfl rfl rfl rfl rfl rfl rfl ?_; clear A H; intro A_ c_ a hc_ A H))
      | ((with_reducible refine g_index ?_); refine sx_sidx A tbOk rfl rfl rfl rfl rfl ?_; clear A; intro a A)
      | ((with_reducible refine g_idx ?_); first | (refine sx_idx H A tbOk rfl rfl rfl rfl rfl rfl ?_; clear A; intro a A) | (refine sx_oidx H A tbOk rfl rfl rfl rfl rfl rfl ?_; clear A; intro a A))
      | ((with_reducible refine g_conv ?_); refine sx_conv A tbOk rfl rfl rfl rfl rfl ?_; clear A; intro a A)
      )
    | ((with_reducible refine g_draw ?_); refine qx_region H (by kernel_rfl) (by kernel_rfl) ?_)
    | ((with_reducible refine qx_nil ?_); clear H; intro w_ F_ H)
    | ((with_reducible refine q_at ?_); first
      | (refine qx_pure A tbOk rfl rfl rfl ?_; clear A; intro a A)
      | (refine qx_skip A rfl rfl ?_; clear A; intro a A)
      | ((with_reducible refine qg_bin ?_); first | ((refine qg_int A rfl ?_); first | (refine qx_cmp A rfl rfl rfl rfl ?_; clear A; intro a A) | (refine qx_arith A rfl rfl rfl rfl ?_; clear A; intro a A)) | ((refine qg_str A rfl ?_); first | (refine qx_scmp A rfl rfl rfl rfl ?_; clear A; intro a A) | (refine qx_concat A rfl rfl rfl rfl ?_; clear A; intro a A)))
      | ((with_reducible refine qg_builtin ?_); first | (refine qx_min A rfl rfl rfl rfl ?_; clear A; intro a A) | (refine qx_max A rfl rfl rfl rfl ?_; clear A; intro a A))
      | ((with_reducible refine qg_slice ?_); refine qx_sstr A tbOk rfl rfl rfl rfl rfl rfl ?_; clear A; intro a A)
      | ((with_reducible refine qg_load ?_); refine qx_load A tbOk rfl rfl rfl rfl ?_; clear A; intro a A)
      | ((with_reducible refine qg_idx ?_); first | (refine qx_idx H A tbOk rfl rfl rfl rfl rfl rfl ?_; clear A; intro a A) | (refine qx_oidx H A tbOk rfl rfl rfl rfl rfl rfl ?_; clear A; intro a A)))
    )
  · obtain ⟨m, rfl⟩ := Int.eq_ofNat_of_zero_le (show 0 ≤ size by omega)
    have hq := shr_div n m (by omega)
    have hne : ((n / 256 ^ m : Nat) : Int) ≠ 0 := by
      have : 0 < n / 256 ^ m := Nat.div_pos (by simpa using c3) (Nat.pow_pos (by decide))
      omega
    obtain ⟨q, hqq⟩ : ∃ q, ((n / 256 ^ m : Nat) : Int) = q := ⟨_, rfl⟩
    rw [hqq] at hq hne
    clear c3
    repeat' (first
    | (refine sx_ret tbOk H A rfl ?_; exact H.ret0 fun Fx Hx => k Fx _ Hx)
    | with_reducible refine wp_seq ?_
    | with_reducible refine sx_region ?_
    | with_reducible refine wp_block ?_
    | with_reducible refine wpList_nil ?_
    | with_reducible refine sx_then ?_
    | with_reducible refine sx_inb ?_
    | with_reducible refine wp_skip ?_
    | with_reducible refine wp_ret ?_
    | with_reducible refine wp_exit ?_
    | with_reducible refine sx_then_ret ?_
    | with_reducible refine sx_inb_ret ?_
    | with_reducible refine sx_then_exit ?_
    | with_reducible refine sx_inb_exit ?_
    | with_reducible refine sx_inb_other rfl ?_
    | with_reducible refine sx_if_t A rfl ?_
    | with_reducible refine sx_if_f A rfl ?_
    | ((with_reducible refine sx_at ?_); first
      | (refine sx_pure A tbOk rfl rfl rfl ?_; clear A; intro a A)
      | (refine sx_skip A rfl rfl ?_; clear A; intro a A)
      | ((with_reducible refine g_bin ?_); first | ((refine g_int A rfl ?_); first | (refine sx_cmp A rfl rfl rfl rfl ?_; clear A; intro a A) | (refine sx_arith A rfl rfl rfl rfl ?_; clear A; intro a A) | (refine sx_shl A rfl rfl rfl rfl ?_; clear A; intro a A) | (refine sx_shr A rfl rfl rfl rfl ?_; clear A; intro a A)) | ((refine g_str A rfl ?_); first | (refine sx_scmp A rfl rfl rfl rfl ?_; clear A; intro a A) | (refine sx_concat A rfl rfl rfl rfl ?_; clear A; intro a A)))
      | ((with_reducible refine g_load ?_); first | (refine sx_load_all H A tbOk rfl rfl rfl rfl rfl ?_; clear A; intro a A) | (refine sx_load H A tbOk rfl rfl rfl rfl ?_; clear A; intro a A))
      | ((with_reducible refine g_store ?_); refine sx_store H A tbOk rfl rfl rfl rfl ?_; clear H; intro w_ H)
      | ((with_reducible refine g_box ?_); refine sx_box H A rfl rfl rfl ?_; clear H A; intro b_ a w_ A H)
      | ((with_reducible refine g_alloc ?_); refine sx_alloc H A tbOk rfl rfl rfl ?_; clear H A; intro b_ a w_ A H)
      | ((with_reducible refine g_build ?_); refine sx_build A tbOk rfl rfl rfl rfl rfl rfl ?_; clear A; intro a A)
      | ((with_reducible refine g_builtin ?_); first | (refine sx_min A rfl rfl rfl rfl ?_; clear A; intro a A) | (refine sx_max A rfl rfl rfl rfl ?_; clear A; intro a A))
      | ((with_reducible refine g_slice ?_); first | (refine sx_sstr A tbOk rfl rfl rfl rfl rfl rfl ?_; clear A; intro a A) | (refine sx_cut H A tbOk rfl rfl rfl rfl rfl rfl rfl ?_; clear A H; intro A_ c_ a hc_ A H))
      | ((with_reducible refine g_index ?_); refine sx_sidx A tbOk rfl rfl rfl rfl rfl ?_; clear A; intro a A)
      | ((with_reducible refine g_idx ?_); first | (refine sx_idx H A tbOk rfl rfl rfl rfl rfl rfl ?_; clear A; intro a A) | (refine sx_oidx H A tbOk rfl rfl rfl rfl rfl rfl ?_; clear A; intro a A))
      | ((with_reducible refine g_conv ?_); refine sx_conv A tbOk rfl rfl rfl rfl rfl ?_; clear A; intro a A)
      )
    | ((with_reducible refine g_draw ?_); refine qx_region H (by kernel_rfl) (by kernel_rfl) ?_)
    | ((with_reducible refine qx_nil ?_); clear H; intro w_ F_ H)
    | ((with_reducible refine q_at ?_); first
      | (refine qx_pure A tbOk rfl rfl rfl ?_; clear A; intro a A)
      | (refine qx_skip A rfl rfl ?_; clear A; intro a A)
      | ((with_reducible refine qg_bin ?_); first | ((refine qg_int A rfl ?_); first | (refine qx_cmp A rfl rfl rfl rfl ?_; clear A; intro a A) | (refine qx_arith A rfl rfl rfl rfl ?_; clear A; intro a A)) | ((refine qg_str A rfl ?_); first | (refine qx_scmp A rfl rfl rfl rfl ?_; clear A; intro a A) | (refine qx_concat A rfl rfl rfl rfl ?_; clear A; intro a A)))
      | ((with_reducible refine qg_builtin ?_); first | (refine qx_min A rfl rfl rfl rfl ?_; clear A; intro a A) | (refine qx_max A rfl rfl rfl rfl ?_; clear A; intro a A))
      | ((with_reducible refine qg_slice ?_); refine qx_sstr A tbOk rfl rfl rfl rfl rfl rfl ?_; clear A; intro a A)
      | ((with_reducible refine qg_load ?_); refine qx_load A tbOk rfl rfl rfl rfl ?_; clear A; intro a A)
      | ((with_reducible refine qg_idx ?_); first | (refine qx_idx H A tbOk rfl rfl rfl rfl rfl rfl ?_; clear A; intro a A) | (refine qx_oidx H A tbOk rfl rfl rfl rfl rfl rfl ?_; clear A; intro a A)))
    )
  · obtain ⟨m, rfl⟩ := Int.eq_ofNat_of_zero_le (show 0 ≤ size by omega)
    rw [Int.toNat_natCast] at c3 k
    have hq := shr_div n m (by omega)
    rw [Nat.div_eq_of_lt c3] at hq
    clear c3
    by_cases h8 : m = 8
    all_goals
      repeat' (first
    | ((with_reducible refine g_make ?_); refine sx_make (dk := Kd.int .u8) H A tbOk rfl rfl rfl rfl rfl rfl 0 (fun _ => rfl) rfl ?_; clear H A; intro br a w_ A H)
    | with_reducible refine wp_seq ?_
    | with_reducible refine sx_region ?_
    | with_reducible refine wp_block ?_
    | with_reducible refine wpList_nil ?_
    | with_reducible refine sx_then ?_
    | with_reducible refine sx_inb ?_
    | with_reducible refine wp_skip ?_
    | with_reducible refine wp_ret ?_
    | with_reducible refine wp_exit ?_
    | with_reducible refine sx_then_ret ?_
    | with_reducible refine sx_inb_ret ?_
    | with_reducible refine sx_then_exit ?_
    | with_reducible refine sx_inb_exit ?_
    | with_reducible refine sx_inb_other rfl ?_
    | with_reducible refine sx_if_t A rfl ?_
    | with_reducible refine sx_if_f A rfl ?_
    | ((with_reducible refine sx_at ?_); first
      | (refine sx_pure A tbOk rfl rfl rfl ?_; clear A; intro a A)
      | (refine sx_skip A rfl rfl ?_; clear A; intro a A)
      | ((with_reducible refine g_bin ?_); first | ((refine g_int A rfl ?_); first | (refine sx_cmp A rfl rfl rfl rfl ?_; clear A; intro a A) | (refine sx_arith A rfl rfl rfl rfl ?_; clear A; intro a A) | (refine sx_shl A rfl rfl rfl rfl ?_; clear A; intro a A) | (refine sx_shr A rfl rfl rfl rfl ?_; clear A; intro a A)) | ((refine g_str A rfl ?_); first | (refine sx_scmp A rfl rfl rfl rfl ?_; clear A; intro a A) | (refine sx_concat A rfl rfl rfl rfl ?_; clear A; intro a A)))
      | ((with_reducible refine g_load ?_); first | (refine sx_load_all H A tbOk rfl rfl rfl rfl rfl ?_; clear A; intro a A) | (refine sx_load H A tbOk rfl rfl rfl rfl ?_; clear A; intro a A))
      | ((with_reducible refine g_store ?_); refine sx_store H A tbOk rfl rfl rfl rfl ?_; clear H; intro w_ H)
      | ((with_reducible refine g_box ?_); refine sx_box H A rfl rfl rfl ?_; clear H A; intro b_ a w_ A H)
      | ((with_reducible refine g_alloc ?_); refine sx_alloc H A tbOk rfl rfl rfl ?_; clear H A; intro b_ a w_ A H)
      | ((with_reducible refine g_build ?_); refine sx_build A tbOk rfl rfl rfl rfl rfl rfl ?_; clear A; intro a A)
      | ((with_reducible refine g_builtin ?_); first | (refine sx_min A rfl rfl rfl rfl ?_; clear A; intro a A) | (refine sx_max A rfl rfl rfl rfl ?_; clear A; intro a A))
      | ((with_reducible refine g_slice ?_); first | (refine sx_sstr A tbOk rfl rfl rfl rfl rfl rfl ?_; clear A; intro a A) | (refine sx_cut H A tbOk rfl rfl rfl rfl rfl rfl rfl ?_; clear A H; intro A_ c_ a hc_ A H))
      | ((with_reducible refine g_index ?_); refine sx_sidx A tbOk rfl rfl rfl rfl rfl ?_; clear A; intro a A)
      | ((with_reducible refine g_idx ?_); first | (refine sx_idx H A tbOk rfl rfl rfl rfl rfl rfl ?_; clear A; intro a A) | (refine sx_oidx H A tbOk rfl rfl rfl rfl rfl rfl ?_; clear A; intro a A))
      | ((with_reducible refine g_conv ?_); refine sx_conv A tbOk rfl rfl rfl rfl rfl ?_; clear A; intro a A)
      )
    | ((with_reducible refine g_draw ?_); refine qx_region H (by kernel_rfl) (by kernel_rfl) ?_)
    | ((with_reducible refine qx_nil ?_); clear H; intro w_ F_ H)
    | ((with_reducible refine q_at ?_); first
      | (refine qx_pure A tbOk rfl rfl rfl ?_; clear A; intro a A)
      | (refine qx_skip A rfl rfl ?_; clear A; intro a A)
      | ((with_reducible refine qg_bin ?_); first | ((refine qg_int A rfl ?_); first | (refine qx_cmp A rfl rfl rfl rfl ?_; clear A; intro a A) | (refine qx_arith A rfl rfl rfl rfl ?_; clear A; intro a A)) | ((refine qg_str A rfl ?_); first | (refine qx_scmp A rfl rfl rfl rfl ?_; clear A; intro a A) | (refine qx_concat A rfl rfl rfl rfl ?_; clear A; intro a A)))
      | ((with_reducible refine qg_builtin ?_); first | (refine qx_min A rfl rfl rfl rfl ?_; clear A; intro a A) | (refine qx_max A rfl rfl rfl rfl ?_; clear A; intro a A))
      | ((with_reducible refine qg_slice ?_); refine qx_sstr A tbOk rfl rfl rfl rfl rfl rfl ?_; clear A; intro a A)
      | ((with_reducible refine qg_load ?_); refine qx_load A tbOk rfl rfl rfl rfl ?_; clear A; intro a A)
      | ((with_reducible refine qg_idx ?_); first | (refine qx_idx H A tbOk rfl rfl rfl rfl rfl rfl ?_; clear A; intro a A) | (refine qx_oidx H A tbOk rfl rfl rfl rfl rfl rfl ?_; clear A; intro a A)))
    )
    all_goals
      obtain ⟨l, hl⟩ : ∃ l, bI (putL n m) = l := ⟨_, rfl⟩
      have hll : l.length = m := by rw [← hl, bI_len, putL_length]
      rw [List.length_replicate] at A
      rw [show List.replicate m (0 : Int) = fillR l 0 0 by rw [fillR_zero, hll]] at H
      refine sx_rounds (fun i : Nat => i ≤ m) (fun i => [(28, .int .i64 (i : Int)), (6, _), (27, _), (0, _)]) (fun i => [.row (Kd.int .u8) _ _ _ (fillR l 0 i)]) (fun _ => []) (fun i => m - i) 0 H A.subs (Nat.zero_le _) (fun i F a W hi H A => ?_)
      have hfl := fillR_len l 0 i (by omega)
      rcases Nat.lt_or_ge i m with hlt | hge
      · have hs := shr_div n i (by omega)
        obtain ⟨v, hv⟩ : ∃ v, ((n / 256 ^ i % 256 : Nat) : Int) = v := ⟨_, rfl⟩
        have hw : IntKind.u8.wrap ((n / 256 ^ i : Nat) : Int) = v := by rw [← hv]; simp [IntKind.wrap, IntKind.bits, IntKind.signed]
        have hli : l[i]? = some v := by
          rw [← hl, bI_at _ _ _ (putL_take n m i hlt), ← hv]; simp
        repeat' (first
    | ((with_reducible refine g_store ?_); refine sx_ostore (dk := Kd.int .u8) H A tbOk rfl rfl rfl rfl ?_ (mk_scalar _); clear H; intro w_ H)
    | with_reducible refine wp_seq ?_
    | with_reducible refine sx_region ?_
    | with_reducible refine wp_block ?_
    | with_reducible refine wpList_nil ?_
    | with_reducible refine sx_then ?_
    | with_reducible refine sx_inb ?_
    | with_reducible refine wp_skip ?_
    | with_reducible refine wp_ret ?_
    | with_reducible refine wp_exit ?_
    | with_reducible refine sx_then_ret ?_
    | with_reducible refine sx_inb_ret ?_
    | with_reducible refine sx_then_exit ?_
    | with_reducible refine sx_inb_exit ?_
    | with_reducible refine sx_inb_other rfl ?_
    | with_reducible refine sx_if_t A rfl ?_
    | with_reducible refine sx_if_f A rfl ?_
    | ((with_reducible refine sx_at ?_); first
      | (refine sx_pure A tbOk rfl rfl rfl ?_; clear A; intro a A)
      | (refine sx_skip A rfl rfl ?_; clear A; intro a A)
      | ((with_reducible refine g_bin ?_); first | ((refine g_int A rfl ?_); first | (refine sx_cmp A rfl rfl rfl rfl ?_; clear A; intro a A) | (refine sx_arith A rfl rfl rfl rfl ?_; clear A; intro a A) | (refine sx_shl A rfl rfl rfl rfl ?_; clear A; intro a A) | (refine sx_shr A rfl rfl rfl rfl ?_; clear A; intro a A)) | ((refine g_str A rfl ?_); first | (refine sx_scmp A rfl rfl rfl rfl ?_; clear A; intro a A) | (refine sx_concat A rfl rfl rfl rfl ?_; clear A; intro a A)))
      | ((with_reducible refine g_load ?_); first | (refine sx_load_all H A tbOk rfl rfl rfl rfl rfl ?_; clear A; intro a A) | (refine sx_load H A tbOk rfl rfl rfl rfl ?_; clear A; intro a A))
      | ((with_reducible refine g_store ?_); refine sx_store H A tbOk rfl rfl rfl rfl ?_; clear H; intro w_ H)
      | ((with_reducible refine g_box ?_); refine sx_box H A rfl rfl rfl ?_; clear H A; intro b_ a w_ A H)
      | ((with_reducible refine g_alloc ?_); refine sx_alloc H A tbOk rfl rfl rfl ?_; clear H A; intro b_ a w_ A H)
      | ((with_reducible refine g_build ?_); refine sx_build A tbOk rfl rfl rfl rfl rfl rfl ?_; clear A; intro a A)
      | ((with_reducible refine g_builtin ?_); first | (refine sx_min A rfl rfl rfl rfl ?_; clear A; intro a A) | (refine sx_max A rfl rfl rfl rfl ?_; clear A; intro a A))
      | ((with_reducible refine g_slice ?_); first | (refine sx_sstr A tbOk rfl rfl rfl rfl rfl rfl ?_; clear A; intro a A) | (refine sx_cut H A tbOk rfl rfl rfl rfl rfl rfl rfl ?_; clear A H; intro A_ c_ a hc_ A H))
      | ((with_reducible refine g_index ?_); refine sx_sidx A tbOk rfl rfl rfl rfl rfl ?_; clear A; intro a A)
      | ((with_reducible refine g_idx ?_); first | (refine sx_idx H A tbOk rfl rfl rfl rfl rfl rfl ?_; clear A; intro a A) | (refine sx_oidx H A tbOk rfl rfl rfl rfl rfl rfl ?_; clear A; intro a A))
      | ((with_reducible refine g_conv ?_); refine sx_conv A tbOk rfl rfl rfl rfl rfl ?_; clear A; intro a A)
      )
    | ((with_reducible refine g_draw ?_); refine qx_region H (by kernel_rfl) (by kernel_rfl) ?_)
    | ((with_reducible refine qx_nil ?_); clear H; intro w_ F_ H)
    | ((with_reducible refine q_at ?_); first
      | (refine qx_pure A tbOk rfl rfl rfl ?_; clear A; intro a A)
      | (refine qx_skip A rfl rfl ?_; clear A; intro a A)
      | ((with_reducible refine qg_bin ?_); first | ((refine qg_int A rfl ?_); first | (refine qx_cmp A rfl rfl rfl rfl ?_; clear A; intro a A) | (refine qx_arith A rfl rfl rfl rfl ?_; clear A; intro a A)) | ((refine qg_str A rfl ?_); first | (refine qx_scmp A rfl rfl rfl rfl ?_; clear A; intro a A) | (refine qx_concat A rfl rfl rfl rfl ?_; clear A; intro a A)))
      | ((with_reducible refine qg_builtin ?_); first | (refine qx_min A rfl rfl rfl rfl ?_; clear A; intro a A) | (refine qx_max A rfl rfl rfl rfl ?_; clear A; intro a A))
      | ((with_reducible refine qg_slice ?_); refine qx_sstr A tbOk rfl rfl rfl rfl rfl rfl ?_; clear A; intro a A)
      | ((with_reducible refine qg_load ?_); refine qx_load A tbOk rfl rfl rfl rfl ?_; clear A; intro a A)
      | ((with_reducible refine qg_idx ?_); first | (refine qx_idx H A tbOk rfl rfl rfl rfl rfl rfl ?_; clear A; intro a A) | (refine qx_oidx H A tbOk rfl rfl rfl rfl rfl rfl ?_; clear A; intro a A)))
    )
        exact ⟨i + 1, F, by omega, by omega, (by rw [← fillR_set l 0 i v hli]; exact H), A.subs⟩
      · have him : i = m := by omega
        rw [him, show fillR l 0 m = l by rw [← hll, fillR_all]] at H
        clear hfl
        repeat' (first
    | ((with_reducible refine g_conv ?_); refine sx_ob2s H A tbOk rfl rfl rfl rfl rfl rfl ?_; clear A; intro a A)
    | (refine sx_ret tbOk H A rfl ?_; exact H.ret0 fun Fx Hx => by (have := k Fx _ Hx; rw [← strB_bI, hl] at this; exact this))
    | with_reducible refine wp_seq ?_
    | with_reducible refine sx_region ?_
    | with_reducible refine wp_block ?_
    | with_reducible refine wpList_nil ?_
    | with_reducible refine sx_then ?_
    | with_reducible refine sx_inb ?_
    | with_reducible refine wp_skip ?_
    | with_reducible refine wp_ret ?_
    | with_reducible refine wp_exit ?_
    | with_reducible refine sx_then_ret ?_
    | with_reducible refine sx_inb_ret ?_
    | with_reducible refine sx_then_exit ?_
    | with_reducible refine sx_inb_exit ?_
    | with_reducible refine sx_inb_other rfl ?_
    | with_reducible refine sx_if_t A rfl ?_
    | with_reducible refine sx_if_f A rfl ?_
    | ((with_reducible refine sx_at ?_); first
      | (refine sx_pure A tbOk rfl rfl rfl ?_; clear A; intro a A)
      | (refine sx_skip A rfl rfl ?_; clear A; intro a A)
      | ((with_reducible refine g_bin ?_); first | ((refine g_int A rfl ?_); first | (refine sx_cmp A rfl rfl rfl rfl ?_; clear A; intro a A) | (refine sx_arith A rfl rfl rfl rfl ?_; clear A; intro a A) | (refine sx_shl A rfl rfl rfl rfl ?_; clear A; intro a A) | (refine sx_shr A rfl rfl rfl rfl ?_; clear A; intro a A)) | ((refine g_str A rfl ?_); first | (refine sx_scmp A rfl rfl rfl rfl ?_; clear A; intro a A) | (refine sx_concat A rfl rfl rfl rfl ?_; clear A; intro a A)))
      | ((with_reducible refine g_load ?_); first | (refine sx_load_all H A tbOk rfl rfl rfl rfl rfl ?_; clear A; intro a A) | (refine sx_load H A tbOk rfl rfl rfl rfl ?_; clear A; intro a A))
      | ((with_reducible refine g_store ?_); refine sx_store H A tbOk rfl rfl rfl rfl ?_; clear H; intro w_ H)
      | ((with_reducible refine g_box ?_); refine sx_box H A rfl rfl rfl ?_; clear H A; intro b_ a w_ A H)
      | ((with_reducible refine g_alloc ?_); refine sx_alloc H A tbOk rfl rfl rfl ?_; clear H A; intro b_ a w_ A H)
      | ((with_reducible refine g_build ?_); refine sx_build A tbOk rfl rfl rfl rfl rfl rfl ?_; clear A; intro a A)
      | ((with_reducible refine g_builtin ?_); first | (refine sx_min A rfl rfl rfl rfl ?_; clear A; intro a A) | (refine sx_max A rfl rfl rfl rfl ?_; clear A; intro a A))
      | ((with_reducible refine g_slice ?_); first | (refine sx_sstr A tbOk rfl rfl rfl rfl rfl rfl ?_; clear A; intro a A) | (refine sx_cut H A tbOk rfl rfl rfl rfl rfl rfl rfl ?_; clear A H; intro A_ c_ a hc_ A H))
      | ((with_reducible refine g_index ?_); refine sx_sidx A tbOk rfl rfl rfl rfl rfl ?_; clear A; intro a A)
      | ((with_reducible refine g_idx ?_); first | (refine sx_idx H A tbOk rfl rfl rfl rfl rfl rfl ?_; clear A; intro a A) | (refine sx_oidx H A tbOk rfl rfl rfl rfl rfl rfl ?_; clear A; intro a A))
      | ((with_reducible refine g_conv ?_); refine sx_conv A tbOk rfl rfl rfl rfl rfl ?_; clear A; intro a A)
      )
    | ((with_reducible refine g_draw ?_); refine qx_region H (by kernel_rfl) (by kernel_rfl) ?_)
    | ((with_reducible refine qx_nil ?_); clear H; intro w_ F_ H)
    | ((with_reducible refine q_at ?_); first
      | (refine qx_pure A tbOk rfl rfl rfl ?_; clear A; intro a A)
      | (refine qx_skip A rfl rfl ?_; clear A; intro a A)
      | ((with_reducible refine qg_bin ?_); first | ((refine qg_int A rfl ?_); first | (refine qx_cmp A rfl rfl rfl rfl ?_; clear A; intro a A) | (refine qx_arith A rfl rfl rfl rfl ?_; clear A; intro a A)) | ((refine qg_str A rfl ?_); first | (refine qx_scmp A rfl rfl rfl rfl ?_; clear A; intro a A) | (refine qx_concat A rfl rfl rfl rfl ?_; clear A; intro a A)))
      | ((with_reducible refine qg_builtin ?_); first | (refine qx_min A rfl rfl rfl rfl ?_; clear A; intro a A) | (refine qx_max A rfl rfl rfl rfl ?_; clear A; intro a A))
      | ((with_reducible refine qg_slice ?_); refine qx_sstr A tbOk rfl rfl rfl rfl rfl rfl ?_; clear A; intro a A)
      | ((with_reducible refine qg_load ?_); refine qx_load A tbOk rfl rfl rfl rfl ?_; clear A; intro a A)
      | ((with_reducible refine qg_idx ?_); first | (refine qx_idx H A tbOk rfl rfl rfl rfl rfl rfl ?_; clear A; intro a A) | (refine qx_oidx H A tbOk rfl rfl rfl rfl rfl rfl ?_; clear A; intro a A)))
    )
theorem sl_le_Get (H : St M F0 w0 F B R w) {s : ByteArray} {at_ size n a' e : Int} (h0 : -9223372036854775808 ≤ at_) (h1 : at_ < 9223372036854775808) (h2 : s.size ≤ 4611686018427387904) (hr : getS s at_ size = (n, a', e)) (k : ∀ Fx w', St M F0 w0 Fx B R w' → K (.returned (.tuple #[.int .u64 n, .int .i64 a', .int .i64 e])) w') : Calls Tryd.prog 80 #[.string s, .int .i64 at_, .int .i64 size] w K := by
  refine St.fn0 H (R0 := []) no_mem (fun H => ?_)
  refine sx_enter Tryd.func80 Tryd.ntmps80 rfl rfl (fun a A => ?_)
  have hcase : ((size < 1 ∨ size > 8 ∨ at_ < 0) ∧ n = 0 ∧ a' = 0 ∧ e = 1) ∨ (¬ (size < 1 ∨ size > 8 ∨ at_ < 0) ∧ (at_ > s.size ∨ (s.size : Int) - at_ < size) ∧ n = 0 ∧ a' = 0 ∧ e = 3) ∨ (¬ (size < 1 ∨ size > 8 ∨ at_ < 0) ∧ ¬ (at_ > s.size ∨ (s.size : Int) - at_ < size) ∧ n = ((getL (((L s).drop at_.toNat).take size.toNat) : Nat) : Int) ∧ a' = at_ + size ∧ e = 0) := by
    unfold getS at hr
    by_cases c1 : size < 1 ∨ size > 8 ∨ at_ < 0
    · rw [if_pos c1] at hr; injection hr with q1 q2; injection q2 with q2 q3; exact .inl ⟨c1, q1.symm, q2.symm, q3.symm⟩
    · rw [if_neg c1] at hr
      by_cases c2 : at_ > s.size ∨ (s.size : Int) - at_ < size
      · rw [if_pos c2] at hr; injection hr with q1 q2; injection q2 with q2 q3; exact .inr (.inl ⟨c1, c2, q1.symm, q2.symm, q3.symm⟩)
      · rw [if_neg c2] at hr; injection hr with q1 q2; injection q2 with q2 q3; exact .inr (.inr ⟨c1, c2, q1.symm, q2.symm, q3.symm⟩)
  clear hr
  rcases hcase with ⟨c1, rfl, rfl, rfl⟩ | ⟨c1, c2, rfl, rfl, rfl⟩ | ⟨c1, c2, rfl, rfl, rfl⟩
  · rcases c1 with c1 | c1 | c1
    · repeat' (first
    | (refine sx_ret tbOk H A rfl ?_; exact H.ret0 fun Fx Hx => k Fx _ Hx)
    | with_reducible refine wp_seq ?_
    | with_reducible refine sx_region ?_
    | with_reducible refine wp_block ?_
    | with_reducible refine wpList_nil ?_
    | with_reducible refine sx_then ?_
    | with_reducible refine sx_inb ?_
    | with_reducible refine wp_skip ?_
    | with_reducible refine wp_ret ?_
    | with_reducible refine wp_exit ?_
    | with_reducible refine sx_then_ret ?_
    | with_reducible refine sx_inb_ret ?_
    | with_reducible refine sx_then_exit ?_
    | with_reducible refine sx_inb_exit ?_
    | with_reducible refine sx_inb_other rfl ?_
    | with_reducible refine sx_if_t A rfl ?_
    | with_reducible refine sx_if_f A rfl ?_
    | ((with_reducible refine sx_at ?_); first
      | (refine sx_pure A tbOk rfl rfl rfl ?_; clear A; intro a A)
      | (refine sx_skip A rfl rfl ?_; clear A; intro a A)
      | ((with_reducible refine g_bin ?_); first | ((refine g_int A rfl ?_); first | (refine sx_cmp A rfl rfl rfl rfl ?_; clear A; intro a A) | (refine sx_arith A rfl rfl rfl rfl ?_; clear A; intro a A) | (refine sx_shl A rfl rfl rfl rfl ?_; clear A; intro a A) | (refine sx_shr A rfl rfl rfl rfl ?_; clear A; intro a A)) | ((refine g_str A rfl ?_); first | (refine sx_scmp A rfl rfl rfl rfl ?_; clear A; intro a A) | (refine sx_concat A rfl rfl rfl rfl ?_; clear A; intro a A)))
      | ((with_reducible refine g_load ?_); first | (refine sx_load_all H A tbOk rfl rfl rfl rfl rfl ?_; clear A; intro a A) | (refine sx_load H A tbOk rfl rfl rfl rfl ?_; clear A; intro a A))
      | ((with_reducible refine g_store ?_); refine sx_store H A tbOk rfl rfl rfl rfl ?_; clear H; intro w_ H)
      | ((with_reducible refine g_box ?_); refine sx_box H A rfl rfl rfl ?_; clear H A; intro b_ a w_ A H)
      | ((with_reducible refine g_alloc ?_); refine sx_alloc H A tbOk rfl rfl rfl ?_; clear H A; intro b_ a w_ A H)
      | ((with_reducible refine g_build ?_); refine sx_build A tbOk rfl rfl rfl rfl rfl rfl ?_; clear A; intro a A)
      | ((with_reducible refine g_builtin ?_); first | (refine sx_min A rfl rfl rfl rfl ?_; clear A; intro a A) | (refine sx_max A rfl rfl rfl rfl ?_; clear A; intro a A))
      | ((with_reducible refine g_slice ?_); first | (refine sx_sstr A tbOk rfl rfl rfl rfl rfl rfl ?_; clear A; intro a A) | (refine sx_cut H A tbOk rfl rfl rfl rfl rfl rfl rfl ?_; clear A H; intro A_ c_ a hc_ A H))
      | ((with_reducible refine g_index ?_); refine sx_sidx A tbOk rfl rfl rfl rfl rfl ?_; clear A; intro a A)
      | ((with_reducible refine g_idx ?_); first | (refine sx_idx H A tbOk rfl rfl rfl rfl rfl rfl ?_; clear A; intro a A) | (refine sx_oidx H A tbOk rfl rfl rfl rfl rfl rfl ?_; clear A; intro a A))
      | ((with_reducible refine g_conv ?_); refine sx_conv A tbOk rfl rfl rfl rfl rfl ?_; clear A; intro a A)
      )
    | ((with_reducible refine g_draw ?_); refine qx_region H (by kernel_rfl) (by kernel_rfl) ?_)
    | ((with_reducible refine qx_nil ?_); clear H; intro w_ F_ H)
    | ((with_reducible refine q_at ?_); first
      | (refine qx_pure A tbOk rfl rfl rfl ?_; clear A; intro a A)
      | (refine qx_skip A rfl rfl ?_; clear A; intro a A)
      | ((with_reducible refine qg_bin ?_); first | ((refine qg_int A rfl ?_); first | (refine qx_cmp A rfl rfl rfl rfl ?_; clear A; intro a A) | (refine qx_arith A rfl rfl rfl rfl ?_; clear A; intro a A)) | ((refine qg_str A rfl ?_); first | (refine qx_scmp A rfl rfl rfl rfl ?_; clear A; intro a A) | (refine qx_concat A rfl rfl rfl rfl ?_; clear A; intro a A)))
      | ((with_reducible refine qg_builtin ?_); first | (refine qx_min A rfl rfl rfl rfl ?_; clear A; intro a A) | (refine qx_max A rfl rfl rfl rfl ?_; clear A; intro a A))
      | ((with_reducible refine qg_slice ?_); refine qx_sstr A tbOk rfl rfl rfl rfl rfl rfl ?_; clear A; intro a A)
      | ((with_reducible refine qg_load ?_); refine qx_load A tbOk rfl rfl rfl rfl ?_; clear A; intro a A)
      | ((with_reducible refine qg_idx ?_); first | (refine qx_idx H A tbOk rfl rfl rfl rfl rfl rfl ?_; clear A; intro a A) | (refine qx_oidx H A tbOk rfl rfl rfl rfl rfl rfl ?_; clear A; intro a A)))
    )
    · repeat' (first
    | (refine sx_ret tbOk H A rfl ?_; exact H.ret0 fun Fx Hx => k Fx _ Hx)
    | with_reducible refine wp_seq ?_
    | with_reducible refine sx_region ?_
    | with_reducible refine wp_block ?_
    | with_reducible refine wpList_nil ?_
    | with_reducible refine sx_then ?_
    | with_reducible refine sx_inb ?_
    | with_reducible refine wp_skip ?_
    | with_reducible refine wp_ret ?_
    | with_reducible refine wp_exit ?_
    | with_reducible refine sx_then_ret ?_
    | with_reducible refine sx_inb_ret ?_
    | with_reducible refine sx_then_exit ?_
    | with_reducible refine sx_inb_exit ?_
    | with_reducible refine sx_inb_other rfl ?_
    | with_reducible refine sx_if_t A rfl ?_
    | with_reducible refine sx_if_f A rfl ?_
    | ((with_reducible refine sx_at ?_); first
      | (refine sx_pure A tbOk rfl rfl rfl ?_; clear A; intro a A)
      | (refine sx_skip A rfl rfl ?_; clear A; intro a A)
      | ((with_reducible refine g_bin ?_); first | ((refine g_int A rfl ?_); first | (refine sx_cmp A rfl rfl rfl rfl ?_; clear A; intro a A) | (refine sx_arith A rfl rfl rfl rfl ?_; clear A; intro a A) | (refine sx_shl A rfl rfl rfl rfl ?_; clear A; intro a A) | (refine sx_shr A rfl rfl rfl rfl ?_; clear A; intro a A)) | ((refine g_str A rfl ?_); first | (refine sx_scmp A rfl rfl rfl rfl ?_; clear A; intro a A) | (refine sx_concat A rfl rfl rfl rfl ?_; clear A; intro a A)))
      | ((with_reducible refine g_load ?_); first | (refine sx_load_all H A tbOk rfl rfl rfl rfl rfl ?_; clear A; intro a A) | (refine sx_load H A tbOk rfl rfl rfl rfl ?_; clear A; intro a A))
      | ((with_reducible refine g_store ?_); refine sx_store H A tbOk rfl rfl rfl rfl ?_; clear H; intro w_ H)
      | ((with_reducible refine g_box ?_); refine sx_box H A rfl rfl rfl ?_; clear H A; intro b_ a w_ A H)
      | ((with_reducible refine g_alloc ?_); refine sx_alloc H A tbOk rfl rfl rfl ?_; clear H A; intro b_ a w_ A H)
      | ((with_reducible refine g_build ?_); refine sx_build A tbOk rfl rfl rfl rfl rfl rfl ?_; clear A; intro a A)
      | ((with_reducible refine g_builtin ?_); first | (refine sx_min A rfl rfl rfl rfl ?_; clear A; intro a A) | (refine sx_max A rfl rfl rfl rfl ?_; clear A; intro a A))
      | ((with_reducible refine g_slice ?_); first | (refine sx_sstr A tbOk rfl rfl rfl rfl rfl rfl ?_; clear A; intro a A) | (refine sx_cut H A tbOk rfl rfl rfl rfl rfl rfl rfl ?_; clear A H; intro A_ c_ a hc_ A H))
      | ((with_reducible refine g_index ?_); refine sx_sidx A tbOk rfl rfl rfl rfl rfl ?_; clear A; intro a A)
      | ((with_reducible refine g_idx ?_); first | (refine sx_idx H A tbOk rfl rfl rfl rfl rfl rfl ?_; clear A; intro a A) | (refine sx_oidx H A tbOk rfl rfl rfl rfl rfl rfl ?_; clear A; intro a A))
      | ((with_reducible refine g_conv ?_); refine sx_conv A tbOk rfl rfl rfl rfl rfl ?_; clear A; intro a A)
      )
    | ((with_reducible refine g_draw ?_); refine qx_region H (by kernel_rfl) (by kernel_rfl) ?_)
    | ((with_reducible refine qx_nil ?_); clear H; intro w_ F_ H)
    | ((with_reducible refine q_at ?_); first
      | (refine qx_pure A tbOk rfl rfl rfl ?_; clear A; intro a A)
      | (refine qx_skip A rfl rfl ?_; clear A; intro a A)
      | ((with_reducible refine qg_bin ?_); first | ((refine qg_int A rfl ?_); first | (refine qx_cmp A rfl rfl rfl rfl ?_; clear A; intro a A) | (refine qx_arith A rfl rfl rfl rfl ?_; clear A; intro a A)) | ((refine qg_str A rfl ?_); first | (refine qx_scmp A rfl rfl rfl rfl ?_; clear A; intro a A) | (refine qx_concat A rfl rfl rfl rfl ?_; clear A; intro a A)))
      | ((with_reducible refine qg_builtin ?_); first | (refine qx_min A rfl rfl rfl rfl ?_; clear A; intro a A) | (refine qx_max A rfl rfl rfl rfl ?_; clear A; intro a A))
      | ((with_reducible refine qg_slice ?_); refine qx_sstr A tbOk rfl rfl rfl rfl rfl rfl ?_; clear A; intro a A)
      | ((with_reducible refine qg_load ?_); refine qx_load A tbOk rfl rfl rfl rfl ?_; clear A; intro a A)
      | ((with_reducible refine qg_idx ?_); first | (refine qx_idx H A tbOk rfl rfl rfl rfl rfl rfl ?_; clear A; intro a A) | (refine qx_oidx H A tbOk rfl rfl rfl rfl rfl rfl ?_; clear A; intro a A)))
    )
    · by_cases c2 : size < 1
      · repeat' (first
    | (refine sx_ret tbOk H A rfl ?_; exact H.ret0 fun Fx Hx => k Fx _ Hx)
    | with_reducible refine wp_seq ?_
    | with_reducible refine sx_region ?_
    | with_reducible refine wp_block ?_
    | with_reducible refine wpList_nil ?_
    | with_reducible refine sx_then ?_
    | with_reducible refine sx_inb ?_
    | with_reducible refine wp_skip ?_
    | with_reducible refine wp_ret ?_
    | with_reducible refine wp_exit ?_
    | with_reducible refine sx_then_ret ?_
    | with_reducible refine sx_inb_ret ?_
    | with_reducible refine sx_then_exit ?_
    | with_reducible refine sx_inb_exit ?_
    | with_reducible refine sx_inb_other rfl ?_
    | with_reducible refine sx_if_t A rfl ?_
    | with_reducible refine sx_if_f A rfl ?_
    | ((with_reducible refine sx_at ?_); first
      | (refine sx_pure A tbOk rfl rfl rfl ?_; clear A; intro a A)
      | (refine sx_skip A rfl rfl ?_; clear A; intro a A)
      | ((with_reducible refine g_bin ?_); first | ((refine g_int A rfl ?_); first | (refine sx_cmp A rfl rfl rfl rfl ?_; clear A; intro a A) | (refine sx_arith A rfl rfl rfl rfl ?_; clear A; intro a A) | (refine sx_shl A rfl rfl rfl rfl ?_; clear A; intro a A) | (refine sx_shr A rfl rfl rfl rfl ?_; clear A; intro a A)) | ((refine g_str A rfl ?_); first | (refine sx_scmp A rfl rfl rfl rfl ?_; clear A; intro a A) | (refine sx_concat A rfl rfl rfl rfl ?_; clear A; intro a A)))
      | ((with_reducible refine g_load ?_); first | (refine sx_load_all H A tbOk rfl rfl rfl rfl rfl ?_; clear A; intro a A) | (refine sx_load H A tbOk rfl rfl rfl rfl ?_; clear A; intro a A))
      | ((with_reducible refine g_store ?_); refine sx_store H A tbOk rfl rfl rfl rfl ?_; clear H; intro w_ H)
      | ((with_reducible refine g_box ?_); refine sx_box H A rfl rfl rfl ?_; clear H A; intro b_ a w_ A H)
      | ((with_reducible refine g_alloc ?_); refine sx_alloc H A tbOk rfl rfl rfl ?_; clear H A; intro b_ a w_ A H)
      | ((with_reducible refine g_build ?_); refine sx_build A tbOk rfl rfl rfl rfl rfl rfl ?_; clear A; intro a A)
      | ((with_reducible refine g_builtin ?_); first | (refine sx_min A rfl rfl rfl rfl ?_; clear A; intro a A) | (refine sx_max A rfl rfl rfl rfl ?_; clear A; intro a A))
      | ((with_reducible refine g_slice ?_); first | (refine sx_sstr A tbOk rfl rfl rfl rfl rfl rfl ?_; clear A; intro a A) | (refine sx_cut H A tbOk rfl rfl rfl rfl rfl rfl rfl ?_; clear A H; intro A_ c_ a hc_ A H))
      | ((with_reducible refine g_index ?_); refine sx_sidx A tbOk rfl rfl rfl rfl rfl ?_; clear A; intro a A)
      | ((with_reducible refine g_idx ?_); first | (refine sx_idx H A tbOk rfl rfl rfl rfl rfl rfl ?_; clear A; intro a A) | (refine sx_oidx H A tbOk rfl rfl rfl rfl rfl rfl ?_; clear A; intro a A))
      | ((with_reducible refine g_conv ?_); refine sx_conv A tbOk rfl rfl rfl rfl rfl ?_; clear A; intro a A)
      )
    | ((with_reducible refine g_draw ?_); refine qx_region H (by kernel_rfl) (by kernel_rfl) ?_)
    | ((with_reducible refine qx_nil ?_); clear H; intro w_ F_ H)
    | ((with_reducible refine q_at ?_); first
      | (refine qx_pure A tbOk rfl rfl rfl ?_; clear A; intro a A)
      | (refine qx_skip A rfl rfl ?_; clear A; intro a A)
      | ((with_reducible refine qg_bin ?_); first | ((refine qg_int A rfl ?_); first | (refine qx_cmp A rfl rfl rfl rfl ?_; clear A; intro a A) | (refine qx_arith A rfl rfl rfl rfl ?_; clear A; intro a A)) | ((refine qg_str A rfl ?_); first | (refine qx_scmp A rfl rfl rfl rfl ?_; clear A; intro a A) | (refine qx_concat A rfl rfl rfl rfl ?_; clear A; intro a A)))
      | ((with_reducible refine qg_builtin ?_); first | (refine qx_min A rfl rfl rfl rfl ?_; clear A; intro a A) | (refine qx_max A rfl rfl rfl rfl ?_; clear A; intro a A))
      | ((with_reducible refine qg_slice ?_); refine qx_sstr A tbOk rfl rfl rfl rfl rfl rfl ?_; clear A; intro a A)
      | ((with_reducible refine qg_load ?_); refine qx_load A tbOk rfl rfl rfl rfl ?_; clear A; intro a A)
      | ((with_reducible refine qg_idx ?_); first | (refine qx_idx H A tbOk rfl rfl rfl rfl rfl rfl ?_; clear A; intro a A) | (refine qx_oidx H A tbOk rfl rfl rfl rfl rfl rfl ?_; clear A; intro a A)))
    )
      by_cases c3 : size > 8
      all_goals repeat' (first
    | (refine sx_ret tbOk H A rfl ?_; exact H.ret0 fun Fx Hx => k Fx _ Hx)
    | with_reducible refine wp_seq ?_
    | with_reducible refine sx_region ?_
    | with_reducible refine wp_block ?_
    | with_reducible refine wpList_nil ?_
    | with_reducible refine sx_then ?_
    | with_reducible refine sx_inb ?_
    | with_reducible refine wp_skip ?_
    | with_reducible refine wp_ret ?_
    | with_reducible refine wp_exit ?_
    | with_reducible refine sx_then_ret ?_
    | with_reducible refine sx_inb_ret ?_
    | with_reducible refine sx_then_exit ?_
    | with_reducible refine sx_inb_exit ?_
    | with_reducible refine sx_inb_other rfl ?_
    | with_reducible refine sx_if_t A rfl ?_
    | with_reducible refine sx_if_f A rfl ?_
    | ((with_reducible refine sx_at ?_); first
      | (refine sx_pure A tbOk rfl rfl rfl ?_; clear A; intro a A)
      | (refine sx_skip A rfl rfl ?_; clear A; intro a A)
      | ((with_reducible refine g_bin ?_); first | ((refine g_int A rfl ?_); first | (refine sx_cmp A rfl rfl rfl rfl ?_; clear A; intro a A) | (refine sx_arith A rfl rfl rfl rfl ?_; clear A; intro a A) | (refine sx_shl A rfl rfl rfl rfl ?_; clear A; intro a A) | (refine sx_shr A rfl rfl rfl rfl ?_; clear A; intro a A)) | ((refine g_str A rfl ?_); first | (refine sx_scmp A rfl rfl rfl rfl ?_; clear A; intro a A) | (refine sx_concat A rfl rfl rfl rfl ?_; clear A; intro a A)))
      | ((with_reducible refine g_load ?_); first | (refine sx_load_all H A tbOk rfl rfl rfl rfl rfl ?_; clear A; intro a A) | (refine sx_load H A tbOk rfl rfl rfl rfl ?_; clear A; intro a A))
      | ((with_reducible refine g_store ?_); refine sx_store H A tbOk rfl rfl rfl rfl ?_; clear H; intro w_ H)
      | ((with_reducible refine g_box ?_); refine sx_box H A rfl rfl rfl ?_; clear H A; intro b_ a w_ A H)
      | ((with_reducible refine g_alloc ?_); refine sx_alloc H A tbOk rfl rfl rfl ?_; clear H A; intro b_ a w_ A H)
      | ((with_reducible refine g_build ?_); refine sx_build A tbOk rfl rfl rfl rfl rfl rfl ?_; clear A; intro a A)
      | ((with_reducible refine g_builtin ?_); first | (refine sx_min A rfl rfl rfl rfl ?_; clear A; intro a A) | (refine sx_max A rfl rfl rfl rfl ?_; clear A; intro a A))
      | ((with_reducible refine g_slice ?_); first | (refine sx_sstr A tbOk rfl rfl rfl rfl rfl rfl ?_; clear A; intro a A) | (refine sx_cut H A tbOk rfl rfl rfl rfl rfl rfl rfl ?_; clear A H; intro A_ c_ a hc_ A H))
      | ((with_reducible refine g_index ?_); refine sx_sidx A tbOk rfl rfl rfl rfl rfl ?_; clear A; intro a A)
      | ((with_reducible refine g_idx ?_); first | (refine sx_idx H A tbOk rfl rfl rfl rfl rfl rfl ?_; clear A; intro a A) | (refine sx_oidx H A tbOk rfl rfl rfl rfl rfl rfl ?_; clear A; intro a A))
      | ((with_reducible refine g_conv ?_); refine sx_conv A tbOk rfl rfl rfl rfl rfl ?_; clear A; intro a A)
      )
    | ((with_reducible refine g_draw ?_); refine qx_region H (by kernel_rfl) (by kernel_rfl) ?_)
    | ((with_reducible refine qx_nil ?_); clear H; intro w_ F_ H)
    | ((with_reducible refine q_at ?_); first
      | (refine qx_pure A tbOk rfl rfl rfl ?_; clear A; intro a A)
      | (refine qx_skip A rfl rfl ?_; clear A; intro a A)
      | ((with_reducible refine qg_bin ?_); first | ((refine qg_int A rfl ?_); first | (refine qx_cmp A rfl rfl rfl rfl ?_; clear A; intro a A) | (refine qx_arith A rfl rfl rfl rfl ?_; clear A; intro a A)) | ((refine qg_str A rfl ?_); first | (refine qx_scmp A rfl rfl rfl rfl ?_; clear A; intro a A) | (refine qx_concat A rfl rfl rfl rfl ?_; clear A; intro a A)))
      | ((with_reducible refine qg_builtin ?_); first | (refine qx_min A rfl rfl rfl rfl ?_; clear A; intro a A) | (refine qx_max A rfl rfl rfl rfl ?_; clear A; intro a A))
      | ((with_reducible refine qg_slice ?_); refine qx_sstr A tbOk rfl rfl rfl rfl rfl rfl ?_; clear A; intro a A)
      | ((with_reducible refine qg_load ?_); refine qx_load A tbOk rfl rfl rfl rfl ?_; clear A; intro a A)
      | ((with_reducible refine qg_idx ?_); first | (refine qx_idx H A tbOk rfl rfl rfl rfl rfl rfl ?_; clear A; intro a A) | (refine qx_oidx H A tbOk rfl rfl rfl rfl rfl rfl ?_; clear A; intro a A)))
    )
  · by_cases c3 : at_ > s.size
    all_goals repeat' (first
    | (refine sx_ret tbOk H A rfl ?_; exact H.ret0 fun Fx Hx => k Fx _ Hx)
    | with_reducible refine wp_seq ?_
    | with_reducible refine sx_region ?_
    | with_reducible refine wp_block ?_
    | with_reducible refine wpList_nil ?_
    | with_reducible refine sx_then ?_
    | with_reducible refine sx_inb ?_
    | with_reducible refine wp_skip ?_
    | with_reducible refine wp_ret ?_
    | with_reducible refine wp_exit ?_
    | with_reducible refine sx_then_ret ?_
    | with_reducible refine sx_inb_ret ?_
    | with_reducible refine sx_then_exit ?_
    | with_reducible refine sx_inb_exit ?_
    | with_reducible refine sx_inb_other rfl ?_
    | with_reducible refine sx_if_t A rfl ?_
    | with_reducible refine sx_if_f A rfl ?_
    | ((with_reducible refine sx_at ?_); first
      | (refine sx_pure A tbOk rfl rfl rfl ?_; clear A; intro a A)
      | (refine sx_skip A rfl rfl ?_; clear A; intro a A)
      | ((with_reducible refine g_bin ?_); first | ((refine g_int A rfl ?_); first | (refine sx_cmp A rfl rfl rfl rfl ?_; clear A; intro a A) | (refine sx_arith A rfl rfl rfl rfl ?_; clear A; intro a A) | (refine sx_shl A rfl rfl rfl rfl ?_; clear A; intro a A) | (refine sx_shr A rfl rfl rfl rfl ?_; clear A; intro a A)) | ((refine g_str A rfl ?_); first | (refine sx_scmp A rfl rfl rfl rfl ?_; clear A; intro a A) | (refine sx_concat A rfl rfl rfl rfl ?_; clear A; intro a A)))
      | ((with_reducible refine g_load ?_); first | (refine sx_load_all H A tbOk rfl rfl rfl rfl rfl ?_; clear A; intro a A) | (refine sx_load H A tbOk rfl rfl rfl rfl ?_; clear A; intro a A))
      | ((with_reducible refine g_store ?_); refine sx_store H A tbOk rfl rfl rfl rfl ?_; clear H; intro w_ H)
      | ((with_reducible refine g_box ?_); refine sx_box H A rfl rfl rfl ?_; clear H A; intro b_ a w_ A H)
      | ((with_reducible refine g_alloc ?_); refine sx_alloc H A tbOk rfl rfl rfl ?_; clear H A; intro b_ a w_ A H)
      | ((with_reducible refine g_build ?_); refine sx_build A tbOk rfl rfl rfl rfl rfl rfl ?_; clear A; intro a A)
      | ((with_reducible refine g_builtin ?_); first | (refine sx_min A rfl rfl rfl rfl ?_; clear A; intro a A) | (refine sx_max A rfl rfl rfl rfl ?_; clear A; intro a A))
      | ((with_reducible refine g_slice ?_); first | (refine sx_sstr A tbOk rfl rfl rfl rfl rfl rfl ?_; clear A; intro a A) | (refine sx_cut H A tbOk rfl rfl rfl rfl rfl rfl rfl ?_; clear A H; intro A_ c_ a hc_ A H))
      | ((with_reducible refine g_index ?_); refine sx_sidx A tbOk rfl rfl rfl rfl rfl ?_; clear A; intro a A)
      | ((with_reducible refine g_idx ?_); first | (refine sx_idx H A tbOk rfl rfl rfl rfl rfl rfl ?_; clear A; intro a A) | (refine sx_oidx H A tbOk rfl rfl rfl rfl rfl rfl ?_; clear A; intro a A))
      | ((with_reducible refine g_conv ?_); refine sx_conv A tbOk rfl rfl rfl rfl rfl ?_; clear A; intro a A)
      )
    | ((with_reducible refine g_draw ?_); refine qx_region H (by kernel_rfl) (by kernel_rfl) ?_)
    | ((with_reducible refine qx_nil ?_); clear H; intro w_ F_ H)
    | ((with_reducible refine q_at ?_); first
      | (refine qx_pure A tbOk rfl rfl rfl ?_; clear A; intro a A)
      | (refine qx_skip A rfl rfl ?_; clear A; intro a A)
      | ((with_reducible refine qg_bin ?_); first | ((refine qg_int A rfl ?_); first | (refine qx_cmp A rfl rfl rfl rfl ?_; clear A; intro a A) | (refine qx_arith A rfl rfl rfl rfl ?_; clear A; intro a A)) | ((refine qg_str A rfl ?_); first | (refine qx_scmp A rfl rfl rfl rfl ?_; clear A; intro a A) | (refine qx_concat A rfl rfl rfl rfl ?_; clear A; intro a A)))
      | ((with_reducible refine qg_builtin ?_); first | (refine qx_min A rfl rfl rfl rfl ?_; clear A; intro a A) | (refine qx_max A rfl rfl rfl rfl ?_; clear A; intro a A))
      | ((with_reducible refine qg_slice ?_); refine qx_sstr A tbOk rfl rfl rfl rfl rfl rfl ?_; clear A; intro a A)
      | ((with_reducible refine qg_load ?_); refine qx_load A tbOk rfl rfl rfl rfl ?_; clear A; intro a A)
      | ((with_reducible refine qg_idx ?_); first | (refine qx_idx H A tbOk rfl rfl rfl rfl rfl rfl ?_; clear A; intro a A) | (refine qx_oidx H A tbOk rfl rfl rfl rfl rfl rfl ?_; clear A; intro a A)))
    )
  · obtain ⟨p, rfl⟩ := Int.eq_ofNat_of_zero_le (show 0 ≤ at_ by omega)
    obtain ⟨m, rfl⟩ := Int.eq_ofNat_of_zero_le (show 0 ≤ size by omega)
    simp only [Int.toNat_natCast] at k
    have c3 : m ≤ 8 := by omega
    have c4 : p + m ≤ s.size := by omega
    obtain ⟨l, hl⟩ : ∃ l, ((L s).drop p).take m = l := ⟨_, rfl⟩
    have hll : l.length = m := by rw [← hl, List.length_take, List.length_drop, ← size_L]; omega
    rw [hl] at k
    repeat' (first
    | with_reducible refine wp_seq ?_
    | with_reducible refine sx_region ?_
    | with_reducible refine wp_block ?_
    | with_reducible refine wpList_nil ?_
    | with_reducible refine sx_then ?_
    | with_reducible refine sx_inb ?_
    | with_reducible refine wp_skip ?_
    | with_reducible refine wp_ret ?_
    | with_reducible refine wp_exit ?_
    | with_reducible refine sx_then_ret ?_
    | with_reducible refine sx_inb_ret ?_
    | with_reducible refine sx_then_exit ?_
    | with_reducible refine sx_inb_exit ?_
    | with_reducible refine sx_inb_other rfl ?_
    | with_reducible refine sx_if_t A rfl ?_
    | with_reducible refine sx_if_f A rfl ?_
    | ((with_reducible refine sx_at ?_); first
      | (refine sx_pure A tbOk rfl rfl rfl ?_; clear A; intro a A)
      | (refine sx_skip A rfl rfl ?_; clear A; intro a A)
      | ((with_reducible refine g_bin ?_); first | ((refine g_int A rfl ?_); first | (refine sx_cmp A rfl rfl rfl rfl ?_; clear A; intro a A) | (refine sx_arith A rfl rfl rfl rfl ?_; clear A; intro a A) | (refine sx_shl A rfl rfl rfl rfl ?_; clear A; intro a A) | (refine sx_shr A rfl rfl rfl rfl ?_; clear A; intro a A)) | ((refine g_str A rfl ?_); first | (refine sx_scmp A rfl rfl rfl rfl ?_; clear A; intro a A) | (refine sx_concat A rfl rfl rfl rfl ?_; clear A; intro a A)))
      | ((with_reducible refine g_load ?_); first | (refine sx_load_all H A tbOk rfl rfl rfl rfl rfl ?_; clear A; intro a A) | (refine sx_load H A tbOk rfl rfl rfl rfl ?_; clear A; intro a A))
      | ((with_reducible refine g_store ?_); refine sx_store H A tbOk rfl rfl rfl rfl ?_; clear H; intro w_ H)
      | ((with_reducible refine g_box ?_); refine sx_box H A rfl rfl rfl ?_; clear H A; intro b_ a w_ A H)
      | ((with_reducible refine g_alloc ?_); refine sx_alloc H A tbOk rfl rfl rfl ?_; clear H A; intro b_ a w_ A H)
      | ((with_reducible refine g_build ?_); refine sx_build A tbOk rfl rfl rfl rfl rfl rfl ?_; clear A; intro a A)
      | ((with_reducible refine g_builtin ?_); first | (refine sx_min A rfl rfl rfl rfl ?_; clear A; intro a A) | (refine sx_max A rfl rfl rfl rfl ?_; clear A; intro a A))
      | ((with_reducible refine g_slice ?_); first | (refine sx_sstr A tbOk rfl rfl rfl rfl rfl rfl ?_; clear A; intro a A) | (refine sx_cut H A tbOk rfl rfl rfl rfl rfl rfl rfl ?_; clear A H; intro A_ c_ a hc_ A H))
      | ((with_reducible refine g_index ?_); refine sx_sidx A tbOk rfl rfl rfl rfl rfl ?_; clear A; intro a A)
      | ((with_reducible refine g_idx ?_); first | (refine sx_idx H A tbOk rfl rfl rfl rfl rfl rfl ?_; clear A; intro a A) | (refine sx_oidx H A tbOk rfl rfl rfl rfl rfl rfl ?_; clear A; intro a A))
      | ((with_reducible refine g_conv ?_); refine sx_conv A tbOk rfl rfl rfl rfl rfl ?_; clear A; intro a A)
      )
    | ((with_reducible refine g_draw ?_); refine qx_region H (by kernel_rfl) (by kernel_rfl) ?_)
    | ((with_reducible refine qx_nil ?_); clear H; intro w_ F_ H)
    | ((with_reducible refine q_at ?_); first
      | (refine qx_pure A tbOk rfl rfl rfl ?_; clear A; intro a A)
      | (refine qx_skip A rfl rfl ?_; clear A; intro a A)
      | ((with_reducible refine qg_bin ?_); first | ((refine qg_int A rfl ?_); first | (refine qx_cmp A rfl rfl rfl rfl ?_; clear A; intro a A) | (refine qx_arith A rfl rfl rfl rfl ?_; clear A; intro a A)) | ((refine qg_str A rfl ?_); first | (refine qx_scmp A rfl rfl rfl rfl ?_; clear A; intro a A) | (refine qx_concat A rfl rfl rfl rfl ?_; clear A; intro a A)))
      | ((with_reducible refine qg_builtin ?_); first | (refine qx_min A rfl rfl rfl rfl ?_; clear A; intro a A) | (refine qx_max A rfl rfl rfl rfl ?_; clear A; intro a A))
      | ((with_reducible refine qg_slice ?_); refine qx_sstr A tbOk rfl rfl rfl rfl rfl rfl ?_; clear A; intro a A)
      | ((with_reducible refine qg_load ?_); refine qx_load A tbOk rfl rfl rfl rfl ?_; clear A; intro a A)
      | ((with_reducible refine qg_idx ?_); first | (refine qx_idx H A tbOk rfl rfl rfl rfl rfl rfl ?_; clear A; intro a A) | (refine qx_oidx H A tbOk rfl rfl rfl rfl rfl rfl ?_; clear A; intro a A)))
    )
    refine sx_rounds (fun i : Nat => i ≤ m) (fun i => [(36, .int .i64 (i : Int)), (9, .int .u64 ((getL (l.take i) : Nat) : Int)), (35, _), (0, _), (1, _), (2, _)]) (fun i => []) (fun _ => []) (fun i => m - i) 0 H A.subs (Nat.zero_le _) (fun i F a W hi H A => ?_)
    rcases Nat.lt_or_ge i m with hlt | hge
    · have hpi : p + i < s.size := by omega
      obtain ⟨b, hb⟩ : ∃ b, l[i]? = some b := ⟨_, List.getElem?_eq_getElem (by omega)⟩
      have hbt : bt s ((p : Int) + (i : Int)).toNat = ((b.toNat : Nat) : Int) := by
        rw [bt_L s _ (by omega)]
        have : (L s)[p + i]? = some b := by
          rw [← hl, List.getElem?_take, if_pos hlt, List.getElem?_drop] at hb; exact hb
        obtain ⟨h3, h4⟩ := List.getElem?_eq_some_iff.1 this
        have e1 : ((p : Int) + (i : Int)).toNat = p + i := by omega
        simp only [e1, h4]
      have hcv : IntKind.u64.wrap (bt s ((p : Int) + (i : Int)).toNat) = ((b.toNat : Nat) : Int) := by rw [hbt]; have := b.toNat_lt; exact wrap_u64 (by omega) (by omega)
      have hor := or_byte (getL (l.take i)) b.toNat i (by omega) (by have := getL_lt (l.take i); rw [List.length_take, show min i l.length = i by omega] at this; exact this) (b.toNat_lt)
      have hnx : getL (l.take i) + 256 ^ i * b.toNat = getL (l.take (i + 1)) := by
        obtain ⟨h3, rfl⟩ := List.getElem?_eq_some_iff.1 hb
        rw [getL_take_succ l i h3]
      rw [hnx] at hor
      repeat' (first
    | with_reducible refine wp_seq ?_
    | with_reducible refine sx_region ?_
    | with_reducible refine wp_block ?_
    | with_reducible refine wpList_nil ?_
    | with_reducible refine sx_then ?_
    | with_reducible refine sx_inb ?_
    | with_reducible refine wp_skip ?_
    | with_reducible refine wp_ret ?_
    | with_reducible refine wp_exit ?_
    | with_reducible refine sx_then_ret ?_
    | with_reducible refine sx_inb_ret ?_
    | with_reducible refine sx_then_exit ?_
    | with_reducible refine sx_inb_exit ?_
    | with_reducible refine sx_inb_other rfl ?_
    | with_reducible refine sx_if_t A rfl ?_
    | with_reducible refine sx_if_f A rfl ?_
    | ((with_reducible refine sx_at ?_); first
      | (refine sx_pure A tbOk rfl rfl rfl ?_; clear A; intro a A)
      | (refine sx_skip A rfl rfl ?_; clear A; intro a A)
      | ((with_reducible refine g_bin ?_); first | ((refine g_int A rfl ?_); first | (refine sx_cmp A rfl rfl rfl rfl ?_; clear A; intro a A) | (refine sx_arith A rfl rfl rfl rfl ?_; clear A; intro a A) | (refine sx_shl A rfl rfl rfl rfl ?_; clear A; intro a A) | (refine sx_shr A rfl rfl rfl rfl ?_; clear A; intro a A)) | ((refine g_str A rfl ?_); first | (refine sx_scmp A rfl rfl rfl rfl ?_; clear A; intro a A) | (refine sx_concat A rfl rfl rfl rfl ?_; clear A; intro a A)))
      | ((with_reducible refine g_load ?_); first | (refine sx_load_all H A tbOk rfl rfl rfl rfl rfl ?_; clear A; intro a A) | (refine sx_load H A tbOk rfl rfl rfl rfl ?_; clear A; intro a A))
      | ((with_reducible refine g_store ?_); refine sx_store H A tbOk rfl rfl rfl rfl ?_; clear H; intro w_ H)
      | ((with_reducible refine g_box ?_); refine sx_box H A rfl rfl rfl ?_; clear H A; intro b_ a w_ A H)
      | ((with_reducible refine g_alloc ?_); refine sx_alloc H A tbOk rfl rfl rfl ?_; clear H A; intro b_ a w_ A H)
      | ((with_reducible refine g_build ?_); refine sx_build A tbOk rfl rfl rfl rfl rfl rfl ?_; clear A; intro a A)
      | ((with_reducible refine g_builtin ?_); first | (refine sx_min A rfl rfl rfl rfl ?_; clear A; intro a A) | (refine sx_max A rfl rfl rfl rfl ?_; clear A; intro a A))
      | ((with_reducible refine g_slice ?_); first | (refine sx_sstr A tbOk rfl rfl rfl rfl rfl rfl ?_; clear A; intro a A) | (refine sx_cut H A tbOk rfl rfl rfl rfl rfl rfl rfl ?_; clear A H; intro A_ c_ a hc_ A H))
      | ((with_reducible refine g_index ?_); refine sx_sidx A tbOk rfl rfl rfl rfl rfl ?_; clear A; intro a A)
      | ((with_reducible refine g_idx ?_); first | (refine sx_idx H A tbOk rfl rfl rfl rfl rfl rfl ?_; clear A; intro a A) | (refine sx_oidx H A tbOk rfl rfl rfl rfl rfl rfl ?_; clear A; intro a A))
      | ((with_reducible refine g_conv ?_); refine sx_conv A tbOk rfl rfl rfl rfl rfl ?_; clear A; intro a A)
      )
    | ((with_reducible refine g_draw ?_); refine qx_region H (by kernel_rfl) (by kernel_rfl) ?_)
    | ((with_reducible refine qx_nil ?_); clear H; intro w_ F_ H)
    | ((with_reducible refine q_at ?_); first
      | (refine qx_pure A tbOk rfl rfl rfl ?_; clear A; intro a A)
      | (refine qx_skip A rfl rfl ?_; clear A; intro a A)
      | ((with_reducible refine qg_bin ?_); first | ((refine qg_int A rfl ?_); first | (refine qx_cmp A rfl rfl rfl rfl ?_; clear A; intro a A) | (refine qx_arith A rfl rfl rfl rfl ?_; clear A; intro a A)) | ((refine qg_str A rfl ?_); first | (refine qx_scmp A rfl rfl rfl rfl ?_; clear A; intro a A) | (refine qx_concat A rfl rfl rfl rfl ?_; clear A; intro a A)))
      | ((with_reducible refine qg_builtin ?_); first | (refine qx_min A rfl rfl rfl rfl ?_; clear A; intro a A) | (refine qx_max A rfl rfl rfl rfl ?_; clear A; intro a A))
      | ((with_reducible refine qg_slice ?_); refine qx_sstr A tbOk rfl rfl rfl rfl rfl rfl ?_; clear A; intro a A)
      | ((with_reducible refine qg_load ?_); refine qx_load A tbOk rfl rfl rfl rfl ?_; clear A; intro a A)
      | ((with_reducible refine qg_idx ?_); first | (refine qx_idx H A tbOk rfl rfl rfl rfl rfl rfl ?_; clear A; intro a A) | (refine qx_oidx H A tbOk rfl rfl rfl rfl rfl rfl ?_; clear A; intro a A)))
    )
      exact ⟨i + 1, F, by omega, by omega, H, A.subs⟩
    · have him : i = m := by omega
      rw [him, show l.take m = l by rw [← hll, List.take_length]] at A
      repeat' (first
    | (refine sx_ret tbOk H A rfl ?_; exact H.ret0 fun Fx Hx => k Fx _ Hx)
    | with_reducible refine wp_seq ?_
    | with_reducible refine sx_region ?_
    | with_reducible refine wp_block ?_
    | with_reducible refine wpList_nil ?_
    | with_reducible refine sx_then ?_
    | with_reducible refine sx_inb ?_
    | with_reducible refine wp_skip ?_
    | with_reducible refine wp_ret ?_
    | with_reducible refine wp_exit ?_
    | with_reducible refine sx_then_ret ?_
    | with_reducible refine sx_inb_ret ?_
    | with_reducible refine sx_then_exit ?_
    | with_reducible refine sx_inb_exit ?_
    | with_reducible refine sx_inb_other rfl ?_
    | with_reducible refine sx_if_t A rfl ?_
    | with_reducible refine sx_if_f A rfl ?_
    | ((with_reducible refine sx_at ?_); first
      | (refine sx_pure A tbOk rfl rfl rfl ?_; clear A; intro a A)
      | (refine sx_skip A rfl rfl ?_; clear A; intro a A)
      | ((with_reducible refine g_bin ?_); first | ((refine g_int A rfl ?_); first | (refine sx_cmp A rfl rfl rfl rfl ?_; clear A; intro a A) | (refine sx_arith A rfl rfl rfl rfl ?_; clear A; intro a A) | (refine sx_shl A rfl rfl rfl rfl ?_; clear A; intro a A) | (refine sx_shr A rfl rfl rfl rfl ?_; clear A; intro a A)) | ((refine g_str A rfl ?_); first | (refine sx_scmp A rfl rfl rfl rfl ?_; clear A; intro a A) | (refine sx_concat A rfl rfl rfl rfl ?_; clear A; intro a A)))
      | ((with_reducible refine g_load ?_); first | (refine sx_load_all H A tbOk rfl rfl rfl rfl rfl ?_; clear A; intro a A) | (refine sx_load H A tbOk rfl rfl rfl rfl ?_; clear A; intro a A))
      | ((with_reducible refine g_store ?_); refine sx_store H A tbOk rfl rfl rfl rfl ?_; clear H; intro w_ H)
      | ((with_reducible refine g_box ?_); refine sx_box H A rfl rfl rfl ?_; clear H A; intro b_ a w_ A H)
      | ((with_reducible refine g_alloc ?_); refine sx_alloc H A tbOk rfl rfl rfl ?_; clear H A; intro b_ a w_ A H)
      | ((with_reducible refine g_build ?_); refine sx_build A tbOk rfl rfl rfl rfl rfl rfl ?_; clear A; intro a A)
      | ((with_reducible refine g_builtin ?_); first | (refine sx_min A rfl rfl rfl rfl ?_; clear A; intro a A) | (refine sx_max A rfl rfl rfl rfl ?_; clear A; intro a A))
      | ((with_reducible refine g_slice ?_); first | (refine sx_sstr A tbOk rfl rfl rfl rfl rfl rfl ?_; clear A; intro a A) | (refine sx_cut H A tbOk rfl rfl rfl rfl rfl rfl rfl ?_; clear A H; intro A_ c_ a hc_ A H))
      | ((with_reducible refine g_index ?_); refine sx_sidx A tbOk rfl rfl rfl rfl rfl ?_; clear A; intro a A)
      | ((with_reducible refine g_idx ?_); first | (refine sx_idx H A tbOk rfl rfl rfl rfl rfl rfl ?_; clear A; intro a A) | (refine sx_oidx H A tbOk rfl rfl rfl rfl rfl rfl ?_; clear A; intro a A))
      | ((with_reducible refine g_conv ?_); refine sx_conv A tbOk rfl rfl rfl rfl rfl ?_; clear A; intro a A)
      )
    | ((with_reducible refine g_draw ?_); refine qx_region H (by kernel_rfl) (by kernel_rfl) ?_)
    | ((with_reducible refine qx_nil ?_); clear H; intro w_ F_ H)
    | ((with_reducible refine q_at ?_); first
      | (refine qx_pure A tbOk rfl rfl rfl ?_; clear A; intro a A)
      | (refine qx_skip A rfl rfl ?_; clear A; intro a A)
      | ((with_reducible refine qg_bin ?_); first | ((refine qg_int A rfl ?_); first | (refine qx_cmp A rfl rfl rfl rfl ?_; clear A; intro a A) | (refine qx_arith A rfl rfl rfl rfl ?_; clear A; intro a A)) | ((refine qg_str A rfl ?_); first | (refine qx_scmp A rfl rfl rfl rfl ?_; clear A; intro a A) | (refine qx_concat A rfl rfl rfl rfl ?_; clear A; intro a A)))
      | ((with_reducible refine qg_builtin ?_); first | (refine qx_min A rfl rfl rfl rfl ?_; clear A; intro a A) | (refine qx_max A rfl rfl rfl rfl ?_; clear A; intro a A))
      | ((with_reducible refine qg_slice ?_); refine qx_sstr A tbOk rfl rfl rfl rfl rfl rfl ?_; clear A; intro a A)
      | ((with_reducible refine qg_load ?_); refine qx_load A tbOk rfl rfl rfl rfl ?_; clear A; intro a A)
      | ((with_reducible refine qg_idx ?_); first | (refine qx_idx H A tbOk rfl rfl rfl rfl rfl rfl ?_; clear A; intro a A) | (refine qx_oidx H A tbOk rfl rfl rfl rfl rfl rfl ?_; clear A; intro a A)))
    )
theorem trim_step (x : ByteArray) (h : 0 < x.size) : (bt x ((x.size : Int) - 1).toNat = 0 → trimS (x.extract (0 : Int).toNat ((x.size : Int) - 1).toNat) = trimS x) ∧ (bt x ((x.size : Int) - 1).toNat ≠ 0 → trimS x = x) := by
  rcases snoc_cases (L x) with h0 | ⟨m, b, hm⟩
  · rw [size_L, h0] at h; exact absurd h (by simp)
  have hsz : x.size = m.length + 1 := by rw [size_L, hm]; simp
  have e1 : ((x.size : Int) - 1).toNat = m.length := by omega
  have hb : bt x ((x.size : Int) - 1).toNat = (b.toNat : Int) := by
    rw [bt_L x _ (by omega)]
    simp only [e1, hm]; simp
  rw [hb]
  refine ⟨fun h => ?_, fun h => ?_⟩
  · have h2 := (byte_zero b).1 h
    unfold trimS
    congr 1
    rw [L_extract, hm, h2, trimL_zero, e1]
    simp
  · have h2 : b ≠ 0 := fun e => h ((byte_zero b).2 e)
    apply L_inj
    unfold trimS
    rw [L_B, hm, trimL_other m b h2]
theorem sl_trimRightByte (H : St M F0 w0 F B R w) {s r : ByteArray} (h2 : s.size ≤ 4611686018427387904) (hr : trimS s = r) (k : ∀ Fx w', St M F0 w0 Fx B R w' → K (.returned (.string r)) w') : Calls Tryd.prog 81 #[.string s, .int .u8 0] w K := by
  refine St.fn0 H (R0 := []) no_mem (fun H => ?_)
  refine sx_enter Tryd.func81 Tryd.ntmps81 rfl rfl (fun a A => ?_)
  repeat' (first
    | with_reducible refine wp_seq ?_
    | with_reducible refine sx_region ?_
    | with_reducible refine wp_block ?_
    | with_reducible refine wpList_nil ?_
    | with_reducible refine sx_then ?_
    | with_reducible refine sx_inb ?_
    | with_reducible refine wp_skip ?_
    | with_reducible refine wp_ret ?_
    | with_reducible refine wp_exit ?_
    | with_reducible refine sx_then_ret ?_
    | with_reducible refine sx_inb_ret ?_
    | with_reducible refine sx_then_exit ?_
    | with_reducible refine sx_inb_exit ?_
    | with_reducible refine sx_inb_other rfl ?_
    | with_reducible refine sx_if_t A rfl ?_
    | with_reducible refine sx_if_f A rfl ?_
    | ((with_reducible refine sx_at ?_); first
      | (refine sx_pure A tbOk rfl rfl rfl ?_; clear A; intro a A)
      | (refine sx_skip A rfl rfl ?_; clear A; intro a A)
      | ((with_reducible refine g_bin ?_); first | ((refine g_int A rfl ?_); first | (refine sx_cmp A rfl rfl rfl rfl ?_; clear A; intro a A) | (refine sx_arith A rfl rfl rfl rfl ?_; clear A; intro a A) | (refine sx_shl A rfl rfl rfl rfl ?_; clear A; intro a A) | (refine sx_shr A rfl rfl rfl rfl ?_; clear A; intro a A)) | ((refine g_str A rfl ?_); first | (refine sx_scmp A rfl rfl rfl rfl ?_; clear A; intro a A) | (refine sx_concat A rfl rfl rfl rfl ?_; clear A; intro a A)))
      | ((with_reducible refine g_load ?_); first | (refine sx_load_all H A tbOk rfl rfl rfl rfl rfl ?_; clear A; intro a A) | (refine sx_load H A tbOk rfl rfl rfl rfl ?_; clear A; intro a A))
      | ((with_reducible refine g_store ?_); refine sx_store H A tbOk rfl rfl rfl rfl ?_; clear H; intro w_ H)
      | ((with_reducible refine g_box ?_); refine sx_box H A rfl rfl rfl ?_; clear H A; intro b_ a w_ A H)
      | ((with_reducible refine g_alloc ?_); refine sx_alloc H A tbOk rfl rfl rfl ?_; clear H A; intro b_ a w_ A H)
      | ((with_reducible refine g_build ?_); refine sx_build A tbOk rfl rfl rfl rfl rfl rfl ?_; clear A; intro a A)
      | ((with_reducible refine g_builtin ?_); first | (refine sx_min A rfl rfl rfl rfl ?_; clear A; intro a A) | (refine sx_max A rfl rfl rfl rfl ?_; clear A; intro a A))
      | ((with_reducible refine g_slice ?_); first | (refine sx_sstr A tbOk rfl rfl rfl rfl rfl rfl ?_; clear A; intro a A) | (refine sx_cut H A tbOk rfl rfl rfl rfl rfl rfl rfl ?_; clear A H; intro A_ c_ a hc_ A H))
      | ((with_reducible refine g_index ?_); refine sx_sidx A tbOk rfl rfl rfl rfl rfl ?_; clear A; intro a A)
      | ((with_reducible refine g_idx ?_); first | (refine sx_idx H A tbOk rfl rfl rfl rfl rfl rfl ?_; clear A; intro a A) | (refine sx_oidx H A tbOk rfl rfl rfl rfl rfl rfl ?_; clear A; intro a A))
      | ((with_reducible refine g_conv ?_); refine sx_conv A tbOk rfl rfl rfl rfl rfl ?_; clear A; intro a A)
      )
    | ((with_reducible refine g_draw ?_); refine qx_region H (by kernel_rfl) (by kernel_rfl) ?_)
    | ((with_reducible refine qx_nil ?_); clear H; intro w_ F_ H)
    | ((with_reducible refine q_at ?_); first
      | (refine qx_pure A tbOk rfl rfl rfl ?_; clear A; intro a A)
      | (refine qx_skip A rfl rfl ?_; clear A; intro a A)
      | ((with_reducible refine qg_bin ?_); first | ((refine qg_int A rfl ?_); first | (refine qx_cmp A rfl rfl rfl rfl ?_; clear A; intro a A) | (refine qx_arith A rfl rfl rfl rfl ?_; clear A; intro a A)) | ((refine qg_str A rfl ?_); first | (refine qx_scmp A rfl rfl rfl rfl ?_; clear A; intro a A) | (refine qx_concat A rfl rfl rfl rfl ?_; clear A; intro a A)))
      | ((with_reducible refine qg_builtin ?_); first | (refine qx_min A rfl rfl rfl rfl ?_; clear A; intro a A) | (refine qx_max A rfl rfl rfl rfl ?_; clear A; intro a A))
      | ((with_reducible refine qg_slice ?_); refine qx_sstr A tbOk rfl rfl rfl rfl rfl rfl ?_; clear A; intro a A)
      | ((with_reducible refine qg_load ?_); refine qx_load A tbOk rfl rfl rfl rfl ?_; clear A; intro a A)
      | ((with_reducible refine qg_idx ?_); first | (refine qx_idx H A tbOk rfl rfl rfl rfl rfl rfl ?_; clear A; intro a A) | (refine qx_oidx H A tbOk rfl rfl rfl rfl rfl rfl ?_; clear A; intro a A)))
    )
  refine sx_rounds (fun x : ByteArray => trimS x = r ∧ x.size ≤ s.size) (fun x => [(0, .string x), (1, _)]) (fun _ => []) (fun _ => []) (fun x => x.size) s H A.subs ⟨hr, Nat.le_refl _⟩ (fun x F a W hi H A => ?_)
  obtain ⟨hx, hxs⟩ := hi
  rcases Nat.eq_zero_or_pos x.size with h0 | h0
  · have hxr : x = r := by
      have : L x = [] := List.eq_nil_of_length_eq_zero (by rw [← size_L]; exact h0)
      rw [← hx]; apply L_inj; unfold trimS; rw [L_B, this]; rfl
    subst hxr
    repeat' (first
    | (refine sx_ret tbOk H A rfl ?_; exact H.ret0 fun Fx Hx => k Fx _ Hx)
    | with_reducible refine wp_seq ?_
    | with_reducible refine sx_region ?_
    | with_reducible refine wp_block ?_
    | with_reducible refine wpList_nil ?_
    | with_reducible refine sx_then ?_
    | with_reducible refine sx_inb ?_
    | with_reducible refine wp_skip ?_
    | with_reducible refine wp_ret ?_
    | with_reducible refine wp_exit ?_
    | with_reducible refine sx_then_ret ?_
    | with_reducible refine sx_inb_ret ?_
    | with_reducible refine sx_then_exit ?_
    | with_reducible refine sx_inb_exit ?_
    | with_reducible refine sx_inb_other rfl ?_
    | with_reducible refine sx_if_t A rfl ?_
    | with_reducible refine sx_if_f A rfl ?_
    | ((with_reducible refine sx_at ?_); first
      | (refine sx_pure A tbOk rfl rfl rfl ?_; clear A; intro a A)
      | (refine sx_skip A rfl rfl ?_; clear A; intro a A)
      | ((with_reducible refine g_bin ?_); first | ((refine g_int A rfl ?_); first | (refine sx_cmp A rfl rfl rfl rfl ?_; clear A; intro a A) | (refine sx_arith A rfl rfl rfl rfl ?_; clear A; intro a A) | (refine sx_shl A rfl rfl rfl rfl ?_; clear A; intro a A) | (refine sx_shr A rfl rfl rfl rfl ?_; clear A; intro a A)) | ((refine g_str A rfl ?_); first | (refine sx_scmp A rfl rfl rfl rfl ?_; clear A; intro a A) | (refine sx_concat A rfl rfl rfl rfl ?_; clear A; intro a A)))
      | ((with_reducible refine g_load ?_); first | (refine sx_load_all H A tbOk rfl rfl rfl rfl rfl ?_; clear A; intro a A) | (refine sx_load H A tbOk rfl rfl rfl rfl ?_; clear A; intro a A))
      | ((with_reducible refine g_store ?_); refine sx_store H A tbOk rfl rfl rfl rfl ?_; clear H; intro w_ H)
      | ((with_reducible refine g_box ?_); refine sx_box H A rfl rfl rfl ?_; clear H A; intro b_ a w_ A H)
      | ((with_reducible refine g_alloc ?_); refine sx_alloc H A tbOk rfl rfl rfl ?_; clear H A; intro b_ a w_ A H)
      | ((with_reducible refine g_build ?_); refine sx_build A tbOk rfl rfl rfl rfl rfl rfl ?_; clear A; intro a A)
      | ((with_reducible refine g_builtin ?_); first | (refine sx_min A rfl rfl rfl rfl ?_; clear A; intro a A) | (refine sx_max A rfl rfl rfl rfl ?_; clear A; intro a A))
      | ((with_reducible refine g_slice ?_); first | (refine sx_sstr A tbOk rfl rfl rfl rfl rfl rfl ?_; clear A; intro a A) | (refine sx_cut H A tbOk rfl rfl rfl rfl rfl rfl rfl ?_; clear A H; intro A_ c_ a hc_ A H))
      | ((with_reducible refine g_index ?_); refine sx_sidx A tbOk rfl rfl rfl rfl rfl ?_; clear A; intro a A)
      | ((with_reducible refine g_idx ?_); first | (refine sx_idx H A tbOk rfl rfl rfl rfl rfl rfl ?_; clear A; intro a A) | (refine sx_oidx H A tbOk rfl rfl rfl rfl rfl rfl ?_; clear A; intro a A))
      | ((with_reducible refine g_conv ?_); refine sx_conv A tbOk rfl rfl rfl rfl rfl ?_; clear A; intro a A)
      )
    | ((with_reducible refine g_draw ?_); refine qx_region H (by kernel_rfl) (by kernel_rfl) ?_)
    | ((with_reducible refine qx_nil ?_); clear H; intro w_ F_ H)
    | ((with_reducible refine q_at ?_); first
      | (refine qx_pure A tbOk rfl rfl rfl ?_; clear A; intro a A)
      | (refine qx_skip A rfl rfl ?_; clear A; intro a A)
      | ((with_reducible refine qg_bin ?_); first | ((refine qg_int A rfl ?_); first | (refine qx_cmp A rfl rfl rfl rfl ?_; clear A; intro a A) | (refine qx_arith A rfl rfl rfl rfl ?_; clear A; intro a A)) | ((refine qg_str A rfl ?_); first | (refine qx_scmp A rfl rfl rfl rfl ?_; clear A; intro a A) | (refine qx_concat A rfl rfl rfl rfl ?_; clear A; intro a A)))
      | ((with_reducible refine qg_builtin ?_); first | (refine qx_min A rfl rfl rfl rfl ?_; clear A; intro a A) | (refine qx_max A rfl rfl rfl rfl ?_; clear A; intro a A))
      | ((with_reducible refine qg_slice ?_); refine qx_sstr A tbOk rfl rfl rfl rfl rfl rfl ?_; clear A; intro a A)
      | ((with_reducible refine qg_load ?_); refine qx_load A tbOk rfl rfl rfl rfl ?_; clear A; intro a A)
      | ((with_reducible refine qg_idx ?_); first | (refine qx_idx H A tbOk rfl rfl rfl rfl rfl rfl ?_; clear A; intro a A) | (refine qx_oidx H A tbOk rfl rfl rfl rfl rfl rfl ?_; clear A; intro a A)))
    )
  · obtain ⟨t1, t2⟩ := trim_step x h0
    by_cases hb : bt x ((x.size : Int) - 1).toNat = 0
    · repeat' (first
    | with_reducible refine wp_seq ?_
    | with_reducible refine sx_region ?_
    | with_reducible refine wp_block ?_
    | with_reducible refine wpList_nil ?_
    | with_reducible refine sx_then ?_
    | with_reducible refine sx_inb ?_
    | with_reducible refine wp_skip ?_
    | with_reducible refine wp_ret ?_
    | with_reducible refine wp_exit ?_
    | with_reducible refine sx_then_ret ?_
    | with_reducible refine sx_inb_ret ?_
    | with_reducible refine sx_then_exit ?_
    | with_reducible refine sx_inb_exit ?_
    | with_reducible refine sx_inb_other rfl ?_
    | with_reducible refine sx_if_t A rfl ?_
    | with_reducible refine sx_if_f A rfl ?_
    | ((with_reducible refine sx_at ?_); first
      | (refine sx_pure A tbOk rfl rfl rfl ?_; clear A; intro a A)
      | (refine sx_skip A rfl rfl ?_; clear A; intro a A)
      | ((with_reducible refine g_bin ?_); first | ((refine g_int A rfl ?_); first | (refine sx_cmp A rfl rfl rfl rfl ?_; clear A; intro a A) | (refine sx_arith A rfl rfl rfl rfl ?_; clear A; intro a A) | (refine sx_shl A rfl rfl rfl rfl ?_; clear A; intro a A) | (refine sx_shr A rfl rfl rfl rfl ?_; clear A; intro a A)) | ((refine g_str A rfl ?_); first | (refine sx_scmp A rfl rfl rfl rfl ?_; clear A; intro a A) | (refine sx_concat A rfl rfl rfl rfl ?_; clear A; intro a A)))
      | ((with_reducible refine g_load ?_); first | (refine sx_load_all H A tbOk rfl rfl rfl rfl rfl ?_; clear A; intro a A) | (refine sx_load H A tbOk rfl rfl rfl rfl ?_; clear A; intro a A))
      | ((with_reducible refine g_store ?_); refine sx_store H A tbOk rfl rfl rfl rfl ?_; clear H; intro w_ H)
      | ((with_reducible refine g_box ?_); refine sx_box H A rfl rfl rfl ?_; clear H A; intro b_ a w_ A H)
      | ((with_reducible refine g_alloc ?_); refine sx_alloc H A tbOk rfl rfl rfl ?_; clear H A; intro b_ a w_ A H)
      | ((with_reducible refine g_build ?_); refine sx_build A tbOk rfl rfl rfl rfl rfl rfl ?_; clear A; intro a A)
      | ((with_reducible refine g_builtin ?_); first | (refine sx_min A rfl rfl rfl rfl ?_; clear A; intro a A) | (refine sx_max A rfl rfl rfl rfl ?_; clear A; intro a A))
      | ((with_reducible refine g_slice ?_); first | (refine sx_sstr A tbOk rfl rfl rfl rfl rfl rfl ?_; clear A; intro a A) | (refine sx_cut H A tbOk rfl rfl rfl rfl rfl rfl rfl ?_; clear A H; intro A_ c_ a hc_ A H))
      | ((with_reducible refine g_index ?_); refine sx_sidx A tbOk rfl rfl rfl rfl rfl ?_; clear A; intro a A)
      | ((with_reducible refine g_idx ?_); first | (refine sx_idx H A tbOk rfl rfl rfl rfl rfl rfl ?_; clear A; intro a A) | (refine sx_oidx H A tbOk rfl rfl rfl rfl rfl rfl ?_; clear A; intro a A))
      | ((with_reducible refine g_conv ?_); refine sx_conv A tbOk rfl rfl rfl rfl rfl ?_; clear A; intro a A)
      )
    | ((with_reducible refine g_draw ?_); refine qx_region H (by kernel_rfl) (by kernel_rfl) ?_)
    | ((with_reducible refine qx_nil ?_); clear H; intro w_ F_ H)
    | ((with_reducible refine q_at ?_); first
      | (refine qx_pure A tbOk rfl rfl rfl ?_; clear A; intro a A)
      | (refine qx_skip A rfl rfl ?_; clear A; intro a A)
      | ((with_reducible refine qg_bin ?_); first | ((refine qg_int A rfl ?_); first | (refine qx_cmp A rfl rfl rfl rfl ?_; clear A; intro a A) | (refine qx_arith A rfl rfl rfl rfl ?_; clear A; intro a A)) | ((refine qg_str A rfl ?_); first | (refine qx_scmp A rfl rfl rfl rfl ?_; clear A; intro a A) | (refine qx_concat A rfl rfl rfl rfl ?_; clear A; intro a A)))
      | ((with_reducible refine qg_builtin ?_); first | (refine qx_min A rfl rfl rfl rfl ?_; clear A; intro a A) | (refine qx_max A rfl rfl rfl rfl ?_; clear A; intro a A))
      | ((with_reducible refine qg_slice ?_); refine qx_sstr A tbOk rfl rfl rfl rfl rfl rfl ?_; clear A; intro a A)
      | ((with_reducible refine qg_load ?_); refine qx_load A tbOk rfl rfl rfl rfl ?_; clear A; intro a A)
      | ((with_reducible refine qg_idx ?_); first | (refine qx_idx H A tbOk rfl rfl rfl rfl rfl rfl ?_; clear A; intro a A) | (refine qx_oidx H A tbOk rfl rfl rfl rfl rfl rfl ?_; clear A; intro a A)))
    )
      refine ⟨_, F, ⟨(t1 hb).trans hx, ?_⟩, ?_, H, A.subs⟩
      · rw [ByteArray.size_extract]; omega
      · rw [ByteArray.size_extract]; omega
    · have hxr : x = r := (t2 hb).symm.trans hx
      subst hxr
      repeat' (first
    | (refine sx_ret tbOk H A rfl ?_; exact H.ret0 fun Fx Hx => k Fx _ Hx)
    | with_reducible refine wp_seq ?_
    | with_reducible refine sx_region ?_
    | with_reducible refine wp_block ?_
    | with_reducible refine wpList_nil ?_
    | with_reducible refine sx_then ?_
    | with_reducible refine sx_inb ?_
    | with_reducible refine wp_skip ?_
    | with_reducible refine wp_ret ?_
    | with_reducible refine wp_exit ?_
    | with_reducible refine sx_then_ret ?_
    | with_reducible refine sx_inb_ret ?_
    | with_reducible refine sx_then_exit ?_
    | with_reducible refine sx_inb_exit ?_
    | with_reducible refine sx_inb_other rfl ?_
    | with_reducible refine sx_if_t A rfl ?_
    | with_reducible refine sx_if_f A rfl ?_
    | ((with_reducible refine sx_at ?_); first
      | (refine sx_pure A tbOk rfl rfl rfl ?_; clear A; intro a A)
      | (refine sx_skip A rfl rfl ?_; clear A; intro a A)
      | ((with_reducible refine g_bin ?_); first | ((refine g_int A rfl ?_); first | (refine sx_cmp A rfl rfl rfl rfl ?_; clear A; intro a A) | (refine sx_arith A rfl rfl rfl rfl ?_; clear A; intro a A) | (refine sx_shl A rfl rfl rfl rfl ?_; clear A; intro a A) | (refine sx_shr A rfl rfl rfl rfl ?_; clear A; intro a A)) | ((refine g_str A rfl ?_); first | (refine sx_scmp A rfl rfl rfl rfl ?_; clear A; intro a A) | (refine sx_concat A rfl rfl rfl rfl ?_; clear A; intro a A)))
      | ((with_reducible refine g_load ?_); first | (refine sx_load_all H A tbOk rfl rfl rfl rfl rfl ?_; clear A; intro a A) | (refine sx_load H A tbOk rfl rfl rfl rfl ?_; clear A; intro a A))
      | ((with_reducible refine g_store ?_); refine sx_store H A tbOk rfl rfl rfl rfl ?_; clear H; intro w_ H)
      | ((with_reducible refine g_box ?_); refine sx_box H A rfl rfl rfl ?_; clear H A; intro b_ a w_ A H)
      | ((with_reducible refine g_alloc ?_); refine sx_alloc H A tbOk rfl rfl rfl ?_; clear H A; intro b_ a w_ A H)
      | ((with_reducible refine g_build ?_); refine sx_build A tbOk rfl rfl rfl rfl rfl rfl ?_; clear A; intro a A)
      | ((with_reducible refine g_builtin ?_); first | (refine sx_min A rfl rfl rfl rfl ?_; clear A; intro a A) | (refine sx_max A rfl rfl rfl rfl ?_; clear A; intro a A))
      | ((with_reducible refine g_slice ?_); first | (refine sx_sstr A tbOk rfl rfl rfl rfl rfl rfl ?_; clear A; intro a A) | (refine sx_cut H A tbOk rfl rfl rfl rfl rfl rfl rfl ?_; clear A H; intro A_ c_ a hc_ A H))
      | ((with_reducible refine g_index ?_); refine sx_sidx A tbOk rfl rfl rfl rfl rfl ?_; clear A; intro a A)
      | ((with_reducible refine g_idx ?_); first | (refine sx_idx H A tbOk rfl rfl rfl rfl rfl rfl ?_; clear A; intro a A) | (refine sx_oidx H A tbOk rfl rfl rfl rfl rfl rfl ?_; clear A; intro a A))
      | ((with_reducible refine g_conv ?_); refine sx_conv A tbOk rfl rfl rfl rfl rfl ?_; clear A; intro a A)
      )
    | ((with_reducible refine g_draw ?_); refine qx_region H (by kernel_rfl) (by kernel_rfl) ?_)
    | ((with_reducible refine qx_nil ?_); clear H; intro w_ F_ H)
    | ((with_reducible refine q_at ?_); first
      | (refine qx_pure A tbOk rfl rfl rfl ?_; clear A; intro a A)
      | (refine qx_skip A rfl rfl ?_; clear A; intro a A)
      | ((with_reducible refine qg_bin ?_); first | ((refine qg_int A rfl ?_); first | (refine qx_cmp A rfl rfl rfl rfl ?_; clear A; intro a A) | (refine qx_arith A rfl rfl rfl rfl ?_; clear A; intro a A)) | ((refine qg_str A rfl ?_); first | (refine qx_scmp A rfl rfl rfl rfl ?_; clear A; intro a A) | (refine qx_concat A rfl rfl rfl rfl ?_; clear A; intro a A)))
      | ((with_reducible refine qg_builtin ?_); first | (refine qx_min A rfl rfl rfl rfl ?_; clear A; intro a A) | (refine qx_max A rfl rfl rfl rfl ?_; clear A; intro a A))
      | ((with_reducible refine qg_slice ?_); refine qx_sstr A tbOk rfl rfl rfl rfl rfl rfl ?_; clear A; intro a A)
      | ((with_reducible refine qg_load ?_); refine qx_load A tbOk rfl rfl rfl rfl ?_; clear A; intro a A)
      | ((with_reducible refine qg_idx ?_); first | (refine qx_idx H A tbOk rfl rfl rfl rfl rfl rfl ?_; clear A; intro a A) | (refine qx_oidx H A tbOk rfl rfl rfl rfl rfl rfl ?_; clear A; intro a A)))
    )
theorem sl_TrimRight (H : St M F0 w0 F B R w) {s r : ByteArray} (h2 : s.size ≤ 4611686018427387904) (hr : trimS s = r) (k : ∀ Fx w', St M F0 w0 Fx B R w' → K (.returned (.string r)) w') : Calls Tryd.prog 72 #[.string s, .string ⟨#[0]⟩] w K := by
  refine St.fn0 H (R0 := []) no_mem (fun H => ?_)
  refine sx_enter Tryd.func72 Tryd.ntmps72 rfl rfl (fun a A => ?_)
  have hz : bt ⟨#[0]⟩ (0 : Int).toNat = 0 := rfl
  have hn : (⟨#[0]⟩ : ByteArray) ≠ ⟨#[]⟩ := by decide
  have hsz : ((⟨#[0]⟩ : ByteArray).size : Int) = 1 := rfl
  by_cases hs : s = ⟨#[]⟩
  · have : s = r := by rw [← hr, hs]; rfl
    subst this
    repeat' (first
    | (refine sx_ret tbOk H A rfl ?_; exact H.ret0 fun Fx Hx => k Fx _ Hx)
    | with_reducible refine wp_seq ?_
    | with_reducible refine sx_region ?_
    | with_reducible refine wp_block ?_
    | with_reducible refine wpList_nil ?_
    | with_reducible refine sx_then ?_
    | with_reducible refine sx_inb ?_
    | with_reducible refine wp_skip ?_
    | with_reducible refine wp_ret ?_
    | with_reducible refine wp_exit ?_
    | with_reducible refine sx_then_ret ?_
    | with_reducible refine sx_inb_ret ?_
    | with_reducible refine sx_then_exit ?_
    | with_reducible refine sx_inb_exit ?_
    | with_reducible refine sx_inb_other rfl ?_
    | with_reducible refine sx_if_t A rfl ?_
    | with_reducible refine sx_if_f A rfl ?_
    | ((with_reducible refine sx_at ?_); first
      | (refine sx_pure A tbOk rfl rfl rfl ?_; clear A; intro a A)
      | (refine sx_skip A rfl rfl ?_; clear A; intro a A)
      | ((with_reducible refine g_bin ?_); first | ((refine g_int A rfl ?_); first | (refine sx_cmp A rfl rfl rfl rfl ?_; clear A; intro a A) | (refine sx_arith A rfl rfl rfl rfl ?_; clear A; intro a A) | (refine sx_shl A rfl rfl rfl rfl ?_; clear A; intro a A) | (refine sx_shr A rfl rfl rfl rfl ?_; clear A; intro a A)) | ((refine g_str A rfl ?_); first | (refine sx_scmp A rfl rfl rfl rfl ?_; clear A; intro a A) | (refine sx_concat A rfl rfl rfl rfl ?_; clear A; intro a A)))
      | ((with_reducible refine g_load ?_); first | (refine sx_load_all H A tbOk rfl rfl rfl rfl rfl ?_; clear A; intro a A) | (refine sx_load H A tbOk rfl rfl rfl rfl ?_; clear A; intro a A))
      | ((with_reducible refine g_store ?_); refine sx_store H A tbOk rfl rfl rfl rfl ?_; clear H; intro w_ H)
      | ((with_reducible refine g_box ?_); refine sx_box H A rfl rfl rfl ?_; clear H A; intro b_ a w_ A H)
      | ((with_reducible refine g_alloc ?_); refine sx_alloc H A tbOk rfl rfl rfl ?_; clear H A; intro b_ a w_ A H)
      | ((with_reducible refine g_build ?_); refine sx_build A tbOk rfl rfl rfl rfl rfl rfl ?_; clear A; intro a A)
      | ((with_reducible refine g_builtin ?_); first | (refine sx_min A rfl rfl rfl rfl ?_; clear A; intro a A) | (refine sx_max A rfl rfl rfl rfl ?_; clear A; intro a A))
      | ((with_reducible refine g_slice ?_); first | (refine sx_sstr A tbOk rfl rfl rfl rfl rfl rfl ?_; clear A; intro a A) | (refine sx_cut H A tbOk rfl rfl rfl rfl rfl rfl rfl ?_; clear A H; intro A_ c_ a hc_ A H))
      | ((with_reducible refine g_index ?_); refine sx_sidx A tbOk rfl rfl rfl rfl rfl ?_; clear A; intro a A)
      | ((with_reducible refine g_idx ?_); first | (refine sx_idx H A tbOk rfl rfl rfl rfl rfl rfl ?_; clear A; intro a A) | (refine sx_oidx H A tbOk rfl rfl rfl rfl rfl rfl ?_; clear A; intro a A))
      | ((with_reducible refine g_conv ?_); refine sx_conv A tbOk rfl rfl rfl rfl rfl ?_; clear A; intro a A)
      )
    | ((with_reducible refine g_draw ?_); refine qx_region H (by kernel_rfl) (by kernel_rfl) ?_)
    | ((with_reducible refine qx_nil ?_); clear H; intro w_ F_ H)
    | ((with_reducible refine q_at ?_); first
      | (refine qx_pure A tbOk rfl rfl rfl ?_; clear A; intro a A)
      | (refine qx_skip A rfl rfl ?_; clear A; intro a A)
      | ((with_reducible refine qg_bin ?_); first | ((refine qg_int A rfl ?_); first | (refine qx_cmp A rfl rfl rfl rfl ?_; clear A; intro a A) | (refine qx_arith A rfl rfl rfl rfl ?_; clear A; intro a A)) | ((refine qg_str A rfl ?_); first | (refine qx_scmp A rfl rfl rfl rfl ?_; clear A; intro a A) | (refine qx_concat A rfl rfl rfl rfl ?_; clear A; intro a A)))
      | ((with_reducible refine qg_builtin ?_); first | (refine qx_min A rfl rfl rfl rfl ?_; clear A; intro a A) | (refine qx_max A rfl rfl rfl rfl ?_; clear A; intro a A))
      | ((with_reducible refine qg_slice ?_); refine qx_sstr A tbOk rfl rfl rfl rfl rfl rfl ?_; clear A; intro a A)
      | ((with_reducible refine qg_load ?_); refine qx_load A tbOk rfl rfl rfl rfl ?_; clear A; intro a A)
      | ((with_reducible refine qg_idx ?_); first | (refine qx_idx H A tbOk rfl rfl rfl rfl rfl rfl ?_; clear A; intro a A) | (refine qx_oidx H A tbOk rfl rfl rfl rfl rfl rfl ?_; clear A; intro a A)))
    )
  · repeat' (first
    | ((with_reducible refine g_call ?_); refine sx_call (f := 81) A rfl Tryd.call81 rfl rfl ?_; refine sl_trimRightByte H h2 hr ?_; clear H; intro F_ w_ H; refine ⟨_, rfl, ?_⟩; clear A; intro a A)
    | (refine sx_ret tbOk H A rfl ?_; exact H.ret0 fun Fx Hx => k Fx _ Hx)
    | with_reducible refine wp_seq ?_
    | with_reducible refine sx_region ?_
    | with_reducible refine wp_block ?_
    | with_reducible refine wpList_nil ?_
    | with_reducible refine sx_then ?_
    | with_reducible refine sx_inb ?_
    | with_reducible refine wp_skip ?_
    | with_reducible refine wp_ret ?_
    | with_reducible refine wp_exit ?_
    | with_reducible refine sx_then_ret ?_
    | with_reducible refine sx_inb_ret ?_
    | with_reducible refine sx_then_exit ?_
    | with_reducible refine sx_inb_exit ?_
    | with_reducible refine sx_inb_other rfl ?_
    | with_reducible refine sx_if_t A rfl ?_
    | with_reducible refine sx_if_f A rfl ?_
    | ((with_reducible refine sx_at ?_); first
      | (refine sx_pure A tbOk rfl rfl rfl ?_; clear A; intro a A)
      | (refine sx_skip A rfl rfl ?_; clear A; intro a A)
      | ((with_reducible refine g_bin ?_); first | ((refine g_int A rfl ?_); first | (refine sx_cmp A rfl rfl rfl rfl ?_; clear A; intro a A) | (refine sx_arith A rfl rfl rfl rfl ?_; clear A; intro a A) | (refine sx_shl A rfl rfl rfl rfl ?_; clear A; intro a A) | (refine sx_shr A rfl rfl rfl rfl ?_; clear A; intro a A)) | ((refine g_str A rfl ?_); first | (refine sx_scmp A rfl rfl rfl rfl ?_; clear A; intro a A) | (refine sx_concat A rfl rfl rfl rfl ?_; clear A; intro a A)))
      | ((with_reducible refine g_load ?_); first | (refine sx_load_all H A tbOk rfl rfl rfl rfl rfl ?_; clear A; intro a A) | (refine sx_load H A tbOk rfl rfl rfl rfl ?_; clear A; intro a A))
      | ((with_reducible refine g_store ?_); refine sx_store H A tbOk rfl rfl rfl rfl ?_; clear H; intro w_ H)
      | ((with_reducible refine g_box ?_); refine sx_box H A rfl rfl rfl ?_; clear H A; intro b_ a w_ A H)
      | ((with_reducible refine g_alloc ?_); refine sx_alloc H A tbOk rfl rfl rfl ?_; clear H A; intro b_ a w_ A H)
      | ((with_reducible refine g_build ?_); refine sx_build A tbOk rfl rfl rfl rfl rfl rfl ?_; clear A; intro a A)
      | ((with_reducible refine g_builtin ?_); first | (refine sx_min A rfl rfl rfl rfl ?_; clear A; intro a A) | (refine sx_max A rfl rfl rfl rfl ?_; clear A; intro a A))
      | ((with_reducible refine g_slice ?_); first | (refine sx_sstr A tbOk rfl rfl rfl rfl rfl rfl ?_; clear A; intro a A) | (refine sx_cut H A tbOk rfl rfl rfl rfl rfl rfl rfl ?_; clear A H; intro A_ c_ a hc_ A H))
      | ((with_reducible refine g_index ?_); refine sx_sidx A tbOk rfl rfl rfl rfl rfl ?_; clear A; intro a A)
      | ((with_reducible refine g_idx ?_); first | (refine sx_idx H A tbOk rfl rfl rfl rfl rfl rfl ?_; clear A; intro a A) | (refine sx_oidx H A tbOk rfl rfl rfl rfl rfl rfl ?_; clear A; intro a A))
      | ((with_reducible refine g_conv ?_); refine sx_conv A tbOk rfl rfl rfl rfl rfl ?_; clear A; intro a A)
      )
    | ((with_reducible refine g_draw ?_); refine qx_region H (by kernel_rfl) (by kernel_rfl) ?_)
    | ((with_reducible refine qx_nil ?_); clear H; intro w_ F_ H)
    | ((with_reducible refine q_at ?_); first
      | (refine qx_pure A tbOk rfl rfl rfl ?_; clear A; intro a A)
      | (refine qx_skip A rfl rfl ?_; clear A; intro a A)
      | ((with_reducible refine qg_bin ?_); first | ((refine qg_int A rfl ?_); first | (refine qx_cmp A rfl rfl rfl rfl ?_; clear A; intro a A) | (refine qx_arith A rfl rfl rfl rfl ?_; clear A; intro a A)) | ((refine qg_str A rfl ?_); first | (refine qx_scmp A rfl rfl rfl rfl ?_; clear A; intro a A) | (refine qx_concat A rfl rfl rfl rfl ?_; clear A; intro a A)))
      | ((with_reducible refine qg_builtin ?_); first | (refine qx_min A rfl rfl rfl rfl ?_; clear A; intro a A) | (refine qx_max A rfl rfl rfl rfl ?_; clear A; intro a A))
      | ((with_reducible refine qg_slice ?_); refine qx_sstr A tbOk rfl rfl rfl rfl rfl rfl ?_; clear A; intro a A)
      | ((with_reducible refine qg_load ?_); refine qx_load A tbOk rfl rfl rfl rfl ?_; clear A; intro a A)
      | ((with_reducible refine qg_idx ?_); first | (refine qx_idx H A tbOk rfl rfl rfl rfl rfl rfl ?_; clear A; intro a A) | (refine qx_oidx H A tbOk rfl rfl rfl rfl rfl rfl ?_; clear A; intro a A)))
    )
theorem sl_le_Trim (H : St M F0 w0 F B R w) {s r : ByteArray} (h2 : s.size ≤ 4611686018427387904) (hr : trimS s = r) (k : ∀ Fx w', St M F0 w0 Fx B R w' → K (.returned (.string r)) w') : Calls Tryd.prog 56 #[.string s] w K := by
  refine St.fn0 H (R0 := []) no_mem (fun H => ?_)
  refine sx_enter Tryd.func56 Tryd.ntmps56 rfl rfl (fun a A => ?_)
  repeat' (first
    | ((with_reducible refine g_call ?_); refine sx_call (f := 72) A rfl Tryd.call72 rfl rfl ?_; refine sl_TrimRight H h2 hr ?_; clear H; intro F_ w_ H; refine ⟨_, rfl, ?_⟩; clear A; intro a A)
    | (refine sx_ret tbOk H A rfl ?_; exact H.ret0 fun Fx Hx => k Fx _ Hx)
    | with_reducible refine wp_seq ?_
    | with_reducible refine sx_region ?_
    | with_reducible refine wp_block ?_
    | with_reducible refine wpList_nil ?_
    | with_reducible refine sx_then ?_
    | with_reducible refine sx_inb ?_
    | with_reducible refine wp_skip ?_
    | with_reducible refine wp_ret ?_
    | with_reducible refine wp_exit ?_
    | with_reducible refine sx_then_ret ?_
    | with_reducible refine sx_inb_ret ?_
    | with_reducible refine sx_then_exit ?_
    | with_reducible refine sx_inb_exit ?_
    | with_reducible refine sx_inb_other rfl ?_
    | with_reducible refine sx_if_t A rfl ?_
    | with_reducible refine sx_if_f A rfl ?_
    | ((with_reducible refine sx_at ?_); first
      | (refine sx_pure A tbOk rfl rfl rfl ?_; clear A; intro a A)
      | (refine sx_skip A rfl rfl ?_; clear A; intro a A)
      | ((with_reducible refine g_bin ?_); first | ((refine g_int A rfl ?_); first | (refine sx_cmp A rfl rfl rfl rfl ?_; clear A; intro a A) | (refine sx_arith A rfl rfl rfl rfl ?_; clear A; intro a A) | (refine sx_shl A rfl rfl rfl rfl ?_; clear A; intro a A) | (refine sx_shr A rfl rfl rfl rfl ?_; clear A; intro a A)) | ((refine g_str A rfl ?_); first | (refine sx_scmp A rfl rfl rfl rfl ?_; clear A; intro a A) | (refine sx_concat A rfl rfl rfl rfl ?_; clear A; intro a A)))
      | ((with_reducible refine g_load ?_); first | (refine sx_load_all H A tbOk rfl rfl rfl rfl rfl ?_; clear A; intro a A) | (refine sx_load H A tbOk rfl rfl rfl rfl ?_; clear A; intro a A))
      | ((with_reducible refine g_store ?_); refine sx_store H A tbOk rfl rfl rfl rfl ?_; clear H; intro w_ H)
      | ((with_reducible refine g_box ?_); refine sx_box H A rfl rfl rfl ?_; clear H A; intro b_ a w_ A H)
      | ((with_reducible refine g_alloc ?_); refine sx_alloc H A tbOk rfl rfl rfl ?_; clear H A; intro b_ a w_ A H)
      | ((with_reducible refine g_build ?_); refine sx_build A tbOk rfl rfl rfl rfl rfl rfl ?_; clear A; intro a A)
      | ((with_reducible refine g_builtin ?_); first | (refine sx_min A rfl rfl rfl rfl ?_; clear A; intro a A) | (refine sx_max A rfl rfl rfl rfl ?_; clear A; intro a A))
      | ((with_reducible refine g_slice ?_); first | (refine sx_sstr A tbOk rfl rfl rfl rfl rfl rfl ?_; clear A; intro a A) | (refine sx_cut H A tbOk rfl rfl rfl rfl rfl rfl rfl ?_; clear A H; intro A_ c_ a hc_ A H))
      | ((with_reducible refine g_index ?_); refine sx_sidx A tbOk rfl rfl rfl rfl rfl ?_; clear A; intro a A)
      | ((with_reducible refine g_idx ?_); first | (refine sx_idx H A tbOk rfl rfl rfl rfl rfl rfl ?_; clear A; intro a A) | (refine sx_oidx H A tbOk rfl rfl rfl rfl rfl rfl ?_; clear A; intro a A))
      | ((with_reducible refine g_conv ?_); refine sx_conv A tbOk rfl rfl rfl rfl rfl ?_; clear A; intro a A)
      )
    | ((with_reducible refine g_draw ?_); refine qx_region H (by kernel_rfl) (by kernel_rfl) ?_)
    | ((with_reducible refine qx_nil ?_); clear H; intro w_ F_ H)
    | ((with_reducible refine q_at ?_); first
      | (refine qx_pure A tbOk rfl rfl rfl ?_; clear A; intro a A)
      | (refine qx_skip A rfl rfl ?_; clear A; intro a A)
      | ((with_reducible refine qg_bin ?_); first | ((refine qg_int A rfl ?_); first | (refine qx_cmp A rfl rfl rfl rfl ?_; clear A; intro a A) | (refine qx_arith A rfl rfl rfl rfl ?_; clear A; intro a A)) | ((refine qg_str A rfl ?_); first | (refine qx_scmp A rfl rfl rfl rfl ?_; clear A; intro a A) | (refine qx_concat A rfl rfl rfl rfl ?_; clear A; intro a A)))
      | ((with_reducible refine qg_builtin ?_); first | (refine qx_min A rfl rfl rfl rfl ?_; clear A; intro a A) | (refine qx_max A rfl rfl rfl rfl ?_; clear A; intro a A))
      | ((with_reducible refine qg_slice ?_); refine qx_sstr A tbOk rfl rfl rfl rfl rfl rfl ?_; clear A; intro a A)
      | ((with_reducible refine qg_load ?_); refine qx_load A tbOk rfl rfl rfl rfl ?_; clear A; intro a A)
      | ((with_reducible refine qg_idx ?_); first | (refine qx_idx H A tbOk rfl rfl rfl rfl rfl rfl ?_; clear A; intro a A) | (refine qx_oidx H A tbOk rfl rfl rfl rfl rfl rfl ?_; clear A; intro a A)))
    )
theorem sl_le_Fill (H : St M F0 w0 F B R w) {s r : ByteArray} {size e : Int} (h2 : s.size ≤ 70368744177664) (h3 : size ≤ 70368744177664) (hr : fillS s size = (r, e)) (k : ∀ Fx w', St M F0 w0 Fx B R w' → K (.returned (.tuple #[.string r, .int .i64 e])) w') : Calls Tryd.prog 79 #[.string s, .int .i64 size] w K := by
  refine St.fn0 H (R0 := []) no_mem (fun H => ?_)
  refine sx_enter Tryd.func79 Tryd.ntmps79 rfl rfl (fun a A => ?_)
  unfold fillS at hr
  by_cases hc : (s.size : Int) > size
  · rw [if_pos hc] at hr
    obtain ⟨rfl, rfl⟩ := Prod.mk.inj hr
    repeat' (first
    | (refine sx_ret tbOk H A rfl ?_; exact H.ret0 fun Fx Hx => k Fx _ Hx)
    | with_reducible refine wp_seq ?_
    | with_reducible refine sx_region ?_
    | with_reducible refine wp_block ?_
    | with_reducible refine wpList_nil ?_
    | with_reducible refine sx_then ?_
    | with_reducible refine sx_inb ?_
    | with_reducible refine wp_skip ?_
    | with_reducible refine wp_ret ?_
    | with_reducible refine wp_exit ?_
    | with_reducible refine sx_then_ret ?_
    | with_reducible refine sx_inb_ret ?_
    | with_reducible refine sx_then_exit ?_
    | with_reducible refine sx_inb_exit ?_
    | with_reducible refine sx_inb_other rfl ?_
    | with_reducible refine sx_if_t A rfl ?_
    | with_reducible refine sx_if_f A rfl ?_
    | ((with_reducible refine sx_at ?_); first
      | (refine sx_pure A tbOk rfl rfl rfl ?_; clear A; intro a A)
      | (refine sx_skip A rfl rfl ?_; clear A; intro a A)
      | ((with_reducible refine g_bin ?_); first | ((refine g_int A rfl ?_); first | (refine sx_cmp A rfl rfl rfl rfl ?_; clear A; intro a A) | (refine sx_arith A rfl rfl rfl rfl ?_; clear A; intro a A) | (refine sx_shl A rfl rfl rfl rfl ?_; clear A; intro a A) | (refine sx_shr A rfl rfl rfl rfl ?_; clear A; intro a A)) | ((refine g_str A rfl ?_); first | (refine sx_scmp A rfl rfl rfl rfl ?_; clear A; intro a A) | (refine sx_concat A rfl rfl rfl rfl ?_; clear A; intro a A)))
      | ((with_reducible refine g_load ?_); first | (refine sx_load_all H A tbOk rfl rfl rfl rfl rfl ?_; clear A; intro a A) | (refine sx_load H A tbOk rfl rfl rfl rfl ?_; clear A; intro a A))
      | ((with_reducible refine g_store ?_); refine sx_store H A tbOk rfl rfl rfl rfl ?_; clear H; intro w_ H)
      | ((with_reducible refine g_box ?_); refine sx_box H A rfl rfl rfl ?_; clear H A; intro b_ a w_ A H)
      | ((with_reducible refine g_alloc ?_); refine sx_alloc H A tbOk rfl rfl rfl ?_; clear H A; intro b_ a w_ A H)
      | ((with_reducible refine g_build ?_); refine sx_build A tbOk rfl rfl rfl rfl rfl rfl ?_; clear A; intro a A)
      | ((with_reducible refine g_builtin ?_); first | (refine sx_min A rfl rfl rfl rfl ?_; clear A; intro a A) | (refine sx_max A rfl rfl rfl rfl ?_; clear A; intro a A))
      | ((with_reducible refine g_slice ?_); first | (refine sx_sstr A tbOk rfl rfl rfl rfl rfl rfl ?_; clear A; intro a A) | (refine sx_cut H A tbOk rfl rfl rfl rfl rfl rfl rfl ?_; clear A H; intro A_ c_ a hc_ A H))
      | ((with_reducible refine g_index ?_); refine sx_sidx A tbOk rfl rfl rfl rfl rfl ?_; clear A; intro a A)
      | ((with_reducible refine g_idx ?_); first | (refine sx_idx H A tbOk rfl rfl rfl rfl rfl rfl ?_; clear A; intro a A) | (refine sx_oidx H A tbOk rfl rfl rfl rfl rfl rfl ?_; clear A; intro a A))
      | ((with_reducible refine g_conv ?_); refine sx_conv A tbOk rfl rfl rfl rfl rfl ?_; clear A; intro a A)
      )
    | ((with_reducible refine g_draw ?_); refine qx_region H (by kernel_rfl) (by kernel_rfl) ?_)
    | ((with_reducible refine qx_nil ?_); clear H; intro w_ F_ H)
    | ((with_reducible refine q_at ?_); first
      | (refine qx_pure A tbOk rfl rfl rfl ?_; clear A; intro a A)
      | (refine qx_skip A rfl rfl ?_; clear A; intro a A)
      | ((with_reducible refine qg_bin ?_); first | ((refine qg_int A rfl ?_); first | (refine qx_cmp A rfl rfl rfl rfl ?_; clear A; intro a A) | (refine qx_arith A rfl rfl rfl rfl ?_; clear A; intro a A)) | ((refine qg_str A rfl ?_); first | (refine qx_scmp A rfl rfl rfl rfl ?_; clear A; intro a A) | (refine qx_concat A rfl rfl rfl rfl ?_; clear A; intro a A)))
      | ((with_reducible refine qg_builtin ?_); first | (refine qx_min A rfl rfl rfl rfl ?_; clear A; intro a A) | (refine qx_max A rfl rfl rfl rfl ?_; clear A; intro a A))
      | ((with_reducible refine qg_slice ?_); refine qx_sstr A tbOk rfl rfl rfl rfl rfl rfl ?_; clear A; intro a A)
      | ((with_reducible refine qg_load ?_); refine qx_load A tbOk rfl rfl rfl rfl ?_; clear A; intro a A)
      | ((with_reducible refine qg_idx ?_); first | (refine qx_idx H A tbOk rfl rfl rfl rfl rfl rfl ?_; clear A; intro a A) | (refine qx_oidx H A tbOk rfl rfl rfl rfl rfl rfl ?_; clear A; intro a A)))
    )
  · rw [if_neg hc] at hr
    obtain ⟨hr1, rfl⟩ := Prod.mk.inj hr
    have hm : (size - (s.size : Int)).toNat = size.toNat - s.size := by omega
    have hq : s ++ strB (List.replicate (size.toNat - s.size) 0) = r := by
      rw [← hr1]; apply L_inj; rw [L_append, L_strB, L_B, List.map_replicate]; rfl
    have hsz := strB_size (List.replicate (size.toNat - s.size) 0)
    rw [List.length_replicate] at hsz
    repeat' (first
    | ((with_reducible refine g_make ?_); refine sx_make (dk := Kd.int .u8) H A tbOk rfl rfl rfl rfl rfl rfl 0 (fun _ => rfl) rfl ?_ (hm' := hm); clear H A; intro br a w_ A H)
    | ((with_reducible refine g_conv ?_); refine sx_ob2s H A tbOk rfl rfl rfl rfl rfl rfl ?_; clear A; intro a A)
    | (refine sx_ret tbOk H A rfl ?_; exact H.ret0 fun Fx Hx => by (have := k Fx _ Hx; rw [← hq] at this; exact this))
    | with_reducible refine wp_seq ?_
    | with_reducible refine sx_region ?_
    | with_reducible refine wp_block ?_
    | with_reducible refine wpList_nil ?_
    | with_reducible refine sx_then ?_
    | with_reducible refine sx_inb ?_
    | with_reducible refine wp_skip ?_
    | with_reducible refine wp_ret ?_
    | with_reducible refine wp_exit ?_
    | with_reducible refine sx_then_ret ?_
    | with_reducible refine sx_inb_ret ?_
    | with_reducible refine sx_then_exit ?_
    | with_reducible refine sx_inb_exit ?_
    | with_reducible refine sx_inb_other rfl ?_
    | with_reducible refine sx_if_t A rfl ?_
    | with_reducible refine sx_if_f A rfl ?_
    | ((with_reducible refine sx_at ?_); first
      | (refine sx_pure A tbOk rfl rfl rfl ?_; clear A; intro a A)
      | (refine sx_skip A rfl rfl ?_; clear A; intro a A)
      | ((with_reducible refine g_bin ?_); first | ((refine g_int A rfl ?_); first | (refine sx_cmp A rfl rfl rfl rfl ?_; clear A; intro a A) | (refine sx_arith A rfl rfl rfl rfl ?_; clear A; intro a A) | (refine sx_shl A rfl rfl rfl rfl ?_; clear A; intro a A) | (refine sx_shr A rfl rfl rfl rfl ?_; clear A; intro a A)) | ((refine g_str A rfl ?_); first | (refine sx_scmp A rfl rfl rfl rfl ?_; clear A; intro a A) | (refine sx_concat A rfl rfl rfl rfl ?_; clear A; intro a A)))
      | ((with_reducible refine g_load ?_); first | (refine sx_load_all H A tbOk rfl rfl rfl rfl rfl ?_; clear A; intro a A) | (refine sx_load H A tbOk rfl rfl rfl rfl ?_; clear A; intro a A))
      | ((with_reducible refine g_store ?_); refine sx_store H A tbOk rfl rfl rfl rfl ?_; clear H; intro w_ H)
      | ((with_reducible refine g_box ?_); refine sx_box H A rfl rfl rfl ?_; clear H A; intro b_ a w_ A H)
      | ((with_reducible refine g_alloc ?_); refine sx_alloc H A tbOk rfl rfl rfl ?_; clear H A; intro b_ a w_ A H)
      | ((with_reducible refine g_build ?_); refine sx_build A tbOk rfl rfl rfl rfl rfl rfl ?_; clear A; intro a A)
      | ((with_reducible refine g_builtin ?_); first | (refine sx_min A rfl rfl rfl rfl ?_; clear A; intro a A) | (refine sx_max A rfl rfl rfl rfl ?_; clear A; intro a A))
      | ((with_reducible refine g_slice ?_); first | (refine sx_sstr A tbOk rfl rfl rfl rfl rfl rfl ?_; clear A; intro a A) | (refine sx_cut H A tbOk rfl rfl rfl rfl rfl rfl rfl ?_; clear A H; intro A_ c_ a hc_ A H))
      | ((with_reducible refine g_index ?_); refine sx_sidx A tbOk rfl rfl rfl rfl rfl ?_; clear A; intro a A)
      | ((with_reducible refine g_idx ?_); first | (refine sx_idx H A tbOk rfl rfl rfl rfl rfl rfl ?_; clear A; intro a A) | (refine sx_oidx H A tbOk rfl rfl rfl rfl rfl rfl ?_; clear A; intro a A))
      | ((with_reducible refine g_conv ?_); refine sx_conv A tbOk rfl rfl rfl rfl rfl ?_; clear A; intro a A)
      )
    | ((with_reducible refine g_draw ?_); refine qx_region H (by kernel_rfl) (by kernel_rfl) ?_)
    | ((with_reducible refine qx_nil ?_); clear H; intro w_ F_ H)
    | ((with_reducible refine q_at ?_); first
      | (refine qx_pure A tbOk rfl rfl rfl ?_; clear A; intro a A)
      | (refine qx_skip A rfl rfl ?_; clear A; intro a A)
      | ((with_reducible refine qg_bin ?_); first | ((refine qg_int A rfl ?_); first | (refine qx_cmp A rfl rfl rfl rfl ?_; clear A; intro a A) | (refine qx_arith A rfl rfl rfl rfl ?_; clear A; intro a A)) | ((refine qg_str A rfl ?_); first | (refine qx_scmp A rfl rfl rfl rfl ?_; clear A; intro a A) | (refine qx_concat A rfl rfl rfl rfl ?_; clear A; intro a A)))
      | ((with_reducible refine qg_builtin ?_); first | (refine qx_min A rfl rfl rfl rfl ?_; clear A; intro a A) | (refine qx_max A rfl rfl rfl rfl ?_; clear A; intro a A))
      | ((with_reducible refine qg_slice ?_); refine qx_sstr A tbOk rfl rfl rfl rfl rfl rfl ?_; clear A; intro a A)
      | ((with_reducible refine qg_load ?_); refine qx_load A tbOk rfl rfl rfl rfl ?_; clear A; intro a A)
      | ((with_reducible refine qg_idx ?_); first | (refine qx_idx H A tbOk rfl rfl rfl rfl rfl rfl ?_; clear A; intro a A) | (refine qx_oidx H A tbOk rfl rfl rfl rfl rfl rfl ?_; clear A; intro a A)))
    )
end
end Go.Proofs.YtniplmjbligmlaaDoor.V

/-! The reference of layer 1, walked: zero bytes off. -/
namespace Go.Proofs.YtniplmjbligmlaaDoor.V
open Go.RowKit
set_option linter.unusedVariables false
set_option linter.unusedSimpArgs false
section
variable {M F0 F : Nat → Prop} {w0 w : World} {B : List Box} {R : List (World → Prop)} {K : Ending → World → Prop}
set_option maxRecDepth 100000
set_option maxHeartbeats 4000000
theorem sl_ref01_Trim (H : St M F0 w0 F B R w) {s r : ByteArray} (h2 : s.size ≤ 4611686018427387904) (hr : trimS s = r) (k : ∀ Fx w', St M F0 w0 Fx B R w' → K (.returned (.string r)) w') : Calls Tryd.prog 41 #[.string s] w K := by
  refine St.fn0 H (R0 := []) no_mem (fun H => ?_)
  refine sx_enter Tryd.func41 Tryd.ntmps41 rfl rfl (fun a A => ?_)
  repeat' (first
    | with_reducible refine wp_seq ?_
    | with_reducible refine sx_region ?_
    | with_reducible refine wp_block ?_
    | with_reducible refine wpList_nil ?_
    | with_reducible refine sx_then ?_
    | with_reducible refine sx_inb ?_
    | with_reducible refine wp_skip ?_
    | with_reducible refine wp_ret ?_
    | with_reducible refine wp_exit ?_
    | with_reducible refine sx_then_ret ?_
    | with_reducible refine sx_inb_ret ?_
    | with_reducible refine sx_then_exit ?_
    | with_reducible refine sx_inb_exit ?_
    | with_reducible refine sx_inb_other rfl ?_
    | with_reducible refine sx_if_t A rfl ?_
    | with_reducible refine sx_if_f A rfl ?_
    | ((with_reducible refine sx_at ?_); first
      | (refine sx_pure A tbOk rfl rfl rfl ?_; clear A; intro a A)
      | (refine sx_skip A rfl rfl ?_; clear A; intro a A)
      | ((with_reducible refine g_bin ?_); first | ((refine g_int A rfl ?_); first | (refine sx_cmp A rfl rfl rfl rfl ?_; clear A; intro a A) | (refine sx_arith A rfl rfl rfl rfl ?_; clear A; intro a A) | (refine sx_shl A rfl rfl rfl rfl ?_; clear A; intro a A) | (refine sx_shr A rfl rfl rfl rfl ?_; clear A; intro a A)) | ((refine g_str A rfl ?_); first | (refine sx_scmp A rfl rfl rfl rfl ?_; clear A; intro a A) | (refine sx_concat A rfl rfl rfl rfl ?_; clear A; intro a A)))
      | ((with_reducible refine g_load ?_); first | (refine sx_load_all H A tbOk rfl rfl rfl rfl rfl ?_; clear A; intro a A) | (refine sx_load H A tbOk rfl rfl rfl rfl ?_; clear A; intro a A))
      | ((with_reducible refine g_store ?_); refine sx_store H A tbOk rfl rfl rfl rfl ?_; clear H; intro w_ H)
      | ((with_reducible refine g_box ?_); refine sx_box H A rfl rfl rfl ?_; clear H A; intro b_ a w_ A H)
      | ((with_reducible refine g_alloc ?_); refine sx_alloc H A tbOk rfl rfl rfl ?_; clear H A; intro b_ a w_ A H)
      | ((with_reducible refine g_build ?_); refine sx_build A tbOk rfl rfl rfl rfl rfl rfl ?_; clear A; intro a A)
      | ((with_reducible refine g_builtin ?_); first | (refine sx_min A rfl rfl rfl rfl ?_; clear A; intro a A) | (refine sx_max A rfl rfl rfl rfl ?_; clear A; intro a A))
      | ((with_reducible refine g_slice ?_); first | (refine sx_sstr A tbOk rfl rfl rfl rfl rfl rfl ?_; clear A; intro a A) | (refine sx_cut H A tbOk rfl rfl rfl rfl rfl rfl rfl ?_; clear A H; intro A_ c_ a hc_ A H))
      | ((with_reducible refine g_index ?_); refine sx_sidx A tbOk rfl rfl rfl rfl rfl ?_; clear A; intro a A)
      | ((with_reducible refine g_idx ?_); first | (refine sx_idx H A tbOk rfl rfl rfl rfl rfl rfl ?_; clear A; intro a A) | (refine sx_oidx H A tbOk rfl rfl rfl rfl rfl rfl ?_; clear A; intro a A))
      | ((with_reducible refine g_conv ?_); refine sx_conv A tbOk rfl rfl rfl rfl rfl ?_; clear A; intro a A)
      )
    | ((with_reducible refine g_draw ?_); refine qx_region H (by kernel_rfl) (by kernel_rfl) ?_)
    | ((with_reducible refine qx_nil ?_); clear H; intro w_ F_ H)
    | ((with_reducible refine q_at ?_); first
      | (refine qx_pure A tbOk rfl rfl rfl ?_; clear A; intro a A)
      | (refine qx_skip A rfl rfl ?_; clear A; intro a A)
      | ((with_reducible refine qg_bin ?_); first | ((refine qg_int A rfl ?_); first | (refine qx_cmp A rfl rfl rfl rfl ?_; clear A; intro a A) | (refine qx_arith A rfl rfl rfl rfl ?_; clear A; intro a A)) | ((refine qg_str A rfl ?_); first | (refine qx_scmp A rfl rfl rfl rfl ?_; clear A; intro a A) | (refine qx_concat A rfl rfl rfl rfl ?_; clear A; intro a A)))
      | ((with_reducible refine qg_builtin ?_); first | (refine qx_min A rfl rfl rfl rfl ?_; clear A; intro a A) | (refine qx_max A rfl rfl rfl rfl ?_; clear A; intro a A))
      | ((with_reducible refine qg_slice ?_); refine qx_sstr A tbOk rfl rfl rfl rfl rfl rfl ?_; clear A; intro a A)
      | ((with_reducible refine qg_load ?_); refine qx_load A tbOk rfl rfl rfl rfl ?_; clear A; intro a A)
      | ((with_reducible refine qg_idx ?_); first | (refine qx_idx H A tbOk rfl rfl rfl rfl rfl rfl ?_; clear A; intro a A) | (refine qx_oidx H A tbOk rfl rfl rfl rfl rfl rfl ?_; clear A; intro a A)))
    )
  have hsz := size_L s
  refine sx_rounds (fun n : Nat => n ≤ s.size ∧ trimL ((L s).take n) = trimL (L s)) (fun n => [(3, .int .i64 (n : Int)), (0, _)]) (fun _ => []) (fun _ => []) (fun n => n) s.size H A.subs ⟨Nat.le_refl _, by rw [hsz, List.take_length]⟩ (fun n F a W hi H A => ?_)
  obtain ⟨hn, ht⟩ := hi
  have hex : s.extract (0 : Int).toNat (n : Int).toNat = Go.Proofs.YtniplmjbligmlaaDoor.V.B ((L s).take n) := by apply L_inj; rw [L_extract, L_B]; simp
  rcases Nat.eq_zero_or_pos n with h0 | h0
  · have hx : s.extract (0 : Int).toNat (n : Int).toNat = r := by
      rw [hex, ← hr, h0]; unfold trimS; rw [← ht, h0]; rfl
    repeat' (first
    | (refine sx_ret tbOk H A rfl ?_; exact H.ret0 fun Fx Hx => k Fx _ Hx)
    | with_reducible refine wp_seq ?_
    | with_reducible refine sx_region ?_
    | with_reducible refine wp_block ?_
    | with_reducible refine wpList_nil ?_
    | with_reducible refine sx_then ?_
    | with_reducible refine sx_inb ?_
    | with_reducible refine wp_skip ?_
    | with_reducible refine wp_ret ?_
    | with_reducible refine wp_exit ?_
    | with_reducible refine sx_then_ret ?_
    | with_reducible refine sx_inb_ret ?_
    | with_reducible refine sx_then_exit ?_
    | with_reducible refine sx_inb_exit ?_
    | with_reducible refine sx_inb_other rfl ?_
    | with_reducible refine sx_if_t A rfl ?_
    | with_reducible refine sx_if_f A rfl ?_
    | ((with_reducible refine sx_at ?_); first
      | (refine sx_pure A tbOk rfl rfl rfl ?_; clear A; intro a A)
      | (refine sx_skip A rfl rfl ?_; clear A; intro a A)
      | ((with_reducible refine g_bin ?_); first | ((refine g_int A rfl ?_); first | (refine sx_cmp A rfl rfl rfl rfl ?_; clear A; intro a A) | (refine sx_arith A rfl rfl rfl rfl ?_; clear A; intro a A) | (refine sx_shl A rfl rfl rfl rfl ?_; clear A; intro a A) | (refine sx_shr A rfl rfl rfl rfl ?_; clear A; intro a A)) | ((refine g_str A rfl ?_); first | (refine sx_scmp A rfl rfl rfl rfl ?_; clear A; intro a A) | (refine sx_concat A rfl rfl rfl rfl ?_; clear A; intro a A)))
      | ((with_reducible refine g_load ?_); first | (refine sx_load_all H A tbOk rfl rfl rfl rfl rfl ?_; clear A; intro a A) | (refine sx_load H A tbOk rfl rfl rfl rfl ?_; clear A; intro a A))
      | ((with_reducible refine g_store ?_); refine sx_store H A tbOk rfl rfl rfl rfl ?_; clear H; intro w_ H)
      | ((with_reducible refine g_box ?_); refine sx_box H A rfl rfl rfl ?_; clear H A; intro b_ a w_ A H)
      | ((with_reducible refine g_alloc ?_); refine sx_alloc H A tbOk rfl rfl rfl ?_; clear H A; intro b_ a w_ A H)
      | ((with_reducible refine g_build ?_); refine sx_build A tbOk rfl rfl rfl rfl rfl rfl ?_; clear A; intro a A)
      | ((with_reducible refine g_builtin ?_); first | (refine sx_min A rfl rfl rfl rfl ?_; clear A; intro a A) | (refine sx_max A rfl rfl rfl rfl ?_; clear A; intro a A))
      | ((with_reducible refine g_slice ?_); first | (refine sx_sstr A tbOk rfl rfl rfl rfl rfl rfl ?_; clear A; intro a A) | (refine sx_cut H A tbOk rfl rfl rfl rfl rfl rfl rfl ?_; clear A H; intro A_ c_ a hc_ A H))
      | ((with_reducible refine g_index ?_); refine sx_sidx A tbOk rfl rfl rfl rfl rfl ?_; clear A; intro a A)
      | ((with_reducible refine g_idx ?_); first | (refine sx_idx H A tbOk rfl rfl rfl rfl rfl rfl ?_; clear A; intro a A) | (refine sx_oidx H A tbOk rfl rfl rfl rfl rfl rfl ?_; clear A; intro a A))
      | ((with_reducible refine g_conv ?_); refine sx_conv A tbOk rfl rfl rfl rfl rfl ?_; clear A; intro a A)
      )
    | ((with_reducible refine g_draw ?_); refine qx_region H (by kernel_rfl) (by kernel_rfl) ?_)
    | ((with_reducible refine qx_nil ?_); clear H; intro w_ F_ H)
    | ((with_reducible refine q_at ?_); first
      | (refine qx_pure A tbOk rfl rfl rfl ?_; clear A; intro a A)
      | (refine qx_skip A rfl rfl ?_; clear A; intro a A)
      | ((with_reducible refine qg_bin ?_); first | ((refine qg_int A rfl ?_); first | (refine qx_cmp A rfl rfl rfl rfl ?_; clear A; intro a A) | (refine qx_arith A rfl rfl rfl rfl ?_; clear A; intro a A)) | ((refine qg_str A rfl ?_); first | (refine qx_scmp A rfl rfl rfl rfl ?_; clear A; intro a A) | (refine qx_concat A rfl rfl rfl rfl ?_; clear A; intro a A)))
      | ((with_reducible refine qg_builtin ?_); first | (refine qx_min A rfl rfl rfl rfl ?_; clear A; intro a A) | (refine qx_max A rfl rfl rfl rfl ?_; clear A; intro a A))
      | ((with_reducible refine qg_slice ?_); refine qx_sstr A tbOk rfl rfl rfl rfl rfl rfl ?_; clear A; intro a A)
      | ((with_reducible refine qg_load ?_); refine qx_load A tbOk rfl rfl rfl rfl ?_; clear A; intro a A)
      | ((with_reducible refine qg_idx ?_); first | (refine qx_idx H A tbOk rfl rfl rfl rfl rfl rfl ?_; clear A; intro a A) | (refine qx_oidx H A tbOk rfl rfl rfl rfl rfl rfl ?_; clear A; intro a A)))
    )
  · have hlt : n - 1 < (L s).length := by omega
    obtain ⟨b, hb⟩ : ∃ b, (L s)[n - 1]? = some b := ⟨_, List.getElem?_eq_getElem hlt⟩
    obtain ⟨_, hb2⟩ := List.getElem?_eq_some_iff.1 hb
    have htk : (L s).take n = (L s).take (n - 1) ++ [b] := by
      conv => lhs; rw [show n = n - 1 + 1 by omega]
      rw [List.take_succ_eq_append_getElem hlt, hb2]
    have hbt : bt s ((n : Int) - 1).toNat = (b.toNat : Int) := by
      have e1 : ((n : Int) - 1).toNat = n - 1 := by omega
      rw [bt_L s _ (by omega)]; simp only [e1, hb2]
    by_cases hb0 : b = 0
    · have hbz : bt s ((n : Int) - 1).toNat = 0 := by rw [hbt]; exact (byte_zero b).2 hb0
      have hnn : ((n : Int) - 1) = ((n - 1 : Nat) : Int) := by omega
      repeat' (first
    | with_reducible refine wp_seq ?_
    | with_reducible refine sx_region ?_
    | with_reducible refine wp_block ?_
    | with_reducible refine wpList_nil ?_
    | with_reducible refine sx_then ?_
    | with_reducible refine sx_inb ?_
    | with_reducible refine wp_skip ?_
    | with_reducible refine wp_ret ?_
    | with_reducible refine wp_exit ?_
    | with_reducible refine sx_then_ret ?_
    | with_reducible refine sx_inb_ret ?_
    | with_reducible refine sx_then_exit ?_
    | with_reducible refine sx_inb_exit ?_
    | with_reducible refine sx_inb_other rfl ?_
    | with_reducible refine sx_if_t A rfl ?_
    | with_reducible refine sx_if_f A rfl ?_
    | ((with_reducible refine sx_at ?_); first
      | (refine sx_pure A tbOk rfl rfl rfl ?_; clear A; intro a A)
      | (refine sx_skip A rfl rfl ?_; clear A; intro a A)
      | ((with_reducible refine g_bin ?_); first | ((refine g_int A rfl ?_); first | (refine sx_cmp A rfl rfl rfl rfl ?_; clear A; intro a A) | (refine sx_arith A rfl rfl rfl rfl ?_; clear A; intro a A) | (refine sx_shl A rfl rfl rfl rfl ?_; clear A; intro a A) | (refine sx_shr A rfl rfl rfl rfl ?_; clear A; intro a A)) | ((refine g_str A rfl ?_); first | (refine sx_scmp A rfl rfl rfl rfl ?_; clear A; intro a A) | (refine sx_concat A rfl rfl rfl rfl ?_; clear A; intro a A)))
      | ((with_reducible refine g_load ?_); first | (refine sx_load_all H A tbOk rfl rfl rfl rfl rfl ?_; clear A; intro a A) | (refine sx_load H A tbOk rfl rfl rfl rfl ?_; clear A; intro a A))
      | ((with_reducible refine g_store ?_); refine sx_store H A tbOk rfl rfl rfl rfl ?_; clear H; intro w_ H)
      | ((with_reducible refine g_box ?_); refine sx_box H A rfl rfl rfl ?_; clear H A; intro b_ a w_ A H)
      | ((with_reducible refine g_alloc ?_); refine sx_alloc H A tbOk rfl rfl rfl ?_; clear H A; intro b_ a w_ A H)
      | ((with_reducible refine g_build ?_); refine sx_build A tbOk rfl rfl rfl rfl rfl rfl ?_; clear A; intro a A)
      | ((with_reducible refine g_builtin ?_); first | (refine sx_min A rfl rfl rfl rfl ?_; clear A; intro a A) | (refine sx_max A rfl rfl rfl rfl ?_; clear A; intro a A))
      | ((with_reducible refine g_slice ?_); first | (refine sx_sstr A tbOk rfl rfl rfl rfl rfl rfl ?_; clear A; intro a A) | (refine sx_cut H A tbOk rfl rfl rfl rfl rfl rfl rfl ?_; clear A H; intro A_ c_ a hc_ A H))
      | ((with_reducible refine g_index ?_); refine sx_sidx A tbOk rfl rfl rfl rfl rfl ?_; clear A; intro a A)
      | ((with_reducible refine g_idx ?_); first | (refine sx_idx H A tbOk rfl rfl rfl rfl rfl rfl ?_; clear A; intro a A) | (refine sx_oidx H A tbOk rfl rfl rfl rfl rfl rfl ?_; clear A; intro a A))
      | ((with_reducible refine g_conv ?_); refine sx_conv A tbOk rfl rfl rfl rfl rfl ?_; clear A; intro a A)
      )
    | ((with_reducible refine g_draw ?_); refine qx_region H (by kernel_rfl) (by kernel_rfl) ?_)
    | ((with_reducible refine qx_nil ?_); clear H; intro w_ F_ H)
    | ((with_reducible refine q_at ?_); first
      | (refine qx_pure A tbOk rfl rfl rfl ?_; clear A; intro a A)
      | (refine qx_skip A rfl rfl ?_; clear A; intro a A)
      | ((with_reducible refine qg_bin ?_); first | ((refine qg_int A rfl ?_); first | (refine qx_cmp A rfl rfl rfl rfl ?_; clear A; intro a A) | (refine qx_arith A rfl rfl rfl rfl ?_; clear A; intro a A)) | ((refine qg_str A rfl ?_); first | (refine qx_scmp A rfl rfl rfl rfl ?_; clear A; intro a A) | (refine qx_concat A rfl rfl rfl rfl ?_; clear A; intro a A)))
      | ((with_reducible refine qg_builtin ?_); first | (refine qx_min A rfl rfl rfl rfl ?_; clear A; intro a A) | (refine qx_max A rfl rfl rfl rfl ?_; clear A; intro a A))
      | ((with_reducible refine qg_slice ?_); refine qx_sstr A tbOk rfl rfl rfl rfl rfl rfl ?_; clear A; intro a A)
      | ((with_reducible refine qg_load ?_); refine qx_load A tbOk rfl rfl rfl rfl ?_; clear A; intro a A)
      | ((with_reducible refine qg_idx ?_); first | (refine qx_idx H A tbOk rfl rfl rfl rfl rfl rfl ?_; clear A; intro a A) | (refine qx_oidx H A tbOk rfl rfl rfl rfl rfl rfl ?_; clear A; intro a A)))
    )
      rw [hnn] at A
      exact ⟨n - 1, _, ⟨by omega, by rw [← ht, htk, hb0, trimL_zero]⟩, by omega, H, A.subs⟩
    · have hbz : bt s ((n : Int) - 1).toNat ≠ 0 := by rw [hbt]; exact fun e => hb0 ((byte_zero b).1 e)
      have hx : s.extract (0 : Int).toNat (n : Int).toNat = r := by
        rw [hex, ← hr]; unfold trimS; rw [← ht, htk, trimL_other _ b hb0]
      repeat' (first
    | (refine sx_ret tbOk H A rfl ?_; exact H.ret0 fun Fx Hx => k Fx _ Hx)
    | with_reducible refine wp_seq ?_
    | with_reducible refine sx_region ?_
    | with_reducible refine wp_block ?_
    | with_reducible refine wpList_nil ?_
    | with_reducible refine sx_then ?_
    | with_reducible refine sx_inb ?_
    | with_reducible refine wp_skip ?_
    | with_reducible refine wp_ret ?_
    | with_reducible refine wp_exit ?_
    | with_reducible refine sx_then_ret ?_
    | with_reducible refine sx_inb_ret ?_
    | with_reducible refine sx_then_exit ?_
    | with_reducible refine sx_inb_exit ?_
    | with_reducible refine sx_inb_other rfl ?_
    | with_reducible refine sx_if_t A rfl ?_
    | with_reducible refine sx_if_f A rfl ?_
    | ((with_reducible refine sx_at ?_); first
      | (refine sx_pure A tbOk rfl rfl rfl ?_; clear A; intro a A)
      | (refine sx_skip A rfl rfl ?_; clear A; intro a A)
      | ((with_reducible refine g_bin ?_); first | ((refine g_int A rfl ?_); first | (refine sx_cmp A rfl rfl rfl rfl ?_; clear A; intro a A) | (refine sx_arith A rfl rfl rfl rfl ?_; clear A; intro a A) | (refine sx_shl A rfl rfl rfl rfl ?_; clear A; intro a A) | (refine sx_shr A rfl rfl rfl rfl ?_; clear A; intro a A)) | ((refine g_str A rfl ?_); first | (refine sx_scmp A rfl rfl rfl rfl ?_; clear A; intro a A) | (refine sx_concat A rfl rfl rfl rfl ?_; clear A; intro a A)))
      | ((with_reducible refine g_load ?_); first | (refine sx_load_all H A tbOk rfl rfl rfl rfl rfl ?_; clear A; intro a A) | (refine sx_load H A tbOk rfl rfl rfl rfl ?_; clear A; intro a A))
      | ((with_reducible refine g_store ?_); refine sx_store H A tbOk rfl rfl rfl rfl ?_; clear H; intro w_ H)
      | ((with_reducible refine g_box ?_); refine sx_box H A rfl rfl rfl ?_; clear H A; intro b_ a w_ A H)
      | ((with_reducible refine g_alloc ?_); refine sx_alloc H A tbOk rfl rfl rfl ?_; clear H A; intro b_ a w_ A H)
      | ((with_reducible refine g_build ?_); refine sx_build A tbOk rfl rfl rfl rfl rfl rfl ?_; clear A; intro a A)
      | ((with_reducible refine g_builtin ?_); first | (refine sx_min A rfl rfl rfl rfl ?_; clear A; intro a A) | (refine sx_max A rfl rfl rfl rfl ?_; clear A; intro a A))
      | ((with_reducible refine g_slice ?_); first | (refine sx_sstr A tbOk rfl rfl rfl rfl rfl rfl ?_; clear A; intro a A) | (refine sx_cut H A tbOk rfl rfl rfl rfl rfl rfl rfl ?_; clear A H; intro A_ c_ a hc_ A H))
      | ((with_reducible refine g_index ?_); refine sx_sidx A tbOk rfl rfl rfl rfl rfl ?_; clear A; intro a A)
      | ((with_reducible refine g_idx ?_); first | (refine sx_idx H A tbOk rfl rfl rfl rfl rfl rfl ?_; clear A; intro a A) | (refine sx_oidx H A tbOk rfl rfl rfl rfl rfl rfl ?_; clear A; intro a A))
      | ((with_reducible refine g_conv ?_); refine sx_conv A tbOk rfl rfl rfl rfl rfl ?_; clear A; intro a A)
      )
    | ((with_reducible refine g_draw ?_); refine qx_region H (by kernel_rfl) (by kernel_rfl) ?_)
    | ((with_reducible refine qx_nil ?_); clear H; intro w_ F_ H)
    | ((with_reducible refine q_at ?_); first
      | (refine qx_pure A tbOk rfl rfl rfl ?_; clear A; intro a A)
      | (refine qx_skip A rfl rfl ?_; clear A; intro a A)
      | ((with_reducible refine qg_bin ?_); first | ((refine qg_int A rfl ?_); first | (refine qx_cmp A rfl rfl rfl rfl ?_; clear A; intro a A) | (refine qx_arith A rfl rfl rfl rfl ?_; clear A; intro a A)) | ((refine qg_str A rfl ?_); first | (refine qx_scmp A rfl rfl rfl rfl ?_; clear A; intro a A) | (refine qx_concat A rfl rfl rfl rfl ?_; clear A; intro a A)))
      | ((with_reducible refine qg_builtin ?_); first | (refine qx_min A rfl rfl rfl rfl ?_; clear A; intro a A) | (refine qx_max A rfl rfl rfl rfl ?_; clear A; intro a A))
      | ((with_reducible refine qg_slice ?_); refine qx_sstr A tbOk rfl rfl rfl rfl rfl rfl ?_; clear A; intro a A)
      | ((with_reducible refine qg_load ?_); refine qx_load A tbOk rfl rfl rfl rfl ?_; clear A; intro a A)
      | ((with_reducible refine qg_idx ?_); first | (refine qx_idx H A tbOk rfl rfl rfl rfl rfl rfl ?_; clear A; intro a A) | (refine qx_oidx H A tbOk rfl rfl rfl rfl rfl rfl ?_; clear A; intro a A)))
    )
end
end Go.Proofs.YtniplmjbligmlaaDoor.V

/-! Regions that draw their order: calls that turn nothing; and regions with a store, walked operation by operation. -/
namespace Go.Proofs.YtniplmjbligmlaaDoor.V
open Go.RowKit Go.Proofs.YtniplmjbligmlaaDoorW.PrintLast
set_option linter.unusedVariables false
set_option linter.unusedSimpArgs false
section
variable {P : Program} {l : List Oper} {a : Act} {rest : List Oper} {Q : Exit → Act → World → Prop} {Qa : Act → Prop} {C : World → Prop} {w : World} {n : Nat} {D : List Deferred} {T : Tm} {tb : Tb}
variable {d : Nat} {op : Op} {ty : TypeId} {pos : String} {aft : Array Edge} {g : Option (Nat × Bool)}
variable {M F0 F : Nat → Prop} {w0 : World} {B B' : List Box} {R : List (World → Prop)}
theorem g_dst (d : Nat) (h : wpList P l.toArray Q (⟨some d, op, ty, pos, aft, g⟩ :: rest) a w) : wpList P l.toArray Q (⟨some d, op, ty, pos, aft, g⟩ :: rest) a w := h
theorem qg_call {x : Operand} {xs : Array Operand} {ts : Array TypeId} (h : wpQuiet P l.toArray C Qa (⟨some d, .call ⟨.value x, xs, ts⟩, ty, pos, aft, g⟩ :: rest) a) : wpQuiet P l.toArray C Qa (⟨some d, .call ⟨.value x, xs, ts⟩, ty, pos, aft, g⟩ :: rest) a := h
/-- A call that turns nothing, and answers the same wherever it comes up. -/
theorem qx_call (A : Fr n D T a) (hw : wantedT T l g = some true) {f : FuncId} {xs : List Operand} {ts : Array TypeId} {vs : List Value} {v : Value} (hc : ∀ (args : Array Value) (w : World), (callFunc f args).run P w = .ok (.enter f args) w) (hv : evs T xs = some vs) (hd : Nat.blt d n = true)
    (hcall : ∀ w F, St M F0 w0 F B R w → Calls P f vs.toArray w fun e w' => e = .returned v ∧ Cls M F0 w0 B R w')
    (k : ∀ a', Fr n D ((d, v) :: T) a' → wpQuiet P l.toArray (Cls M F0 w0 B R) Qa rest a') : wpQuiet P l.toArray (Cls M F0 w0 B R) Qa (⟨some d, .call ⟨.value (.func f), xs.toArray, ts⟩, ty, pos, aft, g⟩ :: rest) a := by
  unfold wpQuiet
  rw [if_pos (wanted_of (o := ⟨some d, .call ⟨.value (.func f), xs.toArray, ts⟩, ty, pos, aft, g⟩) A hw)]
  refine ⟨v, fun w hC => ?_, k _ (A.put (blt_lt hd) _)⟩
  obtain ⟨F, H⟩ := hC
  have hrun : (execOp a.eval ⟨some d, .call ⟨.value (.func f), xs.toArray, ts⟩, ty, pos, aft, g⟩).run P w = .ok (.enter f vs.toArray) w := by
    unfold execOp
    simp [resolve, Deferred.ofValue, invoke, Act.eval, hc, ← evs_ok A xs vs hv]
  unfold Oper.quietAt
  rw [hrun]
  exact ⟨rfl, hcall w F H⟩
/-! Operation by operation. S: what the loads that may still come up need. -/
variable {S : World → Prop} {ds : List Nat} {fuel : Nat} {lb lb' : Array Bool} {oi : Oper} {i : Nat}
/-- Behind an operation that is run alone. -/
def Beh (P : Program) (ops : Array Oper) (Q : Exit → Act → World → Prop) (S : World → Prop) (ds : List Nat) (fuel : Nat) (lb : Array Bool) (i : Nat) : Exit → Act → World → Prop
  | .normal, a, w => (i ∉ ds → S w) ∧ wpAnyLast P .any ops Q S ds fuel lb a w
  | e, a, w => Q e a w
theorem vstart (H : St M F0 w0 F B R w) {id n : Nat} (S : World → Prop) (ds : List Nat) (lb : Array Bool) (hm : P.follows .mixedOrders = true) (hn : l.toArray.size = n) (hl : Array.replicate n false = lb)
    (h : ∀ w', St M F0 w0 F B R w' → wpAnyLast P .any l.toArray Q S ds n lb a w') : (Code.region id l.toArray true).wp P Q a w := by
  subst hn
  subst hl
  exact wp_region_last hm (h _ (H.drew 1))
theorem vone (lb' : Array Bool) (hi : l.toArray[i]? = some oi) (hc : readyB .any l.toArray lb lb' i = true) (h : wpList P l.toArray (Beh P l.toArray Q S ds fuel lb' i) [oi] a w) : wpAnyLast P .any l.toArray Q S ds (fuel + 1) lb a w := by
  simp only [readyB, Bool.and_eq_true, beq_iff_eq] at hc
  obtain ⟨h1, h2⟩ := hc
  subst h2
  refine wpAnyLast_ready h1 (by simp) ?_
  intro j hj
  obtain rfl : j = i := by simpa using hj
  have key : wpOp P l.toArray (Beh P l.toArray Q S ds fuel (lb.setIfInBounds j true) j) j (fun a' w' => (j ∉ ds → S w') ∧ wpAnyLast P .any l.toArray Q S ds fuel (lb.setIfInBounds j true) a' w') a w := by
    unfold wpOp
    rw [hi]
    exact h
  unfold wpOp at key ⊢
  rw [hi] at key ⊢
  simp only at key ⊢
  split
  · rename_i hw
    rw [if_pos hw] at key
    rcases key with key | ⟨k1, k2⟩
    · refine .inl ?_
      refine Oper.wp_mono (Q := Q) (K := fun a' w' => (j ∉ ds → S w') ∧ wpAnyLast P .any l.toArray Q S ds fuel (lb.setIfInBounds j true) a' w') (fun a' w' hh => ⟨fun hj _ => hh.1 hj, hh.2⟩) ?_
      have hQ : ∀ (r : Result Next) (K : Act → World → Prop), oi.upon P a K (Beh P l.toArray Q S ds fuel (lb.setIfInBounds j true) j) r → oi.upon P a K Q r := by
        intro r K hr
        unfold Oper.upon at hr ⊢
        split at hr <;> first | exact hr | (refine Calls.mono hr (fun e w'' hh => ?_); revert hh; cases e <;> exact id)
      exact hQ _ _ key
    · exact .inr ⟨k1, k2⟩
  · rename_i hw
    rw [if_neg hw] at key
    exact ⟨fun hj _ => key.1 hj, key.2⟩
theorem vp (A : Fr n D T a) (hT : TbOk P tb) (i : Nat) (lb' : Array Bool) (hi : l.toArray[i]? = some oi) (hc : anyB .any l.toArray lb lb' i = true) (hQ : ∀ c a v w, Q (.panic c) (a.put (some d) v) w → Q (.panic c) a w) (hw : wantedT T l oi.guard = some true) {v : Value} (hv : pureOp tb T oi.op = some v) (hdst : oi.dst = some d) (hd : Nat.blt d n = true)
    (k : ∀ a', Fr n D ((d, v) :: T) a' → wpAnyLast P .any l.toArray Q S ds fuel lb' a' w) : wpAnyLast P .any l.toArray Q S ds (fuel + 1) lb a w :=
  pure_ (v := v) lb' hi hdst hc (fun c a w hq => hQ c _ _ w (by first | exact hq | (rw [hdst] at hq; exact hq))) (.inl ⟨wanted_of A hw, fun w => pure_run hT A hv⟩) rfl (k _ (A.put (blt_lt hd) v))
theorem vload {Bs : List Box} {Rs : List (World → Prop)} (H : St M F0 w0 F Bs Rs w) (A : Fr n D T a) (hT : TbOk P tb) (i : Nat) (lb' : Array Bool) {t : TypeId} {x : Operand} {b o : Nat} {tt : TypeId} {cs : List Value} {ti : TyI} {v v' : Value} (hi : l.toArray[i]? = some ⟨some d, .load t x, ty, pos, aft, g⟩) (hc : takeB .any l.toArray ds lb lb' i = true) (hQ : ∀ c a v w, Q (.panic c) (a.put (some d) v) w → Q (.panic c) a w) (hw : wantedT T l g = some true)
    (hx : ev T x = some (.pointer (some ⟨b, o, none⟩))) (ht : tb.lookup t = some ti) (hd : Nat.blt d n = true) (k : ∀ a', Fr n D ((d, v') :: T) a' → wpAnyLast P .any l.toArray Q (Cls M F0 w0 Bs Rs) ds fuel lb' a' w) (hm : .mk b tt cs ∈ Bs := by (repeat (first | with_reducible exact List.mem_cons_self | apply List.mem_cons_of_mem)))
    (hv : loadC ti cs o = some v := by rfl) (hn : v = v' := by rfl) : wpAnyLast P .any l.toArray Q (Cls M F0 w0 Bs Rs) ds (fuel + 1) lb a w := by
  subst hn
  refine take_ (v := v) lb' hi rfl hc (fun c a w hq => hQ c _ _ w (by first | exact hq | (rw [hdst] at hq; exact hq))) (.inl ⟨wanted_of (o := ⟨some d, .load t x, ty, pos, aft, g⟩) A hw, fun w hC => ?_⟩) ⟨F, H⟩ rfl (k _ (A.put (blt_lt hd) _))
  obtain ⟨F, H⟩ := hC
  obtain ⟨h1, h2⟩ := load_row (H.box _ hm) (hT _ _ ht) o
  have hr : (loadVar t ⟨b, o, none⟩).run P w = .ok v w := by
    unfold loadC at hv
    cases hk : ti.kind.row with
    | true =>
      rw [hk] at hv
      cases hb : Nat.ble (o + ti.size) cs.length with
      | true => simp only [hb, cond_true] at hv; rw [← Option.some.inj hv]; exact h1 hk (Nat.le_of_ble_eq_true hb)
      | false => simp [hb] at hv
    | false => rw [hk] at hv; exact h2 hk v hv
  unfold execOp
  simp [A.ev hx, Instr.loadAt, Instr.sureAddr, hr]
theorem vdone {n : Nat} (hr : (Region.ready .any l.toArray lb == []) = true) (h : Q .normal a w) : wpAnyLast P .any l.toArray Q S ds n lb a w := done_ hr h
end
end Go.Proofs.YtniplmjbligmlaaDoor.V

/-! Further rules of regions that draw their order and store. -/
namespace Go.Proofs.YtniplmjbligmlaaDoor.V
open Go.RowKit Go.Proofs.YtniplmjbligmlaaDoorW.PrintLast
set_option linter.unusedVariables false
set_option linter.unusedSimpArgs false
section
variable {P : Program} {l : List Oper} {a : Act} {Q : Exit → Act → World → Prop} {w : World} {S : World → Prop} {ds : List Nat} {fuel : Nat} {lb : Array Bool} {n d : Nat} {D : List Deferred} {T : Tm} {tb : Tb}
variable {ty : TypeId} {pos : String} {aft : Array Edge} {g : Option (Nat × Bool)}
theorem vbuild (A : Fr n D T a) (hT : TbOk P tb) (i : Nat) (lb' : Array Bool) {t : TypeId} {ps : List (Nat × Operand)} {fs : List (TypeId × Nat)} {sz by_ : Nat} {zs cs : List Value} {qs : List (Nat × List Value)} (hio : l.toArray[i]? = some ⟨some d, .build t ps.toArray, ty, pos, aft, g⟩) (hc0 : anyB .any l.toArray lb lb' i = true) (hQ : ∀ c a v w, Q (.panic c) (a.put (some d) v) w → Q (.panic c) a w) (hw : wantedT T l g = some true) (hi : tb.lookup t = some ⟨.struct fs, sz, by_, zs⟩)
    (hfs : (fs.all fun f => (tb.lookup f.1).isSome) = true) (hq : partsC tb T fs ps = some qs) (hin : (qs.all fun q => Nat.ble (q.1 + q.2.length) zs.length) = true) (hd : Nat.blt d n = true)
    (K : ∀ a', Fr n D ((d, .agg cs.toArray) :: T) a' → wpAnyLast P .any l.toArray Q S ds fuel lb' a' w) (hc : fillC zs qs = cs := by first | (simp only [putC, fillC, Value.cells, List.toList_toArray, List.take_zero, List.take_succ_cons, List.take_nil, List.drop_zero, List.drop_succ_cons, List.drop_nil, List.nil_append, List.cons_append, List.append_nil, List.length_cons, List.length_nil, Nat.reduceAdd, Nat.add_zero, Nat.zero_add, Array.toArray_toList, List.take_length, List.drop_length]; done) | (simp only [putC, fillC, Value.cells, List.toList_toArray, List.take_zero, List.take_succ_cons, List.take_nil, List.drop_zero, List.drop_succ_cons, List.drop_nil, List.nil_append, List.cons_append, List.append_nil, List.length_cons, List.length_nil, Nat.reduceAdd, Nat.add_zero, Nat.zero_add, Array.toArray_toList, List.take_length, List.drop_length]; rfl) | rfl) : wpAnyLast P .any l.toArray Q S ds (fuel + 1) lb a w := by
  subst hc
  exact pure_ lb' hio rfl hc0 (fun c a w hq => hQ c _ _ w hq) (.inl ⟨wanted_of (o := ⟨some d, .build t ps.toArray, ty, pos, aft, g⟩) A hw, fun w => build_run A hT hi hfs hq hin w⟩) rfl (K _ (A.put (blt_lt hd) _))
theorem run_equalW {t : TypeId} {f1 f2 : Field} {i1 i2 : TyI} {kk k : IntKind} {m m' : Int} {s s' : ByteArray} (hT : TbOk P tb) (hu0 : P.underlying t = some (.struct #[f1, f2])) (hn1 : (f1.name == "_") = false) (hn2 : (f2.name == "_") = false) (ho1 : f1.offset = 0) (ho2 : f2.offset = 1) (hp : P.stoodInHeld t = false)
    (hi1 : tb.lookup f1.type = some i1) (hk1 : i1.kind = .int kk) (hi2 : tb.lookup f2.type = some i2) (hk2 : i2.kind = .string) (w : World) : (Op.equalIn 10000 t (.agg #[.int k m, .string s]) (.agg #[.int k m', .string s'])).run P w = .ok (m == m' && decide (s = s')) w := by
  have hf : P.fieldsOf t = #[f1, f2] := by simp [Program.fieldsOf, hu0]
  have hu : P.underlying t = some (.struct (P.fieldsOf t)) := by rw [hf]; exact hu0
  have hfs : (P.fieldsOf t).toList = [f1, f2] := by rw [hf]
  have hT1 := hT _ _ hi1
  have hT2 := hT _ _ hi2
  obtain ⟨d1, hd1, hkk1⟩ := hT1.und
  obtain ⟨d2, hd2, hkk2⟩ := hT2.und
  rw [hk1] at hkk1
  rw [hk2] at hkk2
  cases d1 <;> simp only [tk] at hkk1 <;> try cases hkk1
  cases d2 <;> simp only [tk] at hkk2 <;> try cases hkk2
  have p1 : ∀ (x : Int) (y : ByteArray), (part f1.type #[.int k x, .string y] f1.offset).run P w = .ok (.int k x) w := fun x y => run_part hT1 (by rw [ho1]; unfold partC; rw [hk1]; rfl)
  have p2 : ∀ (x : Int) (y : ByteArray), (part f2.type #[.int k x, .string y] f2.offset).run P w = .ok (.string y) w := fun x y => run_part hT2 (by rw [ho2]; unfold partC; rw [hk2]; rfl)
  have e1 := run_equalIn_int (P := P) (w := w) 9998 f1.type k _ m m' hd1
  have e2 := run_equalIn_string (P := P) (w := w) 9998 f2.type s s' hd2
  have hss := str_beq s s'
  have g1 : f1.name ≠ "_" := by simpa using hn1
  have g2 : f2.name ≠ "_" := by simpa using hn2
  rw [run_equalIn_struct (P := P) w 9999 t _ _ hu hp, hfs]
  simp only [Op.eqFields, if_pos g1, if_pos g2, Sem.run_bind, p1, p2, e1, e2, Result.andThen_ok, hss]
  cases (m == m') <;> simp [Op.eqFields, if_pos g2, Sem.run_bind, p1, p2, e1, e2, Result.andThen_ok, hss]
  by_cases h : s = s' <;> simp [h]
theorem run_neqW {t : TypeId} {f1 f2 : Field} {i1 i2 : TyI} {kk k : IntKind} {m m' : Int} {s s' : ByteArray} (hT : TbOk P tb) (hu0 : P.underlying t = some (.struct #[f1, f2])) (hn1 : (f1.name == "_") = false) (hn2 : (f2.name == "_") = false) (ho1 : f1.offset = 0) (ho2 : f2.offset = 1) (hp : P.stoodInHeld t = false)
    (hi1 : tb.lookup f1.type = some i1) (hk1 : i1.kind = .int kk) (hi2 : tb.lookup f2.type = some i2) (hk2 : i2.kind = .string) (w : World) : (binOp .neq t (.agg #[.int k m, .string s]) (.agg #[.int k m', .string s'])).run P w = .ok (.bool (!(m == m' && decide (s = s')))) w := by
  simp [binOp, Op.equal, Op.maxDepth, run_equalW hT hu0 hn1 hn2 ho1 ho2 hp hi1 hk1 hi2 hk2 w]
theorem qg_dst {rest : List Oper} {Qa : Act → Prop} {C : World → Prop} (d : Nat) {op : Op} (h : wpQuiet P l.toArray C Qa (⟨some d, op, ty, pos, aft, g⟩ :: rest) a) : wpQuiet P l.toArray C Qa (⟨some d, op, ty, pos, aft, g⟩ :: rest) a := h
theorem vmin (A : Fr n D T a) (i : Nat) (lb' : Array Bool) {x y : Operand} {ts : Array TypeId} {k : IntKind} {m m' z : Int} (hi : l.toArray[i]? = some ⟨some d, .call ⟨.builtin .min, #[x, y], ts⟩, ty, pos, aft, g⟩) (hc : anyB .any l.toArray lb lb' i = true) (hQ : ∀ c a v w, Q (.panic c) (a.put (some d) v) w → Q (.panic c) a w) (hw : wantedT T l g = some true)
    (hx : ev T x = some (.int k m)) (hy : ev T y = some (.int k m')) (hd : Nat.blt d n = true) (K : ∀ a', Fr n D ((d, .int k z) :: T) a' → wpAnyLast P .any l.toArray Q S ds fuel lb' a' w)
    (hz : min m m' = z := by first | assumption | ((with_reducible refine min_l ?_); omega) | ((with_reducible refine min_r ?_); omega) | exact rfl) : wpAnyLast P .any l.toArray Q S ds (fuel + 1) lb a w := by
  have e : (if m' < m then m' else m) = z := by rw [← hz]; split <;> omega
  exact pure_ (v := .int k z) lb' hi rfl hc (fun c a w hq => hQ c _ _ w hq) (.inl ⟨wanted_of (o := ⟨some d, .call ⟨.builtin .min, #[x, y], ts⟩, ty, pos, aft, g⟩) A hw, fun w => by
    unfold execOp
    simp [resolve, invoke, builtin, Builtin.min_, A.ev hx, A.ev hy, Builtin.min2, e]⟩) rfl (K _ (A.put (blt_lt hd) _))
theorem vsstr (A : Fr n D T a) (hT : TbOk P tb) (i : Nat) (lb' : Array Bool) {t : TypeId} {x : Operand} {lo hi : Option Operand} {s s' : ByteArray} {i0 j0 : Int} {sz by_ : Nat} {zs : List Value} (hio : l.toArray[i]? = some ⟨some d, .slice t x lo hi none, ty, pos, aft, g⟩) (hc : anyB .any l.toArray lb lb' i = true) (hQ : ∀ c a v w, Q (.panic c) (a.put (some d) v) w → Q (.panic c) a w) (hw : wantedT T l g = some true)
    (ht : tb.lookup t = some ⟨.string, sz, by_, zs⟩) (hx : ev T x = some (.string s)) (hlo : bnd T 0 lo = some i0) (hhi : bnd T s.size hi = some j0) (hd : Nat.blt d n = true) (K : ∀ a', Fr n D ((d, .string s') :: T) a' → wpAnyLast P .any l.toArray Q S ds fuel lb' a' w)
    (h0 : 0 ≤ i0 := by omega) (h1 : i0 ≤ j0 := by omega) (h2 : j0 ≤ s.size := by omega) (hs' : s.extract i0.toNat j0.toNat = s' := by first | assumption | exact rfl) : wpAnyLast P .any l.toArray Q S ds (fuel + 1) lb a w := by
  subst hs'
  exact pure_ (v := .string (s.extract i0.toNat j0.toNat)) lb' hio rfl hc (fun c a w hq => hQ c _ _ w hq) (.inl ⟨wanted_of (o := ⟨some d, .slice t x lo hi none, ty, pos, aft, g⟩) A hw, fun w => by
    obtain ⟨dd, hdd, _, hk⟩ := (hT _ _ ht).run_und w
    cases dd <;> simp only [tk] at hk <;> try cases hk
    have hb := run_bounds (P := P) (w := w) A false s.size s.size hlo hhi h0 h1 h2 (Nat.le_refl _)
    unfold execOp
    simp [Instr.sliceAt, Instr.slice, hdd, A.ev hx, hb]⟩) rfl (K _ (A.put (blt_lt hd) _))
theorem vstartB {M F0 F : Nat → Prop} {w0 : World} {B : List Box} {R : List (World → Prop)} (H : St M F0 w0 F B R w) {id n : Nat} (Bs : List Box) (ds : List Nat) (lb : Array Bool) (hm : P.follows .mixedOrders = true) (hn : l.toArray.size = n) (hl : Array.replicate n false = lb)
    (h : ∀ w', St M F0 w0 F B R w' → wpAnyLast P .any l.toArray Q (Cls M F0 w0 Bs R) ds n lb a w') : (Code.region id l.toArray true).wp P Q a w := vstart H (Cls M F0 w0 Bs R) ds lb hm hn hl h
end
section
variable {P : Program} {l : List Oper} {a : Act} {Q : Exit → Act → World → Prop} {w : World} {S : World → Prop} {ds : List Nat} {fuel : Nat} {lb lb' li lj : Array Bool} {oi oj : Oper} {i j : Nat}
theorem beh_op (hi : l.toArray[j]? = some oi) (h : wpList P l.toArray (Beh P l.toArray Q S ds fuel lb' j) [oi] a w) : wpOp P l.toArray Q j (fun a' w' => (j ∉ ds → S w') ∧ wpAnyLast P .any l.toArray Q S ds fuel lb' a' w') a w := by
  have key : wpOp P l.toArray (Beh P l.toArray Q S ds fuel lb' j) j (fun a' w' => (j ∉ ds → S w') ∧ wpAnyLast P .any l.toArray Q S ds fuel lb' a' w') a w := by
    unfold wpOp
    rw [hi]
    exact h
  unfold wpOp at key ⊢
  rw [hi] at key ⊢
  simp only at key ⊢
  split
  · rename_i hw
    rw [if_pos hw] at key
    rcases key with key | ⟨k1, k2⟩
    · refine .inl ?_
      refine Oper.wp_mono (Q := Q) (K := fun a' w' => (j ∉ ds → S w') ∧ wpAnyLast P .any l.toArray Q S ds fuel lb' a' w') (fun a' w' hh => hh) ?_
      have hQ : ∀ (r : Result Next) (K : Act → World → Prop), oi.upon P a K (Beh P l.toArray Q S ds fuel lb' j) r → oi.upon P a K Q r := by
        intro r K hr
        unfold Oper.upon at hr ⊢
        split at hr <;> first | exact hr | (refine Calls.mono hr (fun e w'' hh => ?_); revert hh; cases e <;> exact id)
      exact hQ _ _ key
    · exact .inr ⟨k1, k2⟩
  · rename_i hw
    rw [if_neg hw] at key
    exact key
theorem vtwo (li lj : Array Bool) (hi : l.toArray[i]? = some oi) (hj : l.toArray[j]? = some oj) (hc : (Region.ready .any l.toArray lb == [i, j] && lb.setIfInBounds i true == li && lb.setIfInBounds j true == lj) = true) (h1 : wpList P l.toArray (Beh P l.toArray Q S ds fuel li i) [oi] a w) (h2 : wpList P l.toArray (Beh P l.toArray Q S ds fuel lj j) [oj] a w) : wpAnyLast P .any l.toArray Q S ds (fuel + 1) lb a w := by
  simp only [Bool.and_eq_true, beq_iff_eq] at hc
  obtain ⟨⟨h3, h4⟩, h5⟩ := hc
  subst h4
  subst h5
  refine wpAnyLast_ready h3 (by simp) ?_
  intro k hk
  have key : ∀ lb' oi, l.toArray[k]? = some oi → lb.setIfInBounds k true = lb' → wpList P l.toArray (Beh P l.toArray Q S ds fuel lb' k) [oi] a w → wpOp P l.toArray Q k (fun a' w' => (k ∉ ds → S w') ∧ wpAnyLast P .any l.toArray Q S ds fuel lb' a' w') a w := fun lb' oi h _ hh => beh_op h hh
  have hk2 : k = i ∨ k = j := by simpa using hk
  rcases hk2 with rfl | rfl
  · have := key _ _ hi rfl h1
    unfold wpOp at this ⊢
    rw [hi] at this ⊢
    simp only at this ⊢
    split
    · rename_i hw
      rw [if_pos hw] at this
      rcases this with g | ⟨g1, g2⟩
      · exact .inl (Oper.wp_mono (fun a' w' hh => ⟨fun hj _ => hh.1 hj, hh.2⟩) g)
      · exact .inr ⟨g1, g2⟩
    · rename_i hw
      rw [if_neg hw] at this
      exact ⟨fun hj _ => this.1 hj, this.2⟩
  · have := key _ _ hj rfl h2
    unfold wpOp at this ⊢
    rw [hj] at this ⊢
    simp only at this ⊢
    split
    · rename_i hw
      rw [if_pos hw] at this
      rcases this with g | ⟨g1, g2⟩
      · exact .inl (Oper.wp_mono (fun a' w' hh => ⟨fun hj _ => hh.1 hj, hh.2⟩) g)
      · exact .inr ⟨g1, g2⟩
    · rename_i hw
      rw [if_neg hw] at this
      exact ⟨fun hj _ => this.1 hj, this.2⟩
end
end Go.Proofs.YtniplmjbligmlaaDoor.V

/-! Layer 3 of the program, walked: which disks may be. -/
namespace Go.Proofs.YtniplmjbligmlaaDoor.V
open Go.RowKit
set_option linter.unusedVariables false
set_option linter.unusedSimpArgs false
def standsB (s : ByteArray) : Bool := decide (s.size ≤ 512) && decide (trimS s = s)
def hasB (n : Nat) (x : Int) : Bool := decide (0 ≤ x) && decide (x < n)
def wrB (n : Nat) (x : Wr) : Bool := hasB n x.sec && standsB x.bytes
def rightB (ss : List ByteArray) (ws : List Wr) : Bool := decide (1 ≤ ss.length) && decide (ss.length ≤ 256) && ss.all standsB && ws.all (wrB ss.length)
theorem stands_cases {s : ByteArray} {b : Bool} (hr : standsB s = b) : (b = false ∧ 512 < s.size) ∨ (b = false ∧ s.size ≤ 512 ∧ ∃ r, trimS s = r ∧ r ≠ s) ∨ (b = true ∧ s.size ≤ 512 ∧ trimS s = s) := by
  subst hr; unfold standsB
  by_cases h1 : s.size ≤ 512 <;> by_cases h2 : trimS s = s <;> simp [h1, h2] <;> omega
section
variable {M F0 F : Nat → Prop} {w0 w : World} {B : List Box} {R : List (World → Prop)} {K : Ending → World → Prop}
set_option maxRecDepth 100000
set_option maxHeartbeats 4000000
theorem sl_disk_stands (H : St M F0 w0 F B R w) {s : ByteArray} {b : Bool} (hr : standsB s = b) (k : ∀ Fx w', St M F0 w0 Fx B R w' → K (.returned (.bool b)) w') : Calls Tryd.prog 48 #[.string s] w K := by
  refine St.fn0 H (R0 := []) no_mem (fun H => ?_)
  refine sx_enter Tryd.func48 Tryd.ntmps48 rfl rfl (fun a A => ?_)
  have hc := stands_cases hr
  clear hr
  rcases hc with ⟨rfl, h1⟩ | ⟨rfl, h1, r, h2, h3⟩ | ⟨rfl, h1, h2⟩
  all_goals repeat' (first
    | ((with_reducible refine g_call ?_); refine sx_call (f := 56) A rfl Tryd.call56 rfl rfl ?_; refine sl_le_Trim H (by omega) h2 ?_; clear H; intro F_ w_ H; refine ⟨_, rfl, ?_⟩; clear A; intro a A)
    | (refine sx_ret tbOk H A rfl ?_; exact H.ret0 fun Fx Hx => k Fx _ Hx)
    | with_reducible refine wp_seq ?_
    | with_reducible refine sx_region ?_
    | with_reducible refine wp_block ?_
    | with_reducible refine wpList_nil ?_
    | with_reducible refine sx_then ?_
    | with_reducible refine sx_inb ?_
    | with_reducible refine wp_skip ?_
    | with_reducible refine wp_ret ?_
    | with_reducible refine wp_exit ?_
    | with_reducible refine sx_then_ret ?_
    | with_reducible refine sx_inb_ret ?_
    | with_reducible refine sx_then_exit ?_
    | with_reducible refine sx_inb_exit ?_
    | with_reducible refine sx_inb_other rfl ?_
    | with_reducible refine sx_if_t A rfl ?_
    | with_reducible refine sx_if_f A rfl ?_
    | ((with_reducible refine sx_at ?_); first
      | (refine sx_pure A tbOk rfl rfl rfl ?_; clear A; intro a A)
      | (refine sx_skip A rfl rfl ?_; clear A; intro a A)
      | ((with_reducible refine g_bin ?_); first | ((refine g_int A rfl ?_); first | (refine sx_cmp A rfl rfl rfl rfl ?_; clear A; intro a A) | (refine sx_arith A rfl rfl rfl rfl ?_; clear A; intro a A) | (refine sx_shl A rfl rfl rfl rfl ?_; clear A; intro a A) | (refine sx_shr A rfl rfl rfl rfl ?_; clear A; intro a A)) | ((refine g_str A rfl ?_); first | (refine sx_scmp A rfl rfl rfl rfl ?_; clear A; intro a A) | (refine sx_concat A rfl rfl rfl rfl ?_; clear A; intro a A)))
      | ((with_reducible refine g_load ?_); first | (refine sx_load_all H A tbOk rfl rfl rfl rfl rfl ?_; clear A; intro a A) | (refine sx_load H A tbOk rfl rfl rfl rfl ?_; clear A; intro a A))
      | ((with_reducible refine g_store ?_); refine sx_store H A tbOk rfl rfl rfl rfl ?_; clear H; intro w_ H)
      | ((with_reducible refine g_box ?_); refine sx_box H A rfl rfl rfl ?_; clear H A; intro b_ a w_ A H)
      | ((with_reducible refine g_alloc ?_); refine sx_alloc H A tbOk rfl rfl rfl ?_; clear H A; intro b_ a w_ A H)
      | ((with_reducible refine g_build ?_); refine sx_build A tbOk rfl rfl rfl rfl rfl rfl ?_; clear A; intro a A)
      | ((with_reducible refine g_builtin ?_); first | (refine sx_min A rfl rfl rfl rfl ?_; clear A; intro a A) | (refine sx_max A rfl rfl rfl rfl ?_; clear A; intro a A))
      | ((with_reducible refine g_slice ?_); first | (refine sx_sstr A tbOk rfl rfl rfl rfl rfl rfl ?_; clear A; intro a A) | (refine sx_cut H A tbOk rfl rfl rfl rfl rfl rfl rfl ?_; clear A H; intro A_ c_ a hc_ A H))
      | ((with_reducible refine g_index ?_); refine sx_sidx A tbOk rfl rfl rfl rfl rfl ?_; clear A; intro a A)
      | ((with_reducible refine g_idx ?_); first | (refine sx_idx H A tbOk rfl rfl rfl rfl rfl rfl ?_; clear A; intro a A) | (refine sx_oidx H A tbOk rfl rfl rfl rfl rfl rfl ?_; clear A; intro a A))
      | ((with_reducible refine g_conv ?_); refine sx_conv A tbOk rfl rfl rfl rfl rfl ?_; clear A; intro a A)
      )
    | ((with_reducible refine g_draw ?_); refine qx_region H (by kernel_rfl) (by kernel_rfl) ?_)
    | ((with_reducible refine qx_nil ?_); clear H; intro w_ F_ H)
    | ((with_reducible refine q_at ?_); first
      | (refine qx_pure A tbOk rfl rfl rfl ?_; clear A; intro a A)
      | (refine qx_skip A rfl rfl ?_; clear A; intro a A)
      | ((with_reducible refine qg_bin ?_); first | ((refine qg_int A rfl ?_); first | (refine qx_cmp A rfl rfl rfl rfl ?_; clear A; intro a A) | (refine qx_arith A rfl rfl rfl rfl ?_; clear A; intro a A)) | ((refine qg_str A rfl ?_); first | (refine qx_scmp A rfl rfl rfl rfl ?_; clear A; intro a A) | (refine qx_concat A rfl rfl rfl rfl ?_; clear A; intro a A)))
      | ((with_reducible refine qg_builtin ?_); first | (refine qx_min A rfl rfl rfl rfl ?_; clear A; intro a A) | (refine qx_max A rfl rfl rfl rfl ?_; clear A; intro a A))
      | ((with_reducible refine qg_slice ?_); refine qx_sstr A tbOk rfl rfl rfl rfl rfl rfl ?_; clear A; intro a A)
      | ((with_reducible refine qg_load ?_); refine qx_load A tbOk rfl rfl rfl rfl ?_; clear A; intro a A)
      | ((with_reducible refine qg_idx ?_); first | (refine qx_idx H A tbOk rfl rfl rfl rfl rfl rfl ?_; clear A; intro a A) | (refine qx_oidx H A tbOk rfl rfl rfl rfl rfl rfl ?_; clear A; intro a A)))
    )
theorem sl_ref03_Stands (H : St M F0 w0 F B R w) {s : ByteArray} {b : Bool} (hr : standsB s = b) (k : ∀ Fx w', St M F0 w0 Fx B R w' → K (.returned (.bool b)) w') : Calls Tryd.prog 52 #[.string s] w K := by
  refine St.fn0 H (R0 := []) no_mem (fun H => ?_)
  refine sx_enter Tryd.func52 Tryd.ntmps52 rfl rfl (fun a A => ?_)
  have hc := stands_cases hr
  clear hr
  rcases hc with ⟨rfl, h1⟩ | ⟨rfl, h1, r, h2, h3⟩ | ⟨rfl, h1, h2⟩
  all_goals repeat' (first
    | ((with_reducible refine g_call ?_); refine sx_call (f := 41) A rfl Tryd.call41 rfl rfl ?_; refine sl_ref01_Trim H (by omega) h2 ?_; clear H; intro F_ w_ H; refine ⟨_, rfl, ?_⟩; clear A; intro a A)
    | (refine sx_ret tbOk H A rfl ?_; exact H.ret0 fun Fx Hx => k Fx _ Hx)
    | with_reducible refine wp_seq ?_
    | with_reducible refine sx_region ?_
    | with_reducible refine wp_block ?_
    | with_reducible refine wpList_nil ?_
    | with_reducible refine sx_then ?_
    | with_reducible refine sx_inb ?_
    | with_reducible refine wp_skip ?_
    | with_reducible refine wp_ret ?_
    | with_reducible refine wp_exit ?_
    | with_reducible refine sx_then_ret ?_
    | with_reducible refine sx_inb_ret ?_
    | with_reducible refine sx_then_exit ?_
    | with_reducible refine sx_inb_exit ?_
    | with_reducible refine sx_inb_other rfl ?_
    | with_reducible refine sx_if_t A rfl ?_
    | with_reducible refine sx_if_f A rfl ?_
    | ((with_reducible refine sx_at ?_); first
      | (refine sx_pure A tbOk rfl rfl rfl ?_; clear A; intro a A)
      | (refine sx_skip A rfl rfl ?_; clear A; intro a A)
      | ((with_reducible refine g_bin ?_); first | ((refine g_int A rfl ?_); first | (refine sx_cmp A rfl rfl rfl rfl ?_; clear A; intro a A) | (refine sx_arith A rfl rfl rfl rfl ?_; clear A; intro a A) | (refine sx_shl A rfl rfl rfl rfl ?_; clear A; intro a A) | (refine sx_shr A rfl rfl rfl rfl ?_; clear A; intro a A)) | ((refine g_str A rfl ?_); first | (refine sx_scmp A rfl rfl rfl rfl ?_; clear A; intro a A) | (refine sx_concat A rfl rfl rfl rfl ?_; clear A; intro a A)))
      | ((with_reducible refine g_load ?_); first | (refine sx_load_all H A tbOk rfl rfl rfl rfl rfl ?_; clear A; intro a A) | (refine sx_load H A tbOk rfl rfl rfl rfl ?_; clear A; intro a A))
      | ((with_reducible refine g_store ?_); refine sx_store H A tbOk rfl rfl rfl rfl ?_; clear H; intro w_ H)
      | ((with_reducible refine g_box ?_); refine sx_box H A rfl rfl rfl ?_; clear H A; intro b_ a w_ A H)
      | ((with_reducible refine g_alloc ?_); refine sx_alloc H A tbOk rfl rfl rfl ?_; clear H A; intro b_ a w_ A H)
      | ((with_reducible refine g_build ?_); refine sx_build A tbOk rfl rfl rfl rfl rfl rfl ?_; clear A; intro a A)
      | ((with_reducible refine g_builtin ?_); first | (refine sx_min A rfl rfl rfl rfl ?_; clear A; intro a A) | (refine sx_max A rfl rfl rfl rfl ?_; clear A; intro a A))
      | ((with_reducible refine g_slice ?_); first | (refine sx_sstr A tbOk rfl rfl rfl rfl rfl rfl ?_; clear A; intro a A) | (refine sx_cut H A tbOk rfl rfl rfl rfl rfl rfl rfl ?_; clear A H; intro A_ c_ a hc_ A H))
      | ((with_reducible refine g_index ?_); refine sx_sidx A tbOk rfl rfl rfl rfl rfl ?_; clear A; intro a A)
      | ((with_reducible refine g_idx ?_); first | (refine sx_idx H A tbOk rfl rfl rfl rfl rfl rfl ?_; clear A; intro a A) | (refine sx_oidx H A tbOk rfl rfl rfl rfl rfl rfl ?_; clear A; intro a A))
      | ((with_reducible refine g_conv ?_); refine sx_conv A tbOk rfl rfl rfl rfl rfl ?_; clear A; intro a A)
      )
    | ((with_reducible refine g_draw ?_); refine qx_region H (by kernel_rfl) (by kernel_rfl) ?_)
    | ((with_reducible refine qx_nil ?_); clear H; intro w_ F_ H)
    | ((with_reducible refine q_at ?_); first
      | (refine qx_pure A tbOk rfl rfl rfl ?_; clear A; intro a A)
      | (refine qx_skip A rfl rfl ?_; clear A; intro a A)
      | ((with_reducible refine qg_bin ?_); first | ((refine qg_int A rfl ?_); first | (refine qx_cmp A rfl rfl rfl rfl ?_; clear A; intro a A) | (refine qx_arith A rfl rfl rfl rfl ?_; clear A; intro a A)) | ((refine qg_str A rfl ?_); first | (refine qx_scmp A rfl rfl rfl rfl ?_; clear A; intro a A) | (refine qx_concat A rfl rfl rfl rfl ?_; clear A; intro a A)))
      | ((with_reducible refine qg_builtin ?_); first | (refine qx_min A rfl rfl rfl rfl ?_; clear A; intro a A) | (refine qx_max A rfl rfl rfl rfl ?_; clear A; intro a A))
      | ((with_reducible refine qg_slice ?_); refine qx_sstr A tbOk rfl rfl rfl rfl rfl rfl ?_; clear A; intro a A)
      | ((with_reducible refine qg_load ?_); refine qx_load A tbOk rfl rfl rfl rfl ?_; clear A; intro a A)
      | ((with_reducible refine qg_idx ?_); first | (refine qx_idx H A tbOk rfl rfl rfl rfl rfl rfl ?_; clear A; intro a A) | (refine qx_oidx H A tbOk rfl rfl rfl rfl rfl rfl ?_; clear A; intro a A)))
    )
theorem has_cases {n : Nat} {x : Int} {b : Bool} (hr : hasB n x = b) : (b = false ∧ x < 0) ∨ (b = false ∧ 0 ≤ x ∧ (n : Int) ≤ x) ∨ (b = true ∧ 0 ≤ x ∧ x < (n : Int)) := by
  subst hr; unfold hasB
  by_cases h1 : 0 ≤ x <;> by_cases h2 : x < (n : Int) <;> simp [h1, h2] <;> omega
theorem sl_disk_has (H : St M F0 w0 F B R w) {A0 A1 : Option Addr} {c0 c1 n n1 : Nat} {x : Int} {b : Bool} (hr : hasB n x = b) (k : ∀ Fx w', St M F0 w0 Fx B R w' → K (.returned (.bool b)) w') : Calls Tryd.prog 51 #[.agg #[.slice A0 n c0, .slice A1 n1 c1], .int .i64 x] w K := by
  refine St.fn0 H (R0 := []) no_mem (fun H => ?_)
  refine sx_enter Tryd.func51 Tryd.ntmps51 rfl rfl (fun a A => ?_)
  have hc := has_cases hr
  clear hr
  rcases hc with ⟨rfl, h1⟩ | ⟨rfl, h1, h2⟩ | ⟨rfl, h1, h2⟩
  all_goals repeat' (first
    | (refine sx_ret tbOk H A rfl ?_; exact H.ret0 fun Fx Hx => k Fx _ Hx)
    | with_reducible refine wp_seq ?_
    | with_reducible refine sx_region ?_
    | with_reducible refine wp_block ?_
    | with_reducible refine wpList_nil ?_
    | with_reducible refine sx_then ?_
    | with_reducible refine sx_inb ?_
    | with_reducible refine wp_skip ?_
    | with_reducible refine wp_ret ?_
    | with_reducible refine wp_exit ?_
    | with_reducible refine sx_then_ret ?_
    | with_reducible refine sx_inb_ret ?_
    | with_reducible refine sx_then_exit ?_
    | with_reducible refine sx_inb_exit ?_
    | with_reducible refine sx_inb_other rfl ?_
    | with_reducible refine sx_if_t A rfl ?_
    | with_reducible refine sx_if_f A rfl ?_
    | ((with_reducible refine sx_at ?_); first
      | (refine sx_pure A tbOk rfl rfl rfl ?_; clear A; intro a A)
      | (refine sx_skip A rfl rfl ?_; clear A; intro a A)
      | ((with_reducible refine g_bin ?_); first | ((refine g_int A rfl ?_); first | (refine sx_cmp A rfl rfl rfl rfl ?_; clear A; intro a A) | (refine sx_arith A rfl rfl rfl rfl ?_; clear A; intro a A) | (refine sx_shl A rfl rfl rfl rfl ?_; clear A; intro a A) | (refine sx_shr A rfl rfl rfl rfl ?_; clear A; intro a A)) | ((refine g_str A rfl ?_); first | (refine sx_scmp A rfl rfl rfl rfl ?_; clear A; intro a A) | (refine sx_concat A rfl rfl rfl rfl ?_; clear A; intro a A)))
      | ((with_reducible refine g_load ?_); first | (refine sx_load_all H A tbOk rfl rfl rfl rfl rfl ?_; clear A; intro a A) | (refine sx_load H A tbOk rfl rfl rfl rfl ?_; clear A; intro a A))
      | ((with_reducible refine g_store ?_); refine sx_store H A tbOk rfl rfl rfl rfl ?_; clear H; intro w_ H)
      | ((with_reducible refine g_box ?_); refine sx_box H A rfl rfl rfl ?_; clear H A; intro b_ a w_ A H)
      | ((with_reducible refine g_alloc ?_); refine sx_alloc H A tbOk rfl rfl rfl ?_; clear H A; intro b_ a w_ A H)
      | ((with_reducible refine g_build ?_); refine sx_build A tbOk rfl rfl rfl rfl rfl rfl ?_; clear A; intro a A)
      | ((with_reducible refine g_builtin ?_); first | (refine sx_min A rfl rfl rfl rfl ?_; clear A; intro a A) | (refine sx_max A rfl rfl rfl rfl ?_; clear A; intro a A))
      | ((with_reducible refine g_slice ?_); first | (refine sx_sstr A tbOk rfl rfl rfl rfl rfl rfl ?_; clear A; intro a A) | (refine sx_cut H A tbOk rfl rfl rfl rfl rfl rfl rfl ?_; clear A H; intro A_ c_ a hc_ A H))
      | ((with_reducible refine g_index ?_); refine sx_sidx A tbOk rfl rfl rfl rfl rfl ?_; clear A; intro a A)
      | ((with_reducible refine g_idx ?_); first | (refine sx_idx H A tbOk rfl rfl rfl rfl rfl rfl ?_; clear A; intro a A) | (refine sx_oidx H A tbOk rfl rfl rfl rfl rfl rfl ?_; clear A; intro a A))
      | ((with_reducible refine g_conv ?_); refine sx_conv A tbOk rfl rfl rfl rfl rfl ?_; clear A; intro a A)
      )
    | ((with_reducible refine g_draw ?_); refine qx_region H (by kernel_rfl) (by kernel_rfl) ?_)
    | ((with_reducible refine qx_nil ?_); clear H; intro w_ F_ H)
    | ((with_reducible refine q_at ?_); first
      | (refine qx_pure A tbOk rfl rfl rfl ?_; clear A; intro a A)
      | (refine qx_skip A rfl rfl ?_; clear A; intro a A)
      | ((with_reducible refine qg_bin ?_); first | ((refine qg_int A rfl ?_); first | (refine qx_cmp A rfl rfl rfl rfl ?_; clear A; intro a A) | (refine qx_arith A rfl rfl rfl rfl ?_; clear A; intro a A)) | ((refine qg_str A rfl ?_); first | (refine qx_scmp A rfl rfl rfl rfl ?_; clear A; intro a A) | (refine qx_concat A rfl rfl rfl rfl ?_; clear A; intro a A)))
      | ((with_reducible refine qg_builtin ?_); first | (refine qx_min A rfl rfl rfl rfl ?_; clear A; intro a A) | (refine qx_max A rfl rfl rfl rfl ?_; clear A; intro a A))
      | ((with_reducible refine qg_slice ?_); refine qx_sstr A tbOk rfl rfl rfl rfl rfl rfl ?_; clear A; intro a A)
      | ((with_reducible refine qg_load ?_); refine qx_load A tbOk rfl rfl rfl rfl ?_; clear A; intro a A)
      | ((with_reducible refine qg_idx ?_); first | (refine qx_idx H A tbOk rfl rfl rfl rfl rfl rfl ?_; clear A; intro a A) | (refine qx_oidx H A tbOk rfl rfl rfl rfl rfl rfl ?_; clear A; intro a A)))
    )
theorem sl_disk_Right1 (H : St M F0 w0 F B R w) {Br : List Box} {bb : Nat} {A0 A1 : Option Addr} {c0 c1 n n1 : Nat} {x : Wr} {b : Bool} (hr : (!wrB n x) = b) (k : ∀ Fx w', St M F0 w0 Fx (.mk bb 25 [.slice A0 n c0, .slice A1 n1 c1] :: Br) R w' → K (.returned (.bool b)) w') (hd : Del B (.mk bb 25 [.slice A0 n c0, .slice A1 n1 c1]) Br := by (repeat (first | with_reducible exact Del.hd | apply Del.tl))) : Calls Tryd.prog 50 #[.agg #[.int .i64 x.sec, .string x.bytes], .pointer (some ⟨bb, 0, none⟩)] w K := by
  refine St.fn (Bm := [.mk bb 25 [.slice A0 n c0, .slice A1 n1 c1]]) H (.cons hd (sel_refl Br)) (R0 := []) no_mem (fun H => ?_)
  refine sx_enter Tryd.func50 Tryd.ntmps50 rfl rfl (fun a A => ?_)
  obtain ⟨b1, h1⟩ : ∃ b1, hasB n x.sec = b1 := ⟨_, rfl⟩
  obtain ⟨b2, h2⟩ : ∃ b2, standsB x.bytes = b2 := ⟨_, rfl⟩
  unfold wrB at hr
  rw [h1, h2] at hr
  subst hr
  cases b1 <;> cases b2
  all_goals repeat' (first
    | ((with_reducible refine g_call ?_); first | (refine sx_call (f := 51) A rfl Tryd.call51 rfl rfl ?_; refine sl_disk_has H h1 ?_; clear H; intro F_ w_ H; refine ⟨_, rfl, ?_⟩; clear A; intro a A) | (refine sx_call (f := 48) A rfl Tryd.call48 rfl rfl ?_; refine sl_disk_stands H h2 ?_; clear H; intro F_ w_ H; refine ⟨_, rfl, ?_⟩; clear A; intro a A))
    | (refine sx_ret tbOk H A rfl ?_; exact H.retB (Bs := [_]) (ps := []) (fun Fx Hx => k Fx _ Hx))
    | with_reducible refine wp_seq ?_
    | with_reducible refine sx_region ?_
    | with_reducible refine wp_block ?_
    | with_reducible refine wpList_nil ?_
    | with_reducible refine sx_then ?_
    | with_reducible refine sx_inb ?_
    | with_reducible refine wp_skip ?_
    | with_reducible refine wp_ret ?_
    | with_reducible refine wp_exit ?_
    | with_reducible refine sx_then_ret ?_
    | with_reducible refine sx_inb_ret ?_
    | with_reducible refine sx_then_exit ?_
    | with_reducible refine sx_inb_exit ?_
    | with_reducible refine sx_inb_other rfl ?_
    | with_reducible refine sx_if_t A rfl ?_
    | with_reducible refine sx_if_f A rfl ?_
    | ((with_reducible refine sx_at ?_); first
      | (refine sx_pure A tbOk rfl rfl rfl ?_; clear A; intro a A)
      | (refine sx_skip A rfl rfl ?_; clear A; intro a A)
      | ((with_reducible refine g_bin ?_); first | ((refine g_int A rfl ?_); first | (refine sx_cmp A rfl rfl rfl rfl ?_; clear A; intro a A) | (refine sx_arith A rfl rfl rfl rfl ?_; clear A; intro a A) | (refine sx_shl A rfl rfl rfl rfl ?_; clear A; intro a A) | (refine sx_shr A rfl rfl rfl rfl ?_; clear A; intro a A)) | ((refine g_str A rfl ?_); first | (refine sx_scmp A rfl rfl rfl rfl ?_; clear A; intro a A) | (refine sx_concat A rfl rfl rfl rfl ?_; clear A; intro a A)))
      | ((with_reducible refine g_load ?_); first | (refine sx_load_all H A tbOk rfl rfl rfl rfl rfl ?_; clear A; intro a A) | (refine sx_load H A tbOk rfl rfl rfl rfl ?_; clear A; intro a A))
      | ((with_reducible refine g_store ?_); refine sx_store H A tbOk rfl rfl rfl rfl ?_; clear H; intro w_ H)
      | ((with_reducible refine g_box ?_); refine sx_box H A rfl rfl rfl ?_; clear H A; intro b_ a w_ A H)
      | ((with_reducible refine g_alloc ?_); refine sx_alloc H A tbOk rfl rfl rfl ?_; clear H A; intro b_ a w_ A H)
      | ((with_reducible refine g_build ?_); refine sx_build A tbOk rfl rfl rfl rfl rfl rfl ?_; clear A; intro a A)
      | ((with_reducible refine g_builtin ?_); first | (refine sx_min A rfl rfl rfl rfl ?_; clear A; intro a A) | (refine sx_max A rfl rfl rfl rfl ?_; clear A; intro a A))
      | ((with_reducible refine g_slice ?_); first | (refine sx_sstr A tbOk rfl rfl rfl rfl rfl rfl ?_; clear A; intro a A) | (refine sx_cut H A tbOk rfl rfl rfl rfl rfl rfl rfl ?_; clear A H; intro A_ c_ a hc_ A H))
      | ((with_reducible refine g_index ?_); refine sx_sidx A tbOk rfl rfl rfl rfl rfl ?_; clear A; intro a A)
      | ((with_reducible refine g_idx ?_); first | (refine sx_idx H A tbOk rfl rfl rfl rfl rfl rfl ?_; clear A; intro a A) | (refine sx_oidx H A tbOk rfl rfl rfl rfl rfl rfl ?_; clear A; intro a A))
      | ((with_reducible refine g_conv ?_); refine sx_conv A tbOk rfl rfl rfl rfl rfl ?_; clear A; intro a A)
      )
    | ((with_reducible refine g_draw ?_); refine qx_region H (by kernel_rfl) (by kernel_rfl) ?_)
    | ((with_reducible refine qx_nil ?_); clear H; intro w_ F_ H)
    | ((with_reducible refine q_at ?_); first
      | (refine qx_pure A tbOk rfl rfl rfl ?_; clear A; intro a A)
      | (refine qx_skip A rfl rfl ?_; clear A; intro a A)
      | ((with_reducible refine qg_bin ?_); first | ((refine qg_int A rfl ?_); first | (refine qx_cmp A rfl rfl rfl rfl ?_; clear A; intro a A) | (refine qx_arith A rfl rfl rfl rfl ?_; clear A; intro a A)) | ((refine qg_str A rfl ?_); first | (refine qx_scmp A rfl rfl rfl rfl ?_; clear A; intro a A) | (refine qx_concat A rfl rfl rfl rfl ?_; clear A; intro a A)))
      | ((with_reducible refine qg_builtin ?_); first | (refine qx_min A rfl rfl rfl rfl ?_; clear A; intro a A) | (refine qx_max A rfl rfl rfl rfl ?_; clear A; intro a A))
      | ((with_reducible refine qg_slice ?_); refine qx_sstr A tbOk rfl rfl rfl rfl rfl rfl ?_; clear A; intro a A)
      | ((with_reducible refine qg_load ?_); refine qx_load A tbOk rfl rfl rfl rfl ?_; clear A; intro a A)
      | ((with_reducible refine qg_idx ?_); first | (refine qx_idx H A tbOk rfl rfl rfl rfl rfl rfl ?_; clear A; intro a A) | (refine qx_oidx H A tbOk rfl rfl rfl rfl rfl rfl ?_; clear A; intro a A)))
    )
theorem sl_indexFuncW (H : St M F0 w0 F B R w) {Bm Br : List Box} {l : List Wr} {A0 : Option Addr} {c0 : Nat} {f : FuncId} {cs : List Value} {p : Wr → Bool} (hl : l.length ≤ 4611686018427387904) (hc : ∀ (args : Array Value) (w : World), (callFunc f args).run Tryd.prog w = .ok (.enter f args) w) (hp : ∀ {M F0 F : Nat → Prop} {w0 w : World} {R : List (World → Prop)} {K : Ending → World → Prop} (x : Wr), St M F0 w0 F Bm R w → (∀ Fx w', St M F0 w0 Fx Bm R w' → K (.returned (.bool (p x))) w') → Calls Tryd.prog f (.agg #[.int .i64 x.sec, .string x.bytes] :: cs).toArray w K)
    (hB : Sel B (Bm ++ Br)) (k : ∀ (r : Int) Fx w', (0 ≤ r ↔ l.any p = true) → -1 ≤ r → r ≤ l.length → St M F0 w0 Fx (Bm ++ Br) R w' → K (.returned (.int .i64 r)) w') (hm : rdc kWr A0 l ∈ R := by (repeat (first | with_reducible exact List.mem_cons_self | apply List.mem_cons_of_mem))) : Calls Tryd.prog 70 #[.slice A0 l.length c0, .func (.func f) #[] cs.toArray] w K := by
  refine St.fn H hB (R0 := [rdc kWr A0 l]) (fun p hp => by rw [List.mem_singleton.1 hp]; exact hm) (fun H => ?_)
  refine sx_enter Tryd.func70 Tryd.ntmps70 rfl rfl (fun a A => ?_)
  repeat' (first
    | with_reducible refine wp_seq ?_
    | with_reducible refine sx_region ?_
    | with_reducible refine wp_block ?_
    | with_reducible refine wpList_nil ?_
    | with_reducible refine sx_then ?_
    | with_reducible refine sx_inb ?_
    | with_reducible refine wp_skip ?_
    | with_reducible refine wp_ret ?_
    | with_reducible refine wp_exit ?_
    | with_reducible refine sx_then_ret ?_
    | with_reducible refine sx_inb_ret ?_
    | with_reducible refine sx_then_exit ?_
    | with_reducible refine sx_inb_exit ?_
    | with_reducible refine sx_inb_other rfl ?_
    | with_reducible refine sx_if_t A rfl ?_
    | with_reducible refine sx_if_f A rfl ?_
    | ((with_reducible refine sx_at ?_); first
      | (refine sx_pure A tbOk rfl rfl rfl ?_; clear A; intro a A)
      | (refine sx_skip A rfl rfl ?_; clear A; intro a A)
      | ((with_reducible refine g_bin ?_); first | ((refine g_int A rfl ?_); first | (refine sx_cmp A rfl rfl rfl rfl ?_; clear A; intro a A) | (refine sx_arith A rfl rfl rfl rfl ?_; clear A; intro a A) | (refine sx_shl A rfl rfl rfl rfl ?_; clear A; intro a A) | (refine sx_shr A rfl rfl rfl rfl ?_; clear A; intro a A)) | ((refine g_str A rfl ?_); first | (refine sx_scmp A rfl rfl rfl rfl ?_; clear A; intro a A) | (refine sx_concat A rfl rfl rfl rfl ?_; clear A; intro a A)))
      | ((with_reducible refine g_load ?_); first | (refine sx_load_all H A tbOk rfl rfl rfl rfl rfl ?_; clear A; intro a A) | (refine sx_load H A tbOk rfl rfl rfl rfl ?_; clear A; intro a A))
      | ((with_reducible refine g_store ?_); refine sx_store H A tbOk rfl rfl rfl rfl ?_; clear H; intro w_ H)
      | ((with_reducible refine g_box ?_); refine sx_box H A rfl rfl rfl ?_; clear H A; intro b_ a w_ A H)
      | ((with_reducible refine g_alloc ?_); refine sx_alloc H A tbOk rfl rfl rfl ?_; clear H A; intro b_ a w_ A H)
      | ((with_reducible refine g_build ?_); refine sx_build A tbOk rfl rfl rfl rfl rfl rfl ?_; clear A; intro a A)
      | ((with_reducible refine g_builtin ?_); first | (refine sx_min A rfl rfl rfl rfl ?_; clear A; intro a A) | (refine sx_max A rfl rfl rfl rfl ?_; clear A; intro a A))
      | ((with_reducible refine g_slice ?_); first | (refine sx_sstr A tbOk rfl rfl rfl rfl rfl rfl ?_; clear A; intro a A) | (refine sx_cut H A tbOk rfl rfl rfl rfl rfl rfl rfl ?_; clear A H; intro A_ c_ a hc_ A H))
      | ((with_reducible refine g_index ?_); refine sx_sidx A tbOk rfl rfl rfl rfl rfl ?_; clear A; intro a A)
      | ((with_reducible refine g_idx ?_); first | (refine sx_idx H A tbOk rfl rfl rfl rfl rfl rfl ?_; clear A; intro a A) | (refine sx_oidx H A tbOk rfl rfl rfl rfl rfl rfl ?_; clear A; intro a A))
      | ((with_reducible refine g_conv ?_); refine sx_conv A tbOk rfl rfl rfl rfl rfl ?_; clear A; intro a A)
      )
    | ((with_reducible refine g_draw ?_); refine qx_region H (by kernel_rfl) (by kernel_rfl) ?_)
    | ((with_reducible refine qx_nil ?_); clear H; intro w_ F_ H)
    | ((with_reducible refine q_at ?_); first
      | (refine qx_pure A tbOk rfl rfl rfl ?_; clear A; intro a A)
      | (refine qx_skip A rfl rfl ?_; clear A; intro a A)
      | ((with_reducible refine qg_bin ?_); first | ((refine qg_int A rfl ?_); first | (refine qx_cmp A rfl rfl rfl rfl ?_; clear A; intro a A) | (refine qx_arith A rfl rfl rfl rfl ?_; clear A; intro a A)) | ((refine qg_str A rfl ?_); first | (refine qx_scmp A rfl rfl rfl rfl ?_; clear A; intro a A) | (refine qx_concat A rfl rfl rfl rfl ?_; clear A; intro a A)))
      | ((with_reducible refine qg_builtin ?_); first | (refine qx_min A rfl rfl rfl rfl ?_; clear A; intro a A) | (refine qx_max A rfl rfl rfl rfl ?_; clear A; intro a A))
      | ((with_reducible refine qg_slice ?_); refine qx_sstr A tbOk rfl rfl rfl rfl rfl rfl ?_; clear A; intro a A)
      | ((with_reducible refine qg_load ?_); refine qx_load A tbOk rfl rfl rfl rfl ?_; clear A; intro a A)
      | ((with_reducible refine qg_idx ?_); first | (refine qx_idx H A tbOk rfl rfl rfl rfl rfl rfl ?_; clear A; intro a A) | (refine qx_oidx H A tbOk rfl rfl rfl rfl rfl rfl ?_; clear A; intro a A)))
    )
  refine sx_rounds (fun i : Nat => i ≤ l.length ∧ (l.take i).any p = false) (fun i => [(8, .int .i64 (i : Int)), (7, _), (0, _), (1, _)]) (fun i => Bm) (fun _ => [_]) (fun i => l.length - i) 0 H A.subs ⟨Nat.zero_le _, by simp⟩ (fun i F a W hi H A => ?_)
  obtain ⟨hi, hx⟩ := hi
  rcases Nat.lt_or_ge i l.length with hlt | hge
  · obtain ⟨y, hy⟩ : ∃ y, l[i]? = some y := ⟨_, List.getElem?_eq_getElem hlt⟩
    have hy2 := (List.getElem?_eq_some_iff.1 hy).2
    have hmem : y ∈ l := List.mem_of_getElem? hy
    cases hpy : p y
    all_goals repeat' (first
    | ((with_reducible refine g_load ?_); refine sx_eload (dk := kWr) H A tbOk rfl rfl rfl rfl rfl (fun c hcl hK => ?_); obtain rfl := kWr_open hK; refine ⟨_, rfl, ?_⟩; clear A; intro a A)
    | ((with_reducible refine g_call ?_); refine sx_callv (f := f) A rfl rfl hc rfl rfl rfl ?_; refine hp y H ?_; clear H; intro F_ w_ H; rw [hpy]; refine ⟨_, rfl, ?_⟩; clear A; intro a A)
    | (refine sx_ret tbOk H A rfl ?_; exact H.retB (Bs := Bm) (ps := []) (fun Fx Hx => k _ Fx _ ⟨fun _ => List.any_eq_true.2 ⟨y, hmem, hpy⟩, fun _ => by omega⟩ (by omega) (by omega) Hx) (sel_refl _))
    | with_reducible refine wp_seq ?_
    | with_reducible refine sx_region ?_
    | with_reducible refine wp_block ?_
    | with_reducible refine wpList_nil ?_
    | with_reducible refine sx_then ?_
    | with_reducible refine sx_inb ?_
    | with_reducible refine wp_skip ?_
    | with_reducible refine wp_ret ?_
    | with_reducible refine wp_exit ?_
    | with_reducible refine sx_then_ret ?_
    | with_reducible refine sx_inb_ret ?_
    | with_reducible refine sx_then_exit ?_
    | with_reducible refine sx_inb_exit ?_
    | with_reducible refine sx_inb_other rfl ?_
    | with_reducible refine sx_if_t A rfl ?_
    | with_reducible refine sx_if_f A rfl ?_
    | ((with_reducible refine sx_at ?_); first
      | (refine sx_pure A tbOk rfl rfl rfl ?_; clear A; intro a A)
      | (refine sx_skip A rfl rfl ?_; clear A; intro a A)
      | ((with_reducible refine g_bin ?_); first | ((refine g_int A rfl ?_); first | (refine sx_cmp A rfl rfl rfl rfl ?_; clear A; intro a A) | (refine sx_arith A rfl rfl rfl rfl ?_; clear A; intro a A) | (refine sx_shl A rfl rfl rfl rfl ?_; clear A; intro a A) | (refine sx_shr A rfl rfl rfl rfl ?_; clear A; intro a A)) | ((refine g_str A rfl ?_); first | (refine sx_scmp A rfl rfl rfl rfl ?_; clear A; intro a A) | (refine sx_concat A rfl rfl rfl rfl ?_; clear A; intro a A)))
      | ((with_reducible refine g_load ?_); first | (refine sx_load_all H A tbOk rfl rfl rfl rfl rfl ?_; clear A; intro a A) | (refine sx_load H A tbOk rfl rfl rfl rfl ?_; clear A; intro a A))
      | ((with_reducible refine g_store ?_); refine sx_store H A tbOk rfl rfl rfl rfl ?_; clear H; intro w_ H)
      | ((with_reducible refine g_box ?_); refine sx_box H A rfl rfl rfl ?_; clear H A; intro b_ a w_ A H)
      | ((with_reducible refine g_alloc ?_); refine sx_alloc H A tbOk rfl rfl rfl ?_; clear H A; intro b_ a w_ A H)
      | ((with_reducible refine g_build ?_); refine sx_build A tbOk rfl rfl rfl rfl rfl rfl ?_; clear A; intro a A)
      | ((with_reducible refine g_builtin ?_); first | (refine sx_min A rfl rfl rfl rfl ?_; clear A; intro a A) | (refine sx_max A rfl rfl rfl rfl ?_; clear A; intro a A))
      | ((with_reducible refine g_slice ?_); first | (refine sx_sstr A tbOk rfl rfl rfl rfl rfl rfl ?_; clear A; intro a A) | (refine sx_cut H A tbOk rfl rfl rfl rfl rfl rfl rfl ?_; clear A H; intro A_ c_ a hc_ A H))
      | ((with_reducible refine g_index ?_); refine sx_sidx A tbOk rfl rfl rfl rfl rfl ?_; clear A; intro a A)
      | ((with_reducible refine g_idx ?_); first | (refine sx_idx H A tbOk rfl rfl rfl rfl rfl rfl ?_; clear A; intro a A) | (refine sx_oidx H A tbOk rfl rfl rfl rfl rfl rfl ?_; clear A; intro a A))
      | ((with_reducible refine g_conv ?_); refine sx_conv A tbOk rfl rfl rfl rfl rfl ?_; clear A; intro a A)
      )
    | ((with_reducible refine g_draw ?_); refine qx_region H (by kernel_rfl) (by kernel_rfl) ?_)
    | ((with_reducible refine qx_nil ?_); clear H; intro w_ F_ H)
    | ((with_reducible refine q_at ?_); first
      | (refine qx_pure A tbOk rfl rfl rfl ?_; clear A; intro a A)
      | (refine qx_skip A rfl rfl ?_; clear A; intro a A)
      | ((with_reducible refine qg_bin ?_); first | ((refine qg_int A rfl ?_); first | (refine qx_cmp A rfl rfl rfl rfl ?_; clear A; intro a A) | (refine qx_arith A rfl rfl rfl rfl ?_; clear A; intro a A)) | ((refine qg_str A rfl ?_); first | (refine qx_scmp A rfl rfl rfl rfl ?_; clear A; intro a A) | (refine qx_concat A rfl rfl rfl rfl ?_; clear A; intro a A)))
      | ((with_reducible refine qg_builtin ?_); first | (refine qx_min A rfl rfl rfl rfl ?_; clear A; intro a A) | (refine qx_max A rfl rfl rfl rfl ?_; clear A; intro a A))
      | ((with_reducible refine qg_slice ?_); refine qx_sstr A tbOk rfl rfl rfl rfl rfl rfl ?_; clear A; intro a A)
      | ((with_reducible refine qg_load ?_); refine qx_load A tbOk rfl rfl rfl rfl ?_; clear A; intro a A)
      | ((with_reducible refine qg_idx ?_); first | (refine qx_idx H A tbOk rfl rfl rfl rfl rfl rfl ?_; clear A; intro a A) | (refine qx_oidx H A tbOk rfl rfl rfl rfl rfl rfl ?_; clear A; intro a A)))
    )
    exact ⟨i + 1, _, ⟨by omega, by rw [List.take_succ_eq_append_getElem hlt, hy2]; simp [hx, hpy]⟩, by omega, H, A.subs⟩
  · have hxl : l.any p = false := by rwa [show i = l.length by omega, List.take_length] at hx
    repeat' (first
    | (refine sx_end tbOk H A rfl ?_; exact H.retB (Bs := Bm) (ps := []) (fun Fx Hx => k _ Fx _ ⟨fun h => absurd h (by decide), fun h => absurd h (by rw [hxl]; decide)⟩ (by omega) (by omega) Hx) (sel_refl _))
    | (refine sx_ret tbOk H A rfl ?_; exact H.retB (Bs := Bm) (ps := []) (fun Fx Hx => k _ Fx _ ⟨fun h => absurd h (by decide), fun h => absurd h (by rw [hxl]; decide)⟩ (by omega) (by omega) Hx) (sel_refl _))
    | with_reducible refine wp_seq ?_
    | with_reducible refine sx_region ?_
    | with_reducible refine wp_block ?_
    | with_reducible refine wpList_nil ?_
    | with_reducible refine sx_then ?_
    | with_reducible refine sx_inb ?_
    | with_reducible refine wp_skip ?_
    | with_reducible refine wp_ret ?_
    | with_reducible refine wp_exit ?_
    | with_reducible refine sx_then_ret ?_
    | with_reducible refine sx_inb_ret ?_
    | with_reducible refine sx_then_exit ?_
    | with_reducible refine sx_inb_exit ?_
    | with_reducible refine sx_inb_other rfl ?_
    | with_reducible refine sx_if_t A rfl ?_
    | with_reducible refine sx_if_f A rfl ?_
    | ((with_reducible refine sx_at ?_); first
      | (refine sx_pure A tbOk rfl rfl rfl ?_; clear A; intro a A)
      | (refine sx_skip A rfl rfl ?_; clear A; intro a A)
      | ((with_reducible refine g_bin ?_); first | ((refine g_int A rfl ?_); first | (refine sx_cmp A rfl rfl rfl rfl ?_; clear A; intro a A) | (refine sx_arith A rfl rfl rfl rfl ?_; clear A; intro a A) | (refine sx_shl A rfl rfl rfl rfl ?_; clear A; intro a A) | (refine sx_shr A rfl rfl rfl rfl ?_; clear A; intro a A)) | ((refine g_str A rfl ?_); first | (refine sx_scmp A rfl rfl rfl rfl ?_; clear A; intro a A) | (refine sx_concat A rfl rfl rfl rfl ?_; clear A; intro a A)))
      | ((with_reducible refine g_load ?_); first | (refine sx_load_all H A tbOk rfl rfl rfl rfl rfl ?_; clear A; intro a A) | (refine sx_load H A tbOk rfl rfl rfl rfl ?_; clear A; intro a A))
      | ((with_reducible refine g_store ?_); refine sx_store H A tbOk rfl rfl rfl rfl ?_; clear H; intro w_ H)
      | ((with_reducible refine g_box ?_); refine sx_box H A rfl rfl rfl ?_; clear H A; intro b_ a w_ A H)
      | ((with_reducible refine g_alloc ?_); refine sx_alloc H A tbOk rfl rfl rfl ?_; clear H A; intro b_ a w_ A H)
      | ((with_reducible refine g_build ?_); refine sx_build A tbOk rfl rfl rfl rfl rfl rfl ?_; clear A; intro a A)
      | ((with_reducible refine g_builtin ?_); first | (refine sx_min A rfl rfl rfl rfl ?_; clear A; intro a A) | (refine sx_max A rfl rfl rfl rfl ?_; clear A; intro a A))
      | ((with_reducible refine g_slice ?_); first | (refine sx_sstr A tbOk rfl rfl rfl rfl rfl rfl ?_; clear A; intro a A) | (refine sx_cut H A tbOk rfl rfl rfl rfl rfl rfl rfl ?_; clear A H; intro A_ c_ a hc_ A H))
      | ((with_reducible refine g_index ?_); refine sx_sidx A tbOk rfl rfl rfl rfl rfl ?_; clear A; intro a A)
      | ((with_reducible refine g_idx ?_); first | (refine sx_idx H A tbOk rfl rfl rfl rfl rfl rfl ?_; clear A; intro a A) | (refine sx_oidx H A tbOk rfl rfl rfl rfl rfl rfl ?_; clear A; intro a A))
      | ((with_reducible refine g_conv ?_); refine sx_conv A tbOk rfl rfl rfl rfl rfl ?_; clear A; intro a A)
      )
    | ((with_reducible refine g_draw ?_); refine qx_region H (by kernel_rfl) (by kernel_rfl) ?_)
    | ((with_reducible refine qx_nil ?_); clear H; intro w_ F_ H)
    | ((with_reducible refine q_at ?_); first
      | (refine qx_pure A tbOk rfl rfl rfl ?_; clear A; intro a A)
      | (refine qx_skip A rfl rfl ?_; clear A; intro a A)
      | ((with_reducible refine qg_bin ?_); first | ((refine qg_int A rfl ?_); first | (refine qx_cmp A rfl rfl rfl rfl ?_; clear A; intro a A) | (refine qx_arith A rfl rfl rfl rfl ?_; clear A; intro a A)) | ((refine qg_str A rfl ?_); first | (refine qx_scmp A rfl rfl rfl rfl ?_; clear A; intro a A) | (refine qx_concat A rfl rfl rfl rfl ?_; clear A; intro a A)))
      | ((with_reducible refine qg_builtin ?_); first | (refine qx_min A rfl rfl rfl rfl ?_; clear A; intro a A) | (refine qx_max A rfl rfl rfl rfl ?_; clear A; intro a A))
      | ((with_reducible refine qg_slice ?_); refine qx_sstr A tbOk rfl rfl rfl rfl rfl rfl ?_; clear A; intro a A)
      | ((with_reducible refine qg_load ?_); refine qx_load A tbOk rfl rfl rfl rfl ?_; clear A; intro a A)
      | ((with_reducible refine qg_idx ?_); first | (refine qx_idx H A tbOk rfl rfl rfl rfl rfl rfl ?_; clear A; intro a A) | (refine qx_oidx H A tbOk rfl rfl rfl rfl rfl rfl ?_; clear A; intro a A)))
    )
theorem sl_containsFuncW (H : St M F0 w0 F B R w) {Bm Br : List Box} {l : List Wr} {A0 : Option Addr} {c0 : Nat} {f : FuncId} {cs : List Value} {p : Wr → Bool} {b : Bool} (hl : l.length ≤ 4611686018427387904) (hc : ∀ (args : Array Value) (w : World), (callFunc f args).run Tryd.prog w = .ok (.enter f args) w) (hp : ∀ {M F0 F : Nat → Prop} {w0 w : World} {R : List (World → Prop)} {K : Ending → World → Prop} (x : Wr), St M F0 w0 F Bm R w → (∀ Fx w', St M F0 w0 Fx Bm R w' → K (.returned (.bool (p x))) w') → Calls Tryd.prog f (.agg #[.int .i64 x.sec, .string x.bytes] :: cs).toArray w K)
    (hB : Sel B (Bm ++ Br)) (hr : l.any p = b) (k : ∀ Fx w', St M F0 w0 Fx (Bm ++ Br) R w' → K (.returned (.bool b)) w') (hm : rdc kWr A0 l ∈ R := by (repeat (first | with_reducible exact List.mem_cons_self | apply List.mem_cons_of_mem))) : Calls Tryd.prog 49 #[.slice A0 l.length c0, .func (.func f) #[] cs.toArray] w K := by
  refine St.fn H hB (R0 := [rdc kWr A0 l]) (fun p hp => by rw [List.mem_singleton.1 hp]; exact hm) (fun H => ?_)
  refine sx_enter Tryd.func49 Tryd.ntmps49 rfl rfl (fun a A => ?_)
  subst hr
  repeat' (first
    | ((with_reducible refine g_call ?_); refine sx_call (f := 70) A rfl Tryd.call70 rfl rfl ?_; refine sl_indexFuncW (Bm := Bm) (Br := []) H hl hc hp (by rw [List.append_nil]; exact sel_refl _) ?_; clear H; intro r F_ w_ hx1 hx2 hx3 H; rw [List.append_nil] at H; refine ⟨_, rfl, ?_⟩; clear A; intro a A; have hcr : cmpI .geq r 0 = some (l.any p) := (by (show some (decide (r ≥ 0)) = _; congr 1; rw [Bool.eq_iff_iff, decide_eq_true_eq]; exact hx1)))
    | (refine sx_ret tbOk H A rfl ?_; exact H.retB (Bs := Bm) (ps := []) (fun Fx Hx => k Fx _ Hx) (sel_refl _))
    | with_reducible refine wp_seq ?_
    | with_reducible refine sx_region ?_
    | with_reducible refine wp_block ?_
    | with_reducible refine wpList_nil ?_
    | with_reducible refine sx_then ?_
    | with_reducible refine sx_inb ?_
    | with_reducible refine wp_skip ?_
    | with_reducible refine wp_ret ?_
    | with_reducible refine wp_exit ?_
    | with_reducible refine sx_then_ret ?_
    | with_reducible refine sx_inb_ret ?_
    | with_reducible refine sx_then_exit ?_
    | with_reducible refine sx_inb_exit ?_
    | with_reducible refine sx_inb_other rfl ?_
    | with_reducible refine sx_if_t A rfl ?_
    | with_reducible refine sx_if_f A rfl ?_
    | ((with_reducible refine sx_at ?_); first
      | (refine sx_pure A tbOk rfl rfl rfl ?_; clear A; intro a A)
      | (refine sx_skip A rfl rfl ?_; clear A; intro a A)
      | ((with_reducible refine g_bin ?_); first | ((refine g_int A rfl ?_); first | (refine sx_cmp A rfl rfl rfl rfl ?_; clear A; intro a A) | (refine sx_arith A rfl rfl rfl rfl ?_; clear A; intro a A) | (refine sx_shl A rfl rfl rfl rfl ?_; clear A; intro a A) | (refine sx_shr A rfl rfl rfl rfl ?_; clear A; intro a A)) | ((refine g_str A rfl ?_); first | (refine sx_scmp A rfl rfl rfl rfl ?_; clear A; intro a A) | (refine sx_concat A rfl rfl rfl rfl ?_; clear A; intro a A)))
      | ((with_reducible refine g_load ?_); first | (refine sx_load_all H A tbOk rfl rfl rfl rfl rfl ?_; clear A; intro a A) | (refine sx_load H A tbOk rfl rfl rfl rfl ?_; clear A; intro a A))
      | ((with_reducible refine g_store ?_); refine sx_store H A tbOk rfl rfl rfl rfl ?_; clear H; intro w_ H)
      | ((with_reducible refine g_box ?_); refine sx_box H A rfl rfl rfl ?_; clear H A; intro b_ a w_ A H)
      | ((with_reducible refine g_alloc ?_); refine sx_alloc H A tbOk rfl rfl rfl ?_; clear H A; intro b_ a w_ A H)
      | ((with_reducible refine g_build ?_); refine sx_build A tbOk rfl rfl rfl rfl rfl rfl ?_; clear A; intro a A)
      | ((with_reducible refine g_builtin ?_); first | (refine sx_min A rfl rfl rfl rfl ?_; clear A; intro a A) | (refine sx_max A rfl rfl rfl rfl ?_; clear A; intro a A))
      | ((with_reducible refine g_slice ?_); first | (refine sx_sstr A tbOk rfl rfl rfl rfl rfl rfl ?_; clear A; intro a A) | (refine sx_cut H A tbOk rfl rfl rfl rfl rfl rfl rfl ?_; clear A H; intro A_ c_ a hc_ A H))
      | ((with_reducible refine g_index ?_); refine sx_sidx A tbOk rfl rfl rfl rfl rfl ?_; clear A; intro a A)
      | ((with_reducible refine g_idx ?_); first | (refine sx_idx H A tbOk rfl rfl rfl rfl rfl rfl ?_; clear A; intro a A) | (refine sx_oidx H A tbOk rfl rfl rfl rfl rfl rfl ?_; clear A; intro a A))
      | ((with_reducible refine g_conv ?_); refine sx_conv A tbOk rfl rfl rfl rfl rfl ?_; clear A; intro a A)
      )
    | ((with_reducible refine g_draw ?_); refine qx_region H (by kernel_rfl) (by kernel_rfl) ?_)
    | ((with_reducible refine qx_nil ?_); clear H; intro w_ F_ H)
    | ((with_reducible refine q_at ?_); first
      | (refine qx_pure A tbOk rfl rfl rfl ?_; clear A; intro a A)
      | (refine qx_skip A rfl rfl ?_; clear A; intro a A)
      | ((with_reducible refine qg_bin ?_); first | ((refine qg_int A rfl ?_); first | (refine qx_cmp A rfl rfl rfl rfl ?_; clear A; intro a A) | (refine qx_arith A rfl rfl rfl rfl ?_; clear A; intro a A)) | ((refine qg_str A rfl ?_); first | (refine qx_scmp A rfl rfl rfl rfl ?_; clear A; intro a A) | (refine qx_concat A rfl rfl rfl rfl ?_; clear A; intro a A)))
      | ((with_reducible refine qg_builtin ?_); first | (refine qx_min A rfl rfl rfl rfl ?_; clear A; intro a A) | (refine qx_max A rfl rfl rfl rfl ?_; clear A; intro a A))
      | ((with_reducible refine qg_slice ?_); refine qx_sstr A tbOk rfl rfl rfl rfl rfl rfl ?_; clear A; intro a A)
      | ((with_reducible refine qg_load ?_); refine qx_load A tbOk rfl rfl rfl rfl ?_; clear A; intro a A)
      | ((with_reducible refine qg_idx ?_); first | (refine qx_idx H A tbOk rfl rfl rfl rfl rfl rfl ?_; clear A; intro a A) | (refine qx_oidx H A tbOk rfl rfl rfl rfl rfl rfl ?_; clear A; intro a A)))
    )
theorem right_cases (ss : List ByteArray) (ws : List Wr) {b : Bool} (hr : rightB ss ws = b) : (b = false ∧ ss.length < 1) ∨ (b = false ∧ 1 ≤ ss.length ∧ 256 < ss.length) ∨ (b = (ss.all standsB && ws.all (wrB ss.length)) ∧ 1 ≤ ss.length ∧ ss.length ≤ 256) := by
  subst hr; unfold rightB
  by_cases h1 : 1 ≤ ss.length
  · by_cases h2 : ss.length ≤ 256
    · exact .inr (.inr ⟨by simp [h1, h2], h1, h2⟩)
    · exact .inr (.inl ⟨by simp [h2], h1, by omega⟩)
  · exact .inl ⟨by simp [h1], by omega⟩
theorem any_not {α : Type} (l : List α) (p : α → Bool) : l.any (fun x => !p x) = !l.all p := by
  induction l with
  | nil => rfl
  | cons x l ih => simp only [List.any_cons, List.all_cons, ih]; cases p x <;> simp
theorem take_all {α : Type} {l : List α} {p : α → Bool} {i : Nat} {y : α} (hy : l[i]? = some y) (h : (l.take i).all p = true) (hp : p y = true) : (l.take (i + 1)).all p = true := by
  obtain ⟨h1, h2⟩ := List.getElem?_eq_some_iff.1 hy
  rw [List.take_succ_eq_append_getElem h1, h2, List.all_append, h]; simp [hp]
theorem all_not {α : Type} {l : List α} {p : α → Bool} {y : α} (hy : y ∈ l) (hp : p y = false) : l.all p = false := by
  cases h : l.all p
  · rfl
  · rw [List.all_eq_true.1 h y hy] at hp; cases hp
theorem sl_disk_Right (H : St M F0 w0 F B R w) {A0 A1 : Option Addr} {c0 c1 : Nat} {ss : List ByteArray} {ws : List Wr} {b : Bool} (hl : ss.length ≤ 4611686018427387904) (hl2 : ws.length ≤ 4611686018427387904) (hr : rightB ss ws = b) (k : ∀ Fx w', St M F0 w0 Fx B R w' → K (.returned (.bool b)) w') (hm : rdc Kd.string A0 ss ∈ R := by (repeat (first | with_reducible exact List.mem_cons_self | apply List.mem_cons_of_mem))) (hm2 : rdc kWr A1 ws ∈ R := by (repeat (first | with_reducible exact List.mem_cons_self | apply List.mem_cons_of_mem))) : Calls Tryd.prog 18 #[.agg #[.slice A0 ss.length c0, .slice A1 ws.length c1]] w K := by
  refine St.fn0 H (R0 := [rdc Kd.string A0 ss, rdc kWr A1 ws]) (by intro p hp; simp only [List.mem_cons, List.not_mem_nil, or_false] at hp; rcases hp with rfl | rfl <;> assumption) (fun H => ?_)
  refine sx_enter Tryd.func18 Tryd.ntmps18 rfl rfl (fun a A => ?_)
  have hc := right_cases ss ws hr
  clear hr
  rcases hc with ⟨rfl, h1⟩ | ⟨rfl, h1, h2⟩ | ⟨rfl, h1, h2⟩
  all_goals repeat' (first
    | (refine sx_ret tbOk H A rfl ?_; exact H.ret0 fun Fx Hx => k Fx _ Hx)
    | with_reducible refine wp_seq ?_
    | with_reducible refine sx_region ?_
    | with_reducible refine wp_block ?_
    | with_reducible refine wpList_nil ?_
    | with_reducible refine sx_then ?_
    | with_reducible refine sx_inb ?_
    | with_reducible refine wp_skip ?_
    | with_reducible refine wp_ret ?_
    | with_reducible refine wp_exit ?_
    | with_reducible refine sx_then_ret ?_
    | with_reducible refine sx_inb_ret ?_
    | with_reducible refine sx_then_exit ?_
    | with_reducible refine sx_inb_exit ?_
    | with_reducible refine sx_inb_other rfl ?_
    | with_reducible refine sx_if_t A rfl ?_
    | with_reducible refine sx_if_f A rfl ?_
    | ((with_reducible refine sx_at ?_); first
      | (refine sx_pure A tbOk rfl rfl rfl ?_; clear A; intro a A)
      | (refine sx_skip A rfl rfl ?_; clear A; intro a A)
      | ((with_reducible refine g_bin ?_); first | ((refine g_int A rfl ?_); first | (refine sx_cmp A rfl rfl rfl rfl ?_; clear A; intro a A) | (refine sx_arith A rfl rfl rfl rfl ?_; clear A; intro a A) | (refine sx_shl A rfl rfl rfl rfl ?_; clear A; intro a A) | (refine sx_shr A rfl rfl rfl rfl ?_; clear A; intro a A)) | ((refine g_str A rfl ?_); first | (refine sx_scmp A rfl rfl rfl rfl ?_; clear A; intro a A) | (refine sx_concat A rfl rfl rfl rfl ?_; clear A; intro a A)))
      | ((with_reducible refine g_load ?_); first | (refine sx_load_all H A tbOk rfl rfl rfl rfl rfl ?_; clear A; intro a A) | (refine sx_load H A tbOk rfl rfl rfl rfl ?_; clear A; intro a A))
      | ((with_reducible refine g_store ?_); refine sx_store H A tbOk rfl rfl rfl rfl ?_; clear H; intro w_ H)
      | ((with_reducible refine g_box ?_); refine sx_box H A rfl rfl rfl ?_; clear H A; intro b_ a w_ A H)
      | ((with_reducible refine g_alloc ?_); refine sx_alloc H A tbOk rfl rfl rfl ?_; clear H A; intro b_ a w_ A H)
      | ((with_reducible refine g_build ?_); refine sx_build A tbOk rfl rfl rfl rfl rfl rfl ?_; clear A; intro a A)
      | ((with_reducible refine g_builtin ?_); first | (refine sx_min A rfl rfl rfl rfl ?_; clear A; intro a A) | (refine sx_max A rfl rfl rfl rfl ?_; clear A; intro a A))
      | ((with_reducible refine g_slice ?_); first | (refine sx_sstr A tbOk rfl rfl rfl rfl rfl rfl ?_; clear A; intro a A) | (refine sx_cut H A tbOk rfl rfl rfl rfl rfl rfl rfl ?_; clear A H; intro A_ c_ a hc_ A H))
      | ((with_reducible refine g_index ?_); refine sx_sidx A tbOk rfl rfl rfl rfl rfl ?_; clear A; intro a A)
      | ((with_reducible refine g_idx ?_); first | (refine sx_idx H A tbOk rfl rfl rfl rfl rfl rfl ?_; clear A; intro a A) | (refine sx_oidx H A tbOk rfl rfl rfl rfl rfl rfl ?_; clear A; intro a A))
      | ((with_reducible refine g_conv ?_); refine sx_conv A tbOk rfl rfl rfl rfl rfl ?_; clear A; intro a A)
      )
    | ((with_reducible refine g_draw ?_); refine qx_region H (by kernel_rfl) (by kernel_rfl) ?_)
    | ((with_reducible refine qx_nil ?_); clear H; intro w_ F_ H)
    | ((with_reducible refine q_at ?_); first
      | (refine qx_pure A tbOk rfl rfl rfl ?_; clear A; intro a A)
      | (refine qx_skip A rfl rfl ?_; clear A; intro a A)
      | ((with_reducible refine qg_bin ?_); first | ((refine qg_int A rfl ?_); first | (refine qx_cmp A rfl rfl rfl rfl ?_; clear A; intro a A) | (refine qx_arith A rfl rfl rfl rfl ?_; clear A; intro a A)) | ((refine qg_str A rfl ?_); first | (refine qx_scmp A rfl rfl rfl rfl ?_; clear A; intro a A) | (refine qx_concat A rfl rfl rfl rfl ?_; clear A; intro a A)))
      | ((with_reducible refine qg_builtin ?_); first | (refine qx_min A rfl rfl rfl rfl ?_; clear A; intro a A) | (refine qx_max A rfl rfl rfl rfl ?_; clear A; intro a A))
      | ((with_reducible refine qg_slice ?_); refine qx_sstr A tbOk rfl rfl rfl rfl rfl rfl ?_; clear A; intro a A)
      | ((with_reducible refine qg_load ?_); refine qx_load A tbOk rfl rfl rfl rfl ?_; clear A; intro a A)
      | ((with_reducible refine qg_idx ?_); first | (refine qx_idx H A tbOk rfl rfl rfl rfl rfl rfl ?_; clear A; intro a A) | (refine qx_oidx H A tbOk rfl rfl rfl rfl rfl rfl ?_; clear A; intro a A)))
    )
  refine sx_rounds (fun i : Nat => i ≤ ss.length ∧ (ss.take i).all standsB = true) (fun i => [(18, .int .i64 (i : Int)), (17, _), (16, _), (1, _)]) (fun i => [_]) (fun _ => [_, _]) (fun i => ss.length - i) 0 H A.subs ⟨Nat.zero_le _, by simp⟩ (fun i F a W hi H A => ?_)
  obtain ⟨hi, hx⟩ := hi
  rcases Nat.lt_or_ge i ss.length with hlt | hge
  · obtain ⟨y, hy⟩ : ∃ y, ss[i]? = some y := ⟨_, List.getElem?_eq_getElem hlt⟩
    have hmem : y ∈ ss := List.mem_of_getElem? hy
    cases hpy : standsB y
    all_goals repeat' (first
    | ((with_reducible refine g_load ?_); refine sx_eloadS H A tbOk rfl rfl rfl rfl rfl ?_; clear A; intro a A)
    | ((with_reducible refine g_call ?_); refine sx_call (f := 48) A rfl Tryd.call48 rfl rfl ?_; refine sl_disk_stands H hpy ?_; clear H; intro F_ w_ H; refine ⟨_, rfl, ?_⟩; clear A; intro a A)
    | (refine sx_ret tbOk H A rfl ?_; exact H.ret0 fun Fx Hx => by (have hall := all_not hmem hpy; rw [hall, Bool.false_and] at k; exact k Fx _ Hx))
    | with_reducible refine wp_seq ?_
    | with_reducible refine sx_region ?_
    | with_reducible refine wp_block ?_
    | with_reducible refine wpList_nil ?_
    | with_reducible refine sx_then ?_
    | with_reducible refine sx_inb ?_
    | with_reducible refine wp_skip ?_
    | with_reducible refine wp_ret ?_
    | with_reducible refine wp_exit ?_
    | with_reducible refine sx_then_ret ?_
    | with_reducible refine sx_inb_ret ?_
    | with_reducible refine sx_then_exit ?_
    | with_reducible refine sx_inb_exit ?_
    | with_reducible refine sx_inb_other rfl ?_
    | with_reducible refine sx_if_t A rfl ?_
    | with_reducible refine sx_if_f A rfl ?_
    | ((with_reducible refine sx_at ?_); first
      | (refine sx_pure A tbOk rfl rfl rfl ?_; clear A; intro a A)
      | (refine sx_skip A rfl rfl ?_; clear A; intro a A)
      | ((with_reducible refine g_bin ?_); first | ((refine g_int A rfl ?_); first | (refine sx_cmp A rfl rfl rfl rfl ?_; clear A; intro a A) | (refine sx_arith A rfl rfl rfl rfl ?_; clear A; intro a A) | (refine sx_shl A rfl rfl rfl rfl ?_; clear A; intro a A) | (refine sx_shr A rfl rfl rfl rfl ?_; clear A; intro a A)) | ((refine g_str A rfl ?_); first | (refine sx_scmp A rfl rfl rfl rfl ?_; clear A; intro a A) | (refine sx_concat A rfl rfl rfl rfl ?_; clear A; intro a A)))
      | ((with_reducible refine g_load ?_); first | (refine sx_load_all H A tbOk rfl rfl rfl rfl rfl ?_; clear A; intro a A) | (refine sx_load H A tbOk rfl rfl rfl rfl ?_; clear A; intro a A))
      | ((with_reducible refine g_store ?_); refine sx_store H A tbOk rfl rfl rfl rfl ?_; clear H; intro w_ H)
      | ((with_reducible refine g_box ?_); refine sx_box H A rfl rfl rfl ?_; clear H A; intro b_ a w_ A H)
      | ((with_reducible refine g_alloc ?_); refine sx_alloc H A tbOk rfl rfl rfl ?_; clear H A; intro b_ a w_ A H)
      | ((with_reducible refine g_build ?_); refine sx_build A tbOk rfl rfl rfl rfl rfl rfl ?_; clear A; intro a A)
      | ((with_reducible refine g_builtin ?_); first | (refine sx_min A rfl rfl rfl rfl ?_; clear A; intro a A) | (refine sx_max A rfl rfl rfl rfl ?_; clear A; intro a A))
      | ((with_reducible refine g_slice ?_); first | (refine sx_sstr A tbOk rfl rfl rfl rfl rfl rfl ?_; clear A; intro a A) | (refine sx_cut H A tbOk rfl rfl rfl rfl rfl rfl rfl ?_; clear A H; intro A_ c_ a hc_ A H))
      | ((with_reducible refine g_index ?_); refine sx_sidx A tbOk rfl rfl rfl rfl rfl ?_; clear A; intro a A)
      | ((with_reducible refine g_idx ?_); first | (refine sx_idx H A tbOk rfl rfl rfl rfl rfl rfl ?_; clear A; intro a A) | (refine sx_oidx H A tbOk rfl rfl rfl rfl rfl rfl ?_; clear A; intro a A))
      | ((with_reducible refine g_conv ?_); refine sx_conv A tbOk rfl rfl rfl rfl rfl ?_; clear A; intro a A)
      )
    | ((with_reducible refine g_draw ?_); refine qx_region H (by kernel_rfl) (by kernel_rfl) ?_)
    | ((with_reducible refine qx_nil ?_); clear H; intro w_ F_ H)
    | ((with_reducible refine q_at ?_); first
      | (refine qx_pure A tbOk rfl rfl rfl ?_; clear A; intro a A)
      | (refine qx_skip A rfl rfl ?_; clear A; intro a A)
      | ((with_reducible refine qg_bin ?_); first | ((refine qg_int A rfl ?_); first | (refine qx_cmp A rfl rfl rfl rfl ?_; clear A; intro a A) | (refine qx_arith A rfl rfl rfl rfl ?_; clear A; intro a A)) | ((refine qg_str A rfl ?_); first | (refine qx_scmp A rfl rfl rfl rfl ?_; clear A; intro a A) | (refine qx_concat A rfl rfl rfl rfl ?_; clear A; intro a A)))
      | ((with_reducible refine qg_builtin ?_); first | (refine qx_min A rfl rfl rfl rfl ?_; clear A; intro a A) | (refine qx_max A rfl rfl rfl rfl ?_; clear A; intro a A))
      | ((with_reducible refine qg_slice ?_); refine qx_sstr A tbOk rfl rfl rfl rfl rfl rfl ?_; clear A; intro a A)
      | ((with_reducible refine qg_load ?_); refine qx_load A tbOk rfl rfl rfl rfl ?_; clear A; intro a A)
      | ((with_reducible refine qg_idx ?_); first | (refine qx_idx H A tbOk rfl rfl rfl rfl rfl rfl ?_; clear A; intro a A) | (refine qx_oidx H A tbOk rfl rfl rfl rfl rfl rfl ?_; clear A; intro a A)))
    )
    exact ⟨i + 1, _, ⟨by omega, take_all hy hx hpy⟩, by omega, H.sel, A.subs⟩
  · rw [show i = ss.length by omega, List.take_length] at hx
    rw [hx, Bool.true_and] at k
    repeat' (first
    | ((with_reducible refine g_call ?_); refine sx_call (f := 49) A rfl Tryd.call49 rfl rfl ?_; refine sl_containsFuncW (Bm := [_]) (Br := []) (f := 50) (cs := [_]) (p := fun x => !wrB ss.length x) H hl2 Tryd.call50 (fun x H k => sl_disk_Right1 H rfl k) (sel_refl _) (any_not _ _) ?_; clear H; intro F_ w_ H; refine ⟨_, rfl, ?_⟩; clear A; intro a A)
    | (refine sx_end tbOk H A rfl ?_; exact H.ret0 fun Fx Hx => by (rw [Bool.not_not] at *; exact k Fx _ Hx))
    | (refine sx_ret tbOk H A rfl ?_; exact H.ret0 fun Fx Hx => by (first | exact k Fx _ Hx | (rw [Bool.not_not]; exact k Fx _ Hx)))
    | with_reducible refine wp_seq ?_
    | with_reducible refine sx_region ?_
    | with_reducible refine wp_block ?_
    | with_reducible refine wpList_nil ?_
    | with_reducible refine sx_then ?_
    | with_reducible refine sx_inb ?_
    | with_reducible refine wp_skip ?_
    | with_reducible refine wp_ret ?_
    | with_reducible refine wp_exit ?_
    | with_reducible refine sx_then_ret ?_
    | with_reducible refine sx_inb_ret ?_
    | with_reducible refine sx_then_exit ?_
    | with_reducible refine sx_inb_exit ?_
    | with_reducible refine sx_inb_other rfl ?_
    | with_reducible refine sx_if_t A rfl ?_
    | with_reducible refine sx_if_f A rfl ?_
    | ((with_reducible refine sx_at ?_); first
      | (refine sx_pure A tbOk rfl rfl rfl ?_; clear A; intro a A)
      | (refine sx_skip A rfl rfl ?_; clear A; intro a A)
      | ((with_reducible refine g_bin ?_); first | ((refine g_int A rfl ?_); first | (refine sx_cmp A rfl rfl rfl rfl ?_; clear A; intro a A) | (refine sx_arith A rfl rfl rfl rfl ?_; clear A; intro a A) | (refine sx_shl A rfl rfl rfl rfl ?_; clear A; intro a A) | (refine sx_shr A rfl rfl rfl rfl ?_; clear A; intro a A)) | ((refine g_str A rfl ?_); first | (refine sx_scmp A rfl rfl rfl rfl ?_; clear A; intro a A) | (refine sx_concat A rfl rfl rfl rfl ?_; clear A; intro a A)))
      | ((with_reducible refine g_load ?_); first | (refine sx_load_all H A tbOk rfl rfl rfl rfl rfl ?_; clear A; intro a A) | (refine sx_load H A tbOk rfl rfl rfl rfl ?_; clear A; intro a A))
      | ((with_reducible refine g_store ?_); refine sx_store H A tbOk rfl rfl rfl rfl ?_; clear H; intro w_ H)
      | ((with_reducible refine g_box ?_); refine sx_box H A rfl rfl rfl ?_; clear H A; intro b_ a w_ A H)
      | ((with_reducible refine g_alloc ?_); refine sx_alloc H A tbOk rfl rfl rfl ?_; clear H A; intro b_ a w_ A H)
      | ((with_reducible refine g_build ?_); refine sx_build A tbOk rfl rfl rfl rfl rfl rfl ?_; clear A; intro a A)
      | ((with_reducible refine g_builtin ?_); first | (refine sx_min A rfl rfl rfl rfl ?_; clear A; intro a A) | (refine sx_max A rfl rfl rfl rfl ?_; clear A; intro a A))
      | ((with_reducible refine g_slice ?_); first | (refine sx_sstr A tbOk rfl rfl rfl rfl rfl rfl ?_; clear A; intro a A) | (refine sx_cut H A tbOk rfl rfl rfl rfl rfl rfl rfl ?_; clear A H; intro A_ c_ a hc_ A H))
      | ((with_reducible refine g_index ?_); refine sx_sidx A tbOk rfl rfl rfl rfl rfl ?_; clear A; intro a A)
      | ((with_reducible refine g_idx ?_); first | (refine sx_idx H A tbOk rfl rfl rfl rfl rfl rfl ?_; clear A; intro a A) | (refine sx_oidx H A tbOk rfl rfl rfl rfl rfl rfl ?_; clear A; intro a A))
      | ((with_reducible refine g_conv ?_); refine sx_conv A tbOk rfl rfl rfl rfl rfl ?_; clear A; intro a A)
      )
    | ((with_reducible refine g_draw ?_); refine qx_region H (by kernel_rfl) (by kernel_rfl) ?_)
    | ((with_reducible refine qx_nil ?_); clear H; intro w_ F_ H)
    | ((with_reducible refine q_at ?_); first
      | (refine qx_pure A tbOk rfl rfl rfl ?_; clear A; intro a A)
      | (refine qx_skip A rfl rfl ?_; clear A; intro a A)
      | ((with_reducible refine qg_bin ?_); first | ((refine qg_int A rfl ?_); first | (refine qx_cmp A rfl rfl rfl rfl ?_; clear A; intro a A) | (refine qx_arith A rfl rfl rfl rfl ?_; clear A; intro a A)) | ((refine qg_str A rfl ?_); first | (refine qx_scmp A rfl rfl rfl rfl ?_; clear A; intro a A) | (refine qx_concat A rfl rfl rfl rfl ?_; clear A; intro a A)))
      | ((with_reducible refine qg_builtin ?_); first | (refine qx_min A rfl rfl rfl rfl ?_; clear A; intro a A) | (refine qx_max A rfl rfl rfl rfl ?_; clear A; intro a A))
      | ((with_reducible refine qg_slice ?_); refine qx_sstr A tbOk rfl rfl rfl rfl rfl rfl ?_; clear A; intro a A)
      | ((with_reducible refine qg_load ?_); refine qx_load A tbOk rfl rfl rfl rfl ?_; clear A; intro a A)
      | ((with_reducible refine qg_idx ?_); first | (refine qx_idx H A tbOk rfl rfl rfl rfl rfl rfl ?_; clear A; intro a A) | (refine qx_oidx H A tbOk rfl rfl rfl rfl rfl rfl ?_; clear A; intro a A)))
    )
theorem sl_ref03_Right (H : St M F0 w0 F B R w) {A0 A1 : Option Addr} {c0 c1 : Nat} {ss : List ByteArray} {ws : List Wr} {b : Bool} (hl : ss.length ≤ 4611686018427387904) (hl2 : ws.length ≤ 4611686018427387904) (hr : rightB ss ws = b) (k : ∀ Fx w', St M F0 w0 Fx B R w' → K (.returned (.bool b)) w') (hm : rdc Kd.string A0 ss ∈ R := by (repeat (first | with_reducible exact List.mem_cons_self | apply List.mem_cons_of_mem))) (hm2 : rdc kWr A1 ws ∈ R := by (repeat (first | with_reducible exact List.mem_cons_self | apply List.mem_cons_of_mem))) : Calls Tryd.prog 19 #[.agg #[.slice A0 ss.length c0, .slice A1 ws.length c1]] w K := by
  refine St.fn0 H (R0 := [rdc Kd.string A0 ss, rdc kWr A1 ws]) (by intro p hp; simp only [List.mem_cons, List.not_mem_nil, or_false] at hp; rcases hp with rfl | rfl <;> assumption) (fun H => ?_)
  refine sx_enter Tryd.func19 Tryd.ntmps19 rfl rfl (fun a A => ?_)
  have hc := right_cases ss ws hr
  clear hr
  rcases hc with ⟨rfl, h1⟩ | ⟨rfl, h1, h2⟩ | ⟨rfl, h1, h2⟩
  all_goals repeat' (first
    | (refine sx_ret tbOk H A rfl ?_; exact H.ret0 fun Fx Hx => k Fx _ Hx)
    | with_reducible refine wp_seq ?_
    | with_reducible refine sx_region ?_
    | with_reducible refine wp_block ?_
    | with_reducible refine wpList_nil ?_
    | with_reducible refine sx_then ?_
    | with_reducible refine sx_inb ?_
    | with_reducible refine wp_skip ?_
    | with_reducible refine wp_ret ?_
    | with_reducible refine wp_exit ?_
    | with_reducible refine sx_then_ret ?_
    | with_reducible refine sx_inb_ret ?_
    | with_reducible refine sx_then_exit ?_
    | with_reducible refine sx_inb_exit ?_
    | with_reducible refine sx_inb_other rfl ?_
    | with_reducible refine sx_if_t A rfl ?_
    | with_reducible refine sx_if_f A rfl ?_
    | ((with_reducible refine sx_at ?_); first
      | (refine sx_pure A tbOk rfl rfl rfl ?_; clear A; intro a A)
      | (refine sx_skip A rfl rfl ?_; clear A; intro a A)
      | ((with_reducible refine g_bin ?_); first | ((refine g_int A rfl ?_); first | (refine sx_cmp A rfl rfl rfl rfl ?_; clear A; intro a A) | (refine sx_arith A rfl rfl rfl rfl ?_; clear A; intro a A) | (refine sx_shl A rfl rfl rfl rfl ?_; clear A; intro a A) | (refine sx_shr A rfl rfl rfl rfl ?_; clear A; intro a A)) | ((refine g_str A rfl ?_); first | (refine sx_scmp A rfl rfl rfl rfl ?_; clear A; intro a A) | (refine sx_concat A rfl rfl rfl rfl ?_; clear A; intro a A)))
      | ((with_reducible refine g_load ?_); first | (refine sx_load_all H A tbOk rfl rfl rfl rfl rfl ?_; clear A; intro a A) | (refine sx_load H A tbOk rfl rfl rfl rfl ?_; clear A; intro a A))
      | ((with_reducible refine g_store ?_); refine sx_store H A tbOk rfl rfl rfl rfl ?_; clear H; intro w_ H)
      | ((with_reducible refine g_box ?_); refine sx_box H A rfl rfl rfl ?_; clear H A; intro b_ a w_ A H)
      | ((with_reducible refine g_alloc ?_); refine sx_alloc H A tbOk rfl rfl rfl ?_; clear H A; intro b_ a w_ A H)
      | ((with_reducible refine g_build ?_); refine sx_build A tbOk rfl rfl rfl rfl rfl rfl ?_; clear A; intro a A)
      | ((with_reducible refine g_builtin ?_); first | (refine sx_min A rfl rfl rfl rfl ?_; clear A; intro a A) | (refine sx_max A rfl rfl rfl rfl ?_; clear A; intro a A))
      | ((with_reducible refine g_slice ?_); first | (refine sx_sstr A tbOk rfl rfl rfl rfl rfl rfl ?_; clear A; intro a A) | (refine sx_cut H A tbOk rfl rfl rfl rfl rfl rfl rfl ?_; clear A H; intro A_ c_ a hc_ A H))
      | ((with_reducible refine g_index ?_); refine sx_sidx A tbOk rfl rfl rfl rfl rfl ?_; clear A; intro a A)
      | ((with_reducible refine g_idx ?_); first | (refine sx_idx H A tbOk rfl rfl rfl rfl rfl rfl ?_; clear A; intro a A) | (refine sx_oidx H A tbOk rfl rfl rfl rfl rfl rfl ?_; clear A; intro a A))
      | ((with_reducible refine g_conv ?_); refine sx_conv A tbOk rfl rfl rfl rfl rfl ?_; clear A; intro a A)
      )
    | ((with_reducible refine g_draw ?_); refine qx_region H (by kernel_rfl) (by kernel_rfl) ?_)
    | ((with_reducible refine qx_nil ?_); clear H; intro w_ F_ H)
    | ((with_reducible refine q_at ?_); first
      | (refine qx_pure A tbOk rfl rfl rfl ?_; clear A; intro a A)
      | (refine qx_skip A rfl rfl ?_; clear A; intro a A)
      | ((with_reducible refine qg_bin ?_); first | ((refine qg_int A rfl ?_); first | (refine qx_cmp A rfl rfl rfl rfl ?_; clear A; intro a A) | (refine qx_arith A rfl rfl rfl rfl ?_; clear A; intro a A)) | ((refine qg_str A rfl ?_); first | (refine qx_scmp A rfl rfl rfl rfl ?_; clear A; intro a A) | (refine qx_concat A rfl rfl rfl rfl ?_; clear A; intro a A)))
      | ((with_reducible refine qg_builtin ?_); first | (refine qx_min A rfl rfl rfl rfl ?_; clear A; intro a A) | (refine qx_max A rfl rfl rfl rfl ?_; clear A; intro a A))
      | ((with_reducible refine qg_slice ?_); refine qx_sstr A tbOk rfl rfl rfl rfl rfl rfl ?_; clear A; intro a A)
      | ((with_reducible refine qg_load ?_); refine qx_load A tbOk rfl rfl rfl rfl ?_; clear A; intro a A)
      | ((with_reducible refine qg_idx ?_); first | (refine qx_idx H A tbOk rfl rfl rfl rfl rfl rfl ?_; clear A; intro a A) | (refine qx_oidx H A tbOk rfl rfl rfl rfl rfl rfl ?_; clear A; intro a A)))
    )
  refine sx_rounds (fun i : Nat => i ≤ ss.length ∧ (ss.take i).all standsB = true) (fun i => [(20, .int .i64 (i : Int)), (19, _), (18, _), (1, _), (3, _)]) (fun i => [_]) (fun _ => [_, _]) (fun i => ss.length - i) 0 H A.subs ⟨Nat.zero_le _, by simp⟩ (fun i F a W hi H A => ?_)
  obtain ⟨hi, hx⟩ := hi
  rcases Nat.lt_or_ge i ss.length with hlt | hge
  · obtain ⟨y, hy⟩ : ∃ y, ss[i]? = some y := ⟨_, List.getElem?_eq_getElem hlt⟩
    have hmem : y ∈ ss := List.mem_of_getElem? hy
    cases hpy : standsB y
    all_goals repeat' (first
    | ((with_reducible refine g_load ?_); refine sx_eloadS H A tbOk rfl rfl rfl rfl rfl ?_; clear A; intro a A)
    | ((with_reducible refine g_call ?_); refine sx_call (f := 52) A rfl Tryd.call52 rfl rfl ?_; refine sl_ref03_Stands H hpy ?_; clear H; intro F_ w_ H; refine ⟨_, rfl, ?_⟩; clear A; intro a A)
    | (refine sx_ret tbOk H A rfl ?_; exact H.ret0 fun Fx Hx => by (have hall := all_not hmem hpy; rw [hall, Bool.false_and] at k; exact k Fx _ Hx))
    | with_reducible refine wp_seq ?_
    | with_reducible refine sx_region ?_
    | with_reducible refine wp_block ?_
    | with_reducible refine wpList_nil ?_
    | with_reducible refine sx_then ?_
    | with_reducible refine sx_inb ?_
    | with_reducible refine wp_skip ?_
    | with_reducible refine wp_ret ?_
    | with_reducible refine wp_exit ?_
    | with_reducible refine sx_then_ret ?_
    | with_reducible refine sx_inb_ret ?_
    | with_reducible refine sx_then_exit ?_
    | with_reducible refine sx_inb_exit ?_
    | with_reducible refine sx_inb_other rfl ?_
    | with_reducible refine sx_if_t A rfl ?_
    | with_reducible refine sx_if_f A rfl ?_
    | ((with_reducible refine sx_at ?_); first
      | (refine sx_pure A tbOk rfl rfl rfl ?_; clear A; intro a A)
      | (refine sx_skip A rfl rfl ?_; clear A; intro a A)
      | ((with_reducible refine g_bin ?_); first | ((refine g_int A rfl ?_); first | (refine sx_cmp A rfl rfl rfl rfl ?_; clear A; intro a A) | (refine sx_arith A rfl rfl rfl rfl ?_; clear A; intro a A) | (refine sx_shl A rfl rfl rfl rfl ?_; clear A; intro a A) | (refine sx_shr A rfl rfl rfl rfl ?_; clear A; intro a A)) | ((refine g_str A rfl ?_); first | (refine sx_scmp A rfl rfl rfl rfl ?_; clear A; intro a A) | (refine sx_concat A rfl rfl rfl rfl ?_; clear A; intro a A)))
      | ((with_reducible refine g_load ?_); first | (refine sx_load_all H A tbOk rfl rfl rfl rfl rfl ?_; clear A; intro a A) | (refine sx_load H A tbOk rfl rfl rfl rfl ?_; clear A; intro a A))
      | ((with_reducible refine g_store ?_); refine sx_store H A tbOk rfl rfl rfl rfl ?_; clear H; intro w_ H)
      | ((with_reducible refine g_box ?_); refine sx_box H A rfl rfl rfl ?_; clear H A; intro b_ a w_ A H)
      | ((with_reducible refine g_alloc ?_); refine sx_alloc H A tbOk rfl rfl rfl ?_; clear H A; intro b_ a w_ A H)
      | ((with_reducible refine g_build ?_); refine sx_build A tbOk rfl rfl rfl rfl rfl rfl ?_; clear A; intro a A)
      | ((with_reducible refine g_builtin ?_); first | (refine sx_min A rfl rfl rfl rfl ?_; clear A; intro a A) | (refine sx_max A rfl rfl rfl rfl ?_; clear A; intro a A))
      | ((with_reducible refine g_slice ?_); first | (refine sx_sstr A tbOk rfl rfl rfl rfl rfl rfl ?_; clear A; intro a A) | (refine sx_cut H A tbOk rfl rfl rfl rfl rfl rfl rfl ?_; clear A H; intro A_ c_ a hc_ A H))
      | ((with_reducible refine g_index ?_); refine sx_sidx A tbOk rfl rfl rfl rfl rfl ?_; clear A; intro a A)
      | ((with_reducible refine g_idx ?_); first | (refine sx_idx H A tbOk rfl rfl rfl rfl rfl rfl ?_; clear A; intro a A) | (refine sx_oidx H A tbOk rfl rfl rfl rfl rfl rfl ?_; clear A; intro a A))
      | ((with_reducible refine g_conv ?_); refine sx_conv A tbOk rfl rfl rfl rfl rfl ?_; clear A; intro a A)
      )
    | ((with_reducible refine g_draw ?_); refine qx_region H (by kernel_rfl) (by kernel_rfl) ?_)
    | ((with_reducible refine qx_nil ?_); clear H; intro w_ F_ H)
    | ((with_reducible refine q_at ?_); first
      | (refine qx_pure A tbOk rfl rfl rfl ?_; clear A; intro a A)
      | (refine qx_skip A rfl rfl ?_; clear A; intro a A)
      | ((with_reducible refine qg_bin ?_); first | ((refine qg_int A rfl ?_); first | (refine qx_cmp A rfl rfl rfl rfl ?_; clear A; intro a A) | (refine qx_arith A rfl rfl rfl rfl ?_; clear A; intro a A)) | ((refine qg_str A rfl ?_); first | (refine qx_scmp A rfl rfl rfl rfl ?_; clear A; intro a A) | (refine qx_concat A rfl rfl rfl rfl ?_; clear A; intro a A)))
      | ((with_reducible refine qg_builtin ?_); first | (refine qx_min A rfl rfl rfl rfl ?_; clear A; intro a A) | (refine qx_max A rfl rfl rfl rfl ?_; clear A; intro a A))
      | ((with_reducible refine qg_slice ?_); refine qx_sstr A tbOk rfl rfl rfl rfl rfl rfl ?_; clear A; intro a A)
      | ((with_reducible refine qg_load ?_); refine qx_load A tbOk rfl rfl rfl rfl ?_; clear A; intro a A)
      | ((with_reducible refine qg_idx ?_); first | (refine qx_idx H A tbOk rfl rfl rfl rfl rfl rfl ?_; clear A; intro a A) | (refine qx_oidx H A tbOk rfl rfl rfl rfl rfl rfl ?_; clear A; intro a A)))
    )
    exact ⟨i + 1, _, ⟨by omega, take_all hy hx hpy⟩, by omega, H.sel, A.subs⟩
  · rw [show i = ss.length by omega, List.take_length] at hx
    rw [hx, Bool.true_and] at k
    repeat' (first
    | with_reducible refine wp_seq ?_
    | with_reducible refine sx_region ?_
    | with_reducible refine wp_block ?_
    | with_reducible refine wpList_nil ?_
    | with_reducible refine sx_then ?_
    | with_reducible refine sx_inb ?_
    | with_reducible refine wp_skip ?_
    | with_reducible refine wp_ret ?_
    | with_reducible refine wp_exit ?_
    | with_reducible refine sx_then_ret ?_
    | with_reducible refine sx_inb_ret ?_
    | with_reducible refine sx_then_exit ?_
    | with_reducible refine sx_inb_exit ?_
    | with_reducible refine sx_inb_other rfl ?_
    | with_reducible refine sx_if_t A rfl ?_
    | with_reducible refine sx_if_f A rfl ?_
    | ((with_reducible refine sx_at ?_); first
      | (refine sx_pure A tbOk rfl rfl rfl ?_; clear A; intro a A)
      | (refine sx_skip A rfl rfl ?_; clear A; intro a A)
      | ((with_reducible refine g_bin ?_); first | ((refine g_int A rfl ?_); first | (refine sx_cmp A rfl rfl rfl rfl ?_; clear A; intro a A) | (refine sx_arith A rfl rfl rfl rfl ?_; clear A; intro a A) | (refine sx_shl A rfl rfl rfl rfl ?_; clear A; intro a A) | (refine sx_shr A rfl rfl rfl rfl ?_; clear A; intro a A)) | ((refine g_str A rfl ?_); first | (refine sx_scmp A rfl rfl rfl rfl ?_; clear A; intro a A) | (refine sx_concat A rfl rfl rfl rfl ?_; clear A; intro a A)))
      | ((with_reducible refine g_load ?_); first | (refine sx_load_all H A tbOk rfl rfl rfl rfl rfl ?_; clear A; intro a A) | (refine sx_load H A tbOk rfl rfl rfl rfl ?_; clear A; intro a A))
      | ((with_reducible refine g_store ?_); refine sx_store H A tbOk rfl rfl rfl rfl ?_; clear H; intro w_ H)
      | ((with_reducible refine g_box ?_); refine sx_box H A rfl rfl rfl ?_; clear H A; intro b_ a w_ A H)
      | ((with_reducible refine g_alloc ?_); refine sx_alloc H A tbOk rfl rfl rfl ?_; clear H A; intro b_ a w_ A H)
      | ((with_reducible refine g_build ?_); refine sx_build A tbOk rfl rfl rfl rfl rfl rfl ?_; clear A; intro a A)
      | ((with_reducible refine g_builtin ?_); first | (refine sx_min A rfl rfl rfl rfl ?_; clear A; intro a A) | (refine sx_max A rfl rfl rfl rfl ?_; clear A; intro a A))
      | ((with_reducible refine g_slice ?_); first | (refine sx_sstr A tbOk rfl rfl rfl rfl rfl rfl ?_; clear A; intro a A) | (refine sx_cut H A tbOk rfl rfl rfl rfl rfl rfl rfl ?_; clear A H; intro A_ c_ a hc_ A H))
      | ((with_reducible refine g_index ?_); refine sx_sidx A tbOk rfl rfl rfl rfl rfl ?_; clear A; intro a A)
      | ((with_reducible refine g_idx ?_); first | (refine sx_idx H A tbOk rfl rfl rfl rfl rfl rfl ?_; clear A; intro a A) | (refine sx_oidx H A tbOk rfl rfl rfl rfl rfl rfl ?_; clear A; intro a A))
      | ((with_reducible refine g_conv ?_); refine sx_conv A tbOk rfl rfl rfl rfl rfl ?_; clear A; intro a A)
      )
    | ((with_reducible refine g_draw ?_); refine qx_region H (by kernel_rfl) (by kernel_rfl) ?_)
    | ((with_reducible refine qx_nil ?_); clear H; intro w_ F_ H)
    | ((with_reducible refine q_at ?_); first
      | (refine qx_pure A tbOk rfl rfl rfl ?_; clear A; intro a A)
      | (refine qx_skip A rfl rfl ?_; clear A; intro a A)
      | ((with_reducible refine qg_bin ?_); first | ((refine qg_int A rfl ?_); first | (refine qx_cmp A rfl rfl rfl rfl ?_; clear A; intro a A) | (refine qx_arith A rfl rfl rfl rfl ?_; clear A; intro a A)) | ((refine qg_str A rfl ?_); first | (refine qx_scmp A rfl rfl rfl rfl ?_; clear A; intro a A) | (refine qx_concat A rfl rfl rfl rfl ?_; clear A; intro a A)))
      | ((with_reducible refine qg_builtin ?_); first | (refine qx_min A rfl rfl rfl rfl ?_; clear A; intro a A) | (refine qx_max A rfl rfl rfl rfl ?_; clear A; intro a A))
      | ((with_reducible refine qg_slice ?_); refine qx_sstr A tbOk rfl rfl rfl rfl rfl rfl ?_; clear A; intro a A)
      | ((with_reducible refine qg_load ?_); refine qx_load A tbOk rfl rfl rfl rfl ?_; clear A; intro a A)
      | ((with_reducible refine qg_idx ?_); first | (refine qx_idx H A tbOk rfl rfl rfl rfl rfl rfl ?_; clear A; intro a A) | (refine qx_oidx H A tbOk rfl rfl rfl rfl rfl rfl ?_; clear A; intro a A)))
    )
    refine sx_rounds (fun i : Nat => i ≤ ws.length ∧ (ws.take i).all (wrB ss.length) = true) (fun i => [(31, .int .i64 (i : Int)), (30, _), (29, _), (3, _)]) (fun i => []) (fun _ => [_, _]) (fun i => ws.length - i) 0 H.sel A.subs ⟨Nat.zero_le _, by simp⟩ (fun i F a W hi H A => ?_)
    obtain ⟨hi, hx⟩ := hi
    rcases Nat.lt_or_ge i ws.length with hlt | hge
    · obtain ⟨y, hy⟩ : ∃ y, ws[i]? = some y := ⟨_, List.getElem?_eq_getElem hlt⟩
      have hmem : y ∈ ws := List.mem_of_getElem? hy
      obtain ⟨b2, h5⟩ : ∃ b2, standsB y.bytes = b2 := ⟨_, rfl⟩
      have hwr : wrB ss.length y = (hasB ss.length y.sec && b2) := by unfold wrB; rw [h5]
      obtain ⟨b1, h4⟩ : ∃ b1, hasB ss.length y.sec = b1 := ⟨_, rfl⟩
      rw [h4] at hwr
      rcases has_cases h4 with ⟨rfl, h6⟩ | ⟨rfl, h6, h7⟩ | ⟨rfl, h6, h7⟩ <;> cases b2
      all_goals repeat' (first
    | ((with_reducible refine g_load ?_); refine sx_eload (dk := kWr) H A tbOk rfl rfl rfl rfl rfl (fun c hcl hK => ?_); obtain rfl := kWr_open hK; refine ⟨_, rfl, ?_⟩; clear A; intro a A)
    | ((with_reducible refine g_call ?_); refine sx_call (f := 52) A rfl Tryd.call52 rfl rfl ?_; refine sl_ref03_Stands H h5 ?_; clear H; intro F_ w_ H; refine ⟨_, rfl, ?_⟩; clear A; intro a A)
    | (refine sx_ret tbOk H A rfl ?_; exact H.ret0 fun Fx Hx => by (have hall := all_not hmem hwr; rw [hall] at k; exact k Fx _ Hx))
    | with_reducible refine wp_seq ?_
    | with_reducible refine sx_region ?_
    | with_reducible refine wp_block ?_
    | with_reducible refine wpList_nil ?_
    | with_reducible refine sx_then ?_
    | with_reducible refine sx_inb ?_
    | with_reducible refine wp_skip ?_
    | with_reducible refine wp_ret ?_
    | with_reducible refine wp_exit ?_
    | with_reducible refine sx_then_ret ?_
    | with_reducible refine sx_inb_ret ?_
    | with_reducible refine sx_then_exit ?_
    | with_reducible refine sx_inb_exit ?_
    | with_reducible refine sx_inb_other rfl ?_
    | with_reducible refine sx_if_t A rfl ?_
    | with_reducible refine sx_if_f A rfl ?_
    | ((with_reducible refine sx_at ?_); first
      | (refine sx_pure A tbOk rfl rfl rfl ?_; clear A; intro a A)
      | (refine sx_skip A rfl rfl ?_; clear A; intro a A)
      | ((with_reducible refine g_bin ?_); first | ((refine g_int A rfl ?_); first | (refine sx_cmp A rfl rfl rfl rfl ?_; clear A; intro a A) | (refine sx_arith A rfl rfl rfl rfl ?_; clear A; intro a A) | (refine sx_shl A rfl rfl rfl rfl ?_; clear A; intro a A) | (refine sx_shr A rfl rfl rfl rfl ?_; clear A; intro a A)) | ((refine g_str A rfl ?_); first | (refine sx_scmp A rfl rfl rfl rfl ?_; clear A; intro a A) | (refine sx_concat A rfl rfl rfl rfl ?_; clear A; intro a A)))
      | ((with_reducible refine g_load ?_); first | (refine sx_load_all H A tbOk rfl rfl rfl rfl rfl ?_; clear A; intro a A) | (refine sx_load H A tbOk rfl rfl rfl rfl ?_; clear A; intro a A))
      | ((with_reducible refine g_store ?_); refine sx_store H A tbOk rfl rfl rfl rfl ?_; clear H; intro w_ H)
      | ((with_reducible refine g_box ?_); refine sx_box H A rfl rfl rfl ?_; clear H A; intro b_ a w_ A H)
      | ((with_reducible refine g_alloc ?_); refine sx_alloc H A tbOk rfl rfl rfl ?_; clear H A; intro b_ a w_ A H)
      | ((with_reducible refine g_build ?_); refine sx_build A tbOk rfl rfl rfl rfl rfl rfl ?_; clear A; intro a A)
      | ((with_reducible refine g_builtin ?_); first | (refine sx_min A rfl rfl rfl rfl ?_; clear A; intro a A) | (refine sx_max A rfl rfl rfl rfl ?_; clear A; intro a A))
      | ((with_reducible refine g_slice ?_); first | (refine sx_sstr A tbOk rfl rfl rfl rfl rfl rfl ?_; clear A; intro a A) | (refine sx_cut H A tbOk rfl rfl rfl rfl rfl rfl rfl ?_; clear A H; intro A_ c_ a hc_ A H))
      | ((with_reducible refine g_index ?_); refine sx_sidx A tbOk rfl rfl rfl rfl rfl ?_; clear A; intro a A)
      | ((with_reducible refine g_idx ?_); first | (refine sx_idx H A tbOk rfl rfl rfl rfl rfl rfl ?_; clear A; intro a A) | (refine sx_oidx H A tbOk rfl rfl rfl rfl rfl rfl ?_; clear A; intro a A))
      | ((with_reducible refine g_conv ?_); refine sx_conv A tbOk rfl rfl rfl rfl rfl ?_; clear A; intro a A)
      )
    | ((with_reducible refine g_draw ?_); refine qx_region H (by kernel_rfl) (by kernel_rfl) ?_)
    | ((with_reducible refine qx_nil ?_); clear H; intro w_ F_ H)
    | ((with_reducible refine q_at ?_); first
      | (refine qx_pure A tbOk rfl rfl rfl ?_; clear A; intro a A)
      | (refine qx_skip A rfl rfl ?_; clear A; intro a A)
      | ((with_reducible refine qg_bin ?_); first | ((refine qg_int A rfl ?_); first | (refine qx_cmp A rfl rfl rfl rfl ?_; clear A; intro a A) | (refine qx_arith A rfl rfl rfl rfl ?_; clear A; intro a A)) | ((refine qg_str A rfl ?_); first | (refine qx_scmp A rfl rfl rfl rfl ?_; clear A; intro a A) | (refine qx_concat A rfl rfl rfl rfl ?_; clear A; intro a A)))
      | ((with_reducible refine qg_builtin ?_); first | (refine qx_min A rfl rfl rfl rfl ?_; clear A; intro a A) | (refine qx_max A rfl rfl rfl rfl ?_; clear A; intro a A))
      | ((with_reducible refine qg_slice ?_); refine qx_sstr A tbOk rfl rfl rfl rfl rfl rfl ?_; clear A; intro a A)
      | ((with_reducible refine qg_load ?_); refine qx_load A tbOk rfl rfl rfl rfl ?_; clear A; intro a A)
      | ((with_reducible refine qg_idx ?_); first | (refine qx_idx H A tbOk rfl rfl rfl rfl rfl rfl ?_; clear A; intro a A) | (refine qx_oidx H A tbOk rfl rfl rfl rfl rfl rfl ?_; clear A; intro a A)))
      )
      exact ⟨i + 1, _, ⟨by omega, take_all hy hx hwr⟩, by omega, H.sel, A.subs⟩
    · rw [show i = ws.length by omega, List.take_length] at hx
      rw [hx] at k
      repeat' (first
    | (refine sx_end tbOk H A rfl ?_; exact H.ret0 fun Fx Hx => k Fx _ Hx)
    | (refine sx_ret tbOk H A rfl ?_; exact H.ret0 fun Fx Hx => k Fx _ Hx)
    | with_reducible refine wp_seq ?_
    | with_reducible refine sx_region ?_
    | with_reducible refine wp_block ?_
    | with_reducible refine wpList_nil ?_
    | with_reducible refine sx_then ?_
    | with_reducible refine sx_inb ?_
    | with_reducible refine wp_skip ?_
    | with_reducible refine wp_ret ?_
    | with_reducible refine wp_exit ?_
    | with_reducible refine sx_then_ret ?_
    | with_reducible refine sx_inb_ret ?_
    | with_reducible refine sx_then_exit ?_
    | with_reducible refine sx_inb_exit ?_
    | with_reducible refine sx_inb_other rfl ?_
    | with_reducible refine sx_if_t A rfl ?_
    | with_reducible refine sx_if_f A rfl ?_
    | ((with_reducible refine sx_at ?_); first
      | (refine sx_pure A tbOk rfl rfl rfl ?_; clear A; intro a A)
      | (refine sx_skip A rfl rfl ?_; clear A; intro a A)
      | ((with_reducible refine g_bin ?_); first | ((refine g_int A rfl ?_); first | (refine sx_cmp A rfl rfl rfl rfl ?_; clear A; intro a A) | (refine sx_arith A rfl rfl rfl rfl ?_; clear A; intro a A) | (refine sx_shl A rfl rfl rfl rfl ?_; clear A; intro a A) | (refine sx_shr A rfl rfl rfl rfl ?_; clear A; intro a A)) | ((refine g_str A rfl ?_); first | (refine sx_scmp A rfl rfl rfl rfl ?_; clear A; intro a A) | (refine sx_concat A rfl rfl rfl rfl ?_; clear A; intro a A)))
      | ((with_reducible refine g_load ?_); first | (refine sx_load_all H A tbOk rfl rfl rfl rfl rfl ?_; clear A; intro a A) | (refine sx_load H A tbOk rfl rfl rfl rfl ?_; clear A; intro a A))
      | ((with_reducible refine g_store ?_); refine sx_store H A tbOk rfl rfl rfl rfl ?_; clear H; intro w_ H)
      | ((with_reducible refine g_box ?_); refine sx_box H A rfl rfl rfl ?_; clear H A; intro b_ a w_ A H)
      | ((with_reducible refine g_alloc ?_); refine sx_alloc H A tbOk rfl rfl rfl ?_; clear H A; intro b_ a w_ A H)
      | ((with_reducible refine g_build ?_); refine sx_build A tbOk rfl rfl rfl rfl rfl rfl ?_; clear A; intro a A)
      | ((with_reducible refine g_builtin ?_); first | (refine sx_min A rfl rfl rfl rfl ?_; clear A; intro a A) | (refine sx_max A rfl rfl rfl rfl ?_; clear A; intro a A))
      | ((with_reducible refine g_slice ?_); first | (refine sx_sstr A tbOk rfl rfl rfl rfl rfl rfl ?_; clear A; intro a A) | (refine sx_cut H A tbOk rfl rfl rfl rfl rfl rfl rfl ?_; clear A H; intro A_ c_ a hc_ A H))
      | ((with_reducible refine g_index ?_); refine sx_sidx A tbOk rfl rfl rfl rfl rfl ?_; clear A; intro a A)
      | ((with_reducible refine g_idx ?_); first | (refine sx_idx H A tbOk rfl rfl rfl rfl rfl rfl ?_; clear A; intro a A) | (refine sx_oidx H A tbOk rfl rfl rfl rfl rfl rfl ?_; clear A; intro a A))
      | ((with_reducible refine g_conv ?_); refine sx_conv A tbOk rfl rfl rfl rfl rfl ?_; clear A; intro a A)
      )
    | ((with_reducible refine g_draw ?_); refine qx_region H (by kernel_rfl) (by kernel_rfl) ?_)
    | ((with_reducible refine qx_nil ?_); clear H; intro w_ F_ H)
    | ((with_reducible refine q_at ?_); first
      | (refine qx_pure A tbOk rfl rfl rfl ?_; clear A; intro a A)
      | (refine qx_skip A rfl rfl ?_; clear A; intro a A)
      | ((with_reducible refine qg_bin ?_); first | ((refine qg_int A rfl ?_); first | (refine qx_cmp A rfl rfl rfl rfl ?_; clear A; intro a A) | (refine qx_arith A rfl rfl rfl rfl ?_; clear A; intro a A)) | ((refine qg_str A rfl ?_); first | (refine qx_scmp A rfl rfl rfl rfl ?_; clear A; intro a A) | (refine qx_concat A rfl rfl rfl rfl ?_; clear A; intro a A)))
      | ((with_reducible refine qg_builtin ?_); first | (refine qx_min A rfl rfl rfl rfl ?_; clear A; intro a A) | (refine qx_max A rfl rfl rfl rfl ?_; clear A; intro a A))
      | ((with_reducible refine qg_slice ?_); refine qx_sstr A tbOk rfl rfl rfl rfl rfl rfl ?_; clear A; intro a A)
      | ((with_reducible refine qg_load ?_); refine qx_load A tbOk rfl rfl rfl rfl ?_; clear A; intro a A)
      | ((with_reducible refine qg_idx ?_); first | (refine qx_idx H A tbOk rfl rfl rfl rfl rfl rfl ?_; clear A; intro a A) | (refine qx_oidx H A tbOk rfl rfl rfl rfl rfl rfl ?_; clear A; intro a A)))
      )
end
end Go.Proofs.YtniplmjbligmlaaDoor.V
