/- Texts of this claim, one behind the other. -/
import Derived.Test.YtniplmjbligmlaaDoorProg
import Derived.Test.YtniplmjbligmlaaDoorMgSlotBack0
/-! The program's types as a table: of each its form, how many cells and bytes it has, and its zero. -/
namespace Go.Proofs.YtniplmjbligmlaaDoor.V
set_option linter.unusedVariables false
def tb : Tb := [(1, ⟨.other, 1, 8, [.nilFunc]⟩),
  (2, ⟨(.int .i64), 1, 8, [.int .i64 0]⟩),
  (3, ⟨(.int .i64), 1, 8, [.int .i64 0]⟩),
  (4, ⟨.bool, 1, 1, [.bool false]⟩),
  (5, ⟨(.int .u8), 1, 1, [.int .u8 0]⟩),
  (6, ⟨(.int .u8), 1, 1, [.int .u8 0]⟩),
  (7, ⟨(.struct [(2, 0), (3, 1), (4, 2), (6, 3)]), 4, 24, [.int .i64 0, .int .i64 0, .bool false, .int .u8 0]⟩),
  (8, ⟨(.struct [(2, 0), (3, 1), (4, 2), (6, 3)]), 4, 24, [.int .i64 0, .int .i64 0, .bool false, .int .u8 0]⟩),
  (9, ⟨.string, 1, 16, [.string ⟨#[]⟩]⟩),
  (10, ⟨.string, 1, 16, [.string ⟨#[]⟩]⟩),
  (11, ⟨.string, 1, 16, [.string ⟨#[]⟩]⟩),
  (12, ⟨(.int .u64), 1, 8, [.int .u64 0]⟩),
  (13, ⟨(.struct [(9, 0), (12, 1)]), 2, 24, [.string ⟨#[]⟩, .int .u64 0]⟩),
  (14, ⟨(.struct [(9, 0), (12, 1)]), 2, 24, [.string ⟨#[]⟩, .int .u64 0]⟩),
  (15, ⟨(.ptr 150), 1, 8, [.pointer none]⟩),
  (16, ⟨(.ptr 153), 1, 8, [.pointer none]⟩),
  (17, ⟨(.ptr 162), 1, 8, [.pointer none]⟩),
  (18, ⟨(.struct [(17, 0)]), 1, 8, [.pointer none]⟩),
  (19, ⟨(.struct [(17, 0)]), 1, 8, [.pointer none]⟩),
  (20, ⟨.iface, 1, 16, [.nilIface]⟩),
  (21, ⟨(.int .i32), 1, 4, [.int .i32 0]⟩),
  (22, ⟨(.slice 9), 1, 24, [.slice none 0 0]⟩),
  (23, ⟨(.slice 42), 1, 24, [.slice none 0 0]⟩),
  (24, ⟨(.struct [(22, 0), (23, 1)]), 2, 48, [.slice none 0 0, .slice none 0 0]⟩),
  (25, ⟨(.struct [(22, 0), (23, 1)]), 2, 48, [.slice none 0 0, .slice none 0 0]⟩),
  (26, ⟨.other, 1, 8, [.nilFunc]⟩),
  (27, ⟨(.int .i64), 1, 8, [.int .i64 0]⟩),
  (29, ⟨.other, 1, 8, [.nilFunc]⟩),
  (30, ⟨.other, 1, 8, [.nilFunc]⟩),
  (31, ⟨.other, 1, 8, [.nilFunc]⟩),
  (32, ⟨.other, 1, 8, [.nilFunc]⟩),
  (33, ⟨(.slice 4), 1, 24, [.slice none 0 0]⟩),
  (35, ⟨.other, 1, 8, [.nilFunc]⟩),
  (36, ⟨.other, 1, 8, [.nilFunc]⟩),
  (37, ⟨.other, 1, 8, [.nilFunc]⟩),
  (38, ⟨.other, 1, 8, [.nilFunc]⟩),
  (39, ⟨.other, 1, 8, [.nilFunc]⟩),
  (40, ⟨.other, 1, 8, [.nilFunc]⟩),
  (41, ⟨(.struct [(3, 0), (9, 1)]), 2, 24, [.int .i64 0, .string ⟨#[]⟩]⟩),
  (42, ⟨(.struct [(3, 0), (9, 1)]), 2, 24, [.int .i64 0, .string ⟨#[]⟩]⟩),
  (43, ⟨.other, 1, 8, [.nilFunc]⟩),
  (44, ⟨.other, 1, 8, [.nilFunc]⟩),
  (45, ⟨(.struct [(25, 0), (3, 2)]), 3, 56, [.slice none 0 0, .slice none 0 0, .int .i64 0]⟩),
  (46, ⟨(.struct [(25, 0), (3, 2)]), 3, 56, [.slice none 0 0, .slice none 0 0, .int .i64 0]⟩),
  (48, ⟨.other, 1, 8, [.nilFunc]⟩),
  (49, ⟨.other, 1, 8, [.nilFunc]⟩),
  (50, ⟨(.slice 3), 1, 24, [.slice none 0 0]⟩),
  (51, ⟨(.struct [(3, 0), (3, 1), (50, 2)]), 3, 40, [.int .i64 0, .int .i64 0, .slice none 0 0]⟩),
  (52, ⟨(.struct [(3, 0), (3, 1), (50, 2)]), 3, 40, [.int .i64 0, .int .i64 0, .slice none 0 0]⟩),
  (53, ⟨.other, 1, 8, [.nilFunc]⟩),
  (54, ⟨.other, 1, 8, [.nilFunc]⟩),
  (55, ⟨.other, 1, 8, [.nilFunc]⟩),
  (56, ⟨.other, 1, 8, [.nilFunc]⟩),
  (57, ⟨.other, 1, 8, [.nilFunc]⟩),
  (58, ⟨.other, 1, 8, [.nilFunc]⟩),
  (59, ⟨.other, 1, 8, [.nilFunc]⟩),
  (60, ⟨(.struct [(3, 0), (9, 1)]), 2, 24, [.int .i64 0, .string ⟨#[]⟩]⟩),
  (61, ⟨.other, 1, 8, [.nilFunc]⟩),
  (62, ⟨.other, 1, 8, [.nilFunc]⟩),
  (63, ⟨.other, 1, 8, [.nilFunc]⟩),
  (64, ⟨.other, 1, 8, [.nilFunc]⟩),
  (65, ⟨(.struct [(3, 0)]), 1, 8, [.int .i64 0]⟩),
  (66, ⟨(.struct [(3, 0)]), 1, 8, [.int .i64 0]⟩),
  (67, ⟨.other, 1, 8, [.nilFunc]⟩),
  (68, ⟨.other, 1, 8, [.nilFunc]⟩),
  (69, ⟨.other, 1, 8, [.nilFunc]⟩),
  (70, ⟨.other, 1, 8, [.nilFunc]⟩),
  (71, ⟨.other, 1, 8, [.nilFunc]⟩),
  (72, ⟨.other, 1, 8, [.nilFunc]⟩),
  (73, ⟨.other, 1, 8, [.nilFunc]⟩),
  (74, ⟨.other, 1, 8, [.nilFunc]⟩),
  (76, ⟨.other, 1, 8, [.nilFunc]⟩),
  (78, ⟨.other, 1, 8, [.nilFunc]⟩),
  (80, ⟨.other, 1, 8, [.nilFunc]⟩),
  (81, ⟨.other, 1, 8, [.nilFunc]⟩),
  (82, ⟨.other, 1, 8, [.nilFunc]⟩),
  (83, ⟨.other, 1, 8, [.nilFunc]⟩),
  (84, ⟨.other, 1, 8, [.nilFunc]⟩),
  (85, ⟨.other, 1, 8, [.nilFunc]⟩),
  (86, ⟨.other, 1, 8, [.nilFunc]⟩),
  (87, ⟨.other, 1, 8, [.nilFunc]⟩),
  (88, ⟨.other, 1, 8, [.nilFunc]⟩),
  (89, ⟨.other, 1, 8, [.nilFunc]⟩),
  (90, ⟨.other, 1, 8, [.nilFunc]⟩),
  (91, ⟨.other, 1, 8, [.nilFunc]⟩),
  (92, ⟨.other, 1, 8, [.nilFunc]⟩),
  (93, ⟨.other, 1, 8, [.nilFunc]⟩),
  (94, ⟨(.struct [(3, 0), (3, 1)]), 2, 16, [.int .i64 0, .int .i64 0]⟩),
  (95, ⟨(.struct [(3, 0), (3, 1)]), 2, 16, [.int .i64 0, .int .i64 0]⟩),
  (96, ⟨(.slice 95), 1, 24, [.slice none 0 0]⟩),
  (97, ⟨.other, 1, 8, [.nilFunc]⟩),
  (98, ⟨.other, 1, 8, [.nilFunc]⟩),
  (99, ⟨.other, 1, 8, [.nilFunc]⟩),
  (100, ⟨(.ptr 102), 1, 8, [.pointer none]⟩),
  (101, ⟨(.struct [(9, 0), (3, 1)]), 2, 24, [.string ⟨#[]⟩, .int .i64 0]⟩),
  (102, ⟨(.struct [(9, 0), (3, 1)]), 2, 24, [.string ⟨#[]⟩, .int .i64 0]⟩),
  (103, ⟨.other, 1, 8, [.nilFunc]⟩),
  (104, ⟨.other, 1, 8, [.nilFunc]⟩),
  (105, ⟨.other, 1, 8, [.nilFunc]⟩),
  (106, ⟨.other, 1, 8, [.nilFunc]⟩),
  (107, ⟨.other, 1, 8, [.nilFunc]⟩),
  (108, ⟨.other, 1, 8, [.nilFunc]⟩),
  (109, ⟨(.int .u64), 1, 8, [.int .u64 0]⟩),
  (110, ⟨(.int .u64), 1, 8, [.int .u64 0]⟩),
  (112, ⟨.other, 1, 8, [.nilFunc]⟩),
  (114, ⟨.other, 1, 8, [.nilFunc]⟩),
  (115, ⟨.other, 1, 8, [.nilFunc]⟩),
  (117, ⟨.other, 1, 8, [.nilFunc]⟩),
  (118, ⟨.other, 1, 8, [.nilFunc]⟩),
  (122, ⟨.other, 1, 8, [.nilFunc]⟩),
  (123, ⟨.other, 1, 8, [.nilFunc]⟩),
  (124, ⟨(.ptr 120), 1, 8, [.pointer none]⟩),
  (125, ⟨.other, 1, 8, [.nilFunc]⟩),
  (126, ⟨(.slice 5), 1, 24, [.slice none 0 0]⟩),
  (127, ⟨(.int .u32), 1, 4, [.int .u32 0]⟩),
  (128, ⟨.other, 1, 8, [.nilFunc]⟩),
  (130, ⟨.other, 1, 8, [.nilFunc]⟩),
  (132, ⟨.other, 1, 8, [.nilFunc]⟩),
  (133, ⟨.other, 1, 8, [.nilFunc]⟩),
  (135, ⟨.other, 1, 8, [.nilFunc]⟩),
  (136, ⟨.other, 1, 8, [.nilFunc]⟩),
  (137, ⟨(.array 16 127), 16, 64, [.int .u32 0, .int .u32 0, .int .u32 0, .int .u32 0, .int .u32 0, .int .u32 0, .int .u32 0, .int .u32 0, .int .u32 0, .int .u32 0, .int .u32 0, .int .u32 0, .int .u32 0, .int .u32 0, .int .u32 0, .int .u32 0]⟩),
  (138, ⟨.other, 1, 8, [.nilFunc]⟩),
  (139, ⟨.other, 1, 8, [.nilFunc]⟩),
  (140, ⟨.other, 1, 8, [.nilFunc]⟩),
  (141, ⟨.other, 1, 8, [.nilFunc]⟩),
  (142, ⟨.other, 1, 8, [.nilFunc]⟩),
  (143, ⟨.other, 1, 8, [.nilFunc]⟩),
  (145, ⟨(.struct [(5, 0), (5, 1)]), 2, 2, [.int .u8 0, .int .u8 0]⟩),
  (146, ⟨(.struct [(5, 0), (5, 1)]), 2, 2, [.int .u8 0, .int .u8 0]⟩),
  (147, ⟨(.array 16 146), 32, 32, [.int .u8 0, .int .u8 0, .int .u8 0, .int .u8 0, .int .u8 0, .int .u8 0, .int .u8 0, .int .u8 0, .int .u8 0, .int .u8 0, .int .u8 0, .int .u8 0, .int .u8 0, .int .u8 0, .int .u8 0, .int .u8 0, .int .u8 0, .int .u8 0, .int .u8 0, .int .u8 0, .int .u8 0, .int .u8 0, .int .u8 0, .int .u8 0, .int .u8 0, .int .u8 0, .int .u8 0, .int .u8 0, .int .u8 0, .int .u8 0, .int .u8 0, .int .u8 0]⟩),
  (148, ⟨.other, 1, 8, [.nilFunc]⟩),
  (149, ⟨(.struct [(17, 0), (17, 1), (17, 2), (9, 3)]), 4, 40, [.pointer none, .pointer none, .pointer none, .string ⟨#[]⟩]⟩),
  (150, ⟨(.struct [(17, 0), (17, 1), (17, 2), (9, 3)]), 4, 40, [.pointer none, .pointer none, .pointer none, .string ⟨#[]⟩]⟩),
  (151, ⟨(.array 0 16), 0, 0, []⟩),
  (152, ⟨(.struct [(151, 0)]), 0, 0, []⟩),
  (153, ⟨(.struct [(151, 0)]), 0, 0, []⟩),
  (154, ⟨.other, 1, 8, [.nilFunc]⟩),
  (155, ⟨(.int .u8), 1, 1, [.int .u8 0]⟩),
  (156, ⟨(.int .u8), 1, 1, [.int .u8 0]⟩),
  (157, ⟨.other, 1, 8, [.nilFunc]⟩),
  (158, ⟨(.ptr 5), 1, 8, [.pointer none]⟩),
  (159, ⟨(.int .i32), 1, 4, [.int .i32 0]⟩),
  (160, ⟨(.int .i32), 1, 4, [.int .i32 0]⟩),
  (161, ⟨(.struct [(12, 0), (12, 1), (127, 2), (155, 3), (5, 4), (5, 5), (156, 6), (157, 7), (158, 8), (159, 9), (160, 10)]), 11, 48, [.int .u64 0, .int .u64 0, .int .u32 0, .int .u8 0, .int .u8 0, .int .u8 0, .int .u8 0, .nilFunc, .pointer none, .int .i32 0, .int .i32 0]⟩),
  (162, ⟨(.struct [(12, 0), (12, 1), (127, 2), (155, 3), (5, 4), (5, 5), (156, 6), (157, 7), (158, 8), (159, 9), (160, 10)]), 11, 48, [.int .u64 0, .int .u64 0, .int .u32 0, .int .u8 0, .int .u8 0, .int .u8 0, .int .u8 0, .nilFunc, .pointer none, .int .i32 0, .int .i32 0]⟩),
  (163, ⟨.other, 1, 8, [.pointer none]⟩)]
set_option maxRecDepth 100000 in
theorem tbOk : TbOk Tryd.prog tb := tbOk_cons ⟨⟨_, Tryd.underlying1, rfl⟩, ⟨_, (by kernel_rfl : Tryd.prog.info? 1 = some Tryd.t1), rfl, rfl, rfl⟩, rfl, rfl, by decide⟩ (
  tbOk_cons ⟨⟨_, Tryd.underlying2, rfl⟩, ⟨_, (by kernel_rfl : Tryd.prog.info? 2 = some Tryd.t2), rfl, rfl, rfl⟩, rfl, rfl, by decide⟩ (
  tbOk_cons ⟨⟨_, Tryd.underlying3, rfl⟩, ⟨_, (by kernel_rfl : Tryd.prog.info? 3 = some Tryd.t3), rfl, rfl, rfl⟩, rfl, rfl, by decide⟩ (
  tbOk_cons ⟨⟨_, Tryd.underlying4, rfl⟩, ⟨_, (by kernel_rfl : Tryd.prog.info? 4 = some Tryd.t4), rfl, rfl, rfl⟩, rfl, rfl, by decide⟩ (
  tbOk_cons ⟨⟨_, Tryd.underlying5, rfl⟩, ⟨_, (by kernel_rfl : Tryd.prog.info? 5 = some Tryd.t5), rfl, rfl, rfl⟩, rfl, rfl, by decide⟩ (
  tbOk_cons ⟨⟨_, Tryd.underlying6, rfl⟩, ⟨_, (by kernel_rfl : Tryd.prog.info? 6 = some Tryd.t6), rfl, rfl, rfl⟩, rfl, rfl, by decide⟩ (
  tbOk_cons ⟨⟨_, Tryd.underlying7, rfl⟩, ⟨_, (by kernel_rfl : Tryd.prog.info? 7 = some Tryd.t7), rfl, rfl, rfl⟩, rfl, rfl, by decide⟩ (
  tbOk_cons ⟨⟨_, Tryd.underlying8, rfl⟩, ⟨_, (by kernel_rfl : Tryd.prog.info? 8 = some Tryd.t8), rfl, rfl, rfl⟩, rfl, rfl, by decide⟩ (
  tbOk_cons ⟨⟨_, Tryd.underlying9, rfl⟩, ⟨_, (by kernel_rfl : Tryd.prog.info? 9 = some Tryd.t9), rfl, rfl, rfl⟩, rfl, rfl, by decide⟩ (
  tbOk_cons ⟨⟨_, Tryd.underlying10, rfl⟩, ⟨_, (by kernel_rfl : Tryd.prog.info? 10 = some Tryd.t10), rfl, rfl, rfl⟩, rfl, rfl, by decide⟩ (
  tbOk_cons ⟨⟨_, Tryd.underlying11, rfl⟩, ⟨_, (by kernel_rfl : Tryd.prog.info? 11 = some Tryd.t11), rfl, rfl, rfl⟩, rfl, rfl, by decide⟩ (
  tbOk_cons ⟨⟨_, Tryd.underlying12, rfl⟩, ⟨_, (by kernel_rfl : Tryd.prog.info? 12 = some Tryd.t12), rfl, rfl, rfl⟩, rfl, rfl, by decide⟩ (
  tbOk_cons ⟨⟨_, Tryd.underlying13, rfl⟩, ⟨_, (by kernel_rfl : Tryd.prog.info? 13 = some Tryd.t13), rfl, rfl, rfl⟩, rfl, rfl, by decide⟩ (
  tbOk_cons ⟨⟨_, Tryd.underlying14, rfl⟩, ⟨_, (by kernel_rfl : Tryd.prog.info? 14 = some Tryd.t14), rfl, rfl, rfl⟩, rfl, rfl, by decide⟩ (
  tbOk_cons ⟨⟨_, Tryd.underlying15, rfl⟩, ⟨_, (by kernel_rfl : Tryd.prog.info? 15 = some Tryd.t15), rfl, rfl, rfl⟩, rfl, rfl, by decide⟩ (
  tbOk_cons ⟨⟨_, Tryd.underlying16, rfl⟩, ⟨_, (by kernel_rfl : Tryd.prog.info? 16 = some Tryd.t16), rfl, rfl, rfl⟩, rfl, rfl, by decide⟩ (
  tbOk_cons ⟨⟨_, Tryd.underlying17, rfl⟩, ⟨_, (by kernel_rfl : Tryd.prog.info? 17 = some Tryd.t17), rfl, rfl, rfl⟩, rfl, rfl, by decide⟩ (
  tbOk_cons ⟨⟨_, Tryd.underlying18, rfl⟩, ⟨_, (by kernel_rfl : Tryd.prog.info? 18 = some Tryd.t18), rfl, rfl, rfl⟩, rfl, rfl, by decide⟩ (
  tbOk_cons ⟨⟨_, Tryd.underlying19, rfl⟩, ⟨_, (by kernel_rfl : Tryd.prog.info? 19 = some Tryd.t19), rfl, rfl, rfl⟩, rfl, rfl, by decide⟩ (
  tbOk_cons ⟨⟨_, Tryd.underlying20, rfl⟩, ⟨_, (by kernel_rfl : Tryd.prog.info? 20 = some Tryd.t20), rfl, rfl, rfl⟩, rfl, rfl, by decide⟩ (
  tbOk_cons ⟨⟨_, Tryd.underlying21, rfl⟩, ⟨_, (by kernel_rfl : Tryd.prog.info? 21 = some Tryd.t21), rfl, rfl, rfl⟩, rfl, rfl, by decide⟩ (
  tbOk_cons ⟨⟨_, Tryd.underlying22, rfl⟩, ⟨_, (by kernel_rfl : Tryd.prog.info? 22 = some Tryd.t22), rfl, rfl, rfl⟩, rfl, rfl, by decide⟩ (
  tbOk_cons ⟨⟨_, Tryd.underlying23, rfl⟩, ⟨_, (by kernel_rfl : Tryd.prog.info? 23 = some Tryd.t23), rfl, rfl, rfl⟩, rfl, rfl, by decide⟩ (
  tbOk_cons ⟨⟨_, Tryd.underlying24, rfl⟩, ⟨_, (by kernel_rfl : Tryd.prog.info? 24 = some Tryd.t24), rfl, rfl, rfl⟩, rfl, rfl, by decide⟩ (
  tbOk_cons ⟨⟨_, Tryd.underlying25, rfl⟩, ⟨_, (by kernel_rfl : Tryd.prog.info? 25 = some Tryd.t25), rfl, rfl, rfl⟩, rfl, rfl, by decide⟩ (
  tbOk_cons ⟨⟨_, Tryd.underlying26, rfl⟩, ⟨_, (by kernel_rfl : Tryd.prog.info? 26 = some Tryd.t26), rfl, rfl, rfl⟩, rfl, rfl, by decide⟩ (
  tbOk_cons ⟨⟨_, Tryd.underlying27, rfl⟩, ⟨_, (by kernel_rfl : Tryd.prog.info? 27 = some Tryd.t27), rfl, rfl, rfl⟩, rfl, rfl, by decide⟩ (
  tbOk_cons ⟨⟨_, Tryd.underlying29, rfl⟩, ⟨_, (by kernel_rfl : Tryd.prog.info? 29 = some Tryd.t29), rfl, rfl, rfl⟩, rfl, rfl, by decide⟩ (
  tbOk_cons ⟨⟨_, Tryd.underlying30, rfl⟩, ⟨_, (by kernel_rfl : Tryd.prog.info? 30 = some Tryd.t30), rfl, rfl, rfl⟩, rfl, rfl, by decide⟩ (
  tbOk_cons ⟨⟨_, Tryd.underlying31, rfl⟩, ⟨_, (by kernel_rfl : Tryd.prog.info? 31 = some Tryd.t31), rfl, rfl, rfl⟩, rfl, rfl, by decide⟩ (
  tbOk_cons ⟨⟨_, Tryd.underlying32, rfl⟩, ⟨_, (by kernel_rfl : Tryd.prog.info? 32 = some Tryd.t32), rfl, rfl, rfl⟩, rfl, rfl, by decide⟩ (
  tbOk_cons ⟨⟨_, Tryd.underlying33, rfl⟩, ⟨_, (by kernel_rfl : Tryd.prog.info? 33 = some Tryd.t33), rfl, rfl, rfl⟩, rfl, rfl, by decide⟩ (
  tbOk_cons ⟨⟨_, Tryd.underlying35, rfl⟩, ⟨_, (by kernel_rfl : Tryd.prog.info? 35 = some Tryd.t35), rfl, rfl, rfl⟩, rfl, rfl, by decide⟩ (
  tbOk_cons ⟨⟨_, Tryd.underlying36, rfl⟩, ⟨_, (by kernel_rfl : Tryd.prog.info? 36 = some Tryd.t36), rfl, rfl, rfl⟩, rfl, rfl, by decide⟩ (
  tbOk_cons ⟨⟨_, Tryd.underlying37, rfl⟩, ⟨_, (by kernel_rfl : Tryd.prog.info? 37 = some Tryd.t37), rfl, rfl, rfl⟩, rfl, rfl, by decide⟩ (
  tbOk_cons ⟨⟨_, Tryd.underlying38, rfl⟩, ⟨_, (by kernel_rfl : Tryd.prog.info? 38 = some Tryd.t38), rfl, rfl, rfl⟩, rfl, rfl, by decide⟩ (
  tbOk_cons ⟨⟨_, Tryd.underlying39, rfl⟩, ⟨_, (by kernel_rfl : Tryd.prog.info? 39 = some Tryd.t39), rfl, rfl, rfl⟩, rfl, rfl, by decide⟩ (
  tbOk_cons ⟨⟨_, Tryd.underlying40, rfl⟩, ⟨_, (by kernel_rfl : Tryd.prog.info? 40 = some Tryd.t40), rfl, rfl, rfl⟩, rfl, rfl, by decide⟩ (
  tbOk_cons ⟨⟨_, Tryd.underlying41, rfl⟩, ⟨_, (by kernel_rfl : Tryd.prog.info? 41 = some Tryd.t41), rfl, rfl, rfl⟩, rfl, rfl, by decide⟩ (
  tbOk_cons ⟨⟨_, Tryd.underlying42, rfl⟩, ⟨_, (by kernel_rfl : Tryd.prog.info? 42 = some Tryd.t42), rfl, rfl, rfl⟩, rfl, rfl, by decide⟩ (
  tbOk_cons ⟨⟨_, Tryd.underlying43, rfl⟩, ⟨_, (by kernel_rfl : Tryd.prog.info? 43 = some Tryd.t43), rfl, rfl, rfl⟩, rfl, rfl, by decide⟩ (
  tbOk_cons ⟨⟨_, Tryd.underlying44, rfl⟩, ⟨_, (by kernel_rfl : Tryd.prog.info? 44 = some Tryd.t44), rfl, rfl, rfl⟩, rfl, rfl, by decide⟩ (
  tbOk_cons ⟨⟨_, Tryd.underlying45, rfl⟩, ⟨_, (by kernel_rfl : Tryd.prog.info? 45 = some Tryd.t45), rfl, rfl, rfl⟩, rfl, rfl, by decide⟩ (
  tbOk_cons ⟨⟨_, Tryd.underlying46, rfl⟩, ⟨_, (by kernel_rfl : Tryd.prog.info? 46 = some Tryd.t46), rfl, rfl, rfl⟩, rfl, rfl, by decide⟩ (
  tbOk_cons ⟨⟨_, Tryd.underlying48, rfl⟩, ⟨_, (by kernel_rfl : Tryd.prog.info? 48 = some Tryd.t48), rfl, rfl, rfl⟩, rfl, rfl, by decide⟩ (
  tbOk_cons ⟨⟨_, Tryd.underlying49, rfl⟩, ⟨_, (by kernel_rfl : Tryd.prog.info? 49 = some Tryd.t49), rfl, rfl, rfl⟩, rfl, rfl, by decide⟩ (
  tbOk_cons ⟨⟨_, Tryd.underlying50, rfl⟩, ⟨_, (by kernel_rfl : Tryd.prog.info? 50 = some Tryd.t50), rfl, rfl, rfl⟩, rfl, rfl, by decide⟩ (
  tbOk_cons ⟨⟨_, Tryd.underlying51, rfl⟩, ⟨_, (by kernel_rfl : Tryd.prog.info? 51 = some Tryd.t51), rfl, rfl, rfl⟩, rfl, rfl, by decide⟩ (
  tbOk_cons ⟨⟨_, Tryd.underlying52, rfl⟩, ⟨_, (by kernel_rfl : Tryd.prog.info? 52 = some Tryd.t52), rfl, rfl, rfl⟩, rfl, rfl, by decide⟩ (
  tbOk_cons ⟨⟨_, Tryd.underlying53, rfl⟩, ⟨_, (by kernel_rfl : Tryd.prog.info? 53 = some Tryd.t53), rfl, rfl, rfl⟩, rfl, rfl, by decide⟩ (
  tbOk_cons ⟨⟨_, Tryd.underlying54, rfl⟩, ⟨_, (by kernel_rfl : Tryd.prog.info? 54 = some Tryd.t54), rfl, rfl, rfl⟩, rfl, rfl, by decide⟩ (
  tbOk_cons ⟨⟨_, Tryd.underlying55, rfl⟩, ⟨_, (by kernel_rfl : Tryd.prog.info? 55 = some Tryd.t55), rfl, rfl, rfl⟩, rfl, rfl, by decide⟩ (
  tbOk_cons ⟨⟨_, Tryd.underlying56, rfl⟩, ⟨_, (by kernel_rfl : Tryd.prog.info? 56 = some Tryd.t56), rfl, rfl, rfl⟩, rfl, rfl, by decide⟩ (
  tbOk_cons ⟨⟨_, Tryd.underlying57, rfl⟩, ⟨_, (by kernel_rfl : Tryd.prog.info? 57 = some Tryd.t57), rfl, rfl, rfl⟩, rfl, rfl, by decide⟩ (
  tbOk_cons ⟨⟨_, Tryd.underlying58, rfl⟩, ⟨_, (by kernel_rfl : Tryd.prog.info? 58 = some Tryd.t58), rfl, rfl, rfl⟩, rfl, rfl, by decide⟩ (
  tbOk_cons ⟨⟨_, Tryd.underlying59, rfl⟩, ⟨_, (by kernel_rfl : Tryd.prog.info? 59 = some Tryd.t59), rfl, rfl, rfl⟩, rfl, rfl, by decide⟩ (
  tbOk_cons ⟨⟨_, Tryd.underlying60, rfl⟩, ⟨_, (by kernel_rfl : Tryd.prog.info? 60 = some Tryd.t60), rfl, rfl, rfl⟩, rfl, rfl, by decide⟩ (
  tbOk_cons ⟨⟨_, Tryd.underlying61, rfl⟩, ⟨_, (by kernel_rfl : Tryd.prog.info? 61 = some Tryd.t61), rfl, rfl, rfl⟩, rfl, rfl, by decide⟩ (
  tbOk_cons ⟨⟨_, Tryd.underlying62, rfl⟩, ⟨_, (by kernel_rfl : Tryd.prog.info? 62 = some Tryd.t62), rfl, rfl, rfl⟩, rfl, rfl, by decide⟩ (
  tbOk_cons ⟨⟨_, Tryd.underlying63, rfl⟩, ⟨_, (by kernel_rfl : Tryd.prog.info? 63 = some Tryd.t63), rfl, rfl, rfl⟩, rfl, rfl, by decide⟩ (
  tbOk_cons ⟨⟨_, Tryd.underlying64, rfl⟩, ⟨_, (by kernel_rfl : Tryd.prog.info? 64 = some Tryd.t64), rfl, rfl, rfl⟩, rfl, rfl, by decide⟩ (
  tbOk_cons ⟨⟨_, Tryd.underlying65, rfl⟩, ⟨_, (by kernel_rfl : Tryd.prog.info? 65 = some Tryd.t65), rfl, rfl, rfl⟩, rfl, rfl, by decide⟩ (
  tbOk_cons ⟨⟨_, Tryd.underlying66, rfl⟩, ⟨_, (by kernel_rfl : Tryd.prog.info? 66 = some Tryd.t66), rfl, rfl, rfl⟩, rfl, rfl, by decide⟩ (
  tbOk_cons ⟨⟨_, Tryd.underlying67, rfl⟩, ⟨_, (by kernel_rfl : Tryd.prog.info? 67 = some Tryd.t67), rfl, rfl, rfl⟩, rfl, rfl, by decide⟩ (
  tbOk_cons ⟨⟨_, Tryd.underlying68, rfl⟩, ⟨_, (by kernel_rfl : Tryd.prog.info? 68 = some Tryd.t68), rfl, rfl, rfl⟩, rfl, rfl, by decide⟩ (
  tbOk_cons ⟨⟨_, Tryd.underlying69, rfl⟩, ⟨_, (by kernel_rfl : Tryd.prog.info? 69 = some Tryd.t69), rfl, rfl, rfl⟩, rfl, rfl, by decide⟩ (
  tbOk_cons ⟨⟨_, Tryd.underlying70, rfl⟩, ⟨_, (by kernel_rfl : Tryd.prog.info? 70 = some Tryd.t70), rfl, rfl, rfl⟩, rfl, rfl, by decide⟩ (
  tbOk_cons ⟨⟨_, Tryd.underlying71, rfl⟩, ⟨_, (by kernel_rfl : Tryd.prog.info? 71 = some Tryd.t71), rfl, rfl, rfl⟩, rfl, rfl, by decide⟩ (
  tbOk_cons ⟨⟨_, Tryd.underlying72, rfl⟩, ⟨_, (by kernel_rfl : Tryd.prog.info? 72 = some Tryd.t72), rfl, rfl, rfl⟩, rfl, rfl, by decide⟩ (
  tbOk_cons ⟨⟨_, Tryd.underlying73, rfl⟩, ⟨_, (by kernel_rfl : Tryd.prog.info? 73 = some Tryd.t73), rfl, rfl, rfl⟩, rfl, rfl, by decide⟩ (
  tbOk_cons ⟨⟨_, Tryd.underlying74, rfl⟩, ⟨_, (by kernel_rfl : Tryd.prog.info? 74 = some Tryd.t74), rfl, rfl, rfl⟩, rfl, rfl, by decide⟩ (
  tbOk_cons ⟨⟨_, Tryd.underlying76, rfl⟩, ⟨_, (by kernel_rfl : Tryd.prog.info? 76 = some Tryd.t76), rfl, rfl, rfl⟩, rfl, rfl, by decide⟩ (
  tbOk_cons ⟨⟨_, Tryd.underlying78, rfl⟩, ⟨_, (by kernel_rfl : Tryd.prog.info? 78 = some Tryd.t78), rfl, rfl, rfl⟩, rfl, rfl, by decide⟩ (
  tbOk_cons ⟨⟨_, Tryd.underlying80, rfl⟩, ⟨_, (by kernel_rfl : Tryd.prog.info? 80 = some Tryd.t80), rfl, rfl, rfl⟩, rfl, rfl, by decide⟩ (
  tbOk_cons ⟨⟨_, Tryd.underlying81, rfl⟩, ⟨_, (by kernel_rfl : Tryd.prog.info? 81 = some Tryd.t81), rfl, rfl, rfl⟩, rfl, rfl, by decide⟩ (
  tbOk_cons ⟨⟨_, Tryd.underlying82, rfl⟩, ⟨_, (by kernel_rfl : Tryd.prog.info? 82 = some Tryd.t82), rfl, rfl, rfl⟩, rfl, rfl, by decide⟩ (
  tbOk_cons ⟨⟨_, Tryd.underlying83, rfl⟩, ⟨_, (by kernel_rfl : Tryd.prog.info? 83 = some Tryd.t83), rfl, rfl, rfl⟩, rfl, rfl, by decide⟩ (
  tbOk_cons ⟨⟨_, Tryd.underlying84, rfl⟩, ⟨_, (by kernel_rfl : Tryd.prog.info? 84 = some Tryd.t84), rfl, rfl, rfl⟩, rfl, rfl, by decide⟩ (
  tbOk_cons ⟨⟨_, Tryd.underlying85, rfl⟩, ⟨_, (by kernel_rfl : Tryd.prog.info? 85 = some Tryd.t85), rfl, rfl, rfl⟩, rfl, rfl, by decide⟩ (
  tbOk_cons ⟨⟨_, Tryd.underlying86, rfl⟩, ⟨_, (by kernel_rfl : Tryd.prog.info? 86 = some Tryd.t86), rfl, rfl, rfl⟩, rfl, rfl, by decide⟩ (
  tbOk_cons ⟨⟨_, Tryd.underlying87, rfl⟩, ⟨_, (by kernel_rfl : Tryd.prog.info? 87 = some Tryd.t87), rfl, rfl, rfl⟩, rfl, rfl, by decide⟩ (
  tbOk_cons ⟨⟨_, Tryd.underlying88, rfl⟩, ⟨_, (by kernel_rfl : Tryd.prog.info? 88 = some Tryd.t88), rfl, rfl, rfl⟩, rfl, rfl, by decide⟩ (
  tbOk_cons ⟨⟨_, Tryd.underlying89, rfl⟩, ⟨_, (by kernel_rfl : Tryd.prog.info? 89 = some Tryd.t89), rfl, rfl, rfl⟩, rfl, rfl, by decide⟩ (
  tbOk_cons ⟨⟨_, Tryd.underlying90, rfl⟩, ⟨_, (by kernel_rfl : Tryd.prog.info? 90 = some Tryd.t90), rfl, rfl, rfl⟩, rfl, rfl, by decide⟩ (
  tbOk_cons ⟨⟨_, Tryd.underlying91, rfl⟩, ⟨_, (by kernel_rfl : Tryd.prog.info? 91 = some Tryd.t91), rfl, rfl, rfl⟩, rfl, rfl, by decide⟩ (
  tbOk_cons ⟨⟨_, Tryd.underlying92, rfl⟩, ⟨_, (by kernel_rfl : Tryd.prog.info? 92 = some Tryd.t92), rfl, rfl, rfl⟩, rfl, rfl, by decide⟩ (
  tbOk_cons ⟨⟨_, Tryd.underlying93, rfl⟩, ⟨_, (by kernel_rfl : Tryd.prog.info? 93 = some Tryd.t93), rfl, rfl, rfl⟩, rfl, rfl, by decide⟩ (
  tbOk_cons ⟨⟨_, Tryd.underlying94, rfl⟩, ⟨_, (by kernel_rfl : Tryd.prog.info? 94 = some Tryd.t94), rfl, rfl, rfl⟩, rfl, rfl, by decide⟩ (
  tbOk_cons ⟨⟨_, Tryd.underlying95, rfl⟩, ⟨_, (by kernel_rfl : Tryd.prog.info? 95 = some Tryd.t95), rfl, rfl, rfl⟩, rfl, rfl, by decide⟩ (
  tbOk_cons ⟨⟨_, Tryd.underlying96, rfl⟩, ⟨_, (by kernel_rfl : Tryd.prog.info? 96 = some Tryd.t96), rfl, rfl, rfl⟩, rfl, rfl, by decide⟩ (
  tbOk_cons ⟨⟨_, Tryd.underlying97, rfl⟩, ⟨_, (by kernel_rfl : Tryd.prog.info? 97 = some Tryd.t97), rfl, rfl, rfl⟩, rfl, rfl, by decide⟩ (
  tbOk_cons ⟨⟨_, Tryd.underlying98, rfl⟩, ⟨_, (by kernel_rfl : Tryd.prog.info? 98 = some Tryd.t98), rfl, rfl, rfl⟩, rfl, rfl, by decide⟩ (
  tbOk_cons ⟨⟨_, Tryd.underlying99, rfl⟩, ⟨_, (by kernel_rfl : Tryd.prog.info? 99 = some Tryd.t99), rfl, rfl, rfl⟩, rfl, rfl, by decide⟩ (
  tbOk_cons ⟨⟨_, Tryd.underlying100, rfl⟩, ⟨_, (by kernel_rfl : Tryd.prog.info? 100 = some Tryd.t100), rfl, rfl, rfl⟩, rfl, rfl, by decide⟩ (
  tbOk_cons ⟨⟨_, Tryd.underlying101, rfl⟩, ⟨_, (by kernel_rfl : Tryd.prog.info? 101 = some Tryd.t101), rfl, rfl, rfl⟩, rfl, rfl, by decide⟩ (
  tbOk_cons ⟨⟨_, Tryd.underlying102, rfl⟩, ⟨_, (by kernel_rfl : Tryd.prog.info? 102 = some Tryd.t102), rfl, rfl, rfl⟩, rfl, rfl, by decide⟩ (
  tbOk_cons ⟨⟨_, Tryd.underlying103, rfl⟩, ⟨_, (by kernel_rfl : Tryd.prog.info? 103 = some Tryd.t103), rfl, rfl, rfl⟩, rfl, rfl, by decide⟩ (
  tbOk_cons ⟨⟨_, Tryd.underlying104, rfl⟩, ⟨_, (by kernel_rfl : Tryd.prog.info? 104 = some Tryd.t104), rfl, rfl, rfl⟩, rfl, rfl, by decide⟩ (
  tbOk_cons ⟨⟨_, Tryd.underlying105, rfl⟩, ⟨_, (by kernel_rfl : Tryd.prog.info? 105 = some Tryd.t105), rfl, rfl, rfl⟩, rfl, rfl, by decide⟩ (
  tbOk_cons ⟨⟨_, Tryd.underlying106, rfl⟩, ⟨_, (by kernel_rfl : Tryd.prog.info? 106 = some Tryd.t106), rfl, rfl, rfl⟩, rfl, rfl, by decide⟩ (
  tbOk_cons ⟨⟨_, Tryd.underlying107, rfl⟩, ⟨_, (by kernel_rfl : Tryd.prog.info? 107 = some Tryd.t107), rfl, rfl, rfl⟩, rfl, rfl, by decide⟩ (
  tbOk_cons ⟨⟨_, Tryd.underlying108, rfl⟩, ⟨_, (by kernel_rfl : Tryd.prog.info? 108 = some Tryd.t108), rfl, rfl, rfl⟩, rfl, rfl, by decide⟩ (
  tbOk_cons ⟨⟨_, Tryd.underlying109, rfl⟩, ⟨_, (by kernel_rfl : Tryd.prog.info? 109 = some Tryd.t109), rfl, rfl, rfl⟩, rfl, rfl, by decide⟩ (
  tbOk_cons ⟨⟨_, Tryd.underlying110, rfl⟩, ⟨_, (by kernel_rfl : Tryd.prog.info? 110 = some Tryd.t110), rfl, rfl, rfl⟩, rfl, rfl, by decide⟩ (
  tbOk_cons ⟨⟨_, Tryd.underlying112, rfl⟩, ⟨_, (by kernel_rfl : Tryd.prog.info? 112 = some Tryd.t112), rfl, rfl, rfl⟩, rfl, rfl, by decide⟩ (
  tbOk_cons ⟨⟨_, Tryd.underlying114, rfl⟩, ⟨_, (by kernel_rfl : Tryd.prog.info? 114 = some Tryd.t114), rfl, rfl, rfl⟩, rfl, rfl, by decide⟩ (
  tbOk_cons ⟨⟨_, Tryd.underlying115, rfl⟩, ⟨_, (by kernel_rfl : Tryd.prog.info? 115 = some Tryd.t115), rfl, rfl, rfl⟩, rfl, rfl, by decide⟩ (
  tbOk_cons ⟨⟨_, Tryd.underlying117, rfl⟩, ⟨_, (by kernel_rfl : Tryd.prog.info? 117 = some Tryd.t117), rfl, rfl, rfl⟩, rfl, rfl, by decide⟩ (
  tbOk_cons ⟨⟨_, Tryd.underlying118, rfl⟩, ⟨_, (by kernel_rfl : Tryd.prog.info? 118 = some Tryd.t118), rfl, rfl, rfl⟩, rfl, rfl, by decide⟩ (
  tbOk_cons ⟨⟨_, Tryd.underlying122, rfl⟩, ⟨_, (by kernel_rfl : Tryd.prog.info? 122 = some Tryd.t122), rfl, rfl, rfl⟩, rfl, rfl, by decide⟩ (
  tbOk_cons ⟨⟨_, Tryd.underlying123, rfl⟩, ⟨_, (by kernel_rfl : Tryd.prog.info? 123 = some Tryd.t123), rfl, rfl, rfl⟩, rfl, rfl, by decide⟩ (
  tbOk_cons ⟨⟨_, Tryd.underlying124, rfl⟩, ⟨_, (by kernel_rfl : Tryd.prog.info? 124 = some Tryd.t124), rfl, rfl, rfl⟩, rfl, rfl, by decide⟩ (
  tbOk_cons ⟨⟨_, Tryd.underlying125, rfl⟩, ⟨_, (by kernel_rfl : Tryd.prog.info? 125 = some Tryd.t125), rfl, rfl, rfl⟩, rfl, rfl, by decide⟩ (
  tbOk_cons ⟨⟨_, Tryd.underlying126, rfl⟩, ⟨_, (by kernel_rfl : Tryd.prog.info? 126 = some Tryd.t126), rfl, rfl, rfl⟩, rfl, rfl, by decide⟩ (
  tbOk_cons ⟨⟨_, Tryd.underlying127, rfl⟩, ⟨_, (by kernel_rfl : Tryd.prog.info? 127 = some Tryd.t127), rfl, rfl, rfl⟩, rfl, rfl, by decide⟩ (
  tbOk_cons ⟨⟨_, Tryd.underlying128, rfl⟩, ⟨_, (by kernel_rfl : Tryd.prog.info? 128 = some Tryd.t128), rfl, rfl, rfl⟩, rfl, rfl, by decide⟩ (
  tbOk_cons ⟨⟨_, Tryd.underlying130, rfl⟩, ⟨_, (by kernel_rfl : Tryd.prog.info? 130 = some Tryd.t130), rfl, rfl, rfl⟩, rfl, rfl, by decide⟩ (
  tbOk_cons ⟨⟨_, Tryd.underlying132, rfl⟩, ⟨_, (by kernel_rfl : Tryd.prog.info? 132 = some Tryd.t132), rfl, rfl, rfl⟩, rfl, rfl, by decide⟩ (
  tbOk_cons ⟨⟨_, Tryd.underlying133, rfl⟩, ⟨_, (by kernel_rfl : Tryd.prog.info? 133 = some Tryd.t133), rfl, rfl, rfl⟩, rfl, rfl, by decide⟩ (
  tbOk_cons ⟨⟨_, Tryd.underlying135, rfl⟩, ⟨_, (by kernel_rfl : Tryd.prog.info? 135 = some Tryd.t135), rfl, rfl, rfl⟩, rfl, rfl, by decide⟩ (
  tbOk_cons ⟨⟨_, Tryd.underlying136, rfl⟩, ⟨_, (by kernel_rfl : Tryd.prog.info? 136 = some Tryd.t136), rfl, rfl, rfl⟩, rfl, rfl, by decide⟩ (
  tbOk_cons ⟨⟨_, Tryd.underlying137, rfl⟩, ⟨_, (by kernel_rfl : Tryd.prog.info? 137 = some Tryd.t137), rfl, rfl, rfl⟩, rfl, rfl, by decide⟩ (
  tbOk_cons ⟨⟨_, Tryd.underlying138, rfl⟩, ⟨_, (by kernel_rfl : Tryd.prog.info? 138 = some Tryd.t138), rfl, rfl, rfl⟩, rfl, rfl, by decide⟩ (
  tbOk_cons ⟨⟨_, Tryd.underlying139, rfl⟩, ⟨_, (by kernel_rfl : Tryd.prog.info? 139 = some Tryd.t139), rfl, rfl, rfl⟩, rfl, rfl, by decide⟩ (
  tbOk_cons ⟨⟨_, Tryd.underlying140, rfl⟩, ⟨_, (by kernel_rfl : Tryd.prog.info? 140 = some Tryd.t140), rfl, rfl, rfl⟩, rfl, rfl, by decide⟩ (
  tbOk_cons ⟨⟨_, Tryd.underlying141, rfl⟩, ⟨_, (by kernel_rfl : Tryd.prog.info? 141 = some Tryd.t141), rfl, rfl, rfl⟩, rfl, rfl, by decide⟩ (
  tbOk_cons ⟨⟨_, Tryd.underlying142, rfl⟩, ⟨_, (by kernel_rfl : Tryd.prog.info? 142 = some Tryd.t142), rfl, rfl, rfl⟩, rfl, rfl, by decide⟩ (
  tbOk_cons ⟨⟨_, Tryd.underlying143, rfl⟩, ⟨_, (by kernel_rfl : Tryd.prog.info? 143 = some Tryd.t143), rfl, rfl, rfl⟩, rfl, rfl, by decide⟩ (
  tbOk_cons ⟨⟨_, Tryd.underlying145, rfl⟩, ⟨_, (by kernel_rfl : Tryd.prog.info? 145 = some Tryd.t145), rfl, rfl, rfl⟩, rfl, rfl, by decide⟩ (
  tbOk_cons ⟨⟨_, Tryd.underlying146, rfl⟩, ⟨_, (by kernel_rfl : Tryd.prog.info? 146 = some Tryd.t146), rfl, rfl, rfl⟩, rfl, rfl, by decide⟩ (
  tbOk_cons ⟨⟨_, Tryd.underlying147, rfl⟩, ⟨_, (by kernel_rfl : Tryd.prog.info? 147 = some Tryd.t147), rfl, rfl, rfl⟩, rfl, rfl, by decide⟩ (
  tbOk_cons ⟨⟨_, Tryd.underlying148, rfl⟩, ⟨_, (by kernel_rfl : Tryd.prog.info? 148 = some Tryd.t148), rfl, rfl, rfl⟩, rfl, rfl, by decide⟩ (
  tbOk_cons ⟨⟨_, Tryd.underlying149, rfl⟩, ⟨_, (by kernel_rfl : Tryd.prog.info? 149 = some Tryd.t149), rfl, rfl, rfl⟩, rfl, rfl, by decide⟩ (
  tbOk_cons ⟨⟨_, Tryd.underlying150, rfl⟩, ⟨_, (by kernel_rfl : Tryd.prog.info? 150 = some Tryd.t150), rfl, rfl, rfl⟩, rfl, rfl, by decide⟩ (
  tbOk_cons ⟨⟨_, Tryd.underlying151, rfl⟩, ⟨_, (by kernel_rfl : Tryd.prog.info? 151 = some Tryd.t151), rfl, rfl, rfl⟩, rfl, rfl, by decide⟩ (
  tbOk_cons ⟨⟨_, Tryd.underlying152, rfl⟩, ⟨_, (by kernel_rfl : Tryd.prog.info? 152 = some Tryd.t152), rfl, rfl, rfl⟩, rfl, rfl, by decide⟩ (
  tbOk_cons ⟨⟨_, Tryd.underlying153, rfl⟩, ⟨_, (by kernel_rfl : Tryd.prog.info? 153 = some Tryd.t153), rfl, rfl, rfl⟩, rfl, rfl, by decide⟩ (
  tbOk_cons ⟨⟨_, Tryd.underlying154, rfl⟩, ⟨_, (by kernel_rfl : Tryd.prog.info? 154 = some Tryd.t154), rfl, rfl, rfl⟩, rfl, rfl, by decide⟩ (
  tbOk_cons ⟨⟨_, Tryd.underlying155, rfl⟩, ⟨_, (by kernel_rfl : Tryd.prog.info? 155 = some Tryd.t155), rfl, rfl, rfl⟩, rfl, rfl, by decide⟩ (
  tbOk_cons ⟨⟨_, Tryd.underlying156, rfl⟩, ⟨_, (by kernel_rfl : Tryd.prog.info? 156 = some Tryd.t156), rfl, rfl, rfl⟩, rfl, rfl, by decide⟩ (
  tbOk_cons ⟨⟨_, Tryd.underlying157, rfl⟩, ⟨_, (by kernel_rfl : Tryd.prog.info? 157 = some Tryd.t157), rfl, rfl, rfl⟩, rfl, rfl, by decide⟩ (
  tbOk_cons ⟨⟨_, Tryd.underlying158, rfl⟩, ⟨_, (by kernel_rfl : Tryd.prog.info? 158 = some Tryd.t158), rfl, rfl, rfl⟩, rfl, rfl, by decide⟩ (
  tbOk_cons ⟨⟨_, Tryd.underlying159, rfl⟩, ⟨_, (by kernel_rfl : Tryd.prog.info? 159 = some Tryd.t159), rfl, rfl, rfl⟩, rfl, rfl, by decide⟩ (
  tbOk_cons ⟨⟨_, Tryd.underlying160, rfl⟩, ⟨_, (by kernel_rfl : Tryd.prog.info? 160 = some Tryd.t160), rfl, rfl, rfl⟩, rfl, rfl, by decide⟩ (
  tbOk_cons ⟨⟨_, Tryd.underlying161, rfl⟩, ⟨_, (by kernel_rfl : Tryd.prog.info? 161 = some Tryd.t161), rfl, rfl, rfl⟩, rfl, rfl, by decide⟩ (
  tbOk_cons ⟨⟨_, Tryd.underlying162, rfl⟩, ⟨_, (by kernel_rfl : Tryd.prog.info? 162 = some Tryd.t162), rfl, rfl, rfl⟩, rfl, rfl, by decide⟩ (
  tbOk_cons ⟨⟨_, Tryd.underlying163, rfl⟩, ⟨_, (by kernel_rfl : Tryd.prog.info? 163 = some Tryd.t163), rfl, rfl, rfl⟩, rfl, rfl, by decide⟩ (
  tbOk_nil _)))))))))))))))))))))))))))))))))))))))))))))))))))))))))))))))))))))))))))))))))))))))))))))))))))))))))))))))))))))))))))))))))))))))))))))))))))
end Go.Proofs.YtniplmjbligmlaaDoor.V

/-! Layer 1 of the program, walked: numbers as bytes, texts with their length ahead. -/
namespace Go.Proofs.YtniplmjbligmlaaDoor.V
open Go.RowKit
set_option linter.unusedVariables false
set_option linter.unusedSimpArgs false
section
variable {M F0 F : Nat → Prop} {w0 w : World} {B : List Box} {R : List (World → Prop)} {K : Ending → World → Prop}
set_option maxRecDepth 100000
set_option maxHeartbeats 4000000
theorem sl_le_Put (H : St M F0 w0 F B R w) {n size : Int} {s : ByteArray} {e : Int} (h0 : 0 ≤ n) (h1 : n < 18446744073709551616) (hr : putS n size = (s, e)) (k : ∀ Fx w', St M F0 w0 Fx B R w' → K (.returned (.tuple #[.string s, .int .i64 e])) w') : Calls Tryd.prog 74 #[.int .u64 n, .int .i64 size] w K := by
  refine St.fn0 H (R0 := []) no_mem (fun H => ?_)
  refine sx_enter Tryd.func74 Tryd.ntmps74 rfl rfl (fun a A => ?_)
  obtain ⟨n, rfl⟩ := Int.eq_ofNat_of_zero_le h0
  have hcase : (size < 1 ∧ s = ⟨#[]⟩ ∧ e = 1) ∨ (size > 8 ∧ s = ⟨#[]⟩ ∧ e = 1) ∨ (1 ≤ size ∧ size < 8 ∧ n ≥ 256 ^ size.toNat ∧ s = ⟨#[]⟩ ∧ e = 1) ∨ (1 ≤ size ∧ size ≤ 8 ∧ n < 256 ^ size.toNat ∧ s = Go.Proofs.YtniplmjbligmlaaDoor.V.B (putL n size.toNat) ∧ e = 0) := by
    unfold putS at hr
    rw [Int.toNat_natCast] at hr
    split at hr
    · rename_i h
      obtain ⟨rfl, rfl⟩ := Prod.mk.inj hr
      rcases h with h | h | h
      · exact .inl ⟨h, rfl, rfl⟩
      · exact .inr (.inl ⟨h, rfl, rfl⟩)
      · by_cases hs : 1 ≤ size ∧ size < 8
        · exact .inr (.inr (.inl ⟨hs.1, hs.2, h, rfl, rfl⟩))
        · by_cases h8 : size = 8
          · exfalso
            rw [h8] at h
            have : (256 : Nat) ^ (8 : Int).toNat = 18446744073709551616 := by decide
            omega
          · rcases Int.lt_or_le size 1 with h | h
            · exact .inl ⟨h, rfl, rfl⟩
            · exact .inr (.inl ⟨by omega, rfl, rfl⟩)
    · rename_i h
      obtain ⟨rfl, rfl⟩ := Prod.mk.inj hr
      simp only [not_or] at h
      exact .inr (.inr (.inr ⟨by omega, by omega, by omega, rfl, rfl⟩))
  clear hr
  rcases hcase with ⟨c1, rfl, rfl⟩ | ⟨c1, rfl, rfl⟩ | ⟨c1, c2, c3, rfl, rfl⟩ | ⟨c1, c2, c3, rfl, rfl⟩
  · repeat' (first
    | (refine sx_ret tbOk H A rfl ?_; exact H.ret0 fun Fx Hx => k Fx _ Hx)
    | with_reducible refine wp_seq ?_
    | with_reducible refine sx_region ?_
    | with_reducible refine wp_block ?_
    | with_reducible refine wpList_nil ?_
    | with_reducible refine sx_then ?_
    | with_reducible refine sx_inb ?_
    | with_reducible refine wp_skip ?_
    | with_reducible refine wp_ret ?_
    | with_reducible refine wp_exit ?_
    | with_reducible refine sx_then_ret ?_
    | with_reducible refine sx_inb_ret ?_
    | with_reducible refine sx_then_exit ?_
    | with_reducible refine sx_inb_exit ?_
    | with_reducible refine sx_inb_other rfl ?_
    | with_reducible refine sx_if_t A rfl ?_
    | with_reducible refine sx_if_f A rfl ?_
    | ((with_reducible refine sx_at ?_); first
      | (refine sx_pure A tbOk rfl rfl rfl ?_; clear A; intro a A)
      | (refine sx_skip A rfl rfl ?_; clear A; intro a A)
      | ((with_reducible refine g_bin ?_); first | ((refine g_int A rfl ?_); first | (refine sx_cmp A rfl rfl rfl rfl ?_; clear A; intro a A) | (refine sx_arith A rfl rfl rfl rfl ?_; clear A; intro a A) | (refine sx_shl A rfl rfl rfl rfl ?_; clear A; intro a A) | (refine sx_shr A rfl rfl rfl rfl ?_; clear A; intro a A)) | ((refine g_str A rfl ?_); first | (refine sx_scmp A rfl rfl rfl rfl ?_; clear A; intro a A) | (refine sx_concat A rfl rfl rfl rfl ?_; clear A; intro a A)))
      | ((with_reducible refine g_load ?_); first | (refine sx_load_all H A tbOk rfl rfl rfl rfl rfl ?_; clear A; intro a A) | (refine sx_load H A tbOk rfl rfl rfl rfl ?_; clear A; intro a A))
      | ((with_reducible refine g_store ?_); refine sx_store H A tbOk rfl rfl rfl rfl ?_; clear H; intro w_ H)
      | ((with_reducible refine g_box ?_); refine sx_box H A rfl rfl rfl ?_; clear H A; intro b_ a w_ A H)
      | ((with_reducible refine g_alloc ?_); refine sx_alloc H A tbOk rfl rfl rfl ?_; clear H A; intro b_ a w_ A H)
      | ((with_reducible refine g_build ?_); refine sx_build A tbOk rfl rfl rfl rfl rfl rfl ?_; clear A; intro a A)
      | ((with_reducible refine g_builtin ?_); first | (refine sx_min A rfl rfl rfl rfl ?_; clear A; intro a A) | (refine sx_max A rfl rfl rfl rfl ?_; clear A; intro a A))
      | ((with_reducible refine g_slice ?_); first | (refine sx_sstr A tbOk rfl rfl rfl rfl rfl rfl ?_; clear A; intro a A) | (refine sx_cut H A tbOk rfl rfl rfl rfl rfl rfl rfl ?_; clear A H; intro A_ c_ a hc_ A H))
      | ((with_reducible refine g_index ?_); refine sx_sidx A tbOk rfl rfl rfl rfl rfl ?_; clear A; intro a A)
      | ((with_reducible refine g_idx ?_); first | (refine sx_idx H A tbOk rfl rfl rfl rfl rfl rfl ?_; clear A; intro a A) | (refine sx_oidx H A tbOk rfl rfl rfl rfl rfl rfl ?_; clear A; intro a A))
      | ((with_reducible refine g_conv ?_); refine sx_conv A tbOk rfl rfl rfl rfl rfl ?_; clear A; intro a A)
      )
    | ((with_reducible refine g_draw ?_); refine qx_region H (by kernel_rfl) (by kernel_rfl) ?_)
    | ((with_reducible refine qx_nil ?_); clear H; intro w_ F_ H)
    | ((with_reducible refine q_at ?_); first
      | (refine qx_pure A tbOk rfl rfl rfl ?_; clear A; intro a A)
      | (refine qx_skip A rfl rfl ?_; clear A; intro a A)
      | ((with_reducible refine qg_bin ?_); first | ((refine qg_int A rfl ?_); first | (refine qx_cmp A rfl rfl rfl rfl ?_; clear A; intro a A) | (refine qx_arith A rfl rfl rfl rfl ?_; clear A; intro a A)) | ((refine qg_str A rfl ?_); first | (refine qx_scmp A rfl rfl rfl rfl ?_; clear A; intro a A) | (refine qx_concat A rfl rfl rfl rfl ?_; clear A; intro a A)))
      | ((with_reducible refine qg_builtin ?_); first | (refine qx_min A rfl rfl rfl rfl ?_; clear A; intro a A) | (refine qx_max A rfl rfl rfl rfl ?_; clear A; intro a A))
      | ((with_reducible refine qg_slice ?_); refine qx_sstr A tbOk rfl rfl rfl rfl rfl rfl ?_; clear A; intro a A)
      | ((with_reducible refine qg_load ?_); refine qx_load A tbOk rfl rfl rfl rfl ?_; clear A; intro a A)
      | ((with_reducible refine qg_idx ?_); first | (refine qx_idx H A tbOk rfl rfl rfl rfl rfl rfl ?_; clear A; intro a A) | (refine qx_oidx H A tbOk rfl rfl rfl rfl rfl rfl ?_; clear A; intro a A)))
    )
  · repeat' (first
    | (refine sx_ret tbOk H A rfl ?_; exact H.ret0 fun Fx Hx => k Fx _ Hx)
    | with_reducible refine wp_seq ?_
    | with_reducible refine sx_region ?_
    | with_reducible refine wp_block ?_
    | with_reducible refine wpList_nil ?_
    | with_reducible refine sx_then ?_
    | with_reducible refine sx_inb ?_
    | with_reducible refine wp_skip ?_
    | with_reducible refine wp_ret ?_
    | with_reducible refine wp_exit ?_
    | with_reducible refine sx_then_ret ?_
    | with_reducible refine sx_inb_ret ?_
    | with_reducible refine sx_then_exit ?_
    | with_reducible refine sx_inb_exit ?_
    | with_reducible refine sx_inb_other rfl ?_
    | with_reducible refine sx_if_t A rfl ?_
    | with_reducible refine sx_if_f A rfl ?_
    | ((with_reducible refine sx_at ?_); first
      | (refine sx_pure A tbOk rfl rfl rfl ?_; clear A; intro a A)
      | (refine sx_skip A rfl rfl ?_; clear A; intro a A)
      | ((with_reducible refine g_bin ?_); first | ((refine g_int A rfl ?_); first | (refine sx_cmp A rfl rfl rfl rfl ?_; clear A; intro a A) | (refine sx_arith A rfl rfl rfl rfl ?_; clear A; intro a A) | (refine sx_shl A rfl rfl rfl rfl ?_; clear A; intro a A) | (refine sx_shr A rfl rfl rfl rfl ?_; clear A; intro a A)) | ((refine g_str A rfl ?_); first | (refine sx_scmp A rfl rfl rfl rfl ?_; clear A; intro a A) | (refine sx_concat A rfl rfl rfl rfl ?_; clear A; intro a A)))
      | ((with_reducible refine g_load ?_); first | (refine sx_load_all H A tbOk rfl rfl rfl rfl rfl ?_; clear A; intro a A) | (refine sx_load H A tbOk rfl rfl rfl rfl ?_; clear A; intro a A))
      | ((with_reducible refine g_store ?_); refine sx_store H A tbOk rfl rfl rfl rfl ?_; clear H; intro w_ H)
      | ((with_reducible refine g_box ?_); refine sx_box H A rfl rfl rfl ?_; clear H A; intro b_ a w_ A H)
      | ((with_reducible refine g_alloc ?_); refine sx_alloc H A tbOk rfl rfl rfl ?_; clear H A; intro b_ a w_ A H)
      | ((with_reducible refine g_build ?_); refine sx_build A tbOk rfl rfl rfl rfl rfl rfl ?_; clear A; intro a A)
      | ((with_reducible refine g_builtin ?_); first | (refine sx_min A rfl rfl rfl rfl ?_; clear A; intro a A) | (refine sx_max A rfl rfl rfl rfl ?_; clear A; intro a A))
      | ((with_reducible refine g_slice ?_); first | (refine sx_sstr A tbOk rfl rfl rfl rfl rfl rfl ?_; clear A; intro a A) | (refine sx_cut H A tbOk rfl rfl rfl rfl rfl rfl rfl ?_; clear A H; intro A_ c_ a hc_ A H))
      | ((with_reducible refine g_index ?_); refine sx_sidx A tbOk rfl rfl rfl rfl rfl ?_; clear A; intro a A)
      | ((with_reducible refine g_idx ?_); first | (refine sx_idx H A tbOk rfl rfl rfl rfl rfl rfl ?_; clear A; intro a A) | (refine sx_oidx H A tbOk rfl rfl rfl rfl rfl rfl ?_; clear A; intro a A))
      | ((with_reducible refine g_conv ?_); refine sx_conv A tbOk rfl rfl rfl rfl rfl ?_; clear A; intro a A)
      )
    | ((with_reducible refine g_draw ?_); refine qx_region H (by kernel_rfl) (by kernel_rfl) ?_)
    | ((with_reducible refine qx_nil ?_); clear H; intro w_ F_ H)
    | ((with_reducible refine q_at ?_); first
      | (refine qx_pure A tbOk rfl rfl rfl ?_; clear A; intro a A)
      | (refine qx_skip A rfl rfl ?_; clear A; intro a A)
      | ((with_reducible refine qg_bin ?_); first | ((refine qg_int A rfl ?_); first | (refine qx_cmp A rfl rfl rfl rfl ?_; clear A; intro a A) | (refine qx_arith A rfl rfl rfl rfl ?_; clear A; intro a A)) | ((refine qg_str A rfl ?_); first | (refine qx_scmp A rfl rfl rfl rfl ?_; clear A; intro a A) | (refine qx_concat A rfl rfl rfl rfl ?_; clear A; intro a A)))
      | ((with_reducible refine qg_builtin ?_); first | (refine qx_min A rfl rfl rfl rfl ?_; clear A; intro a A) | (refine qx_max A rfl rfl rfl rfl ?_; clear A; intro a A))
      | ((with_reducible refine qg_slice ?_); refine qx_sstr A tbOk rfl rfl rfl rfl rfl rfl ?_; clear A; intro a A)
      | ((with_reducible refine qg_load ?_); refine qx_load A tbOk rfl rfl rfl rfl ?_; clear A; intro a A)
      | ((with_reducible refine qg_idx ?_); first | (refine qx_idx H A tbOk rfl rfl rfl rfl rfl rfl ?_; clear A; intro a A) | (refine qx_oidx H A tbOk rfl rfl rfl rfl rfl rfl ?_; clear A; intro a A)))
    )
  · obtain ⟨m, rfl⟩ := Int.eq_ofNat_of_zero_le (show 0 ≤ size by omega)
    have hq := shr_div n m (by omega)
    have hne : ((n / 256 ^ m : Nat) : Int) ≠ 0 := by
      have : 0 < n / 256 ^ m := Nat.div_pos (by simpa using c3) (Nat.pow_pos (by decide))
      omega
    obtain ⟨q, hqq⟩ : ∃ q, ((n / 256 ^ m : Nat) : Int) = q := ⟨_, rfl⟩
    rw [hqq] at hq hne
    clear c3
    repeat' (first
    | (refine sx_ret tbOk H A rfl ?_; exact H.ret0 fun Fx Hx => k Fx _ Hx)
    | with_reducible refine wp_seq ?_
    | with_reducible refine sx_region ?_
    | with_reducible refine wp_block ?_
    | with_reducible refine wpList_nil ?_
    | with_reducible refine sx_then ?_
    | with_reducible refine sx_inb ?_
    | with_reducible refine wp_skip ?_
    | with_reducible refine wp_ret ?_
    | with_reducible refine wp_exit ?_
    | with_reducible refine sx_then_ret ?_
    | with_reducible refine sx_inb_ret ?_
    | with_reducible refine sx_then_exit ?_
    | with_reducible refine sx_inb_exit ?_
    | with_reducible refine sx_inb_other rfl ?_
    | with_reducible refine sx_if_t A rfl ?_
    | with_reducible refine sx_if_f A rfl ?_
    | ((with_reducible refine sx_at ?_); first
      | (refine sx_pure A tbOk rfl rfl rfl ?_; clear A; intro a A)
      | (refine sx_skip A rfl rfl ?_; clear A; intro a A)
      | ((with_reducible refine g_bin ?_); first | ((refine g_int A rfl ?_); first | (refine sx_cmp A rfl rfl rfl rfl ?_; clear A; intro a A) | (refine sx_arith A rfl rfl rfl rfl ?_; clear A; intro a A) | (refine sx_shl A rfl rfl rfl rfl ?_; clear A; intro a A) | (refine sx_shr A rfl rfl rfl rfl ?_; clear A; intro a A)) | ((refine g_str A rfl ?_); first | (refine sx_scmp A rfl rfl rfl rfl ?_; clear A; intro a A) | (refine sx_concat A rfl rfl rfl rfl ?_; clear A; intro a A)))
      | ((with_reducible refine g_load ?_); first | (refine sx_load_all H A tbOk rfl rfl rfl rfl rfl ?_; clear A; intro a A) | (refine sx_load H A tbOk rfl rfl rfl rfl ?_; clear A; intro a A))
      | ((with_reducible refine g_store ?_); refine sx_store H A tbOk rfl rfl rfl rfl ?_; clear H; intro w_ H)
      | ((with_reducible refine g_box ?_); refine sx_box H A rfl rfl rfl ?_; clear H A; intro b_ a w_ A H)
      | ((with_reducible refine g_alloc ?_); refine sx_alloc H A tbOk rfl rfl rfl ?_; clear H A; intro b_ a w_ A H)
      | ((with_reducible refine g_build ?_); refine sx_build A tbOk rfl rfl rfl rfl rfl rfl ?_; clear A; intro a A)
      | ((with_reducible refine g_builtin ?_); first | (refine sx_min A rfl rfl rfl rfl ?_; clear A; intro a A) | (refine sx_max A rfl rfl rfl rfl ?_; clear A; intro a A))
      | ((with_reducible refine g_slice ?_); first | (refine sx_sstr A tbOk rfl rfl rfl rfl rfl rfl ?_; clear A; intro a A) | (refine sx_cut H A tbOk rfl rfl rfl rfl rfl rfl rfl ?_; clear A H; intro A_ c_ a hc_ A H))
      | ((with_reducible refine g_index ?_); refine sx_sidx A tbOk rfl rfl rfl rfl rfl ?_; clear A; intro a A)
      | ((with_reducible refine g_idx ?_); first | (refine sx_idx H A tbOk rfl rfl rfl rfl rfl rfl ?_; clear A; intro a A) | (refine sx_oidx H A tbOk rfl rfl rfl rfl rfl rfl ?_; clear A; intro a A))
      | ((with_reducible refine g_conv ?_); refine sx_conv A tbOk rfl rfl rfl rfl rfl ?_; clear A; intro a A)
      )
    | ((with_reducible refine g_draw ?_); refine qx_region H (by kernel_rfl) (by kernel_rfl) ?_)
    | ((with_reducible refine qx_nil ?_); clear H; intro w_ F_ H)
    | ((with_reducible refine q_at ?_); first
      | (refine qx_pure A tbOk rfl rfl rfl ?_; clear A; intro a A)
      | (refine qx_skip A rfl rfl ?_; clear A; intro a A)
      | ((with_reducible refine qg_bin ?_); first | ((refine qg_int A rfl ?_); first | (refine qx_cmp A rfl rfl rfl rfl ?_; clear A; intro a A) | (refine qx_arith A rfl rfl rfl rfl ?_; clear A; intro a A)) | ((refine qg_str A rfl ?_); first | (refine qx_scmp A rfl rfl rfl rfl ?_; clear A; intro a A) | (refine qx_concat A rfl rfl rfl rfl ?_; clear A; intro a A)))
      | ((with_reducible refine qg_builtin ?_); first | (refine qx_min A rfl rfl rfl rfl ?_; clear A; intro a A) | (refine qx_max A rfl rfl rfl rfl ?_; clear A; intro a A))
      | ((with_reducible refine qg_slice ?_); refine qx_sstr A tbOk rfl rfl rfl rfl rfl rfl ?_; clear A; intro a A)
      | ((with_reducible refine qg_load ?_); refine qx_load A tbOk rfl rfl rfl rfl ?_; clear A; intro a A)
      | ((with_reducible refine qg_idx ?_); first | (refine qx_idx H A tbOk rfl rfl rfl rfl rfl rfl ?_; clear A; intro a A) | (refine qx_oidx H A tbOk rfl rfl rfl rfl rfl rfl ?_; clear A; intro a A)))
    )
  · obtain ⟨m, rfl⟩ := Int.eq_ofNat_of_zero_le (show 0 ≤ size by omega)
    rw [Int.toNat_natCast] at c3 k
    have hq := shr_div n m (by omega)
    rw [Nat.div_eq_of_lt c3] at hq
    clear c3
    by_cases h8 : m = 8
    all_goals
      repeat' (first
    | ((with_reducible refine g_make ?_); refine sx_make (dk := Kd.int .u8) H A tbOk rfl rfl rfl rfl rfl rfl 0 (fun _ => rfl) rfl ?_; clear H A; intro br a w_ A H)
    | with_reducible refine wp_seq ?_
    | with_reducible refine sx_region ?_
    | with_reducible refine wp_block ?_
    | with_reducible refine wpList_nil ?_
    | with_reducible refine sx_then ?_
    | with_reducible refine sx_inb ?_
    | with_reducible refine wp_skip ?_
    | with_reducible refine wp_ret ?_
    | with_reducible refine wp_exit ?_
    | with_reducible refine sx_then_ret ?_
    | with_reducible refine sx_inb_ret ?_
    | with_reducible refine sx_then_exit ?_
    | with_reducible refine sx_inb_exit ?_
    | with_reducible refine sx_inb_other rfl ?_
    | with_reducible refine sx_if_t A rfl ?_
    | with_reducible refine sx_if_f A rfl ?_
    | ((with_reducible refine sx_at ?_); first
      | (refine sx_pure A tbOk rfl rfl rfl ?_; clear A; intro a A)
      | (refine sx_skip A rfl rfl ?_; clear A; intro a A)
      | ((with_reducible refine g_bin ?_); first | ((refine g_int A rfl ?_); first | (refine sx_cmp A rfl rfl rfl rfl ?_; clear A; intro a A) | (refine sx_arith A rfl rfl rfl rfl ?_; clear A; intro a A) | (refine sx_shl A rfl rfl rfl rfl ?_; clear A; intro a A) | (refine sx_shr A rfl rfl rfl rfl ?_; clear A; intro a A)) | ((refine g_str A rfl ?_); first | (refine sx_scmp A rfl rfl rfl rfl ?_; clear A; intro a A) | (refine sx_concat A rfl rfl rfl rfl ?_; clear A; intro a A)))
      | ((with_reducible refine g_load ?_); first | (refine sx_load_all H A tbOk rfl rfl rfl rfl rfl ?_; clear A; intro a A) | (refine sx_load H A tbOk rfl rfl rfl rfl ?_; clear A; intro a A))
      | ((with_reducible refine g_store ?_); refine sx_store H A tbOk rfl rfl rfl rfl ?_; clear H; intro w_ H)
      | ((with_reducible refine g_box ?_); refine sx_box H A rfl rfl rfl ?_; clear H A; intro b_ a w_ A H)
      | ((with_reducible refine g_alloc ?_); refine sx_alloc H A tbOk rfl rfl rfl ?_; clear H A; intro b_ a w_ A H)
      | ((with_reducible refine g_build ?_); refine sx_build A tbOk rfl rfl rfl rfl rfl rfl ?_; clear A; intro a A)
      | ((with_reducible refine g_builtin ?_); first | (refine sx_min A rfl rfl rfl rfl ?_; clear A; intro a A) | (refine sx_max A rfl rfl rfl rfl ?_; clear A; intro a A))
      | ((with_reducible refine g_slice ?_); first | (refine sx_sstr A tbOk rfl rfl rfl rfl rfl rfl ?_; clear A; intro a A) | (refine sx_cut H A tbOk rfl rfl rfl rfl rfl rfl rfl ?_; clear A H; intro A_ c_ a hc_ A H))
      | ((with_reducible refine g_index ?_); refine sx_sidx A tbOk rfl rfl rfl rfl rfl ?_; clear A; intro a A)
      | ((with_reducible refine g_idx ?_); first | (refine sx_idx H A tbOk rfl rfl rfl rfl rfl rfl ?_; clear A; intro a A) | (refine sx_oidx H A tbOk rfl rfl rfl rfl rfl rfl ?_; clear A; intro a A))
      | ((with_reducible refine g_conv ?_); refine sx_conv A tbOk rfl rfl rfl rfl rfl ?_; clear A; intro a A)
      )
    | ((with_reducible refine g_draw ?_); refine qx_region H (by kernel_rfl) (by kernel_rfl) ?_)
    | ((with_reducible refine qx_nil ?_); clear H; intro w_ F_ H)
    | ((with_reducible refine q_at ?_); first
      | (refine qx_pure A tbOk rfl rfl rfl ?_; clear A; intro a A)
      | (refine qx_skip A rfl rfl ?_; clear A; intro a A)
      | ((with_reducible refine qg_bin ?_); first | ((refine qg_int A rfl ?_); first | (refine qx_cmp A rfl rfl rfl rfl ?_; clear A; intro a A) | (refine qx_arith A rfl rfl rfl rfl ?_; clear A; intro a A)) | ((refine qg_str A rfl ?_); first | (refine qx_scmp A rfl rfl rfl rfl ?_; clear A; intro a A) | (refine qx_concat A rfl rfl rfl rfl ?_; clear A; intro a A)))
      | ((with_reducible refine qg_builtin ?_); first | (refine qx_min A rfl rfl rfl rfl ?_; clear A; intro a A) | (refine qx_max A rfl rfl rfl rfl ?_; clear A; intro a A))
      | ((with_reducible refine qg_slice ?_); refine qx_sstr A tbOk rfl rfl rfl rfl rfl rfl ?_; clear A; intro a A)
      | ((with_reducible refine qg_load ?_); refine qx_load A tbOk rfl rfl rfl rfl ?_; clear A; intro a A)
      | ((with_reducible refine qg_idx ?_); first | (refine qx_idx H A tbOk rfl rfl rfl rfl rfl rfl ?_; clear A; intro a A) | (refine qx_oidx H A tbOk rfl rfl rfl rfl rfl rfl ?_; clear A; intro a A)))
    )
    all_goals
      obtain ⟨l, hl⟩ : ∃ l, bI (putL n m) = l := ⟨_, rfl⟩
      have hll : l.length = m := by rw [← hl, bI_len, putL_length]
      rw [List.length_replicate] at A
      rw [show List.replicate m (0 : Int) = fillR l 0 0 by rw [fillR_zero, hll]] at H
      refine sx_rounds (fun i : Nat => i ≤ m) (fun i => [(28, .int .i64 (i : Int)), (6, _), (27, _), (0, _)]) (fun i => [.row (Kd.int .u8) _ _ _ (fillR l 0 i)]) (fun _ => []) (fun i => m - i) 0 H A.subs (Nat.zero_le _) (fun i F a W hi H A => ?_)
      have hfl := fillR_len l 0 i (by omega)
      rcases Nat.lt_or_ge i m with hlt | hge
      · have hs := shr_div n i (by omega)
        obtain ⟨v, hv⟩ : ∃ v, ((n / 256 ^ i % 256 : Nat) : Int) = v := ⟨_, rfl⟩
        have hw : IntKind.u8.wrap ((n / 256 ^ i : Nat) : Int) = v := by rw [← hv]; simp [IntKind.wrap, IntKind.bits, IntKind.signed]
        have hli : l[i]? = some v := by
          rw [← hl, bI_at _ _ _ (putL_take n m i hlt), ← hv]; simp
        repeat' (first
    | ((with_reducible refine g_store ?_); refine sx_ostore (dk := Kd.int .u8) H A tbOk rfl rfl rfl rfl ?_ (mk_scalar _); clear H; intro w_ H)
    | with_reducible refine wp_seq ?_
    | with_reducible refine sx_region ?_
    | with_reducible refine wp_block ?_
    | with_reducible refine wpList_nil ?_
    | with_reducible refine sx_then ?_
    | with_reducible refine sx_inb ?_
    | with_reducible refine wp_skip ?_
    | with_reducible refine wp_ret ?_
    | with_reducible refine wp_exit ?_
    | with_reducible refine sx_then_ret ?_
    | with_reducible refine sx_inb_ret ?_
    | with_reducible refine sx_then_exit ?_
    | with_reducible refine sx_inb_exit ?_
    | with_reducible refine sx_inb_other rfl ?_
    | with_reducible refine sx_if_t A rfl ?_
    | with_reducible refine sx_if_f A rfl ?_
    | ((with_reducible refine sx_at ?_); first
      | (refine sx_pure A tbOk rfl rfl rfl ?_; clear A; intro a A)
      | (refine sx_skip A rfl rfl ?_; clear A; intro a A)
      | ((with_reducible refine g_bin ?_); first | ((refine g_int A rfl ?_); first | (refine sx_cmp A rfl rfl rfl rfl ?_; clear A; intro a A) | (refine sx_arith A rfl rfl rfl rfl ?_; clear A; intro a A) | (refine sx_shl A rfl rfl rfl rfl ?_; clear A; intro a A) | (refine sx_shr A rfl rfl rfl rfl ?_; clear A; intro a A)) | ((refine g_str A rfl ?_); first | (refine sx_scmp A rfl rfl rfl rfl ?_; clear A; intro a A) | (refine sx_concat A rfl rfl rfl rfl ?_; clear A; intro a A)))
      | ((with_reducible refine g_load ?_); first | (refine sx_load_all H A tbOk rfl rfl rfl rfl rfl ?_; clear A; intro a A) | (refine sx_load H A tbOk rfl rfl rfl rfl ?_; clear A; intro a A))
      | ((with_reducible refine g_store ?_); refine sx_store H A tbOk rfl rfl rfl rfl ?_; clear H; intro w_ H)
      | ((with_reducible refine g_box ?_); refine sx_box H A rfl rfl rfl ?_; clear H A; intro b_ a w_ A H)
      | ((with_reducible refine g_alloc ?_); refine sx_alloc H A tbOk rfl rfl rfl ?_; clear H A; intro b_ a w_ A H)
      | ((with_reducible refine g_build ?_); refine sx_build A tbOk rfl rfl rfl rfl rfl rfl ?_; clear A; intro a A)
      | ((with_reducible refine g_builtin ?_); first | (refine sx_min A rfl rfl rfl rfl ?_; clear A; intro a A) | (refine sx_max A rfl rfl rfl rfl ?_; clear A; intro a A))
      | ((with_reducible refine g_slice ?_); first | (refine sx_sstr A tbOk rfl rfl rfl rfl rfl rfl ?_; clear A; intro a A) | (refine sx_cut H A tbOk rfl rfl rfl rfl rfl rfl rfl ?_; clear A H; intro A_ c_ a hc_ A H))
      | ((with_reducible refine g_index ?_); refine sx_sidx A tbOk rfl rfl rfl rfl rfl ?_; clear A; intro a A)
      | ((with_reducible refine g_idx ?_); first | (refine sx_idx H A tbOk rfl rfl rfl rfl rfl rfl ?_; clear A; intro a A) | (refine sx_oidx H A tbOk rfl rfl rfl rfl rfl rfl ?_; clear A; intro a A))
      | ((with_reducible refine g_conv ?_); refine sx_conv A tbOk rfl rfl rfl rfl rfl ?_; clear A; intro a A)
      )
    | ((with_reducible refine g_draw ?_); refine qx_region H (by kernel_rfl) (by kernel_rfl) ?_)
    | ((with_reducible refine qx_nil ?_); clear H; intro w_ F_ H)
    | ((with_reducible refine q_at ?_); first
      | (refine qx_pure A tbOk rfl rfl rfl ?_; clear A; intro a A)
      | (refine qx_skip A rfl rfl ?_; clear A; intro a A)
      | ((with_reducible refine qg_bin ?_); first | ((refine qg_int A rfl ?_); first | (refine qx_cmp A rfl rfl rfl rfl ?_; clear A; intro a A) | (refine qx_arith A rfl rfl rfl rfl ?_; clear A; intro a A)) | ((refine qg_str A rfl ?_); first | (refine qx_scmp A rfl rfl rfl rfl ?_; clear A; intro a A) | (refine qx_concat A rfl rfl rfl rfl ?_; clear A; intro a A)))
      | ((with_reducible refine qg_builtin ?_); first | (refine qx_min A rfl rfl rfl rfl ?_; clear A; intro a A) | (refine qx_max A rfl rfl rfl rfl ?_; clear A; intro a A))
      | ((with_reducible refine qg_slice ?_); refine qx_sstr A tbOk rfl rfl rfl rfl rfl rfl ?_; clear A; intro a A)
      | ((with_reducible refine qg_load ?_); refine qx_load A tbOk rfl rfl rfl rfl ?_; clear A; intro a A)
      | ((with_reducible refine qg_idx ?_); first | (refine qx_idx H A tbOk rfl rfl rfl rfl rfl rfl ?_; clear A; intro a A) | (refine qx_oidx H A tbOk rfl rfl rfl rfl rfl rfl ?_; clear A; intro a A)))
    )
        exact ⟨i + 1, F, by omega, by omega, (by rw [← fillR_set l 0 i v hli]; exact H), A.subs⟩
      · have him : i = m := by omega
        rw [him, show fillR l 0 m = l by rw [← hll, fillR_all]] at H
        clear hfl
        repeat' (first
    | ((with_reducible refine g_conv ?_); refine sx_ob2s H A tbOk rfl rfl rfl rfl rfl rfl ?_; clear A; intro a A)
    | (refine sx_ret tbOk H A rfl ?_; exact H.ret0 fun Fx Hx => by (have := k Fx _ Hx; rw [← strB_bI, hl] at this; exact this))
    | with_reducible refine wp_seq ?_
    | with_reducible refine sx_region ?_
    | with_reducible refine wp_block ?_
    | with_reducible refine wpList_nil ?_
    | with_reducible refine sx_then ?_
    | with_reducible refine sx_inb ?_
    | with_reducible refine wp_skip ?_
    | with_reducible refine wp_ret ?_
    | with_reducible refine wp_exit ?_
    | with_reducible refine sx_then_ret ?_
    | with_reducible refine sx_inb_ret ?_
    | with_reducible refine sx_then_exit ?_
    | with_reducible refine sx_inb_exit ?_
    | with_reducible refine sx_inb_other rfl ?_
    | with_reducible refine sx_if_t A rfl ?_
    | with_reducible refine sx_if_f A rfl ?_
    | ((with_reducible refine sx_at ?_); first
      | (refine sx_pure A tbOk rfl rfl rfl ?_; clear A; intro a A)
      | (refine sx_skip A rfl rfl ?_; clear A; intro a A)
      | ((with_reducible refine g_bin ?_); first | ((refine g_int A rfl ?_); first | (refine sx_cmp A rfl rfl rfl rfl ?_; clear A; intro a A) | (refine sx_arith A rfl rfl rfl rfl ?_; clear A; intro a A) | (refine sx_shl A rfl rfl rfl rfl ?_; clear A; intro a A) | (refine sx_shr A rfl rfl rfl rfl ?_; clear A; intro a A)) | ((refine g_str A rfl ?_); first | (refine sx_scmp A rfl rfl rfl rfl ?_; clear A; intro a A) | (refine sx_concat A rfl rfl rfl rfl ?_; clear A; intro a A)))
      | ((with_reducible refine g_load ?_); first | (refine sx_load_all H A tbOk rfl rfl rfl rfl rfl ?_; clear A; intro a A) | (refine sx_load H A tbOk rfl rfl rfl rfl ?_; clear A; intro a A))
      | ((with_reducible refine g_store ?_); refine sx_store H A tbOk rfl rfl rfl rfl ?_; clear H; intro w_ H)
      | ((with_reducible refine g_box ?_); refine sx_box H A rfl rfl rfl ?_; clear H A; intro b_ a w_ A H)
      | ((with_reducible refine g_alloc ?_); refine sx_alloc H A tbOk rfl rfl rfl ?_; clear H A; intro b_ a w_ A H)
      | ((with_reducible refine g_build ?_); refine sx_build A tbOk rfl rfl rfl rfl rfl rfl ?_; clear A; intro a A)
      | ((with_reducible refine g_builtin ?_); first | (refine sx_min A rfl rfl rfl rfl ?_; clear A; intro a A) | (refine sx_max A rfl rfl rfl rfl ?_; clear A; intro a A))
      | ((with_reducible refine g_slice ?_); first | (refine sx_sstr A tbOk rfl rfl rfl rfl rfl rfl ?_; clear A; intro a A) | (refine sx_cut H A tbOk rfl rfl rfl rfl rfl rfl rfl ?_; clear A H; intro A_ c_ a hc_ A H))
      | ((with_reducible refine g_index ?_); refine sx_sidx A tbOk rfl rfl rfl rfl rfl ?_; clear A; intro a A)
      | ((with_reducible refine g_idx ?_); first | (refine sx_idx H A tbOk rfl rfl rfl rfl rfl rfl ?_; clear A; intro a A) | (refine sx_oidx H A tbOk rfl rfl rfl rfl rfl rfl ?_; clear A; intro a A))
      | ((with_reducible refine g_conv ?_); refine sx_conv A tbOk rfl rfl rfl rfl rfl ?_; clear A; intro a A)
      )
    | ((with_reducible refine g_draw ?_); refine qx_region H (by kernel_rfl) (by kernel_rfl) ?_)
    | ((with_reducible refine qx_nil ?_); clear H; intro w_ F_ H)
    | ((with_reducible refine q_at ?_); first
      | (refine qx_pure A tbOk rfl rfl rfl ?_; clear A; intro a A)
      | (refine qx_skip A rfl rfl ?_; clear A; intro a A)
      | ((with_reducible refine qg_bin ?_); first | ((refine qg_int A rfl ?_); first | (refine qx_cmp A rfl rfl rfl rfl ?_; clear A; intro a A) | (refine qx_arith A rfl rfl rfl rfl ?_; clear A; intro a A)) | ((refine qg_str A rfl ?_); first | (refine qx_scmp A rfl rfl rfl rfl ?_; clear A; intro a A) | (refine qx_concat A rfl rfl rfl rfl ?_; clear A; intro a A)))
      | ((with_reducible refine qg_builtin ?_); first | (refine qx_min A rfl rfl rfl rfl ?_; clear A; intro a A) | (refine qx_max A rfl rfl rfl rfl ?_; clear A; intro a A))
      | ((with_reducible refine qg_slice ?_); refine qx_sstr A tbOk rfl rfl rfl rfl rfl rfl ?_; clear A; intro a A)
      | ((with_reducible refine qg_load ?_); refine qx_load A tbOk rfl rfl rfl rfl ?_; clear A; intro a A)
      | ((with_reducible refine qg_idx ?_); first | (refine qx_idx H A tbOk rfl rfl rfl rfl rfl rfl ?_; clear A; intro a A) | (refine qx_oidx H A tbOk rfl rfl rfl rfl rfl rfl ?_; clear A; intro a A)))
    )
theorem sl_le_Get (H : St M F0 w0 F B R w) {s : ByteArray} {at_ size n a' e : Int} (h0 : -9223372036854775808 ≤ at_) (h1 : at_ < 9223372036854775808) (h2 : s.size ≤ 4611686018427387904) (hr : getS s at_ size = (n, a', e)) (k : ∀ Fx w', St M F0 w0 Fx B R w' → K (.returned (.tuple #[.int .u64 n, .int .i64 a', .int .i64 e])) w') : Calls Tryd.prog 80 #[.string s, .int .i64 at_, .int .i64 size] w K := by
  refine St.fn0 H (R0 := []) no_mem (fun H => ?_)
  refine sx_enter Tryd.func80 Tryd.ntmps80 rfl rfl (fun a A => ?_)
  have hcase : ((size < 1 ∨ size > 8 ∨ at_ < 0) ∧ n = 0 ∧ a' = 0 ∧ e = 1) ∨ (¬ (size < 1 ∨ size > 8 ∨ at_ < 0) ∧ (at_ > s.size ∨ (s.size : Int) - at_ < size) ∧ n = 0 ∧ a' = 0 ∧ e = 3) ∨ (¬ (size < 1 ∨ size > 8 ∨ at_ < 0) ∧ ¬ (at_ > s.size ∨ (s.size : Int) - at_ < size) ∧ n = ((getL (((L s).drop at_.toNat).take size.toNat) : Nat) : Int) ∧ a' = at_ + size ∧ e = 0) := by
    unfold getS at hr
    by_cases c1 : size < 1 ∨ size > 8 ∨ at_ < 0
    · rw [if_pos c1] at hr; injection hr with q1 q2; injection q2 with q2 q3; exact .inl ⟨c1, q1.symm, q2.symm, q3.symm⟩
    · rw [if_neg c1] at hr
      by_cases c2 : at_ > s.size ∨ (s.size : Int) - at_ < size
      · rw [if_pos c2] at hr; injection hr with q1 q2; injection q2 with q2 q3; exact .inr (.inl ⟨c1, c2, q1.symm, q2.symm, q3.symm⟩)
      · rw [if_neg c2] at hr; injection hr with q1 q2; injection q2 with q2 q3; exact .inr (.inr ⟨c1, c2, q1.symm, q2.symm, q3.symm⟩)
  clear hr
  rcases hcase with ⟨c1, rfl, rfl, rfl⟩ | ⟨c1, c2, rfl, rfl, rfl⟩ | ⟨c1, c2, rfl, rfl, rfl⟩
  · rcases c1 with c1 | c1 | c1
    · repeat' (first
    | (refine sx_ret tbOk H A rfl ?_; exact H.ret0 fun Fx Hx => k Fx _ Hx)
    | with_reducible refine wp_seq ?_
    | with_reducible refine sx_region ?_
    | with_reducible refine wp_block ?_
    | with_reducible refine wpList_nil ?_
    | with_reducible refine sx_then ?_
    | with_reducible refine sx_inb ?_
    | with_reducible refine wp_skip ?_
    | with_reducible refine wp_ret ?_
    | with_reducible refine wp_exit ?_
    | with_reducible refine sx_then_ret ?_
    | with_reducible refine sx_inb_ret ?_
    | with_reducible refine sx_then_exit ?_
    | with_reducible refine sx_inb_exit ?_
    | with_reducible refine sx_inb_other rfl ?_
    | with_reducible refine sx_if_t A rfl ?_
    | with_reducible refine sx_if_f A rfl ?_
    | ((with_reducible refine sx_at ?_); first
      | (refine sx_pure A tbOk rfl rfl rfl ?_; clear A; intro a A)
      | (refine sx_skip A rfl rfl ?_; clear A; intro a A)
      | ((with_reducible refine g_bin ?_); first | ((refine g_int A rfl ?_); first | (refine sx_cmp A rfl rfl rfl rfl ?_; clear A; intro a A) | (refine sx_arith A rfl rfl rfl rfl ?_; clear A; intro a A) | (refine sx_shl A rfl rfl rfl rfl ?_; clear A; intro a A) | (refine sx_shr A rfl rfl rfl rfl ?_; clear A; intro a A)) | ((refine g_str A rfl ?_); first | (refine sx_scmp A rfl rfl rfl rfl ?_; clear A; intro a A) | (refine sx_concat A rfl rfl rfl rfl ?_; clear A; intro a A)))
      | ((with_reducible refine g_load ?_); first | (refine sx_load_all H A tbOk rfl rfl rfl rfl rfl ?_; clear A; intro a A) | (refine sx_load H A tbOk rfl rfl rfl rfl ?_; clear A; intro a A))
      | ((with_reducible refine g_store ?_); refine sx_store H A tbOk rfl rfl rfl rfl ?_; clear H; intro w_ H)
      | ((with_reducible refine g_box ?_); refine sx_box H A rfl rfl rfl ?_; clear H A; intro b_ a w_ A H)
      | ((with_reducible refine g_alloc ?_); refine sx_alloc H A tbOk rfl rfl rfl ?_; clear H A; intro b_ a w_ A H)
      | ((with_reducible refine g_build ?_); refine sx_build A tbOk rfl rfl rfl rfl rfl rfl ?_; clear A; intro a A)
      | ((with_reducible refine g_builtin ?_); first | (refine sx_min A rfl rfl rfl rfl ?_; clear A; intro a A) | (refine sx_max A rfl rfl rfl rfl ?_; clear A; intro a A))
      | ((with_reducible refine g_slice ?_); first | (refine sx_sstr A tbOk rfl rfl rfl rfl rfl rfl ?_; clear A; intro a A) | (refine sx_cut H A tbOk rfl rfl rfl rfl rfl rfl rfl ?_; clear A H; intro A_ c_ a hc_ A H))
      | ((with_reducible refine g_index ?_); refine sx_sidx A tbOk rfl rfl rfl rfl rfl ?_; clear A; intro a A)
      | ((with_reducible refine g_idx ?_); first | (refine sx_idx H A tbOk rfl rfl rfl rfl rfl rfl ?_; clear A; intro a A) | (refine sx_oidx H A tbOk rfl rfl rfl rfl rfl rfl ?_; clear A; intro a A))
      | ((with_reducible refine g_conv ?_); refine sx_conv A tbOk rfl rfl rfl rfl rfl ?_; clear A; intro a A)
      )
    | ((with_reducible refine g_draw ?_); refine qx_region H (by kernel_rfl) (by kernel_rfl) ?_)
    | ((with_reducible refine qx_nil ?_); clear H; intro w_ F_ H)
    | ((with_reducible refine q_at ?_); first
      | (refine qx_pure A tbOk rfl rfl rfl ?_; clear A; intro a A)
      | (refine qx_skip A rfl rfl ?_; clear A; intro a A)
      | ((with_reducible refine qg_bin ?_); first | ((refine qg_int A rfl ?_); first | (refine qx_cmp A rfl rfl rfl rfl ?_; clear A; intro a A) | (refine qx_arith A rfl rfl rfl rfl ?_; clear A; intro a A)) | ((refine qg_str A rfl ?_); first | (refine qx_scmp A rfl rfl rfl rfl ?_; clear A; intro a A) | (refine qx_concat A rfl rfl rfl rfl ?_; clear A; intro a A)))
      | ((with_reducible refine qg_builtin ?_); first | (refine qx_min A rfl rfl rfl rfl ?_; clear A; intro a A) | (refine qx_max A rfl rfl rfl rfl ?_; clear A; intro a A))
      | ((with_reducible refine qg_slice ?_); refine qx_sstr A tbOk rfl rfl rfl rfl rfl rfl ?_; clear A; intro a A)
      | ((with_reducible refine qg_load ?_); refine qx_load A tbOk rfl rfl rfl rfl ?_; clear A; intro a A)
      | ((with_reducible refine qg_idx ?_); first | (refine qx_idx H A tbOk rfl rfl rfl rfl rfl rfl ?_; clear A; intro a A) | (refine qx_oidx H A tbOk rfl rfl rfl rfl rfl rfl ?_; clear A; intro a A)))
    )
    · repeat' (first
    | (refine sx_ret tbOk H A rfl ?_; exact H.ret0 fun Fx Hx => k Fx _ Hx)
    | with_reducible refine wp_seq ?_
    | with_reducible refine sx_region ?_
    | with_reducible refine wp_block ?_
    | with_reducible refine wpList_nil ?_
    | with_reducible refine sx_then ?_
    | with_reducible refine sx_inb ?_
    | with_reducible refine wp_skip ?_
    | with_reducible refine wp_ret ?_
    | with_reducible refine wp_exit ?_
    | with_reducible refine sx_then_ret ?_
    | with_reducible refine sx_inb_ret ?_
    | with_reducible refine sx_then_exit ?_
    | with_reducible refine sx_inb_exit ?_
    | with_reducible refine sx_inb_other rfl ?_
    | with_reducible refine sx_if_t A rfl ?_
    | with_reducible refine sx_if_f A rfl ?_
    | ((with_reducible refine sx_at ?_); first
      | (refine sx_pure A tbOk rfl rfl rfl ?_; clear A; intro a A)
      | (refine sx_skip A rfl rfl ?_; clear A; intro a A)
      | ((with_reducible refine g_bin ?_); first | ((refine g_int A rfl ?_); first | (refine sx_cmp A rfl rfl rfl rfl ?_; clear A; intro a A) | (refine sx_arith A rfl rfl rfl rfl ?_; clear A; intro a A) | (refine sx_shl A rfl rfl rfl rfl ?_; clear A; intro a A) | (refine sx_shr A rfl rfl rfl rfl ?_; clear A; intro a A)) | ((refine g_str A rfl ?_); first | (refine sx_scmp A rfl rfl rfl rfl ?_; clear A; intro a A) | (refine sx_concat A rfl rfl rfl rfl ?_; clear A; intro a A)))
      | ((with_reducible refine g_load ?_); first | (refine sx_load_all H A tbOk rfl rfl rfl rfl rfl ?_; clear A; intro a A) | (refine sx_load H A tbOk rfl rfl rfl rfl ?_; clear A; intro a A))
      | ((with_reducible refine g_store ?_); refine sx_store H A tbOk rfl rfl rfl rfl ?_; clear H; intro w_ H)
      | ((with_reducible refine g_box ?_); refine sx_box H A rfl rfl rfl ?_; clear H A; intro b_ a w_ A H)
      | ((with_reducible refine g_alloc ?_); refine sx_alloc H A tbOk rfl rfl rfl ?_; clear H A; intro b_ a w_ A H)
      | ((with_reducible refine g_build ?_); refine sx_build A tbOk rfl rfl rfl rfl rfl rfl ?_; clear A; intro a A)
      | ((with_reducible refine g_builtin ?_); first | (refine sx_min A rfl rfl rfl rfl ?_; clear A; intro a A) | (refine sx_max A rfl rfl rfl rfl ?_; clear A; intro a A))
      | ((with_reducible refine g_slice ?_); first | (refine sx_sstr A tbOk rfl rfl rfl rfl rfl rfl ?_; clear A; intro a A) | (refine sx_cut H A tbOk rfl rfl rfl rfl rfl rfl rfl ?_; clear A H; intro A_ c_ a hc_ A H))
      | ((with_reducible refine g_index ?_); refine sx_sidx A tbOk rfl rfl rfl rfl rfl ?_; clear A; intro a A)
      | ((with_reducible refine g_idx ?_); first | (refine sx_idx H A tbOk rfl rfl rfl rfl rfl rfl ?_; clear A; intro a A) | (refine sx_oidx H A tbOk rfl rfl rfl rfl rfl rfl ?_; clear A; intro a A))
      | ((with_reducible refine g_conv ?_); refine sx_conv A tbOk rfl rfl rfl rfl rfl ?_; clear A; intro a A)
      )
    | ((with_reducible refine g_draw ?_); refine qx_region H (by kernel_rfl) (by kernel_rfl) ?_)
    | ((with_reducible refine qx_nil ?_); clear H; intro w_ F_ H)
    | ((with_reducible refine q_at ?_); first
      | (refine qx_pure A tbOk rfl rfl rfl ?_; clear A; intro a A)
      | (refine qx_skip A rfl rfl ?_; clear A; intro a A)
      | ((with_reducible refine qg_bin ?_); first | ((refine qg_int A rfl ?_); first | (refine qx_cmp A rfl rfl rfl rfl ?_; clear A; intro a A) | (refine qx_arith A rfl rfl rfl rfl ?_; clear A; intro a A)) | ((refine qg_str A rfl ?_); first | (refine qx_scmp A rfl rfl rfl rfl ?_; clear A; intro a A) | (refine qx_concat A rfl rfl rfl rfl ?_; clear A; intro a A)))
      | ((with_reducible refine qg_builtin ?_); first | (refine qx_min A rfl rfl rfl rfl ?_; clear A; intro a A) | (refine qx_max A rfl rfl rfl rfl ?_; clear A; intro a A))
      | ((with_reducible refine qg_slice ?_); refine qx_sstr A tbOk rfl rfl rfl rfl rfl rfl ?_; clear A; intro a A)
      | ((with_reducible refine qg_load ?_); refine qx_load A tbOk rfl rfl rfl rfl ?_; clear A; intro a A)
      | ((with_reducible refine qg_idx ?_); first | (refine qx_idx H A tbOk rfl rfl rfl rfl rfl rfl ?_; clear A; intro a A) | (refine qx_oidx H A tbOk rfl rfl rfl rfl rfl rfl ?_; clear A; intro a A)))
    )
    · by_cases c2 : size < 1
      · repeat' (first
    | (refine sx_ret tbOk H A rfl ?_; exact H.ret0 fun Fx Hx => k Fx _ Hx)
    | with_reducible refine wp_seq ?_
    | with_reducible refine sx_region ?_
    | with_reducible refine wp_block ?_
    | with_reducible refine wpList_nil ?_
    | with_reducible refine sx_then ?_
    | with_reducible refine sx_inb ?_
    | with_reducible refine wp_skip ?_
    | with_reducible refine wp_ret ?_
    | with_reducible refine wp_exit ?_
    | with_reducible refine sx_then_ret ?_
    | with_reducible refine sx_inb_ret ?_
    | with_reducible refine sx_then_exit ?_
    | with_reducible refine sx_inb_exit ?_
    | with_reducible refine sx_inb_other rfl ?_
    | with_reducible refine sx_if_t A rfl ?_
    | with_reducible refine sx_if_f A rfl ?_
    | ((with_reducible refine sx_at ?_); first
      | (refine sx_pure A tbOk rfl rfl rfl ?_; clear A; intro a A)
      | (refine sx_skip A rfl rfl ?_; clear A; intro a A)
      | ((with_reducible refine g_bin ?_); first | ((refine g_int A rfl ?_); first | (refine sx_cmp A rfl rfl rfl rfl ?_; clear A; intro a A) | (refine sx_arith A rfl rfl rfl rfl ?_; clear A; intro a A) | (refine sx_shl A rfl rfl rfl rfl ?_; clear A; intro a A) | (refine sx_shr A rfl rfl rfl rfl ?_; clear A; intro a A)) | ((refine g_str A rfl ?_); first | (refine sx_scmp A rfl rfl rfl rfl ?_; clear A; intro a A) | (refine sx_concat A rfl rfl rfl rfl ?_; clear A; intro a A)))
      | ((with_reducible refine g_load ?_); first | (refine sx_load_all H A tbOk rfl rfl rfl rfl rfl ?_; clear A; intro a A) | (refine sx_load H A tbOk rfl rfl rfl rfl ?_; clear A; intro a A))
      | ((with_reducible refine g_store ?_); refine sx_store H A tbOk rfl rfl rfl rfl ?_; clear H; intro w_ H)
      | ((with_reducible refine g_box ?_); refine sx_box H A rfl rfl rfl ?_; clear H A; intro b_ a w_ A H)
      | ((with_reducible refine g_alloc ?_); refine sx_alloc H A tbOk rfl rfl rfl ?_; clear H A; intro b_ a w_ A H)
      | ((with_reducible refine g_build ?_); refine sx_build A tbOk rfl rfl rfl rfl rfl rfl ?_; clear A; intro a A)
      | ((with_reducible refine g_builtin ?_); first | (refine sx_min A rfl rfl rfl rfl ?_; clear A; intro a A) | (refine sx_max A rfl rfl rfl rfl ?_; clear A; intro a A))
      | ((with_reducible refine g_slice ?_); first | (refine sx_sstr A tbOk rfl rfl rfl rfl rfl rfl ?_; clear A; intro a A) | (refine sx_cut H A tbOk rfl rfl rfl rfl rfl rfl rfl ?_; clear A H; intro A_ c_ a hc_ A H))
      | ((with_reducible refine g_index ?_); refine sx_sidx A tbOk rfl rfl rfl rfl rfl ?_; clear A; intro a A)
      | ((with_reducible refine g_idx ?_); first | (refine sx_idx H A tbOk rfl rfl rfl rfl rfl rfl ?_; clear A; intro a A) | (refine sx_oidx H A tbOk rfl rfl rfl rfl rfl rfl ?_; clear A; intro a A))
      | ((with_reducible refine g_conv ?_); refine sx_conv A tbOk rfl rfl rfl rfl rfl ?_; clear A; intro a A)
      )
    | ((with_reducible refine g_draw ?_); refine qx_region H (by kernel_rfl) (by kernel_rfl) ?_)
    | ((with_reducible refine qx_nil ?_); clear H; intro w_ F_ H)
    | ((with_reducible refine q_at ?_); first
      | (refine qx_pure A tbOk rfl rfl rfl ?_; clear A; intro a A)
      | (refine qx_skip A rfl rfl ?_; clear A; intro a A)
      | ((with_reducible refine qg_bin ?_); first | ((refine qg_int A rfl ?_); first | (refine qx_cmp A rfl rfl rfl rfl ?_; clear A; intro a A) | (refine qx_arith A rfl rfl rfl rfl ?_; clear A; intro a A)) | ((refine qg_str A rfl ?_); first | (refine qx_scmp A rfl rfl rfl rfl ?_; clear A; intro a A) | (refine qx_concat A rfl rfl rfl rfl ?_; clear A; intro a A)))
      | ((with_reducible refine qg_builtin ?_); first | (refine qx_min A rfl rfl rfl rfl ?_; clear A; intro a A) | (refine qx_max A rfl rfl rfl rfl ?_; clear A; intro a A))
      | ((with_reducible refine qg_slice ?_); refine qx_sstr A tbOk rfl rfl rfl rfl rfl rfl ?_; clear A; intro a A)
      | ((with_reducible refine qg_load ?_); refine qx_load A tbOk rfl rfl rfl rfl ?_; clear A; intro a A)
      | ((with_reducible refine qg_idx ?_); first | (refine qx_idx H A tbOk rfl rfl rfl rfl rfl rfl ?_; clear A; intro a A) | (refine qx_oidx H A tbOk rfl rfl rfl rfl rfl rfl ?_; clear A; intro a A)))
    )
      by_cases c3 : size > 8
      all_goals repeat' (first
    | (refine sx_ret tbOk H A rfl ?_; exact H.ret0 fun Fx Hx => k Fx _ Hx)
    | with_reducible refine wp_seq ?_
    | with_reducible refine sx_region ?_
    | with_reducible refine wp_block ?_
    | with_reducible refine wpList_nil ?_
    | with_reducible refine sx_then ?_
    | with_reducible refine sx_inb ?_
    | with_reducible refine wp_skip ?_
    | with_reducible refine wp_ret ?_
    | with_reducible refine wp_exit ?_
    | with_reducible refine sx_then_ret ?_
    | with_reducible refine sx_inb_ret ?_
    | with_reducible refine sx_then_exit ?_
    | with_reducible refine sx_inb_exit ?_
    | with_reducible refine sx_inb_other rfl ?_
    | with_reducible refine sx_if_t A rfl ?_
    | with_reducible refine sx_if_f A rfl ?_
    | ((with_reducible refine sx_at ?_); first
      | (refine sx_pure A tbOk rfl rfl rfl ?_; clear A; intro a A)
      | (refine sx_skip A rfl rfl ?_; clear A; intro a A)
      | ((with_reducible refine g_bin ?_); first | ((refine g_int A rfl ?_); first | (refine sx_cmp A rfl rfl rfl rfl ?_; clear A; intro a A) | (refine sx_arith A rfl rfl rfl rfl ?_; clear A; intro a A) | (refine sx_shl A rfl rfl rfl rfl ?_; clear A; intro a A) | (refine sx_shr A rfl rfl rfl rfl ?_; clear A; intro a A)) | ((refine g_str A rfl ?_); first | (refine sx_scmp A rfl rfl rfl rfl ?_; clear A; intro a A) | (refine sx_concat A rfl rfl rfl rfl ?_; clear A; intro a A)))
      | ((with_reducible refine g_load ?_); first | (refine sx_load_all H A tbOk rfl rfl rfl rfl rfl ?_; clear A; intro a A) | (refine sx_load H A tbOk rfl rfl rfl rfl ?_; clear A; intro a A))
      | ((with_reducible refine g_store ?_); refine sx_store H A tbOk rfl rfl rfl rfl ?_; clear H; intro w_ H)
      | ((with_reducible refine g_box ?_); refine sx_box H A rfl rfl rfl ?_; clear H A; intro b_ a w_ A H)
      | ((with_reducible refine g_alloc ?_); refine sx_alloc H A tbOk rfl rfl rfl ?_; clear H A; intro b_ a w_ A H)
      | ((with_reducible refine g_build ?_); refine sx_build A tbOk rfl rfl rfl rfl rfl rfl ?_; clear A; intro a A)
      | ((with_reducible refine g_builtin ?_); first | (refine sx_min A rfl rfl rfl rfl ?_; clear A; intro a A) | (refine sx_max A rfl rfl rfl rfl ?_; clear A; intro a A))
      | ((with_reducible refine g_slice ?_); first | (refine sx_sstr A tbOk rfl rfl rfl rfl rfl rfl ?_; clear A; intro a A) | (refine sx_cut H A tbOk rfl rfl rfl rfl rfl rfl rfl ?_; clear A H; intro A_ c_ a hc_ A H))
      | ((with_reducible refine g_index ?_); refine sx_sidx A tbOk rfl rfl rfl rfl rfl ?_; clear A; intro a A)
      | ((with_reducible refine g_idx ?_); first | (refine sx_idx H A tbOk rfl rfl rfl rfl rfl rfl ?_; clear A; intro a A) | (refine sx_oidx H A tbOk rfl rfl rfl rfl rfl rfl ?_; clear A; intro a A))
      | ((with_reducible refine g_conv ?_); refine sx_conv A tbOk rfl rfl rfl rfl rfl ?_; clear A; intro a A)
      )
    | ((with_reducible refine g_draw ?_); refine qx_region H (by kernel_rfl) (by kernel_rfl) ?_)
    | ((with_reducible refine qx_nil ?_); clear H; intro w_ F_ H)
    | ((with_reducible refine q_at ?_); first
      | (refine qx_pure A tbOk rfl rfl rfl ?_; clear A; intro a A)
      | (refine qx_skip A rfl rfl ?_; clear A; intro a A)
      | ((with_reducible refine qg_bin ?_); first | ((refine qg_int A rfl ?_); first | (refine qx_cmp A rfl rfl rfl rfl ?_; clear A; intro a A) | (refine qx_arith A rfl rfl rfl rfl ?_; clear A; intro a A)) | ((refine qg_str A rfl ?_); first | (refine qx_scmp A rfl rfl rfl rfl ?_; clear A; intro a A) | (refine qx_concat A rfl rfl rfl rfl ?_; clear A; intro a A)))
      | ((with_reducible refine qg_builtin ?_); first | (refine qx_min A rfl rfl rfl rfl ?_; clear A; intro a A) | (refine qx_max A rfl rfl rfl rfl ?_; clear A; intro a A))
      | ((with_reducible refine qg_slice ?_); refine qx_sstr A tbOk rfl rfl rfl rfl rfl rfl ?_; clear A; intro a A)
      | ((with_reducible refine qg_load ?_); refine qx_load A tbOk rfl rfl rfl rfl ?_; clear A; intro a A)
      | ((with_reducible refine qg_idx ?_); first | (refine qx_idx H A tbOk rfl rfl rfl rfl rfl rfl ?_; clear A; intro a A) | (refine qx_oidx H A tbOk rfl rfl rfl rfl rfl rfl ?_; clear A; intro a A)))
    )
  · by_cases c3 : at_ > s.size
    all_goals repeat' (first
    | (refine sx_ret tbOk H A rfl ?_; exact H.ret0 fun Fx Hx => k Fx _ Hx)
    | with_reducible refine wp_seq ?_
    | with_reducible refine sx_region ?_
    | with_reducible refine wp_block ?_
    | with_reducible refine wpList_nil ?_
    | with_reducible refine sx_then ?_
    | with_reducible refine sx_inb ?_
    | with_reducible refine wp_skip ?_
    | with_reducible refine wp_ret ?_
    | with_reducible refine wp_exit ?_
    | with_reducible refine sx_then_ret ?_
    | with_reducible refine sx_inb_ret ?_
    | with_reducible refine sx_then_exit ?_
    | with_reducible refine sx_inb_exit ?_
    | with_reducible refine sx_inb_other rfl ?_
    | with_reducible refine sx_if_t A rfl ?_
    | with_reducible refine sx_if_f A rfl ?_
    | ((with_reducible refine sx_at ?_); first
      | (refine sx_pure A tbOk rfl rfl rfl ?_; clear A; intro a A)
      | (refine sx_skip A rfl rfl ?_; clear A; intro a A)
      | ((with_reducible refine g_bin ?_); first | ((refine g_int A rfl ?_); first | (refine sx_cmp A rfl rfl rfl rfl ?_; clear A; intro a A) | (refine sx_arith A rfl rfl rfl rfl ?_; clear A; intro a A) | (refine sx_shl A rfl rfl rfl rfl ?_; clear A; intro a A) | (refine sx_shr A rfl rfl rfl rfl ?_; clear A; intro a A)) | ((refine g_str A rfl ?_); first | (refine sx_scmp A rfl rfl rfl rfl ?_; clear A; intro a A) | (refine sx_concat A rfl rfl rfl rfl ?_; clear A; intro a A)))
      | ((with_reducible refine g_load ?_); first | (refine sx_load_all H A tbOk rfl rfl rfl rfl rfl ?_; clear A; intro a A) | (refine sx_load H A tbOk rfl rfl rfl rfl ?_; clear A; intro a A))
      | ((with_reducible refine g_store ?_); refine sx_store H A tbOk rfl rfl rfl rfl ?_; clear H; intro w_ H)
      | ((with_reducible refine g_box ?_); refine sx_box H A rfl rfl rfl ?_; clear H A; intro b_ a w_ A H)
      | ((with_reducible refine g_alloc ?_); refine sx_alloc H A tbOk rfl rfl rfl ?_; clear H A; intro b_ a w_ A H)
      | ((with_reducible refine g_build ?_); refine sx_build A tbOk rfl rfl rfl rfl rfl rfl ?_; clear A; intro a A)
      | ((with_reducible refine g_builtin ?_); first | (refine sx_min A rfl rfl rfl rfl ?_; clear A; intro a A) | (refine sx_max A rfl rfl rfl rfl ?_; clear A; intro a A))
      | ((with_reducible refine g_slice ?_); first | (refine sx_sstr A tbOk rfl rfl rfl rfl rfl rfl ?_; clear A; intro a A) | (refine sx_cut H A tbOk rfl rfl rfl rfl rfl rfl rfl ?_; clear A H; intro A_ c_ a hc_ A H))
      | ((with_reducible refine g_index ?_); refine sx_sidx A tbOk rfl rfl rfl rfl rfl ?_; clear A; intro a A)
      | ((with_reducible refine g_idx ?_); first | (refine sx_idx H A tbOk rfl rfl rfl rfl rfl rfl ?_; clear A; intro a A) | (refine sx_oidx H A tbOk rfl rfl rfl rfl rfl rfl ?_; clear A; intro a A))
      | ((with_reducible refine g_conv ?_); refine sx_conv A tbOk rfl rfl rfl rfl rfl ?_; clear A; intro a A)
      )
    | ((with_reducible refine g_draw ?_); refine qx_region H (by kernel_rfl) (by kernel_rfl) ?_)
    | ((with_reducible refine qx_nil ?_); clear H; intro w_ F_ H)
    | ((with_reducible refine q_at ?_); first
      | (refine qx_pure A tbOk rfl rfl rfl ?_; clear A; intro a A)
      | (refine qx_skip A rfl rfl ?_; clear A; intro a A)
      | ((with_reducible refine qg_bin ?_); first | ((refine qg_int A rfl ?_); first | (refine qx_cmp A rfl rfl rfl rfl ?_; clear A; intro a A) | (refine qx_arith A rfl rfl rfl rfl ?_; clear A; intro a A)) | ((refine qg_str A rfl ?_); first | (refine qx_scmp A rfl rfl rfl rfl ?_; clear A; intro a A) | (refine qx_concat A rfl rfl rfl rfl ?_; clear A; intro a A)))
      | ((with_reducible refine qg_builtin ?_); first | (refine qx_min A rfl rfl rfl rfl ?_; clear A; intro a A) | (refine qx_max A rfl rfl rfl rfl ?_; clear A; intro a A))
      | ((with_reducible refine qg_slice ?_); refine qx_sstr A tbOk rfl rfl rfl rfl rfl rfl ?_; clear A; intro a A)
      | ((with_reducible refine qg_load ?_); refine qx_load A tbOk rfl rfl rfl rfl ?_; clear A; intro a A)
      | ((with_reducible refine qg_idx ?_); first | (refine qx_idx H A tbOk rfl rfl rfl rfl rfl rfl ?_; clear A; intro a A) | (refine qx_oidx H A tbOk rfl rfl rfl rfl rfl rfl ?_; clear A; intro a A)))
    )
  · obtain ⟨p, rfl⟩ := Int.eq_ofNat_of_zero_le (show 0 ≤ at_ by omega)
    obtain ⟨m, rfl⟩ := Int.eq_ofNat_of_zero_le (show 0 ≤ size by omega)
    simp only [Int.toNat_natCast] at k
    have c3 : m ≤ 8 := by omega
    have c4 : p + m ≤ s.size := by omega
    obtain ⟨l, hl⟩ : ∃ l, ((L s).drop p).take m = l := ⟨_, rfl⟩
    have hll : l.length = m := by rw [← hl, List.length_take, List.length_drop, ← size_L]; omega
    rw [hl] at k
    repeat' (first
    | with_reducible refine wp_seq ?_
    | with_reducible refine sx_region ?_
    | with_reducible refine wp_block ?_
    | with_reducible refine wpList_nil ?_
    | with_reducible refine sx_then ?_
    | with_reducible refine sx_inb ?_
    | with_reducible refine wp_skip ?_
    | with_reducible refine wp_ret ?_
    | with_reducible refine wp_exit ?_
    | with_reducible refine sx_then_ret ?_
    | with_reducible refine sx_inb_ret ?_
    | with_reducible refine sx_then_exit ?_
    | with_reducible refine sx_inb_exit ?_
    | with_reducible refine sx_inb_other rfl ?_
    | with_reducible refine sx_if_t A rfl ?_
    | with_reducible refine sx_if_f A rfl ?_
    | ((with_reducible refine sx_at ?_); first
      | (refine sx_pure A tbOk rfl rfl rfl ?_; clear A; intro a A)
      | (refine sx_skip A rfl rfl ?_; clear A; intro a A)
      | ((with_reducible refine g_bin ?_); first | ((refine g_int A rfl ?_); first | (refine sx_cmp A rfl rfl rfl rfl ?_; clear A; intro a A) | (refine sx_arith A rfl rfl rfl rfl ?_; clear A; intro a A) | (refine sx_shl A rfl rfl rfl rfl ?_; clear A; intro a A) | (refine sx_shr A rfl rfl rfl rfl ?_; clear A; intro a A)) | ((refine g_str A rfl ?_); first | (refine sx_scmp A rfl rfl rfl rfl ?_; clear A; intro a A) | (refine sx_concat A rfl rfl rfl rfl ?_; clear A; intro a A)))
      | ((with_reducible refine g_load ?_); first | (refine sx_load_all H A tbOk rfl rfl rfl rfl rfl ?_; clear A; intro a A) | (refine sx_load H A tbOk rfl rfl rfl rfl ?_; clear A; intro a A))
      | ((with_reducible refine g_store ?_); refine sx_store H A tbOk rfl rfl rfl rfl ?_; clear H; intro w_ H)
      | ((with_reducible refine g_box ?_); refine sx_box H A rfl rfl rfl ?_; clear H A; intro b_ a w_ A H)
      | ((with_reducible refine g_alloc ?_); refine sx_alloc H A tbOk rfl rfl rfl ?_; clear H A; intro b_ a w_ A H)
      | ((with_reducible refine g_build ?_); refine sx_build A tbOk rfl rfl rfl rfl rfl rfl ?_; clear A; intro a A)
      | ((with_reducible refine g_builtin ?_); first | (refine sx_min A rfl rfl rfl rfl ?_; clear A; intro a A) | (refine sx_max A rfl rfl rfl rfl ?_; clear A; intro a A))
      | ((with_reducible refine g_slice ?_); first | (refine sx_sstr A tbOk rfl rfl rfl rfl rfl rfl ?_; clear A; intro a A) | (refine sx_cut H A tbOk rfl rfl rfl rfl rfl rfl rfl ?_; clear A H; intro A_ c_ a hc_ A H))
      | ((with_reducible refine g_index ?_); refine sx_sidx A tbOk rfl rfl rfl rfl rfl ?_; clear A; intro a A)
      | ((with_reducible refine g_idx ?_); first | (refine sx_idx H A tbOk rfl rfl rfl rfl rfl rfl ?_; clear A; intro a A) | (refine sx_oidx H A tbOk rfl rfl rfl rfl rfl rfl ?_; clear A; intro a A))
      | ((with_reducible refine g_conv ?_); refine sx_conv A tbOk rfl rfl rfl rfl rfl ?_; clear A; intro a A)
      )
    | ((with_reducible refine g_draw ?_); refine qx_region H (by kernel_rfl) (by kernel_rfl) ?_)
    | ((with_reducible refine qx_nil ?_); clear H; intro w_ F_ H)
    | ((with_reducible refine q_at ?_); first
      | (refine qx_pure A tbOk rfl rfl rfl ?_; clear A; intro a A)
      | (refine qx_skip A rfl rfl ?_; clear A; intro a A)
      | ((with_reducible refine qg_bin ?_); first | ((refine qg_int A rfl ?_); first | (refine qx_cmp A rfl rfl rfl rfl ?_; clear A; intro a A) | (refine qx_arith A rfl rfl rfl rfl ?_; clear A; intro a A)) | ((refine qg_str A rfl ?_); first | (refine qx_scmp A rfl rfl rfl rfl ?_; clear A; intro a A) | (refine qx_concat A rfl rfl rfl rfl ?_; clear A; intro a A)))
      | ((with_reducible refine qg_builtin ?_); first | (refine qx_min A rfl rfl rfl rfl ?_; clear A; intro a A) | (refine qx_max A rfl rfl rfl rfl ?_; clear A; intro a A))
      | ((with_reducible refine qg_slice ?_); refine qx_sstr A tbOk rfl rfl rfl rfl rfl rfl ?_; clear A; intro a A)
      | ((with_reducible refine qg_load ?_); refine qx_load A tbOk rfl rfl rfl rfl ?_; clear A; intro a A)
      | ((with_reducible refine qg_idx ?_); first | (refine qx_idx H A tbOk rfl rfl rfl rfl rfl rfl ?_; clear A; intro a A) | (refine qx_oidx H A tbOk rfl rfl rfl rfl rfl rfl ?_; clear A; intro a A)))
    )
    refine sx_rounds (fun i : Nat => i ≤ m) (fun i => [(36, .int .i64 (i : Int)), (9, .int .u64 ((getL (l.take i) : Nat) : Int)), (35, _), (0, _), (1, _), (2, _)]) (fun i => []) (fun _ => []) (fun i => m - i) 0 H A.subs (Nat.zero_le _) (fun i F a W hi H A => ?_)
    rcases Nat.lt_or_ge i m with hlt | hge
    · have hpi : p + i < s.size := by omega
      obtain ⟨b, hb⟩ : ∃ b, l[i]? = some b := ⟨_, List.getElem?_eq_getElem (by omega)⟩
      have hbt : bt s ((p : Int) + (i : Int)).toNat = ((b.toNat : Nat) : Int) := by
        rw [bt_L s _ (by omega)]
        have : (L s)[p + i]? = some b := by
          rw [← hl, List.getElem?_take, if_pos hlt, List.getElem?_drop] at hb; exact hb
        obtain ⟨h3, h4⟩ := List.getElem?_eq_some_iff.1 this
        have e1 : ((p : Int) + (i : Int)).toNat = p + i := by omega
        simp only [e1, h4]
      have hcv : IntKind.u64.wrap (bt s ((p : Int) + (i : Int)).toNat) = ((b.toNat : Nat) : Int) := by rw [hbt]; have := b.toNat_lt; exact wrap_u64 (by omega) (by omega)
      have hor := or_byte (getL (l.take i)) b.toNat i (by omega) (by have := getL_lt (l.take i); rw [List.length_take, show min i l.length = i by omega] at this; exact this) (b.toNat_lt)
      have hnx : getL (l.take i) + 256 ^ i * b.toNat = getL (l.take (i + 1)) := by
        obtain ⟨h3, rfl⟩ := List.getElem?_eq_some_iff.1 hb
        rw [getL_take_succ l i h3]
      rw [hnx] at hor
      repeat' (first
    | with_reducible refine wp_seq ?_
    | with_reducible refine sx_region ?_
    | with_reducible refine wp_block ?_
    | with_reducible refine wpList_nil ?_
    | with_reducible refine sx_then ?_
    | with_reducible refine sx_inb ?_
    | with_reducible refine wp_skip ?_
    | with_reducible refine wp_ret ?_
    | with_reducible refine wp_exit ?_
    | with_reducible refine sx_then_ret ?_
    | with_reducible refine sx_inb_ret ?_
    | with_reducible refine sx_then_exit ?_
    | with_reducible refine sx_inb_exit ?_
    | with_reducible refine sx_inb_other rfl ?_
    | with_reducible refine sx_if_t A rfl ?_
    | with_reducible refine sx_if_f A rfl ?_
    | ((with_reducible refine sx_at ?_); first
      | (refine sx_pure A tbOk rfl rfl rfl ?_; clear A; intro a A)
      | (refine sx_skip A rfl rfl ?_; clear A; intro a A)
      | ((with_reducible refine g_bin ?_); first | ((refine g_int A rfl ?_); first | (refine sx_cmp A rfl rfl rfl rfl ?_; clear A; intro a A) | (refine sx_arith A rfl rfl rfl rfl ?_; clear A; intro a A) | (refine sx_shl A rfl rfl rfl rfl ?_; clear A; intro a A) | (refine sx_shr A rfl rfl rfl rfl ?_; clear A; intro a A)) | ((refine g_str A rfl ?_); first | (refine sx_scmp A rfl rfl rfl rfl ?_; clear A; intro a A) | (refine sx_concat A rfl rfl rfl rfl ?_; clear A; intro a A)))
      | ((with_reducible refine g_load ?_); first | (refine sx_load_all H A tbOk rfl rfl rfl rfl rfl ?_; clear A; intro a A) | (refine sx_load H A tbOk rfl rfl rfl rfl ?_; clear A; intro a A))
      | ((with_reducible refine g_store ?_); refine sx_store H A tbOk rfl rfl rfl rfl ?_; clear H; intro w_ H)
      | ((with_reducible refine g_box ?_); refine sx_box H A rfl rfl rfl ?_; clear H A; intro b_ a w_ A H)
      | ((with_reducible refine g_alloc ?_); refine sx_alloc H A tbOk rfl rfl rfl ?_; clear H A; intro b_ a w_ A H)
      | ((with_reducible refine g_build ?_); refine sx_build A tbOk rfl rfl rfl rfl rfl rfl ?_; clear A; intro a A)
      | ((with_reducible refine g_builtin ?_); first | (refine sx_min A rfl rfl rfl rfl ?_; clear A; intro a A) | (refine sx_max A rfl rfl rfl rfl ?_; clear A; intro a A))
      | ((with_reducible refine g_slice ?_); first | (refine sx_sstr A tbOk rfl rfl rfl rfl rfl rfl ?_; clear A; intro a A) | (refine sx_cut H A tbOk rfl rfl rfl rfl rfl rfl rfl ?_; clear A H; intro A_ c_ a hc_ A H))
      | ((with_reducible refine g_index ?_); refine sx_sidx A tbOk rfl rfl rfl rfl rfl ?_; clear A; intro a A)
      | ((with_reducible refine g_idx ?_); first | (refine sx_idx H A tbOk rfl rfl rfl rfl rfl rfl ?_; clear A; intro a A) | (refine sx_oidx H A tbOk rfl rfl rfl rfl rfl rfl ?_; clear A; intro a A))
      | ((with_reducible refine g_conv ?_); refine sx_conv A tbOk rfl rfl rfl rfl rfl ?_; clear A; intro a A)
      )
    | ((with_reducible refine g_draw ?_); refine qx_region H (by kernel_rfl) (by kernel_rfl) ?_)
    | ((with_reducible refine qx_nil ?_); clear H; intro w_ F_ H)
    | ((with_reducible refine q_at ?_); first
      | (refine qx_pure A tbOk rfl rfl rfl ?_; clear A; intro a A)
      | (refine qx_skip A rfl rfl ?_; clear A; intro a A)
      | ((with_reducible refine qg_bin ?_); first | ((refine qg_int A rfl ?_); first | (refine qx_cmp A rfl rfl rfl rfl ?_; clear A; intro a A) | (refine qx_arith A rfl rfl rfl rfl ?_; clear A; intro a A)) | ((refine qg_str A rfl ?_); first | (refine qx_scmp A rfl rfl rfl rfl ?_; clear A; intro a A) | (refine qx_concat A rfl rfl rfl rfl ?_; clear A; intro a A)))
      | ((with_reducible refine qg_builtin ?_); first | (refine qx_min A rfl rfl rfl rfl ?_; clear A; intro a A) | (refine qx_max A rfl rfl rfl rfl ?_; clear A; intro a A))
      | ((with_reducible refine qg_slice ?_); refine qx_sstr A tbOk rfl rfl rfl rfl rfl rfl ?_; clear A; intro a A)
      | ((with_reducible refine qg_load ?_); refine qx_load A tbOk rfl rfl rfl rfl ?_; clear A; intro a A)
      | ((with_reducible refine qg_idx ?_); first | (refine qx_idx H A tbOk rfl rfl rfl rfl rfl rfl ?_; clear A; intro a A) | (refine qx_oidx H A tbOk rfl rfl rfl rfl rfl rfl ?_; clear A; intro a A)))
    )
      exact ⟨i + 1, F, by omega, by omega, H, A.subs⟩
    · have him : i = m := by omega
      rw [him, show l.take m = l by rw [← hll, List.take_length]] at A
      repeat' (first
    | (refine sx_ret tbOk H A rfl ?_; exact H.ret0 fun Fx Hx => k Fx _ Hx)
    | with_reducible refine wp_seq ?_
    | with_reducible refine sx_region ?_
    | with_reducible refine wp_block ?_
    | with_reducible refine wpList_nil ?_
    | with_reducible refine sx_then ?_
    | with_reducible refine sx_inb ?_
    | with_reducible refine wp_skip ?_
    | with_reducible refine wp_ret ?_
    | with_reducible refine wp_exit ?_
    | with_reducible refine sx_then_ret ?_
    | with_reducible refine sx_inb_ret ?_
    | with_reducible refine sx_then_exit ?_
    | with_reducible refine sx_inb_exit ?_
    | with_reducible refine sx_inb_other rfl ?_
    | with_reducible refine sx_if_t A rfl ?_
    | with_reducible refine sx_if_f A rfl ?_
    | ((with_reducible refine sx_at ?_); first
      | (refine sx_pure A tbOk rfl rfl rfl ?_; clear A; intro a A)
      | (refine sx_skip A rfl rfl ?_; clear A; intro a A)
      | ((with_reducible refine g_bin ?_); first | ((refine g_int A rfl ?_); first | (refine sx_cmp A rfl rfl rfl rfl ?_; clear A; intro a A) | (refine sx_arith A rfl rfl rfl rfl ?_; clear A; intro a A) | (refine sx_shl A rfl rfl rfl rfl ?_; clear A; intro a A) | (refine sx_shr A rfl rfl rfl rfl ?_; clear A; intro a A)) | ((refine g_str A rfl ?_); first | (refine sx_scmp A rfl rfl rfl rfl ?_; clear A; intro a A) | (refine sx_concat A rfl rfl rfl rfl ?_; clear A; intro a A)))
      | ((with_reducible refine g_load ?_); first | (refine sx_load_all H A tbOk rfl rfl rfl rfl rfl ?_; clear A; intro a A) | (refine sx_load H A tbOk rfl rfl rfl rfl ?_; clear A; intro a A))
      | ((with_reducible refine g_store ?_); refine sx_store H A tbOk rfl rfl rfl rfl ?_; clear H; intro w_ H)
      | ((with_reducible refine g_box ?_); refine sx_box H A rfl rfl rfl ?_; clear H A; intro b_ a w_ A H)
      | ((with_reducible refine g_alloc ?_); refine sx_alloc H A tbOk rfl rfl rfl ?_; clear H A; intro b_ a w_ A H)
      | ((with_reducible refine g_build ?_); refine sx_build A tbOk rfl rfl rfl rfl rfl rfl ?_; clear A; intro a A)
      | ((with_reducible refine g_builtin ?_); first | (refine sx_min A rfl rfl rfl rfl ?_; clear A; intro a A) | (refine sx_max A rfl rfl rfl rfl ?_; clear A; intro a A))
      | ((with_reducible refine g_slice ?_); first | (refine sx_sstr A tbOk rfl rfl rfl rfl rfl rfl ?_; clear A; intro a A) | (refine sx_cut H A tbOk rfl rfl rfl rfl rfl rfl rfl ?_; clear A H; intro A_ c_ a hc_ A H))
      | ((with_reducible refine g_index ?_); refine sx_sidx A tbOk rfl rfl rfl rfl rfl ?_; clear A; intro a A)
      | ((with_reducible refine g_idx ?_); first | (refine sx_idx H A tbOk rfl rfl rfl rfl rfl rfl ?_; clear A; intro a A) | (refine sx_oidx H A tbOk rfl rfl rfl rfl rfl rfl ?_; clear A; intro a A))
      | ((with_reducible refine g_conv ?_); refine sx_conv A tbOk rfl rfl rfl rfl rfl ?_; clear A; intro a A)
      )
    | ((with_reducible refine g_draw ?_); refine qx_region H (by kernel_rfl) (by kernel_rfl) ?_)
    | ((with_reducible refine qx_nil ?_); clear H; intro w_ F_ H)
    | ((with_reducible refine q_at ?_); first
      | (refine qx_pure A tbOk rfl rfl rfl ?_; clear A; intro a A)
      | (refine qx_skip A rfl rfl ?_; clear A; intro a A)
      | ((with_reducible refine qg_bin ?_); first | ((refine qg_int A rfl ?_); first | (refine qx_cmp A rfl rfl rfl rfl ?_; clear A; intro a A) | (refine qx_arith A rfl rfl rfl rfl ?_; clear A; intro a A)) | ((refine qg_str A rfl ?_); first | (refine qx_scmp A rfl rfl rfl rfl ?_; clear A; intro a A) | (refine qx_concat A rfl rfl rfl rfl ?_; clear A; intro a A)))
      | ((with_reducible refine qg_builtin ?_); first | (refine qx_min A rfl rfl rfl rfl ?_; clear A; intro a A) | (refine qx_max A rfl rfl rfl rfl ?_; clear A; intro a A))
      | ((with_reducible refine qg_slice ?_); refine qx_sstr A tbOk rfl rfl rfl rfl rfl rfl ?_; clear A; intro a A)
      | ((with_reducible refine qg_load ?_); refine qx_load A tbOk rfl rfl rfl rfl ?_; clear A; intro a A)
      | ((with_reducible refine qg_idx ?_); first | (refine qx_idx H A tbOk rfl rfl rfl rfl rfl rfl ?_; clear A; intro a A) | (refine qx_oidx H A tbOk rfl rfl rfl rfl rfl rfl ?_; clear A; intro a A)))
    )
theorem trim_step (x : ByteArray) (h : 0 < x.size) : (bt x ((x.size : Int) - 1).toNat = 0 → trimS (x.extract (0 : Int).toNat ((x.size : Int) - 1).toNat) = trimS x) ∧ (bt x ((x.size : Int) - 1).toNat ≠ 0 → trimS x = x) := by
  rcases snoc_cases (L x) with h0 | ⟨m, b, hm⟩
  · rw [size_L, h0] at h; exact absurd h (by simp)
  have hsz : x.size = m.length + 1 := by rw [size_L, hm]; simp
  have e1 : ((x.size : Int) - 1).toNat = m.length := by omega
  have hb : bt x ((x.size : Int) - 1).toNat = (b.toNat : Int) := by
    rw [bt_L x _ (by omega)]
    simp only [e1, hm]; simp
  rw [hb]
  refine ⟨fun h => ?_, fun h => ?_⟩
  · have h2 := (byte_zero b).1 h
    unfold trimS
    congr 1
    rw [L_extract, hm, h2, trimL_zero, e1]
    simp
  · have h2 : b ≠ 0 := fun e => h ((byte_zero b).2 e)
    apply L_inj
    unfold trimS
    rw [L_B, hm, trimL_other m b h2]
theorem sl_trimRightByte (H : St M F0 w0 F B R w) {s r : ByteArray} (h2 : s.size ≤ 4611686018427387904) (hr : trimS s = r) (k : ∀ Fx w', St M F0 w0 Fx B R w' → K (.returned (.string r)) w') : Calls Tryd.prog 81 #[.string s, .int .u8 0] w K := by
  refine St.fn0 H (R0 := []) no_mem (fun H => ?_)
  refine sx_enter Tryd.func81 Tryd.ntmps81 rfl rfl (fun a A => ?_)
  repeat' (first
    | with_reducible refine wp_seq ?_
    | with_reducible refine sx_region ?_
    | with_reducible refine wp_block ?_
    | with_reducible refine wpList_nil ?_
    | with_reducible refine sx_then ?_
    | with_reducible refine sx_inb ?_
    | with_reducible refine wp_skip ?_
    | with_reducible refine wp_ret ?_
    | with_reducible refine wp_exit ?_
    | with_reducible refine sx_then_ret ?_
    | with_reducible refine sx_inb_ret ?_
    | with_reducible refine sx_then_exit ?_
    | with_reducible refine sx_inb_exit ?_
    | with_reducible refine sx_inb_other rfl ?_
    | with_reducible refine sx_if_t A rfl ?_
    | with_reducible refine sx_if_f A rfl ?_
    | ((with_reducible refine sx_at ?_); first
      | (refine sx_pure A tbOk rfl rfl rfl ?_; clear A; intro a A)
      | (refine sx_skip A rfl rfl ?_; clear A; intro a A)
      | ((with_reducible refine g_bin ?_); first | ((refine g_int A rfl ?_); first | (refine sx_cmp A rfl rfl rfl rfl ?_; clear A; intro a A) | (refine sx_arith A rfl rfl rfl rfl ?_; clear A; intro a A) | (refine sx_shl A rfl rfl rfl rfl ?_; clear A; intro a A) | (refine sx_shr A rfl rfl rfl rfl ?_; clear A; intro a A)) | ((refine g_str A rfl ?_); first | (refine sx_scmp A rfl rfl rfl rfl ?_; clear A; intro a A) | (refine sx_concat A rfl rfl rfl rfl ?_; clear A; intro a A)))
      | ((with_reducible refine g_load ?_); first | (refine sx_load_all H A tbOk rfl rfl rfl rfl rfl ?_; clear A; intro a A) | (refine sx_load H A tbOk rfl rfl rfl rfl ?_; clear A; intro a A))
      | ((with_reducible refine g_store ?_); refine sx_store H A tbOk rfl rfl rfl rfl ?_; clear H; intro w_ H)
      | ((with_reducible refine g_box ?_); refine sx_box H A rfl rfl rfl ?_; clear H A; intro b_ a w_ A H)
      | ((with_reducible refine g_alloc ?_); refine sx_alloc H A tbOk rfl rfl rfl ?_; clear H A; intro b_ a w_ A H)
      | ((with_reducible refine g_build ?_); refine sx_build A tbOk rfl rfl rfl rfl rfl rfl ?_; clear A; intro a A)
      | ((with_reducible refine g_builtin ?_); first | (refine sx_min A rfl rfl rfl rfl ?_; clear A; intro a A) | (refine sx_max A rfl rfl rfl rfl ?_; clear A; intro a A))
      | ((with_reducible refine g_slice ?_); first | (refine sx_sstr A tbOk rfl rfl rfl rfl rfl rfl ?_; clear A; intro a A) | (refine sx_cut H A tbOk rfl rfl rfl rfl rfl rfl rfl ?_; clear A H; intro A_ c_ a hc_ A H))
      | ((with_reducible refine g_index ?_); refine sx_sidx A tbOk rfl rfl rfl rfl rfl ?_; clear A; intro a A)
      | ((with_reducible refine g_idx ?_); first | (refine sx_idx H A tbOk rfl rfl rfl rfl rfl rfl ?_; clear A; intro a A) | (refine sx_oidx H A tbOk rfl rfl rfl rfl rfl rfl ?_; clear A; intro a A))
      | ((with_reducible refine g_conv ?_); refine sx_conv A tbOk rfl rfl rfl rfl rfl ?_; clear A; intro a A)
      )
    | ((with_reducible refine g_draw ?_); refine qx_region H (by kernel_rfl) (by kernel_rfl) ?_)
    | ((with_reducible refine qx_nil ?_); clear H; intro w_ F_ H)
    | ((with_reducible refine q_at ?_); first
      | (refine qx_pure A tbOk rfl rfl rfl ?_; clear A; intro a A)
      | (refine qx_skip A rfl rfl ?_; clear A; intro a A)
      | ((with_reducible refine qg_bin ?_); first | ((refine qg_int A rfl ?_); first | (refine qx_cmp A rfl rfl rfl rfl ?_; clear A; intro a A) | (refine qx_arith A rfl rfl rfl rfl ?_; clear A; intro a A)) | ((refine qg_str A rfl ?_); first | (refine qx_scmp A rfl rfl rfl rfl ?_; clear A; intro a A) | (refine qx_concat A rfl rfl rfl rfl ?_; clear A; intro a A)))
      | ((with_reducible refine qg_builtin ?_); first | (refine qx_min A rfl rfl rfl rfl ?_; clear A; intro a A) | (refine qx_max A rfl rfl rfl rfl ?_; clear A; intro a A))
      | ((with_reducible refine qg_slice ?_); refine qx_sstr A tbOk rfl rfl rfl rfl rfl rfl ?_; clear A; intro a A)
      | ((with_reducible refine qg_load ?_); refine qx_load A tbOk rfl rfl rfl rfl ?_; clear A; intro a A)
      | ((with_reducible refine qg_idx ?_); first | (refine qx_idx H A tbOk rfl rfl rfl rfl rfl rfl ?_; clear A; intro a A) | (refine qx_oidx H A tbOk rfl rfl rfl rfl rfl rfl ?_; clear A; intro a A)))
    )
  refine sx_rounds (fun x : ByteArray => trimS x = r ∧ x.size ≤ s.size) (fun x => [(0, .string x), (1, _)]) (fun _ => []) (fun _ => []) (fun x => x.size) s H A.subs ⟨hr, Nat.le_refl _⟩ (fun x F a W hi H A => ?_)
  obtain ⟨hx, hxs⟩ := hi
  rcases Nat.eq_zero_or_pos x.size with h0 | h0
  · have hxr : x = r := by
      have : L x = [] := List.eq_nil_of_length_eq_zero (by rw [← size_L]; exact h0)
      rw [← hx]; apply L_inj; unfold trimS; rw [L_B, this]; rfl
    subst hxr
    repeat' (first
    | (refine sx_ret tbOk H A rfl ?_; exact H.ret0 fun Fx Hx => k Fx _ Hx)
    | with_reducible refine wp_seq ?_
    | with_reducible refine sx_region ?_
    | with_reducible refine wp_block ?_
    | with_reducible refine wpList_nil ?_
    | with_reducible refine sx_then ?_
    | with_reducible refine sx_inb ?_
    | with_reducible refine wp_skip ?_
    | with_reducible refine wp_ret ?_
    | with_reducible refine wp_exit ?_
    | with_reducible refine sx_then_ret ?_
    | with_reducible refine sx_inb_ret ?_
    | with_reducible refine sx_then_exit ?_
    | with_reducible refine sx_inb_exit ?_
    | with_reducible refine sx_inb_other rfl ?_
    | with_reducible refine sx_if_t A rfl ?_
    | with_reducible refine sx_if_f A rfl ?_
    | ((with_reducible refine sx_at ?_); first
      | (refine sx_pure A tbOk rfl rfl rfl ?_; clear A; intro a A)
      | (refine sx_skip A rfl rfl ?_; clear A; intro a A)
      | ((with_reducible refine g_bin ?_); first | ((refine g_int A rfl ?_); first | (refine sx_cmp A rfl rfl rfl rfl ?_; clear A; intro a A) | (refine sx_arith A rfl rfl rfl rfl ?_; clear A; intro a A) | (refine sx_shl A rfl rfl rfl rfl ?_; clear A; intro a A) | (refine sx_shr A rfl rfl rfl rfl ?_; clear A; intro a A)) | ((refine g_str A rfl ?_); first | (refine sx_scmp A rfl rfl rfl rfl ?_; clear A; intro a A) | (refine sx_concat A rfl rfl rfl rfl ?_; clear A; intro a A)))
      | ((with_reducible refine g_load ?_); first | (refine sx_load_all H A tbOk rfl rfl rfl rfl rfl ?_; clear A; intro a A) | (refine sx_load H A tbOk rfl rfl rfl rfl ?_; clear A; intro a A))
      | ((with_reducible refine g_store ?_); refine sx_store H A tbOk rfl rfl rfl rfl ?_; clear H; intro w_ H)
      | ((with_reducible refine g_box ?_); refine sx_box H A rfl rfl rfl ?_; clear H A; intro b_ a w_ A H)
      | ((with_reducible refine g_alloc ?_); refine sx_alloc H A tbOk rfl rfl rfl ?_; clear H A; intro b_ a w_ A H)
      | ((with_reducible refine g_build ?_); refine sx_build A tbOk rfl rfl rfl rfl rfl rfl ?_; clear A; intro a A)
      | ((with_reducible refine g_builtin ?_); first | (refine sx_min A rfl rfl rfl rfl ?_; clear A; intro a A) | (refine sx_max A rfl rfl rfl rfl ?_; clear A; intro a A))
      | ((with_reducible refine g_slice ?_); first | (refine sx_sstr A tbOk rfl rfl rfl rfl rfl rfl ?_; clear A; intro a A) | (refine sx_cut H A tbOk rfl rfl rfl rfl rfl rfl rfl ?_; clear A H; intro A_ c_ a hc_ A H))
      | ((with_reducible refine g_index ?_); refine sx_sidx A tbOk rfl rfl rfl rfl rfl ?_; clear A; intro a A)
      | ((with_reducible refine g_idx ?_); first | (refine sx_idx H A tbOk rfl rfl rfl rfl rfl rfl ?_; clear A; intro a A) | (refine sx_oidx H A tbOk rfl rfl rfl rfl rfl rfl ?_; clear A; intro a A))
      | ((with_reducible refine g_conv ?_); refine sx_conv A tbOk rfl rfl rfl rfl rfl ?_; clear A; intro a A)
      )
    | ((with_reducible refine g_draw ?_); refine qx_region H (by kernel_rfl) (by kernel_rfl) ?_)
    | ((with_reducible refine qx_nil ?_); clear H; intro w_ F_ H)
    | ((with_reducible refine q_at ?_); first
      | (refine qx_pure A tbOk rfl rfl rfl ?_; clear A; intro a A)
      | (refine qx_skip A rfl rfl ?_; clear A; intro a A)
      | ((with_reducible refine qg_bin ?_); first | ((refine qg_int A rfl ?_); first | (refine qx_cmp A rfl rfl rfl rfl ?_; clear A; intro a A) | (refine qx_arith A rfl rfl rfl rfl ?_; clear A; intro a A)) | ((refine qg_str A rfl ?_); first | (refine qx_scmp A rfl rfl rfl rfl ?_; clear A; intro a A) | (refine qx_concat A rfl rfl rfl rfl ?_; clear A; intro a A)))
      | ((with_reducible refine qg_builtin ?_); first | (refine qx_min A rfl rfl rfl rfl ?_; clear A; intro a A) | (refine qx_max A rfl rfl rfl rfl ?_; clear A; intro a A))
      | ((with_reducible refine qg_slice ?_); refine qx_sstr A tbOk rfl rfl rfl rfl rfl rfl ?_; clear A; intro a A)
      | ((with_reducible refine qg_load ?_); refine qx_load A tbOk rfl rfl rfl rfl ?_; clear A; intro a A)
      | ((with_reducible refine qg_idx ?_); first | (refine qx_idx H A tbOk rfl rfl rfl rfl rfl rfl ?_; clear A; intro a A) | (refine qx_oidx H A tbOk rfl rfl rfl rfl rfl rfl ?_; clear A; intro a A)))
    )
  · obtain ⟨t1, t2⟩ := trim_step x h0
    by_cases hb : bt x ((x.size : Int) - 1).toNat = 0
    · repeat' (first
    | with_reducible refine wp_seq ?_
    | with_reducible refine sx_region ?_
    | with_reducible refine wp_block ?_
    | with_reducible refine wpList_nil ?_
    | with_reducible refine sx_then ?_
    | with_reducible refine sx_inb ?_
    | with_reducible refine wp_skip ?_
    | with_reducible refine wp_ret ?_
    | with_reducible refine wp_exit ?_
    | with_reducible refine sx_then_ret ?_
    | with_reducible refine sx_inb_ret ?_
    | with_reducible refine sx_then_exit ?_
    | with_reducible refine sx_inb_exit ?_
    | with_reducible refine sx_inb_other rfl ?_
    | with_reducible refine sx_if_t A rfl ?_
    | with_reducible refine sx_if_f A rfl ?_
    | ((with_reducible refine sx_at ?_); first
      | (refine sx_pure A tbOk rfl rfl rfl ?_; clear A; intro a A)
      | (refine sx_skip A rfl rfl ?_; clear A; intro a A)
      | ((with_reducible refine g_bin ?_); first | ((refine g_int A rfl ?_); first | (refine sx_cmp A rfl rfl rfl rfl ?_; clear A; intro a A) | (refine sx_arith A rfl rfl rfl rfl ?_; clear A; intro a A) | (refine sx_shl A rfl rfl rfl rfl ?_; clear A; intro a A) | (refine sx_shr A rfl rfl rfl rfl ?_; clear A; intro a A)) | ((refine g_str A rfl ?_); first | (refine sx_scmp A rfl rfl rfl rfl ?_; clear A; intro a A) | (refine sx_concat A rfl rfl rfl rfl ?_; clear A; intro a A)))
      | ((with_reducible refine g_load ?_); first | (refine sx_load_all H A tbOk rfl rfl rfl rfl rfl ?_; clear A; intro a A) | (refine sx_load H A tbOk rfl rfl rfl rfl ?_; clear A; intro a A))
      | ((with_reducible refine g_store ?_); refine sx_store H A tbOk rfl rfl rfl rfl ?_; clear H; intro w_ H)
      | ((with_reducible refine g_box ?_); refine sx_box H A rfl rfl rfl ?_; clear H A; intro b_ a w_ A H)
      | ((with_reducible refine g_alloc ?_); refine sx_alloc H A tbOk rfl rfl rfl ?_; clear H A; intro b_ a w_ A H)
      | ((with_reducible refine g_build ?_); refine sx_build A tbOk rfl rfl rfl rfl rfl rfl ?_; clear A; intro a A)
      | ((with_reducible refine g_builtin ?_); first | (refine sx_min A rfl rfl rfl rfl ?_; clear A; intro a A) | (refine sx_max A rfl rfl rfl rfl ?_; clear A; intro a A))
      | ((with_reducible refine g_slice ?_); first | (refine sx_sstr A tbOk rfl rfl rfl rfl rfl rfl ?_; clear A; intro a A) | (refine sx_cut H A tbOk rfl rfl rfl rfl rfl rfl rfl ?_; clear A H; intro A_ c_ a hc_ A H))
      | ((with_reducible refine g_index ?_); refine sx_sidx A tbOk rfl rfl rfl rfl rfl ?_; clear A; intro a A)
      | ((with_reducible refine g_idx ?_); first | (refine sx_idx H A tbOk rfl rfl rfl rfl rfl rfl ?_; clear A; intro a A) | (refine sx_oidx H A tbOk rfl rfl rfl rfl rfl rfl ?_; clear A; intro a A))
      | ((with_reducible refine g_conv ?_); refine sx_conv A tbOk rfl rfl rfl rfl rfl ?_; clear A; intro a A)
      )
    | ((with_reducible refine g_draw ?_); refine qx_region H (by kernel_rfl) (by kernel_rfl) ?_)
    | ((with_reducible refine qx_nil ?_); clear H; intro w_ F_ H)
    | ((with_reducible refine q_at ?_); first
      | (refine qx_pure A tbOk rfl rfl rfl ?_; clear A; intro a A)
      | (refine qx_skip A rfl rfl ?_; clear A; intro a A)
      | ((with_reducible refine qg_bin ?_); first | ((refine qg_int A rfl ?_); first | (refine qx_cmp A rfl rfl rfl rfl ?_; clear A; intro a A) | (refine qx_arith A rfl rfl rfl rfl ?_; clear A; intro a A)) | ((refine qg_str A rfl ?_); first | (refine qx_scmp A rfl rfl rfl rfl ?_; clear A; intro a A) | (refine qx_concat A rfl rfl rfl rfl ?_; clear A; intro a A)))
      | ((with_reducible refine qg_builtin ?_); first | (refine qx_min A rfl rfl rfl rfl ?_; clear A; intro a A) | (refine qx_max A rfl rfl rfl rfl ?_; clear A; intro a A))
      | ((with_reducible refine qg_slice ?_); refine qx_sstr A tbOk rfl rfl rfl rfl rfl rfl ?_; clear A; intro a A)
      | ((with_reducible refine qg_load ?_); refine qx_load A tbOk rfl rfl rfl rfl ?_; clear A; intro a A)
      | ((with_reducible refine qg_idx ?_); first | (refine qx_idx H A tbOk rfl rfl rfl rfl rfl rfl ?_; clear A; intro a A) | (refine qx_oidx H A tbOk rfl rfl rfl rfl rfl rfl ?_; clear A; intro a A)))
    )
      refine ⟨_, F, ⟨(t1 hb).trans hx, ?_⟩, ?_, H, A.subs⟩
      · rw [ByteArray.size_extract]; omega
      · rw [ByteArray.size_extract]; omega
    · have hxr : x = r := (t2 hb).symm.trans hx
      subst hxr
      repeat' (first
    | (refine sx_ret tbOk H A rfl ?_; exact H.ret0 fun Fx Hx => k Fx _ Hx)
    | with_reducible refine wp_seq ?_
    | with_reducible refine sx_region ?_
    | with_reducible refine wp_block ?_
    | with_reducible refine wpList_nil ?_
    | with_reducible refine sx_then ?_
    | with_reducible refine sx_inb ?_
    | with_reducible refine wp_skip ?_
    | with_reducible refine wp_ret ?_
    | with_reducible refine wp_exit ?_
    | with_reducible refine sx_then_ret ?_
    | with_reducible refine sx_inb_ret ?_
    | with_reducible refine sx_then_exit ?_
    | with_reducible refine sx_inb_exit ?_
    | with_reducible refine sx_inb_other rfl ?_
    | with_reducible refine sx_if_t A rfl ?_
    | with_reducible refine sx_if_f A rfl ?_
    | ((with_reducible refine sx_at ?_); first
      | (refine sx_pure A tbOk rfl rfl rfl ?_; clear A; intro a A)
      | (refine sx_skip A rfl rfl ?_; clear A; intro a A)
      | ((with_reducible refine g_bin ?_); first | ((refine g_int A rfl ?_); first | (refine sx_cmp A rfl rfl rfl rfl ?_; clear A; intro a A) | (refine sx_arith A rfl rfl rfl rfl ?_; clear A; intro a A) | (refine sx_shl A rfl rfl rfl rfl ?_; clear A; intro a A) | (refine sx_shr A rfl rfl rfl rfl ?_; clear A; intro a A)) | ((refine g_str A rfl ?_); first | (refine sx_scmp A rfl rfl rfl rfl ?_; clear A; intro a A) | (refine sx_concat A rfl rfl rfl rfl ?_; clear A; intro a A)))
      | ((with_reducible refine g_load ?_); first | (refine sx_load_all H A tbOk rfl rfl rfl rfl rfl ?_; clear A; intro a A) | (refine sx_load H A tbOk rfl rfl rfl rfl ?_; clear A; intro a A))
      | ((with_reducible refine g_store ?_); refine sx_store H A tbOk rfl rfl rfl rfl ?_; clear H; intro w_ H)
      | ((with_reducible refine g_box ?_); refine sx_box H A rfl rfl rfl ?_; clear H A; intro b_ a w_ A H)
      | ((with_reducible refine g_alloc ?_); refine sx_alloc H A tbOk rfl rfl rfl ?_; clear H A; intro b_ a w_ A H)
      | ((with_reducible refine g_build ?_); refine sx_build A tbOk rfl rfl rfl rfl rfl rfl ?_; clear A; intro a A)
      | ((with_reducible refine g_builtin ?_); first | (refine sx_min A rfl rfl rfl rfl ?_; clear A; intro a A) | (refine sx_max A rfl rfl rfl rfl ?_; clear A; intro a A))
      | ((with_reducible refine g_slice ?_); first | (refine sx_sstr A tbOk rfl rfl rfl rfl rfl rfl ?_; clear A; intro a A) | (refine sx_cut H A tbOk rfl rfl rfl rfl rfl rfl rfl ?_; clear A H; intro A_ c_ a hc_ A H))
      | ((with_reducible refine g_index ?_); refine sx_sidx A tbOk rfl rfl rfl rfl rfl ?_; clear A; intro a A)
      | ((with_reducible refine g_idx ?_); first | (refine sx_idx H A tbOk rfl rfl rfl rfl rfl rfl ?_; clear A; intro a A) | (refine sx_oidx H A tbOk rfl rfl rfl rfl rfl rfl ?_; clear A; intro a A))
      | ((with_reducible refine g_conv ?_); refine sx_conv A tbOk rfl rfl rfl rfl rfl ?_; clear A; intro a A)
      )
    | ((with_reducible refine g_draw ?_); refine qx_region H (by kernel_rfl) (by kernel_rfl) ?_)
    | ((with_reducible refine qx_nil ?_); clear H; intro w_ F_ H)
    | ((with_reducible refine q_at ?_); first
      | (refine qx_pure A tbOk rfl rfl rfl ?_; clear A; intro a A)
      | (refine qx_skip A rfl rfl ?_; clear A; intro a A)
      | ((with_reducible refine qg_bin ?_); first | ((refine qg_int A rfl ?_); first | (refine qx_cmp A rfl rfl rfl rfl ?_; clear A; intro a A) | (refine qx_arith A rfl rfl rfl rfl ?_; clear A; intro a A)) | ((refine qg_str A rfl ?_); first | (refine qx_scmp A rfl rfl rfl rfl ?_; clear A; intro a A) | (refine qx_concat A rfl rfl rfl rfl ?_; clear A; intro a A)))
      | ((with_reducible refine qg_builtin ?_); first | (refine qx_min A rfl rfl rfl rfl ?_; clear A; intro a A) | (refine qx_max A rfl rfl rfl rfl ?_; clear A; intro a A))
      | ((with_reducible refine qg_slice ?_); refine qx_sstr A tbOk rfl rfl rfl rfl rfl rfl ?_; clear A; intro a A)
      | ((with_reducible refine qg_load ?_); refine qx_load A tbOk rfl rfl rfl rfl ?_; clear A; intro a A)
      | ((with_reducible refine qg_idx ?_); first | (refine qx_idx H A tbOk rfl rfl rfl rfl rfl rfl ?_; clear A; intro a A) | (refine qx_oidx H A tbOk rfl rfl rfl rfl rfl rfl ?_; clear A; intro a A)))
    )
theorem sl_TrimRight (H : St M F0 w0 F B R w) {s r : ByteArray} (h2 : s.size ≤ 4611686018427387904) (hr : trimS s = r) (k : ∀ Fx w', St M F0 w0 Fx B R w' → K (.returned (.string r)) w') : Calls Tryd.prog 72 #[.string s, .string ⟨#[0]⟩] w K := by
  refine St.fn0 H (R0 := []) no_mem (fun H => ?_)
  refine sx_enter Tryd.func72 Tryd.ntmps72 rfl rfl (fun a A => ?_)
  have hz : bt ⟨#[0]⟩ (0 : Int).toNat = 0 := rfl
  have hn : (⟨#[0]⟩ : ByteArray) ≠ ⟨#[]⟩ := by decide
  have hsz : ((⟨#[0]⟩ : ByteArray).size : Int) = 1 := rfl
  by_cases hs : s = ⟨#[]⟩
  · have : s = r := by rw [← hr, hs]; rfl
    subst this
    repeat' (first
    | (refine sx_ret tbOk H A rfl ?_; exact H.ret0 fun Fx Hx => k Fx _ Hx)
    | with_reducible refine wp_seq ?_
    | with_reducible refine sx_region ?_
    | with_reducible refine wp_block ?_
    | with_reducible refine wpList_nil ?_
    | with_reducible refine sx_then ?_
    | with_reducible refine sx_inb ?_
    | with_reducible refine wp_skip ?_
    | with_reducible refine wp_ret ?_
    | with_reducible refine wp_exit ?_
    | with_reducible refine sx_then_ret ?_
    | with_reducible refine sx_inb_ret ?_
    | with_reducible refine sx_then_exit ?_
    | with_reducible refine sx_inb_exit ?_
    | with_reducible refine sx_inb_other rfl ?_
    | with_reducible refine sx_if_t A rfl ?_
    | with_reducible refine sx_if_f A rfl ?_
    | ((with_reducible refine sx_at ?_); first
      | (refine sx_pure A tbOk rfl rfl rfl ?_; clear A; intro a A)
      | (refine sx_skip A rfl rfl ?_; clear A; intro a A)
      | ((with_reducible refine g_bin ?_); first | ((refine g_int A rfl ?_); first | (refine sx_cmp A rfl rfl rfl rfl ?_; clear A; intro a A) | (refine sx_arith A rfl rfl rfl rfl ?_; clear A; intro a A) | (refine sx_shl A rfl rfl rfl rfl ?_; clear A; intro a A) | (refine sx_shr A rfl rfl rfl rfl ?_; clear A; intro a A)) | ((refine g_str A rfl ?_); first | (refine sx_scmp A rfl rfl rfl rfl ?_; clear A; intro a A) | (refine sx_concat A rfl rfl rfl rfl ?_; clear A; intro a A)))
      | ((with_reducible refine g_load ?_); first | (refine sx_load_all H A tbOk rfl rfl rfl rfl rfl ?_; clear A; intro a A) | (refine sx_load H A tbOk rfl rfl rfl rfl ?_; clear A; intro a A))
      | ((with_reducible refine g_store ?_); refine sx_store H A tbOk rfl rfl rfl rfl ?_; clear H; intro w_ H)
      | ((with_reducible refine g_box ?_); refine sx_box H A rfl rfl rfl ?_; clear H A; intro b_ a w_ A H)
      | ((with_reducible refine g_alloc ?_); refine sx_alloc H A tbOk rfl rfl rfl ?_; clear H A; intro b_ a w_ A H)
      | ((with_reducible refine g_build ?_); refine sx_build A tbOk rfl rfl rfl rfl rfl rfl ?_; clear A; intro a A)
      | ((with_reducible refine g_builtin ?_); first | (refine sx_min A rfl rfl rfl rfl ?_; clear A; intro a A) | (refine sx_max A rfl rfl rfl rfl ?_; clear A; intro a A))
      | ((with_reducible refine g_slice ?_); first | (refine sx_sstr A tbOk rfl rfl rfl rfl rfl rfl ?_; clear A; intro a A) | (refine sx_cut H A tbOk rfl rfl rfl rfl rfl rfl rfl ?_; clear A H; intro A_ c_ a hc_ A H))
      | ((with_reducible refine g_index ?_); refine sx_sidx A tbOk rfl rfl rfl rfl rfl ?_; clear A; intro a A)
      | ((with_reducible refine g_idx ?_); first | (refine sx_idx H A tbOk rfl rfl rfl rfl rfl rfl ?_; clear A; intro a A) | (refine sx_oidx H A tbOk rfl rfl rfl rfl rfl rfl ?_; clear A; intro a A))
      | ((with_reducible refine g_conv ?_); refine sx_conv A tbOk rfl rfl rfl rfl rfl ?_; clear A; intro a A)
      )
    | ((with_reducible refine g_draw ?_); refine qx_region H (by kernel_rfl) (by kernel_rfl) ?_)
    | ((with_reducible refine qx_nil ?_); clear H; intro w_ F_ H)
    | ((with_reducible refine q_at ?_); first
      | (refine qx_pure A tbOk rfl rfl rfl ?_; clear A; intro a A)
      | (refine qx_skip A rfl rfl ?_; clear A; intro a A)
      | ((with_reducible refine qg_bin ?_); first | ((refine qg_int A rfl ?_); first | (refine qx_cmp A rfl rfl rfl rfl ?_; clear A; intro a A) | (refine qx_arith A rfl rfl rfl rfl ?_; clear A; intro a A)) | ((refine qg_str A rfl ?_); first | (refine qx_scmp A rfl rfl rfl rfl ?_; clear A; intro a A) | (refine qx_concat A rfl rfl rfl rfl ?_; clear A; intro a A)))
      | ((with_reducible refine qg_builtin ?_); first | (refine qx_min A rfl rfl rfl rfl ?_; clear A; intro a A) | (refine qx_max A rfl rfl rfl rfl ?_; clear A; intro a A))
      | ((with_reducible refine qg_slice ?_); refine qx_sstr A tbOk rfl rfl rfl rfl rfl rfl ?_; clear A; intro a A)
      | ((with_reducible refine qg_load ?_); refine qx_load A tbOk rfl rfl rfl rfl ?_; clear A; intro a A)
      | ((with_reducible refine qg_idx ?_); first | (refine qx_idx H A tbOk rfl rfl rfl rfl rfl rfl ?_; clear A; intro a A) | (refine qx_oidx H A tbOk rfl rfl rfl rfl rfl rfl ?_; clear A; intro a A)))
    )
  · repeat' (first
    | ((with_reducible refine g_call ?_); refine sx_call (f := 81) A rfl Tryd.call81 rfl rfl ?_; refine sl_trimRightByte H h2 hr ?_; clear H; intro F_ w_ H; refine ⟨_, rfl, ?_⟩; clear A; intro a A)
    | (refine sx_ret tbOk H A rfl ?_; exact H.ret0 fun Fx Hx => k Fx _ Hx)
    | with_reducible refine wp_seq ?_
    | with_reducible refine sx_region ?_
    | with_reducible refine wp_block ?_
    | with_reducible refine wpList_nil ?_
    | with_reducible refine sx_then ?_
    | with_reducible refine sx_inb ?_
    | with_reducible refine wp_skip ?_
    | with_reducible refine wp_ret ?_
    | with_reducible refine wp_exit ?_
    | with_reducible refine sx_then_ret ?_
    | with_reducible refine sx_inb_ret ?_
    | with_reducible refine sx_then_exit ?_
    | with_reducible refine sx_inb_exit ?_
    | with_reducible refine sx_inb_other rfl ?_
    | with_reducible refine sx_if_t A rfl ?_
    | with_reducible refine sx_if_f A rfl ?_
    | ((with_reducible refine sx_at ?_); first
      | (refine sx_pure A tbOk rfl rfl rfl ?_; clear A; intro a A)
      | (refine sx_skip A rfl rfl ?_; clear A; intro a A)
      | ((with_reducible refine g_bin ?_); first | ((refine g_int A rfl ?_); first | (refine sx_cmp A rfl rfl rfl rfl ?_; clear A; intro a A) | (refine sx_arith A rfl rfl rfl rfl ?_; clear A; intro a A) | (refine sx_shl A rfl rfl rfl rfl ?_; clear A; intro a A) | (refine sx_shr A rfl rfl rfl rfl ?_; clear A; intro a A)) | ((refine g_str A rfl ?_); first | (refine sx_scmp A rfl rfl rfl rfl ?_; clear A; intro a A) | (refine sx_concat A rfl rfl rfl rfl ?_; clear A; intro a A)))
      | ((with_reducible refine g_load ?_); first | (refine sx_load_all H A tbOk rfl rfl rfl rfl rfl ?_; clear A; intro a A) | (refine sx_load H A tbOk rfl rfl rfl rfl ?_; clear A; intro a A))
      | ((with_reducible refine g_store ?_); refine sx_store H A tbOk rfl rfl rfl rfl ?_; clear H; intro w_ H)
      | ((with_reducible refine g_box ?_); refine sx_box H A rfl rfl rfl ?_; clear H A; intro b_ a w_ A H)
      | ((with_reducible refine g_alloc ?_); refine sx_alloc H A tbOk rfl rfl rfl ?_; clear H A; intro b_ a w_ A H)
      | ((with_reducible refine g_build ?_); refine sx_build A tbOk rfl rfl rfl rfl rfl rfl ?_; clear A; intro a A)
      | ((with_reducible refine g_builtin ?_); first | (refine sx_min A rfl rfl rfl rfl ?_; clear A; intro a A) | (refine sx_max A rfl rfl rfl rfl ?_; clear A; intro a A))
      | ((with_reducible refine g_slice ?_); first | (refine sx_sstr A tbOk rfl rfl rfl rfl rfl rfl ?_; clear A; intro a A) | (refine sx_cut H A tbOk rfl rfl rfl rfl rfl rfl rfl ?_; clear A H; intro A_ c_ a hc_ A H))
      | ((with_reducible refine g_index ?_); refine sx_sidx A tbOk rfl rfl rfl rfl rfl ?_; clear A; intro a A)
      | ((with_reducible refine g_idx ?_); first | (refine sx_idx H A tbOk rfl rfl rfl rfl rfl rfl ?_; clear A; intro a A) | (refine sx_oidx H A tbOk rfl rfl rfl rfl rfl rfl ?_; clear A; intro a A))
      | ((with_reducible refine g_conv ?_); refine sx_conv A tbOk rfl rfl rfl rfl rfl ?_; clear A; intro a A)
      )
    | ((with_reducible refine g_draw ?_); refine qx_region H (by kernel_rfl) (by kernel_rfl) ?_)
    | ((with_reducible refine qx_nil ?_); clear H; intro w_ F_ H)
    | ((with_reducible refine q_at ?_); first
      | (refine qx_pure A tbOk rfl rfl rfl ?_; clear A; intro a A)
      | (refine qx_skip A rfl rfl ?_; clear A; intro a A)
      | ((with_reducible refine qg_bin ?_); first | ((refine qg_int A rfl ?_); first | (refine qx_cmp A rfl rfl rfl rfl ?_; clear A; intro a A) | (refine qx_arith A rfl rfl rfl rfl ?_; clear A; intro a A)) | ((refine qg_str A rfl ?_); first | (refine qx_scmp A rfl rfl rfl rfl ?_; clear A; intro a A) | (refine qx_concat A rfl rfl rfl rfl ?_; clear A; intro a A)))
      | ((with_reducible refine qg_builtin ?_); first | (refine qx_min A rfl rfl rfl rfl ?_; clear A; intro a A) | (refine qx_max A rfl rfl rfl rfl ?_; clear A; intro a A))
      | ((with_reducible refine qg_slice ?_); refine qx_sstr A tbOk rfl rfl rfl rfl rfl rfl ?_; clear A; intro a A)
      | ((with_reducible refine qg_load ?_); refine qx_load A tbOk rfl rfl rfl rfl ?_; clear A; intro a A)
      | ((with_reducible refine qg_idx ?_); first | (refine qx_idx H A tbOk rfl rfl rfl rfl rfl rfl ?_; clear A; intro a A) | (refine qx_oidx H A tbOk rfl rfl rfl rfl rfl rfl ?_; clear A; intro a A)))
    )
theorem sl_le_Trim (H : St M F0 w0 F B R w) {s r : ByteArray} (h2 : s.size ≤ 4611686018427387904) (hr : trimS s = r) (k : ∀ Fx w', St M F0 w0 Fx B R w' → K (.returned (.string r)) w') : Calls Tryd.prog 56 #[.string s] w K := by
  refine St.fn0 H (R0 := []) no_mem (fun H => ?_)
  refine sx_enter Tryd.func56 Tryd.ntmps56 rfl rfl (fun a A => ?_)
  repeat' (first
    | ((with_reducible refine g_call ?_); refine sx_call (f := 72) A rfl Tryd.call72 rfl rfl ?_; refine sl_TrimRight H h2 hr ?_; clear H; intro F_ w_ H; refine ⟨_, rfl, ?_⟩; clear A; intro a A)
    | (refine sx_ret tbOk H A rfl ?_; exact H.ret0 fun Fx Hx => k Fx _ Hx)
    | with_reducible refine wp_seq ?_
    | with_reducible refine sx_region ?_
    | with_reducible refine wp_block ?_
    | with_reducible refine wpList_nil ?_
    | with_reducible refine sx_then ?_
    | with_reducible refine sx_inb ?_
    | with_reducible refine wp_skip ?_
    | with_reducible refine wp_ret ?_
    | with_reducible refine wp_exit ?_
    | with_reducible refine sx_then_ret ?_
    | with_reducible refine sx_inb_ret ?_
    | with_reducible refine sx_then_exit ?_
    | with_reducible refine sx_inb_exit ?_
    | with_reducible refine sx_inb_other rfl ?_
    | with_reducible refine sx_if_t A rfl ?_
    | with_reducible refine sx_if_f A rfl ?_
    | ((with_reducible refine sx_at ?_); first
      | (refine sx_pure A tbOk rfl rfl rfl ?_; clear A; intro a A)
      | (refine sx_skip A rfl rfl ?_; clear A; intro a A)
      | ((with_reducible refine g_bin ?_); first | ((refine g_int A rfl ?_); first | (refine sx_cmp A rfl rfl rfl rfl ?_; clear A; intro a A) | (refine sx_arith A rfl rfl rfl rfl ?_; clear A; intro a A) | (refine sx_shl A rfl rfl rfl rfl ?_; clear A; intro a A) | (refine sx_shr A rfl rfl rfl rfl ?_; clear A; intro a A)) | ((refine g_str A rfl ?_); first | (refine sx_scmp A rfl rfl rfl rfl ?_; clear A; intro a A) | (refine sx_concat A rfl rfl rfl rfl ?_; clear A; intro a A)))
      | ((with_reducible refine g_load ?_); first | (refine sx_load_all H A tbOk rfl rfl rfl rfl rfl ?_; clear A; intro a A) | (refine sx_load H A tbOk rfl rfl rfl rfl ?_; clear A; intro a A))
      | ((with_reducible refine g_store ?_); refine sx_store H A tbOk rfl rfl rfl rfl ?_; clear H; intro w_ H)
      | ((with_reducible refine g_box ?_); refine sx_box H A rfl rfl rfl ?_; clear H A; intro b_ a w_ A H)
      | ((with_reducible refine g_alloc ?_); refine sx_alloc H A tbOk rfl rfl rfl ?_; clear H A; intro b_ a w_ A H)
      | ((with_reducible refine g_build ?_); refine sx_build A tbOk rfl rfl rfl rfl rfl rfl ?_; clear A; intro a A)
      | ((with_reducible refine g_builtin ?_); first | (refine sx_min A rfl rfl rfl rfl ?_; clear A; intro a A) | (refine sx_max A rfl rfl rfl rfl ?_; clear A; intro a A))
      | ((with_reducible refine g_slice ?_); first | (refine sx_sstr A tbOk rfl rfl rfl rfl rfl rfl ?_; clear A; intro a A) | (refine sx_cut H A tbOk rfl rfl rfl rfl rfl rfl rfl ?_; clear A H; intro A_ c_ a hc_ A H))
      | ((with_reducible refine g_index ?_); refine sx_sidx A tbOk rfl rfl rfl rfl rfl ?_; clear A; intro a A)
      | ((with_reducible refine g_idx ?_); first | (refine sx_idx H A tbOk rfl rfl rfl rfl rfl rfl ?_; clear A; intro a A) | (refine sx_oidx H A tbOk rfl rfl rfl rfl rfl rfl ?_; clear A; intro a A))
      | ((with_reducible refine g_conv ?_); refine sx_conv A tbOk rfl rfl rfl rfl rfl ?_; clear A; intro a A)
      )
    | ((with_reducible refine g_draw ?_); refine qx_region H (by kernel_rfl) (by kernel_rfl) ?_)
    | ((with_reducible refine qx_nil ?_); clear H; intro w_ F_ H)
    | ((with_reducible refine q_at ?_); first
      | (refine qx_pure A tbOk rfl rfl rfl ?_; clear A; intro a A)
      | (refine qx_skip A rfl rfl ?_; clear A; intro a A)
      | ((with_reducible refine qg_bin ?_); first | ((refine qg_int A rfl ?_); first | (refine qx_cmp A rfl rfl rfl rfl ?_; clear A; intro a A) | (refine qx_arith A rfl rfl rfl rfl ?_; clear A; intro a A)) | ((refine qg_str A rfl ?_); first | (refine qx_scmp A rfl rfl rfl rfl ?_; clear A; intro a A) | (refine qx_concat A rfl rfl rfl rfl ?_; clear A; intro a A)))
      | ((with_reducible refine qg_builtin ?_); first | (refine qx_min A rfl rfl rfl rfl ?_; clear A; intro a A) | (refine qx_max A rfl rfl rfl rfl ?_; clear A; intro a A))
      | ((with_reducible refine qg_slice ?_); refine qx_sstr A tbOk rfl rfl rfl rfl rfl rfl ?_; clear A; intro a A)
      | ((with_reducible refine qg_load ?_); refine qx_load A tbOk rfl rfl rfl rfl ?_; clear A; intro a A)
      | ((with_reducible refine qg_idx ?_); first | (refine qx_idx H A tbOk rfl rfl rfl rfl rfl rfl ?_; clear A; intro a A) | (refine qx_oidx H A tbOk rfl rfl rfl rfl rfl rfl ?_; clear A; intro a A)))
    )
theorem sl_le_Fill (H : St M F0 w0 F B R w) {s r : ByteArray} {size e : Int} (h2 : s.size ≤ 70368744177664) (h3 : size ≤ 70368744177664) (hr : fillS s size = (r, e)) (k : ∀ Fx w', St M F0 w0 Fx B R w' → K (.returned (.tuple #[.string r, .int .i64 e])) w') : Calls Tryd.prog 79 #[.string s, .int .i64 size] w K := by
  refine St.fn0 H (R0 := []) no_mem (fun H => ?_)
  refine sx_enter Tryd.func79 Tryd.ntmps79 rfl rfl (fun a A => ?_)
  unfold fillS at hr
  by_cases hc : (s.size : Int) > size
  · rw [if_pos hc] at hr
    obtain ⟨rfl, rfl⟩ := Prod.mk.inj hr
    repeat' (first
    | (refine sx_ret tbOk H A rfl ?_; exact H.ret0 fun Fx Hx => k Fx _ Hx)
    | with_reducible refine wp_seq ?_
    | with_reducible refine sx_region ?_
    | with_reducible refine wp_block ?_
    | with_reducible refine wpList_nil ?_
    | with_reducible refine sx_then ?_
    | with_reducible refine sx_inb ?_
    | with_reducible refine wp_skip ?_
    | with_reducible refine wp_ret ?_
    | with_reducible refine wp_exit ?_
    | with_reducible refine sx_then_ret ?_
    | with_reducible refine sx_inb_ret ?_
    | with_reducible refine sx_then_exit ?_
    | with_reducible refine sx_inb_exit ?_
    | with_reducible refine sx_inb_other rfl ?_
    | with_reducible refine sx_if_t A rfl ?_
    | with_reducible refine sx_if_f A rfl ?_
    | ((with_reducible refine sx_at ?_); first
      | (refine sx_pure A tbOk rfl rfl rfl ?_; clear A; intro a A)
      | (refine sx_skip A rfl rfl ?_; clear A; intro a A)
      | ((with_reducible refine g_bin ?_); first | ((refine g_int A rfl ?_); first | (refine sx_cmp A rfl rfl rfl rfl ?_; clear A; intro a A) | (refine sx_arith A rfl rfl rfl rfl ?_; clear A; intro a A) | (refine sx_shl A rfl rfl rfl rfl ?_; clear A; intro a A) | (refine sx_shr A rfl rfl rfl rfl ?_; clear A; intro a A)) | ((refine g_str A rfl ?_); first | (refine sx_scmp A rfl rfl rfl rfl ?_; clear A; intro a A) | (refine sx_concat A rfl rfl rfl rfl ?_; clear A; intro a A)))
      | ((with_reducible refine g_load ?_); first | (refine sx_load_all H A tbOk rfl rfl rfl rfl rfl ?_; clear A; intro a A) | (refine sx_load H A tbOk rfl rfl rfl rfl ?_; clear A; intro a A))
      | ((with_reducible refine g_store ?_); refine sx_store H A tbOk rfl rfl rfl rfl ?_; clear H; intro w_ H)
      | ((with_reducible refine g_box ?_); refine sx_box H A rfl rfl rfl ?_; clear H A; intro b_ a w_ A H)
      | ((with_reducible refine g_alloc ?_); refine sx_alloc H A tbOk rfl rfl rfl ?_; clear H A; intro b_ a w_ A H)
      | ((with_reducible refine g_build ?_); refine sx_build A tbOk rfl rfl rfl rfl rfl rfl ?_; clear A; intro a A)
      | ((with_reducible refine g_builtin ?_); first | (refine sx_min A rfl rfl rfl rfl ?_; clear A; intro a A) | (refine sx_max A rfl rfl rfl rfl ?_; clear A; intro a A))
      | ((with_reducible refine g_slice ?_); first | (refine sx_sstr A tbOk rfl rfl rfl rfl rfl rfl ?_; clear A; intro a A) | (refine sx_cut H A tbOk rfl rfl rfl rfl rfl rfl rfl ?_; clear A H; intro A_ c_ a hc_ A H))
      | ((with_reducible refine g_index ?_); refine sx_sidx A tbOk rfl rfl rfl rfl rfl ?_; clear A; intro a A)
      | ((with_reducible refine g_idx ?_); first | (refine sx_idx H A tbOk rfl rfl rfl rfl rfl rfl ?_; clear A; intro a A) | (refine sx_oidx H A tbOk rfl rfl rfl rfl rfl rfl ?_; clear A; intro a A))
      | ((with_reducible refine g_conv ?_); refine sx_conv A tbOk rfl rfl rfl rfl rfl ?_; clear A; intro a A)
      )
    | ((with_reducible refine g_draw ?_); refine qx_region H (by kernel_rfl) (by kernel_rfl) ?_)
    | ((with_reducible refine qx_nil ?_); clear H; intro w_ F_ H)
    | ((with_reducible refine q_at ?_); first
      | (refine qx_pure A tbOk rfl rfl rfl ?_; clear A; intro a A)
      | (refine qx_skip A rfl rfl ?_; clear A; intro a A)
      | ((with_reducible refine qg_bin ?_); first | ((refine qg_int A rfl ?_); first | (refine qx_cmp A rfl rfl rfl rfl ?_; clear A; intro a A) | (refine qx_arith A rfl rfl rfl rfl ?_; clear A; intro a A)) | ((refine qg_str A rfl ?_); first | (refine qx_scmp A rfl rfl rfl rfl ?_; clear A; intro a A) | (refine qx_concat A rfl rfl rfl rfl ?_; clear A; intro a A)))
      | ((with_reducible refine qg_builtin ?_); first | (refine qx_min A rfl rfl rfl rfl ?_; clear A; intro a A) | (refine qx_max A rfl rfl rfl rfl ?_; clear A; intro a A))
      | ((with_reducible refine qg_slice ?_); refine qx_sstr A tbOk rfl rfl rfl rfl rfl rfl ?_; clear A; intro a A)
      | ((with_reducible refine qg_load ?_); refine qx_load A tbOk rfl rfl rfl rfl ?_; clear A; intro a A)
      | ((with_reducible refine qg_idx ?_); first | (refine qx_idx H A tbOk rfl rfl rfl rfl rfl rfl ?_; clear A; intro a A) | (refine qx_oidx H A tbOk rfl rfl rfl rfl rfl rfl ?_; clear A; intro a A)))
    )
  · rw [if_neg hc] at hr
    obtain ⟨hr1, rfl⟩ := Prod.mk.inj hr
    have hm : (size - (s.size : Int)).toNat = size.toNat - s.size := by omega
    have hq : s ++ strB (List.replicate (size.toNat - s.size) 0) = r := by
      rw [← hr1]; apply L_inj; rw [L_append, L_strB, L_B, List.map_replicate]; rfl
    have hsz := strB_size (List.replicate (size.toNat - s.size) 0)
    rw [List.length_replicate] at hsz
    repeat' (first
    | ((with_reducible refine g_make ?_); refine sx_make (dk := Kd.int .u8) H A tbOk rfl rfl rfl rfl rfl rfl 0 (fun _ => rfl) rfl ?_ (hm' := hm); clear H A; intro br a w_ A H)
    | ((with_reducible refine g_conv ?_); refine sx_ob2s H A tbOk rfl rfl rfl rfl rfl rfl ?_; clear A; intro a A)
    | (refine sx_ret tbOk H A rfl ?_; exact H.ret0 fun Fx Hx => by (have := k Fx _ Hx; rw [← hq] at this; exact this))
    | with_reducible refine wp_seq ?_
    | with_reducible refine sx_region ?_
    | with_reducible refine wp_block ?_
    | with_reducible refine wpList_nil ?_
    | with_reducible refine sx_then ?_
    | with_reducible refine sx_inb ?_
    | with_reducible refine wp_skip ?_
    | with_reducible refine wp_ret ?_
    | with_reducible refine wp_exit ?_
    | with_reducible refine sx_then_ret ?_
    | with_reducible refine sx_inb_ret ?_
    | with_reducible refine sx_then_exit ?_
    | with_reducible refine sx_inb_exit ?_
    | with_reducible refine sx_inb_other rfl ?_
    | with_reducible refine sx_if_t A rfl ?_
    | with_reducible refine sx_if_f A rfl ?_
    | ((with_reducible refine sx_at ?_); first
      | (refine sx_pure A tbOk rfl rfl rfl ?_; clear A; intro a A)
      | (refine sx_skip A rfl rfl ?_; clear A; intro a A)
      | ((with_reducible refine g_bin ?_); first | ((refine g_int A rfl ?_); first | (refine sx_cmp A rfl rfl rfl rfl ?_; clear A; intro a A) | (refine sx_arith A rfl rfl rfl rfl ?_; clear A; intro a A) | (refine sx_shl A rfl rfl rfl rfl ?_; clear A; intro a A) | (refine sx_shr A rfl rfl rfl rfl ?_; clear A; intro a A)) | ((refine g_str A rfl ?_); first | (refine sx_scmp A rfl rfl rfl rfl ?_; clear A; intro a A) | (refine sx_concat A rfl rfl rfl rfl ?_; clear A; intro a A)))
      | ((with_reducible refine g_load ?_); first | (refine sx_load_all H A tbOk rfl rfl rfl rfl rfl ?_; clear A; intro a A) | (refine sx_load H A tbOk rfl rfl rfl rfl ?_; clear A; intro a A))
      | ((with_reducible refine g_store ?_); refine sx_store H A tbOk rfl rfl rfl rfl ?_; clear H; intro w_ H)
      | ((with_reducible refine g_box ?_); refine sx_box H A rfl rfl rfl ?_; clear H A; intro b_ a w_ A H)
      | ((with_reducible refine g_alloc ?_); refine sx_alloc H A tbOk rfl rfl rfl ?_; clear H A; intro b_ a w_ A H)
      | ((with_reducible refine g_build ?_); refine sx_build A tbOk rfl rfl rfl rfl rfl rfl ?_; clear A; intro a A)
      | ((with_reducible refine g_builtin ?_); first | (refine sx_min A rfl rfl rfl rfl ?_; clear A; intro a A) | (refine sx_max A rfl rfl rfl rfl ?_; clear A; intro a A))
      | ((with_reducible refine g_slice ?_); first | (refine sx_sstr A tbOk rfl rfl rfl rfl rfl rfl ?_; clear A; intro a A) | (refine sx_cut H A tbOk rfl rfl rfl rfl rfl rfl rfl ?_; clear A H; intro A_ c_ a hc_ A H))
      | ((with_reducible refine g_index ?_); refine sx_sidx A tbOk rfl rfl rfl rfl rfl ?_; clear A; intro a A)
      | ((with_reducible refine g_idx ?_); first | (refine sx_idx H A tbOk rfl rfl rfl rfl rfl rfl ?_; clear A; intro a A) | (refine sx_oidx H A tbOk rfl rfl rfl rfl rfl rfl ?_; clear A; intro a A))
      | ((with_reducible refine g_conv ?_); refine sx_conv A tbOk rfl rfl rfl rfl rfl ?_; clear A; intro a A)
      )
    | ((with_reducible refine g_draw ?_); refine qx_region H (by kernel_rfl) (by kernel_rfl) ?_)
    | ((with_reducible refine qx_nil ?_); clear H; intro w_ F_ H)
    | ((with_reducible refine q_at ?_); first
      | (refine qx_pure A tbOk rfl rfl rfl ?_; clear A; intro a A)
      | (refine qx_skip A rfl rfl ?_; clear A; intro a A)
      | ((with_reducible refine qg_bin ?_); first | ((refine qg_int A rfl ?_); first | (refine qx_cmp A rfl rfl rfl rfl ?_; clear A; intro a A) | (refine qx_arith A rfl rfl rfl rfl ?_; clear A; intro a A)) | ((refine qg_str A rfl ?_); first | (refine qx_scmp A rfl rfl rfl rfl ?_; clear A; intro a A) | (refine qx_concat A rfl rfl rfl rfl ?_; clear A; intro a A)))
      | ((with_reducible refine qg_builtin ?_); first | (refine qx_min A rfl rfl rfl rfl ?_; clear A; intro a A) | (refine qx_max A rfl rfl rfl rfl ?_; clear A; intro a A))
      | ((with_reducible refine qg_slice ?_); refine qx_sstr A tbOk rfl rfl rfl rfl rfl rfl ?_; clear A; intro a A)
      | ((with_reducible refine qg_load ?_); refine qx_load A tbOk rfl rfl rfl rfl ?_; clear A; intro a A)
      | ((with_reducible refine qg_idx ?_); first | (refine qx_idx H A tbOk rfl rfl rfl rfl rfl rfl ?_; clear A; intro a A) | (refine qx_oidx H A tbOk rfl rfl rfl rfl rfl rfl ?_; clear A; intro a A)))
    )
end
end Go.Proofs.YtniplmjbligmlaaDoor.V

/-! Layer 2 of the program, walked: a text's sum; and the references of layers 1 and 2 that it is held against. -/
namespace Go.Proofs.YtniplmjbligmlaaDoor.V
open Go.RowKit
set_option linter.unusedVariables false
set_option linter.unusedSimpArgs false
section
variable {M F0 F : Nat → Prop} {w0 w : World} {B : List Box} {R : List (World → Prop)} {K : Ending → World → Prop}
set_option maxRecDepth 100000
set_option maxHeartbeats 4000000
theorem sl_crc_step (H : St M F0 w0 F B R w) {r : W32} (k : ∀ Fx w', St M F0 w0 Fx B R w' → K (.returned (.int .u32 (stp r).toNat)) w') : Calls Tryd.prog 97 #[.int .u32 (r.toNat : Int)] w K := by
  refine St.fn0 H (R0 := []) no_mem (fun H => ?_)
  refine sx_enter Tryd.func97 Tryd.ntmps97 rfl rfl (fun a A => ?_)
  have hl := low1 r
  have hst : stp r = if r.getLsbD 0 then (r >>> 1) ^^^ BitVec.ofInt 32 3988292384 else r >>> 1 := rfl
  cases h : r.getLsbD 0
  all_goals
    rw [h] at hl hst
    simp only [if_true, if_false, Bool.false_eq_true] at hl hst
    rw [hst] at k
    repeat' (first
    | (refine sx_ret tbOk H A rfl ?_; exact H.ret0 fun Fx Hx => k Fx _ Hx)
    | with_reducible refine wp_seq ?_
    | with_reducible refine sx_region ?_
    | with_reducible refine wp_block ?_
    | with_reducible refine wpList_nil ?_
    | with_reducible refine sx_then ?_
    | with_reducible refine sx_inb ?_
    | with_reducible refine wp_skip ?_
    | with_reducible refine wp_ret ?_
    | with_reducible refine wp_exit ?_
    | with_reducible refine sx_then_ret ?_
    | with_reducible refine sx_inb_ret ?_
    | with_reducible refine sx_then_exit ?_
    | with_reducible refine sx_inb_exit ?_
    | with_reducible refine sx_inb_other rfl ?_
    | with_reducible refine sx_if_t A rfl ?_
    | with_reducible refine sx_if_f A rfl ?_
    | ((with_reducible refine sx_at ?_); first
      | (refine sx_pure A tbOk rfl rfl rfl ?_; clear A; intro a A)
      | (refine sx_skip A rfl rfl ?_; clear A; intro a A)
      | ((with_reducible refine g_bin ?_); first | ((refine g_int A rfl ?_); first | (refine sx_cmp A rfl rfl rfl rfl ?_; clear A; intro a A) | (refine sx_arith A rfl rfl rfl rfl ?_; clear A; intro a A) | (refine sx_shl A rfl rfl rfl rfl ?_; clear A; intro a A) | (refine sx_shr A rfl rfl rfl rfl ?_; clear A; intro a A)) | ((refine g_str A rfl ?_); first | (refine sx_scmp A rfl rfl rfl rfl ?_; clear A; intro a A) | (refine sx_concat A rfl rfl rfl rfl ?_; clear A; intro a A)))
      | ((with_reducible refine g_load ?_); first | (refine sx_load_all H A tbOk rfl rfl rfl rfl rfl ?_; clear A; intro a A) | (refine sx_load H A tbOk rfl rfl rfl rfl ?_; clear A; intro a A))
      | ((with_reducible refine g_store ?_); refine sx_store H A tbOk rfl rfl rfl rfl ?_; clear H; intro w_ H)
      | ((with_reducible refine g_box ?_); refine sx_box H A rfl rfl rfl ?_; clear H A; intro b_ a w_ A H)
      | ((with_reducible refine g_alloc ?_); refine sx_alloc H A tbOk rfl rfl rfl ?_; clear H A; intro b_ a w_ A H)
      | ((with_reducible refine g_build ?_); refine sx_build A tbOk rfl rfl rfl rfl rfl rfl ?_; clear A; intro a A)
      | ((with_reducible refine g_builtin ?_); first | (refine sx_min A rfl rfl rfl rfl ?_; clear A; intro a A) | (refine sx_max A rfl rfl rfl rfl ?_; clear A; intro a A))
      | ((with_reducible refine g_slice ?_); first | (refine sx_sstr A tbOk rfl rfl rfl rfl rfl rfl ?_; clear A; intro a A) | (refine sx_cut H A tbOk rfl rfl rfl rfl rfl rfl rfl ?_; clear A H; intro A_ c_ a hc_ A H))
      | ((with_reducible refine g_index ?_); refine sx_sidx A tbOk rfl rfl rfl rfl rfl ?_; clear A; intro a A)
      | ((with_reducible refine g_idx ?_); first | (refine sx_idx H A tbOk rfl rfl rfl rfl rfl rfl ?_; clear A; intro a A) | (refine sx_oidx H A tbOk rfl rfl rfl rfl rfl rfl ?_; clear A; intro a A))
      | ((with_reducible refine g_conv ?_); refine sx_conv A tbOk rfl rfl rfl rfl rfl ?_; clear A; intro a A)
      )
    | ((with_reducible refine g_draw ?_); refine qx_region H (by kernel_rfl) (by kernel_rfl) ?_)
    | ((with_reducible refine qx_nil ?_); clear H; intro w_ F_ H)
    | ((with_reducible refine q_at ?_); first
      | (refine qx_pure A tbOk rfl rfl rfl ?_; clear A; intro a A)
      | (refine qx_skip A rfl rfl ?_; clear A; intro a A)
      | ((with_reducible refine qg_bin ?_); first | ((refine qg_int A rfl ?_); first | (refine qx_cmp A rfl rfl rfl rfl ?_; clear A; intro a A) | (refine qx_arith A rfl rfl rfl rfl ?_; clear A; intro a A)) | ((refine qg_str A rfl ?_); first | (refine qx_scmp A rfl rfl rfl rfl ?_; clear A; intro a A) | (refine qx_concat A rfl rfl rfl rfl ?_; clear A; intro a A)))
      | ((with_reducible refine qg_builtin ?_); first | (refine qx_min A rfl rfl rfl rfl ?_; clear A; intro a A) | (refine qx_max A rfl rfl rfl rfl ?_; clear A; intro a A))
      | ((with_reducible refine qg_slice ?_); refine qx_sstr A tbOk rfl rfl rfl rfl rfl rfl ?_; clear A; intro a A)
      | ((with_reducible refine qg_load ?_); refine qx_load A tbOk rfl rfl rfl rfl ?_; clear A; intro a A)
      | ((with_reducible refine qg_idx ?_); first | (refine qx_idx H A tbOk rfl rfl rfl rfl rfl rfl ?_; clear A; intro a A) | (refine qx_oidx H A tbOk rfl rfl rfl rfl rfl rfl ?_; clear A; intro a A)))
    )
theorem sl_crc_table (H : St M F0 w0 F B R w) (k : ∀ Fx w', St M F0 w0 Fx B R w' → K (.returned (.agg tabC.toArray)) w') : Calls Tryd.prog 93 #[] w K := by
  refine St.fn0 H (R0 := []) no_mem (fun H => ?_)
  refine sx_enter Tryd.func93 Tryd.ntmps93 rfl rfl (fun a A => ?_)
  repeat' (first
    | ((with_reducible refine g_alloc ?_); refine sx_alloc H A tbOk rfl rfl rfl ?_; clear H A; intro b a w_ A H)
    | with_reducible refine wp_seq ?_
    | with_reducible refine sx_region ?_
    | with_reducible refine wp_block ?_
    | with_reducible refine wpList_nil ?_
    | with_reducible refine sx_then ?_
    | with_reducible refine sx_inb ?_
    | with_reducible refine wp_skip ?_
    | with_reducible refine wp_ret ?_
    | with_reducible refine wp_exit ?_
    | with_reducible refine sx_then_ret ?_
    | with_reducible refine sx_inb_ret ?_
    | with_reducible refine sx_then_exit ?_
    | with_reducible refine sx_inb_exit ?_
    | with_reducible refine sx_inb_other rfl ?_
    | with_reducible refine sx_if_t A rfl ?_
    | with_reducible refine sx_if_f A rfl ?_
    | ((with_reducible refine sx_at ?_); first
      | (refine sx_pure A tbOk rfl rfl rfl ?_; clear A; intro a A)
      | (refine sx_skip A rfl rfl ?_; clear A; intro a A)
      | ((with_reducible refine g_bin ?_); first | ((refine g_int A rfl ?_); first | (refine sx_cmp A rfl rfl rfl rfl ?_; clear A; intro a A) | (refine sx_arith A rfl rfl rfl rfl ?_; clear A; intro a A) | (refine sx_shl A rfl rfl rfl rfl ?_; clear A; intro a A) | (refine sx_shr A rfl rfl rfl rfl ?_; clear A; intro a A)) | ((refine g_str A rfl ?_); first | (refine sx_scmp A rfl rfl rfl rfl ?_; clear A; intro a A) | (refine sx_concat A rfl rfl rfl rfl ?_; clear A; intro a A)))
      | ((with_reducible refine g_load ?_); first | (refine sx_load_all H A tbOk rfl rfl rfl rfl rfl ?_; clear A; intro a A) | (refine sx_load H A tbOk rfl rfl rfl rfl ?_; clear A; intro a A))
      | ((with_reducible refine g_store ?_); refine sx_store H A tbOk rfl rfl rfl rfl ?_; clear H; intro w_ H)
      | ((with_reducible refine g_box ?_); refine sx_box H A rfl rfl rfl ?_; clear H A; intro b_ a w_ A H)
      | ((with_reducible refine g_alloc ?_); refine sx_alloc H A tbOk rfl rfl rfl ?_; clear H A; intro b_ a w_ A H)
      | ((with_reducible refine g_build ?_); refine sx_build A tbOk rfl rfl rfl rfl rfl rfl ?_; clear A; intro a A)
      | ((with_reducible refine g_builtin ?_); first | (refine sx_min A rfl rfl rfl rfl ?_; clear A; intro a A) | (refine sx_max A rfl rfl rfl rfl ?_; clear A; intro a A))
      | ((with_reducible refine g_slice ?_); first | (refine sx_sstr A tbOk rfl rfl rfl rfl rfl rfl ?_; clear A; intro a A) | (refine sx_cut H A tbOk rfl rfl rfl rfl rfl rfl rfl ?_; clear A H; intro A_ c_ a hc_ A H))
      | ((with_reducible refine g_index ?_); refine sx_sidx A tbOk rfl rfl rfl rfl rfl ?_; clear A; intro a A)
      | ((with_reducible refine g_idx ?_); first | (refine sx_idx H A tbOk rfl rfl rfl rfl rfl rfl ?_; clear A; intro a A) | (refine sx_oidx H A tbOk rfl rfl rfl rfl rfl rfl ?_; clear A; intro a A))
      | ((with_reducible refine g_conv ?_); refine sx_conv A tbOk rfl rfl rfl rfl rfl ?_; clear A; intro a A)
      )
    | ((with_reducible refine g_draw ?_); refine qx_region H (by kernel_rfl) (by kernel_rfl) ?_)
    | ((with_reducible refine qx_nil ?_); clear H; intro w_ F_ H)
    | ((with_reducible refine q_at ?_); first
      | (refine qx_pure A tbOk rfl rfl rfl ?_; clear A; intro a A)
      | (refine qx_skip A rfl rfl ?_; clear A; intro a A)
      | ((with_reducible refine qg_bin ?_); first | ((refine qg_int A rfl ?_); first | (refine qx_cmp A rfl rfl rfl rfl ?_; clear A; intro a A) | (refine qx_arith A rfl rfl rfl rfl ?_; clear A; intro a A)) | ((refine qg_str A rfl ?_); first | (refine qx_scmp A rfl rfl rfl rfl ?_; clear A; intro a A) | (refine qx_concat A rfl rfl rfl rfl ?_; clear A; intro a A)))
      | ((with_reducible refine qg_builtin ?_); first | (refine qx_min A rfl rfl rfl rfl ?_; clear A; intro a A) | (refine qx_max A rfl rfl rfl rfl ?_; clear A; intro a A))
      | ((with_reducible refine qg_slice ?_); refine qx_sstr A tbOk rfl rfl rfl rfl rfl rfl ?_; clear A; intro a A)
      | ((with_reducible refine qg_load ?_); refine qx_load A tbOk rfl rfl rfl rfl ?_; clear A; intro a A)
      | ((with_reducible refine qg_idx ?_); first | (refine qx_idx H A tbOk rfl rfl rfl rfl rfl rfl ?_; clear A; intro a A) | (refine qx_oidx H A tbOk rfl rfl rfl rfl rfl rfl ?_; clear A; intro a A)))
    )
  rename_i b0 _ _ _ _
  replace H := H.drop (B' := [.mk b 137 (fillR tabC (.int .u32 0) 0), .mk b0 137 (List.replicate 16 (.int .u32 0))]) (List.Sublist.refl _)
  refine sx_rounds (fun i : Nat => i ≤ 16) (fun i => [(5, .int .i64 (i : Int)), (2, _), (1, _), (0, _)]) (fun i => [.mk b 137 (fillR tabC (.int .u32 0) i), _]) (fun _ => []) (fun i => 16 - i) 0 H A.subs (Nat.zero_le _) (fun i F a W hi H A => ?_)
  have hfl : (fillR tabC (.int .u32 0) i).length = 16 := fillR_len tabC _ i hi
  rcases Nat.lt_or_ge i 16 with hlt | hge
  · have hcv : IntKind.u32.wrap (i : Int) = ((BitVec.ofNat 32 i).toNat : Int) := by
      rw [wrap_u32 (by omega) (by omega), BitVec.toNat_ofNat, Nat.mod_eq_of_lt (by omega)]
    repeat' (first
    | with_reducible refine wp_seq ?_
    | with_reducible refine sx_region ?_
    | with_reducible refine wp_block ?_
    | with_reducible refine wpList_nil ?_
    | with_reducible refine sx_then ?_
    | with_reducible refine sx_inb ?_
    | with_reducible refine wp_skip ?_
    | with_reducible refine wp_ret ?_
    | with_reducible refine wp_exit ?_
    | with_reducible refine sx_then_ret ?_
    | with_reducible refine sx_inb_ret ?_
    | with_reducible refine sx_then_exit ?_
    | with_reducible refine sx_inb_exit ?_
    | with_reducible refine sx_inb_other rfl ?_
    | with_reducible refine sx_if_t A rfl ?_
    | with_reducible refine sx_if_f A rfl ?_
    | ((with_reducible refine sx_at ?_); first
      | (refine sx_pure A tbOk rfl rfl rfl ?_; clear A; intro a A)
      | (refine sx_skip A rfl rfl ?_; clear A; intro a A)
      | ((with_reducible refine g_bin ?_); first | ((refine g_int A rfl ?_); first | (refine sx_cmp A rfl rfl rfl rfl ?_; clear A; intro a A) | (refine sx_arith A rfl rfl rfl rfl ?_; clear A; intro a A) | (refine sx_shl A rfl rfl rfl rfl ?_; clear A; intro a A) | (refine sx_shr A rfl rfl rfl rfl ?_; clear A; intro a A)) | ((refine g_str A rfl ?_); first | (refine sx_scmp A rfl rfl rfl rfl ?_; clear A; intro a A) | (refine sx_concat A rfl rfl rfl rfl ?_; clear A; intro a A)))
      | ((with_reducible refine g_load ?_); first | (refine sx_load_all H A tbOk rfl rfl rfl rfl rfl ?_; clear A; intro a A) | (refine sx_load H A tbOk rfl rfl rfl rfl ?_; clear A; intro a A))
      | ((with_reducible refine g_store ?_); refine sx_store H A tbOk rfl rfl rfl rfl ?_; clear H; intro w_ H)
      | ((with_reducible refine g_box ?_); refine sx_box H A rfl rfl rfl ?_; clear H A; intro b_ a w_ A H)
      | ((with_reducible refine g_alloc ?_); refine sx_alloc H A tbOk rfl rfl rfl ?_; clear H A; intro b_ a w_ A H)
      | ((with_reducible refine g_build ?_); refine sx_build A tbOk rfl rfl rfl rfl rfl rfl ?_; clear A; intro a A)
      | ((with_reducible refine g_builtin ?_); first | (refine sx_min A rfl rfl rfl rfl ?_; clear A; intro a A) | (refine sx_max A rfl rfl rfl rfl ?_; clear A; intro a A))
      | ((with_reducible refine g_slice ?_); first | (refine sx_sstr A tbOk rfl rfl rfl rfl rfl rfl ?_; clear A; intro a A) | (refine sx_cut H A tbOk rfl rfl rfl rfl rfl rfl rfl ?_; clear A H; intro A_ c_ a hc_ A H))
      | ((with_reducible refine g_index ?_); refine sx_sidx A tbOk rfl rfl rfl rfl rfl ?_; clear A; intro a A)
      | ((with_reducible refine g_idx ?_); first | (refine sx_idx H A tbOk rfl rfl rfl rfl rfl rfl ?_; clear A; intro a A) | (refine sx_oidx H A tbOk rfl rfl rfl rfl rfl rfl ?_; clear A; intro a A))
      | ((with_reducible refine g_conv ?_); refine sx_conv A tbOk rfl rfl rfl rfl rfl ?_; clear A; intro a A)
      )
    | ((with_reducible refine g_draw ?_); refine qx_region H (by kernel_rfl) (by kernel_rfl) ?_)
    | ((with_reducible refine qx_nil ?_); clear H; intro w_ F_ H)
    | ((with_reducible refine q_at ?_); first
      | (refine qx_pure A tbOk rfl rfl rfl ?_; clear A; intro a A)
      | (refine qx_skip A rfl rfl ?_; clear A; intro a A)
      | ((with_reducible refine qg_bin ?_); first | ((refine qg_int A rfl ?_); first | (refine qx_cmp A rfl rfl rfl rfl ?_; clear A; intro a A) | (refine qx_arith A rfl rfl rfl rfl ?_; clear A; intro a A)) | ((refine qg_str A rfl ?_); first | (refine qx_scmp A rfl rfl rfl rfl ?_; clear A; intro a A) | (refine qx_concat A rfl rfl rfl rfl ?_; clear A; intro a A)))
      | ((with_reducible refine qg_builtin ?_); first | (refine qx_min A rfl rfl rfl rfl ?_; clear A; intro a A) | (refine qx_max A rfl rfl rfl rfl ?_; clear A; intro a A))
      | ((with_reducible refine qg_slice ?_); refine qx_sstr A tbOk rfl rfl rfl rfl rfl rfl ?_; clear A; intro a A)
      | ((with_reducible refine qg_load ?_); refine qx_load A tbOk rfl rfl rfl rfl ?_; clear A; intro a A)
      | ((with_reducible refine qg_idx ?_); first | (refine qx_idx H A tbOk rfl rfl rfl rfl rfl rfl ?_; clear A; intro a A) | (refine qx_oidx H A tbOk rfl rfl rfl rfl rfl rfl ?_; clear A; intro a A)))
    )
    refine sx_rounds (fun j : Nat => j ≤ 4) (fun j => [(10, .int .i64 (j : Int)), (4, .int .u32 ((stpN j (BitVec.ofNat 32 i)).toNat : Int)), (3, _), (5, _), (2, _), (1, _), (0, _)]) (fun i => [_, _]) (fun _ => []) (fun j => 4 - j) 0 H A.subs (Nat.zero_le _) (fun j F a W hj H A => ?_)
    rcases Nat.lt_or_ge j 4 with hjt | hjg
    · repeat' (first
    | ((with_reducible refine g_call ?_); refine sx_callv (f := 97) A rfl rfl Tryd.call97 rfl rfl rfl ?_; refine sl_crc_step H ?_; clear H; intro F_ w_ H; refine ⟨_, rfl, ?_⟩; clear A; intro a A)
    | with_reducible refine wp_seq ?_
    | with_reducible refine sx_region ?_
    | with_reducible refine wp_block ?_
    | with_reducible refine wpList_nil ?_
    | with_reducible refine sx_then ?_
    | with_reducible refine sx_inb ?_
    | with_reducible refine wp_skip ?_
    | with_reducible refine wp_ret ?_
    | with_reducible refine wp_exit ?_
    | with_reducible refine sx_then_ret ?_
    | with_reducible refine sx_inb_ret ?_
    | with_reducible refine sx_then_exit ?_
    | with_reducible refine sx_inb_exit ?_
    | with_reducible refine sx_inb_other rfl ?_
    | with_reducible refine sx_if_t A rfl ?_
    | with_reducible refine sx_if_f A rfl ?_
    | ((with_reducible refine sx_at ?_); first
      | (refine sx_pure A tbOk rfl rfl rfl ?_; clear A; intro a A)
      | (refine sx_skip A rfl rfl ?_; clear A; intro a A)
      | ((with_reducible refine g_bin ?_); first | ((refine g_int A rfl ?_); first | (refine sx_cmp A rfl rfl rfl rfl ?_; clear A; intro a A) | (refine sx_arith A rfl rfl rfl rfl ?_; clear A; intro a A) | (refine sx_shl A rfl rfl rfl rfl ?_; clear A; intro a A) | (refine sx_shr A rfl rfl rfl rfl ?_; clear A; intro a A)) | ((refine g_str A rfl ?_); first | (refine sx_scmp A rfl rfl rfl rfl ?_; clear A; intro a A) | (refine sx_concat A rfl rfl rfl rfl ?_; clear A; intro a A)))
      | ((with_reducible refine g_load ?_); first | (refine sx_load_all H A tbOk rfl rfl rfl rfl rfl ?_; clear A; intro a A) | (refine sx_load H A tbOk rfl rfl rfl rfl ?_; clear A; intro a A))
      | ((with_reducible refine g_store ?_); refine sx_store H A tbOk rfl rfl rfl rfl ?_; clear H; intro w_ H)
      | ((with_reducible refine g_box ?_); refine sx_box H A rfl rfl rfl ?_; clear H A; intro b_ a w_ A H)
      | ((with_reducible refine g_alloc ?_); refine sx_alloc H A tbOk rfl rfl rfl ?_; clear H A; intro b_ a w_ A H)
      | ((with_reducible refine g_build ?_); refine sx_build A tbOk rfl rfl rfl rfl rfl rfl ?_; clear A; intro a A)
      | ((with_reducible refine g_builtin ?_); first | (refine sx_min A rfl rfl rfl rfl ?_; clear A; intro a A) | (refine sx_max A rfl rfl rfl rfl ?_; clear A; intro a A))
      | ((with_reducible refine g_slice ?_); first | (refine sx_sstr A tbOk rfl rfl rfl rfl rfl rfl ?_; clear A; intro a A) | (refine sx_cut H A tbOk rfl rfl rfl rfl rfl rfl rfl ?_; clear A H; intro A_ c_ a hc_ A H))
      | ((with_reducible refine g_index ?_); refine sx_sidx A tbOk rfl rfl rfl rfl rfl ?_; clear A; intro a A)
      | ((with_reducible refine g_idx ?_); first | (refine sx_idx H A tbOk rfl rfl rfl rfl rfl rfl ?_; clear A; intro a A) | (refine sx_oidx H A tbOk rfl rfl rfl rfl rfl rfl ?_; clear A; intro a A))
      | ((with_reducible refine g_conv ?_); refine sx_conv A tbOk rfl rfl rfl rfl rfl ?_; clear A; intro a A)
      )
    | ((with_reducible refine g_draw ?_); refine qx_region H (by kernel_rfl) (by kernel_rfl) ?_)
    | ((with_reducible refine qx_nil ?_); clear H; intro w_ F_ H)
    | ((with_reducible refine q_at ?_); first
      | (refine qx_pure A tbOk rfl rfl rfl ?_; clear A; intro a A)
      | (refine qx_skip A rfl rfl ?_; clear A; intro a A)
      | ((with_reducible refine qg_bin ?_); first | ((refine qg_int A rfl ?_); first | (refine qx_cmp A rfl rfl rfl rfl ?_; clear A; intro a A) | (refine qx_arith A rfl rfl rfl rfl ?_; clear A; intro a A)) | ((refine qg_str A rfl ?_); first | (refine qx_scmp A rfl rfl rfl rfl ?_; clear A; intro a A) | (refine qx_concat A rfl rfl rfl rfl ?_; clear A; intro a A)))
      | ((with_reducible refine qg_builtin ?_); first | (refine qx_min A rfl rfl rfl rfl ?_; clear A; intro a A) | (refine qx_max A rfl rfl rfl rfl ?_; clear A; intro a A))
      | ((with_reducible refine qg_slice ?_); refine qx_sstr A tbOk rfl rfl rfl rfl rfl rfl ?_; clear A; intro a A)
      | ((with_reducible refine qg_load ?_); refine qx_load A tbOk rfl rfl rfl rfl ?_; clear A; intro a A)
      | ((with_reducible refine qg_idx ?_); first | (refine qx_idx H A tbOk rfl rfl rfl rfl rfl rfl ?_; clear A; intro a A) | (refine qx_oidx H A tbOk rfl rfl rfl rfl rfl rfl ?_; clear A; intro a A)))
    )
      exact ⟨j + 1, _, by omega, by omega, H, by rw [stpN_succ]; exact A.subs⟩
    · have hj4 : j = 4 := by omega
      rw [hj4] at A
      have hput : putC (fillR tabC (.int .u32 0) i) (0 + i * 1) [Value.int .u32 ((stpN 4 (BitVec.ofNat 32 i)).toNat : Int)] = fillR tabC (.int .u32 0) (i + 1) := by
        rw [show 0 + i * 1 = i by omega]; exact putC_fill tabC (.int .u32 0) _ i (tabC_at i hlt)
      have hle : Nat.ble (0 + i * 1 + 1) (fillR tabC (.int .u32 0) i).length = true := Nat.ble_eq_true_of_le (by rw [hfl]; omega)
      repeat' (first
    | ((with_reducible refine g_idx ?_); refine sx_aidx A tbOk rfl rfl rfl rfl rfl rfl ?_; clear A; intro a A)
    | ((with_reducible refine g_store ?_); refine sx_store H A tbOk rfl rfl rfl rfl ?_ (hu := Upd.hd) (hc := hput) (hl := hle); clear H; intro w_ H)
    | with_reducible refine wp_seq ?_
    | with_reducible refine sx_region ?_
    | with_reducible refine wp_block ?_
    | with_reducible refine wpList_nil ?_
    | with_reducible refine sx_then ?_
    | with_reducible refine sx_inb ?_
    | with_reducible refine wp_skip ?_
    | with_reducible refine wp_ret ?_
    | with_reducible refine wp_exit ?_
    | with_reducible refine sx_then_ret ?_
    | with_reducible refine sx_inb_ret ?_
    | with_reducible refine sx_then_exit ?_
    | with_reducible refine sx_inb_exit ?_
    | with_reducible refine sx_inb_other rfl ?_
    | with_reducible refine sx_if_t A rfl ?_
    | with_reducible refine sx_if_f A rfl ?_
    | ((with_reducible refine sx_at ?_); first
      | (refine sx_pure A tbOk rfl rfl rfl ?_; clear A; intro a A)
      | (refine sx_skip A rfl rfl ?_; clear A; intro a A)
      | ((with_reducible refine g_bin ?_); first | ((refine g_int A rfl ?_); first | (refine sx_cmp A rfl rfl rfl rfl ?_; clear A; intro a A) | (refine sx_arith A rfl rfl rfl rfl ?_; clear A; intro a A) | (refine sx_shl A rfl rfl rfl rfl ?_; clear A; intro a A) | (refine sx_shr A rfl rfl rfl rfl ?_; clear A; intro a A)) | ((refine g_str A rfl ?_); first | (refine sx_scmp A rfl rfl rfl rfl ?_; clear A; intro a A) | (refine sx_concat A rfl rfl rfl rfl ?_; clear A; intro a A)))
      | ((with_reducible refine g_load ?_); first | (refine sx_load_all H A tbOk rfl rfl rfl rfl rfl ?_; clear A; intro a A) | (refine sx_load H A tbOk rfl rfl rfl rfl ?_; clear A; intro a A))
      | ((with_reducible refine g_store ?_); refine sx_store H A tbOk rfl rfl rfl rfl ?_; clear H; intro w_ H)
      | ((with_reducible refine g_box ?_); refine sx_box H A rfl rfl rfl ?_; clear H A; intro b_ a w_ A H)
      | ((with_reducible refine g_alloc ?_); refine sx_alloc H A tbOk rfl rfl rfl ?_; clear H A; intro b_ a w_ A H)
      | ((with_reducible refine g_build ?_); refine sx_build A tbOk rfl rfl rfl rfl rfl rfl ?_; clear A; intro a A)
      | ((with_reducible refine g_builtin ?_); first | (refine sx_min A rfl rfl rfl rfl ?_; clear A; intro a A) | (refine sx_max A rfl rfl rfl rfl ?_; clear A; intro a A))
      | ((with_reducible refine g_slice ?_); first | (refine sx_sstr A tbOk rfl rfl rfl rfl rfl rfl ?_; clear A; intro a A) | (refine sx_cut H A tbOk rfl rfl rfl rfl rfl rfl rfl ?_; clear A H; intro A_ c_ a hc_ A H))
      | ((with_reducible refine g_index ?_); refine sx_sidx A tbOk rfl rfl rfl rfl rfl ?_; clear A; intro a A)
      | ((with_reducible refine g_idx ?_); first | (refine sx_idx H A tbOk rfl rfl rfl rfl rfl rfl ?_; clear A; intro a A) | (refine sx_oidx H A tbOk rfl rfl rfl rfl rfl rfl ?_; clear A; intro a A))
      | ((with_reducible refine g_conv ?_); refine sx_conv A tbOk rfl rfl rfl rfl rfl ?_; clear A; intro a A)
      )
    | ((with_reducible refine g_draw ?_); refine qx_region H (by kernel_rfl) (by kernel_rfl) ?_)
    | ((with_reducible refine qx_nil ?_); clear H; intro w_ F_ H)
    | ((with_reducible refine q_at ?_); first
      | (refine qx_pure A tbOk rfl rfl rfl ?_; clear A; intro a A)
      | (refine qx_skip A rfl rfl ?_; clear A; intro a A)
      | ((with_reducible refine qg_bin ?_); first | ((refine qg_int A rfl ?_); first | (refine qx_cmp A rfl rfl rfl rfl ?_; clear A; intro a A) | (refine qx_arith A rfl rfl rfl rfl ?_; clear A; intro a A)) | ((refine qg_str A rfl ?_); first | (refine qx_scmp A rfl rfl rfl rfl ?_; clear A; intro a A) | (refine qx_concat A rfl rfl rfl rfl ?_; clear A; intro a A)))
      | ((with_reducible refine qg_builtin ?_); first | (refine qx_min A rfl rfl rfl rfl ?_; clear A; intro a A) | (refine qx_max A rfl rfl rfl rfl ?_; clear A; intro a A))
      | ((with_reducible refine qg_slice ?_); refine qx_sstr A tbOk rfl rfl rfl rfl rfl rfl ?_; clear A; intro a A)
      | ((with_reducible refine qg_load ?_); refine qx_load A tbOk rfl rfl rfl rfl ?_; clear A; intro a A)
      | ((with_reducible refine qg_idx ?_); first | (refine qx_idx H A tbOk rfl rfl rfl rfl rfl rfl ?_; clear A; intro a A) | (refine qx_oidx H A tbOk rfl rfl rfl rfl rfl rfl ?_; clear A; intro a A)))
    )
      exact ⟨i + 1, _, by omega, by omega, H, A.subs⟩
  · have h16 : i = 16 := by omega
    rw [h16, show fillR tabC (.int .u32 0) 16 = tabC from fillR_all tabC _] at H
    clear hfl
    repeat' (first
    | ((with_reducible refine g_store ?_); refine sx_store H A tbOk rfl rfl rfl rfl ?_ (hu := Upd.tl Upd.hd) (hc := (putC_all _ _ rfl : putC _ 0 tabC = tabC)); clear H; intro w_ H)
    | (refine sx_ret tbOk H A rfl ?_; exact H.ret0 fun Fx Hx => k Fx _ Hx)
    | with_reducible refine wp_seq ?_
    | with_reducible refine sx_region ?_
    | with_reducible refine wp_block ?_
    | with_reducible refine wpList_nil ?_
    | with_reducible refine sx_then ?_
    | with_reducible refine sx_inb ?_
    | with_reducible refine wp_skip ?_
    | with_reducible refine wp_ret ?_
    | with_reducible refine wp_exit ?_
    | with_reducible refine sx_then_ret ?_
    | with_reducible refine sx_inb_ret ?_
    | with_reducible refine sx_then_exit ?_
    | with_reducible refine sx_inb_exit ?_
    | with_reducible refine sx_inb_other rfl ?_
    | with_reducible refine sx_if_t A rfl ?_
    | with_reducible refine sx_if_f A rfl ?_
    | ((with_reducible refine sx_at ?_); first
      | (refine sx_pure A tbOk rfl rfl rfl ?_; clear A; intro a A)
      | (refine sx_skip A rfl rfl ?_; clear A; intro a A)
      | ((with_reducible refine g_bin ?_); first | ((refine g_int A rfl ?_); first | (refine sx_cmp A rfl rfl rfl rfl ?_; clear A; intro a A) | (refine sx_arith A rfl rfl rfl rfl ?_; clear A; intro a A) | (refine sx_shl A rfl rfl rfl rfl ?_; clear A; intro a A) | (refine sx_shr A rfl rfl rfl rfl ?_; clear A; intro a A)) | ((refine g_str A rfl ?_); first | (refine sx_scmp A rfl rfl rfl rfl ?_; clear A; intro a A) | (refine sx_concat A rfl rfl rfl rfl ?_; clear A; intro a A)))
      | ((with_reducible refine g_load ?_); first | (refine sx_load_all H A tbOk rfl rfl rfl rfl rfl ?_; clear A; intro a A) | (refine sx_load H A tbOk rfl rfl rfl rfl ?_; clear A; intro a A))
      | ((with_reducible refine g_store ?_); refine sx_store H A tbOk rfl rfl rfl rfl ?_; clear H; intro w_ H)
      | ((with_reducible refine g_box ?_); refine sx_box H A rfl rfl rfl ?_; clear H A; intro b_ a w_ A H)
      | ((with_reducible refine g_alloc ?_); refine sx_alloc H A tbOk rfl rfl rfl ?_; clear H A; intro b_ a w_ A H)
      | ((with_reducible refine g_build ?_); refine sx_build A tbOk rfl rfl rfl rfl rfl rfl ?_; clear A; intro a A)
      | ((with_reducible refine g_builtin ?_); first | (refine sx_min A rfl rfl rfl rfl ?_; clear A; intro a A) | (refine sx_max A rfl rfl rfl rfl ?_; clear A; intro a A))
      | ((with_reducible refine g_slice ?_); first | (refine sx_sstr A tbOk rfl rfl rfl rfl rfl rfl ?_; clear A; intro a A) | (refine sx_cut H A tbOk rfl rfl rfl rfl rfl rfl rfl ?_; clear A H; intro A_ c_ a hc_ A H))
      | ((with_reducible refine g_index ?_); refine sx_sidx A tbOk rfl rfl rfl rfl rfl ?_; clear A; intro a A)
      | ((with_reducible refine g_idx ?_); first | (refine sx_idx H A tbOk rfl rfl rfl rfl rfl rfl ?_; clear A; intro a A) | (refine sx_oidx H A tbOk rfl rfl rfl rfl rfl rfl ?_; clear A; intro a A))
      | ((with_reducible refine g_conv ?_); refine sx_conv A tbOk rfl rfl rfl rfl rfl ?_; clear A; intro a A)
      )
    | ((with_reducible refine g_draw ?_); refine qx_region H (by kernel_rfl) (by kernel_rfl) ?_)
    | ((with_reducible refine qx_nil ?_); clear H; intro w_ F_ H)
    | ((with_reducible refine q_at ?_); first
      | (refine qx_pure A tbOk rfl rfl rfl ?_; clear A; intro a A)
      | (refine qx_skip A rfl rfl ?_; clear A; intro a A)
      | ((with_reducible refine qg_bin ?_); first | ((refine qg_int A rfl ?_); first | (refine qx_cmp A rfl rfl rfl rfl ?_; clear A; intro a A) | (refine qx_arith A rfl rfl rfl rfl ?_; clear A; intro a A)) | ((refine qg_str A rfl ?_); first | (refine qx_scmp A rfl rfl rfl rfl ?_; clear A; intro a A) | (refine qx_concat A rfl rfl rfl rfl ?_; clear A; intro a A)))
      | ((with_reducible refine qg_builtin ?_); first | (refine qx_min A rfl rfl rfl rfl ?_; clear A; intro a A) | (refine qx_max A rfl rfl rfl rfl ?_; clear A; intro a A))
      | ((with_reducible refine qg_slice ?_); refine qx_sstr A tbOk rfl rfl rfl rfl rfl rfl ?_; clear A; intro a A)
      | ((with_reducible refine qg_load ?_); refine qx_load A tbOk rfl rfl rfl rfl ?_; clear A; intro a A)
      | ((with_reducible refine qg_idx ?_); first | (refine qx_idx H A tbOk rfl rfl rfl rfl rfl rfl ?_; clear A; intro a A) | (refine qx_oidx H A tbOk rfl rfl rfl rfl rfl rfl ?_; clear A; intro a A)))
    )
theorem sl_crc_Of (H : St M F0 w0 F B R w) {s : ByteArray} {r : W32} (h2 : s.size ≤ 4611686018427387904) (hr : crcOf (L s) = r) (k : ∀ Fx w', St M F0 w0 Fx B R w' → K (.returned (.int .u32 (r.toNat : Int))) w') : Calls Tryd.prog 86 #[.string s] w K := by
  refine St.fn0 H (R0 := []) no_mem (fun H => ?_)
  refine sx_enter Tryd.func86 Tryd.ntmps86 rfl rfl (fun a A => ?_)
  subst hr
  repeat' (first
    | ((with_reducible refine g_call ?_); refine sx_call (f := 93) A rfl Tryd.call93 rfl rfl ?_; refine sl_crc_table H ?_; clear H; intro F_ w_ H; refine ⟨_, rfl, ?_⟩; clear A; intro a A)
    | ((with_reducible refine g_store ?_); refine sx_store H A tbOk rfl rfl rfl rfl ?_ (hu := Upd.hd) (hc := (putC_all _ _ rfl : putC _ 0 tabC = tabC)); clear H; intro w_ H)
    | with_reducible refine wp_seq ?_
    | with_reducible refine sx_region ?_
    | with_reducible refine wp_block ?_
    | with_reducible refine wpList_nil ?_
    | with_reducible refine sx_then ?_
    | with_reducible refine sx_inb ?_
    | with_reducible refine wp_skip ?_
    | with_reducible refine wp_ret ?_
    | with_reducible refine wp_exit ?_
    | with_reducible refine sx_then_ret ?_
    | with_reducible refine sx_inb_ret ?_
    | with_reducible refine sx_then_exit ?_
    | with_reducible refine sx_inb_exit ?_
    | with_reducible refine sx_inb_other rfl ?_
    | with_reducible refine sx_if_t A rfl ?_
    | with_reducible refine sx_if_f A rfl ?_
    | ((with_reducible refine sx_at ?_); first
      | (refine sx_pure A tbOk rfl rfl rfl ?_; clear A; intro a A)
      | (refine sx_skip A rfl rfl ?_; clear A; intro a A)
      | ((with_reducible refine g_bin ?_); first | ((refine g_int A rfl ?_); first | (refine sx_cmp A rfl rfl rfl rfl ?_; clear A; intro a A) | (refine sx_arith A rfl rfl rfl rfl ?_; clear A; intro a A) | (refine sx_shl A rfl rfl rfl rfl ?_; clear A; intro a A) | (refine sx_shr A rfl rfl rfl rfl ?_; clear A; intro a A)) | ((refine g_str A rfl ?_); first | (refine sx_scmp A rfl rfl rfl rfl ?_; clear A; intro a A) | (refine sx_concat A rfl rfl rfl rfl ?_; clear A; intro a A)))
      | ((with_reducible refine g_load ?_); first | (refine sx_load_all H A tbOk rfl rfl rfl rfl rfl ?_; clear A; intro a A) | (refine sx_load H A tbOk rfl rfl rfl rfl ?_; clear A; intro a A))
      | ((with_reducible refine g_store ?_); refine sx_store H A tbOk rfl rfl rfl rfl ?_; clear H; intro w_ H)
      | ((with_reducible refine g_box ?_); refine sx_box H A rfl rfl rfl ?_; clear H A; intro b_ a w_ A H)
      | ((with_reducible refine g_alloc ?_); refine sx_alloc H A tbOk rfl rfl rfl ?_; clear H A; intro b_ a w_ A H)
      | ((with_reducible refine g_build ?_); refine sx_build A tbOk rfl rfl rfl rfl rfl rfl ?_; clear A; intro a A)
      | ((with_reducible refine g_builtin ?_); first | (refine sx_min A rfl rfl rfl rfl ?_; clear A; intro a A) | (refine sx_max A rfl rfl rfl rfl ?_; clear A; intro a A))
      | ((with_reducible refine g_slice ?_); first | (refine sx_sstr A tbOk rfl rfl rfl rfl rfl rfl ?_; clear A; intro a A) | (refine sx_cut H A tbOk rfl rfl rfl rfl rfl rfl rfl ?_; clear A H; intro A_ c_ a hc_ A H))
      | ((with_reducible refine g_index ?_); refine sx_sidx A tbOk rfl rfl rfl rfl rfl ?_; clear A; intro a A)
      | ((with_reducible refine g_idx ?_); first | (refine sx_idx H A tbOk rfl rfl rfl rfl rfl rfl ?_; clear A; intro a A) | (refine sx_oidx H A tbOk rfl rfl rfl rfl rfl rfl ?_; clear A; intro a A))
      | ((with_reducible refine g_conv ?_); refine sx_conv A tbOk rfl rfl rfl rfl rfl ?_; clear A; intro a A)
      )
    | ((with_reducible refine g_draw ?_); refine qx_region H (by kernel_rfl) (by kernel_rfl) ?_)
    | ((with_reducible refine qx_nil ?_); clear H; intro w_ F_ H)
    | ((with_reducible refine q_at ?_); first
      | (refine qx_pure A tbOk rfl rfl rfl ?_; clear A; intro a A)
      | (refine qx_skip A rfl rfl ?_; clear A; intro a A)
      | ((with_reducible refine qg_bin ?_); first | ((refine qg_int A rfl ?_); first | (refine qx_cmp A rfl rfl rfl rfl ?_; clear A; intro a A) | (refine qx_arith A rfl rfl rfl rfl ?_; clear A; intro a A)) | ((refine qg_str A rfl ?_); first | (refine qx_scmp A rfl rfl rfl rfl ?_; clear A; intro a A) | (refine qx_concat A rfl rfl rfl rfl ?_; clear A; intro a A)))
      | ((with_reducible refine qg_builtin ?_); first | (refine qx_min A rfl rfl rfl rfl ?_; clear A; intro a A) | (refine qx_max A rfl rfl rfl rfl ?_; clear A; intro a A))
      | ((with_reducible refine qg_slice ?_); refine qx_sstr A tbOk rfl rfl rfl rfl rfl rfl ?_; clear A; intro a A)
      | ((with_reducible refine qg_load ?_); refine qx_load A tbOk rfl rfl rfl rfl ?_; clear A; intro a A)
      | ((with_reducible refine qg_idx ?_); first | (refine qx_idx H A tbOk rfl rfl rfl rfl rfl rfl ?_; clear A; intro a A) | (refine qx_oidx H A tbOk rfl rfl rfl rfl rfl rfl ?_; clear A; intro a A)))
    )
  have hsz := size_L s
  refine sx_rounds (fun i : Nat => i ≤ s.size) (fun i => [(9, .int .i64 (i : Int)), (4, .int .u32 ((regOf ((L s).take i)).toNat : Int)), (8, _), (3, _), (0, _)]) (fun i => [_]) (fun _ => []) (fun i => s.size - i) 0 H A.subs (Nat.zero_le _) (fun i F a W hi H A => ?_)
  rcases Nat.lt_or_ge i s.size with hlt | hge
  · obtain ⟨b, hb⟩ : ∃ b, (L s)[i]? = some b := ⟨_, List.getElem?_eq_getElem (by omega)⟩
    obtain ⟨hb1, hb2⟩ := List.getElem?_eq_some_iff.1 hb
    have hcv : IntKind.u32.wrap (bt s i) = ((bw b).toNat : Int) := by
      rw [bt_L s i hlt, hb2, bw_toNat]; have := b.toNat_lt; exact wrap_u32 (by omega) (by omega)
    obtain ⟨r0, hr0⟩ : ∃ r0, regOf ((L s).take i) = r0 := ⟨_, rfl⟩
    have hnx : regOf ((L s).take (i + 1)) = byN r0 b := by rw [regOf_snoc (L s) i hb1, hb2, hr0]
    rw [hr0] at A
    have f1 := and15 (r0 ^^^ bw b)
    obtain ⟨x1, hx1⟩ : ∃ x1 : BitVec 32, r0 ^^^ bw b = x1 := ⟨_, rfl⟩
    rw [hx1] at f1
    have f2 := and15 (x1 >>> 4 ^^^ tab (x1 &&& BitVec.ofInt 32 15).toNat)
    have hxor := bv_xor r0 (bw b)
    rw [hx1] at hxor
    have l1 := loadTab (i := ⟨.int .u32, 1, 4, [.int .u32 0]⟩) rfl f1
    have l2 := loadTab (i := ⟨.int .u32, 1, 4, [.int .u32 0]⟩) rfl f2
    repeat' (first
    | ((with_reducible refine g_idx ?_); refine sx_aidx A tbOk rfl rfl rfl rfl rfl rfl ?_; clear A; intro a A)
    | ((with_reducible refine g_load ?_); first | (refine sx_loadAt H A tbOk rfl rfl rfl rfl l1 ?_; clear A; intro a A; replace A := A.subs (T' := [(23, _), (19, _), (3, _), (0, _), (5, _), (9, _), (8, _), (4, _)])) | (refine sx_loadAt H A tbOk rfl rfl rfl rfl l2 ?_; clear A; intro a A))
    | with_reducible refine wp_seq ?_
    | with_reducible refine sx_region ?_
    | with_reducible refine wp_block ?_
    | with_reducible refine wpList_nil ?_
    | with_reducible refine sx_then ?_
    | with_reducible refine sx_inb ?_
    | with_reducible refine wp_skip ?_
    | with_reducible refine wp_ret ?_
    | with_reducible refine wp_exit ?_
    | with_reducible refine sx_then_ret ?_
    | with_reducible refine sx_inb_ret ?_
    | with_reducible refine sx_then_exit ?_
    | with_reducible refine sx_inb_exit ?_
    | with_reducible refine sx_inb_other rfl ?_
    | with_reducible refine sx_if_t A rfl ?_
    | with_reducible refine sx_if_f A rfl ?_
    | ((with_reducible refine sx_at ?_); first
      | (refine sx_pure A tbOk rfl rfl rfl ?_; clear A; intro a A)
      | (refine sx_skip A rfl rfl ?_; clear A; intro a A)
      | ((with_reducible refine g_bin ?_); first | ((refine g_int A rfl ?_); first | (refine sx_cmp A rfl rfl rfl rfl ?_; clear A; intro a A) | (refine sx_arith A rfl rfl rfl rfl ?_; clear A; intro a A) | (refine sx_shl A rfl rfl rfl rfl ?_; clear A; intro a A) | (refine sx_shr A rfl rfl rfl rfl ?_; clear A; intro a A)) | ((refine g_str A rfl ?_); first | (refine sx_scmp A rfl rfl rfl rfl ?_; clear A; intro a A) | (refine sx_concat A rfl rfl rfl rfl ?_; clear A; intro a A)))
      | ((with_reducible refine g_load ?_); first | (refine sx_load_all H A tbOk rfl rfl rfl rfl rfl ?_; clear A; intro a A) | (refine sx_load H A tbOk rfl rfl rfl rfl ?_; clear A; intro a A))
      | ((with_reducible refine g_store ?_); refine sx_store H A tbOk rfl rfl rfl rfl ?_; clear H; intro w_ H)
      | ((with_reducible refine g_box ?_); refine sx_box H A rfl rfl rfl ?_; clear H A; intro b_ a w_ A H)
      | ((with_reducible refine g_alloc ?_); refine sx_alloc H A tbOk rfl rfl rfl ?_; clear H A; intro b_ a w_ A H)
      | ((with_reducible refine g_build ?_); refine sx_build A tbOk rfl rfl rfl rfl rfl rfl ?_; clear A; intro a A)
      | ((with_reducible refine g_builtin ?_); first | (refine sx_min A rfl rfl rfl rfl ?_; clear A; intro a A) | (refine sx_max A rfl rfl rfl rfl ?_; clear A; intro a A))
      | ((with_reducible refine g_slice ?_); first | (refine sx_sstr A tbOk rfl rfl rfl rfl rfl rfl ?_; clear A; intro a A) | (refine sx_cut H A tbOk rfl rfl rfl rfl rfl rfl rfl ?_; clear A H; intro A_ c_ a hc_ A H))
      | ((with_reducible refine g_index ?_); refine sx_sidx A tbOk rfl rfl rfl rfl rfl ?_; clear A; intro a A)
      | ((with_reducible refine g_idx ?_); first | (refine sx_idx H A tbOk rfl rfl rfl rfl rfl rfl ?_; clear A; intro a A) | (refine sx_oidx H A tbOk rfl rfl rfl rfl rfl rfl ?_; clear A; intro a A))
      | ((with_reducible refine g_conv ?_); refine sx_conv A tbOk rfl rfl rfl rfl rfl ?_; clear A; intro a A)
      )
    | ((with_reducible refine g_draw ?_); refine qx_region H (by kernel_rfl) (by kernel_rfl) ?_)
    | ((with_reducible refine qx_nil ?_); clear H; intro w_ F_ H)
    | ((with_reducible refine q_at ?_); first
      | (refine qx_pure A tbOk rfl rfl rfl ?_; clear A; intro a A)
      | (refine qx_skip A rfl rfl ?_; clear A; intro a A)
      | ((with_reducible refine qg_bin ?_); first | ((refine qg_int A rfl ?_); first | (refine qx_cmp A rfl rfl rfl rfl ?_; clear A; intro a A) | (refine qx_arith A rfl rfl rfl rfl ?_; clear A; intro a A)) | ((refine qg_str A rfl ?_); first | (refine qx_scmp A rfl rfl rfl rfl ?_; clear A; intro a A) | (refine qx_concat A rfl rfl rfl rfl ?_; clear A; intro a A)))
      | ((with_reducible refine qg_builtin ?_); first | (refine qx_min A rfl rfl rfl rfl ?_; clear A; intro a A) | (refine qx_max A rfl rfl rfl rfl ?_; clear A; intro a A))
      | ((with_reducible refine qg_slice ?_); refine qx_sstr A tbOk rfl rfl rfl rfl rfl rfl ?_; clear A; intro a A)
      | ((with_reducible refine qg_load ?_); refine qx_load A tbOk rfl rfl rfl rfl ?_; clear A; intro a A)
      | ((with_reducible refine qg_idx ?_); first | (refine qx_idx H A tbOk rfl rfl rfl rfl rfl rfl ?_; clear A; intro a A) | (refine qx_oidx H A tbOk rfl rfl rfl rfl rfl rfl ?_; clear A; intro a A)))
    )
    have hnx2 : byN r0 b = (x1 >>> 4 ^^^ tab (x1 &&& BitVec.ofInt 32 15).toNat) >>> 4 ^^^ tab ((x1 >>> 4 ^^^ tab (x1 &&& BitVec.ofInt 32 15).toNat) &&& BitVec.ofInt 32 15).toNat := by unfold byN; rw [show r0 ^^^ bw b = x1 from hx1]; rfl
    exact ⟨i + 1, _, by omega, by omega, H, by rw [hnx, hnx2]; exact A.subs⟩
  · have him : i = s.size := by omega
    rw [him, hsz, List.take_length] at A
    repeat' (first
    | ((with_reducible refine sx_at ?_); refine sx_compl A rfl rfl rfl (compl32 _) ?_; clear A; intro a A)
    | (refine sx_ret tbOk H A rfl ?_; exact H.ret0 fun Fx Hx => k Fx _ Hx)
    | with_reducible refine wp_seq ?_
    | with_reducible refine sx_region ?_
    | with_reducible refine wp_block ?_
    | with_reducible refine wpList_nil ?_
    | with_reducible refine sx_then ?_
    | with_reducible refine sx_inb ?_
    | with_reducible refine wp_skip ?_
    | with_reducible refine wp_ret ?_
    | with_reducible refine wp_exit ?_
    | with_reducible refine sx_then_ret ?_
    | with_reducible refine sx_inb_ret ?_
    | with_reducible refine sx_then_exit ?_
    | with_reducible refine sx_inb_exit ?_
    | with_reducible refine sx_inb_other rfl ?_
    | with_reducible refine sx_if_t A rfl ?_
    | with_reducible refine sx_if_f A rfl ?_
    | ((with_reducible refine sx_at ?_); first
      | (refine sx_pure A tbOk rfl rfl rfl ?_; clear A; intro a A)
      | (refine sx_skip A rfl rfl ?_; clear A; intro a A)
      | ((with_reducible refine g_bin ?_); first | ((refine g_int A rfl ?_); first | (refine sx_cmp A rfl rfl rfl rfl ?_; clear A; intro a A) | (refine sx_arith A rfl rfl rfl rfl ?_; clear A; intro a A) | (refine sx_shl A rfl rfl rfl rfl ?_; clear A; intro a A) | (refine sx_shr A rfl rfl rfl rfl ?_; clear A; intro a A)) | ((refine g_str A rfl ?_); first | (refine sx_scmp A rfl rfl rfl rfl ?_; clear A; intro a A) | (refine sx_concat A rfl rfl rfl rfl ?_; clear A; intro a A)))
      | ((with_reducible refine g_load ?_); first | (refine sx_load_all H A tbOk rfl rfl rfl rfl rfl ?_; clear A; intro a A) | (refine sx_load H A tbOk rfl rfl rfl rfl ?_; clear A; intro a A))
      | ((with_reducible refine g_store ?_); refine sx_store H A tbOk rfl rfl rfl rfl ?_; clear H; intro w_ H)
      | ((with_reducible refine g_box ?_); refine sx_box H A rfl rfl rfl ?_; clear H A; intro b_ a w_ A H)
      | ((with_reducible refine g_alloc ?_); refine sx_alloc H A tbOk rfl rfl rfl ?_; clear H A; intro b_ a w_ A H)
      | ((with_reducible refine g_build ?_); refine sx_build A tbOk rfl rfl rfl rfl rfl rfl ?_; clear A; intro a A)
      | ((with_reducible refine g_builtin ?_); first | (refine sx_min A rfl rfl rfl rfl ?_; clear A; intro a A) | (refine sx_max A rfl rfl rfl rfl ?_; clear A; intro a A))
      | ((with_reducible refine g_slice ?_); first | (refine sx_sstr A tbOk rfl rfl rfl rfl rfl rfl ?_; clear A; intro a A) | (refine sx_cut H A tbOk rfl rfl rfl rfl rfl rfl rfl ?_; clear A H; intro A_ c_ a hc_ A H))
      | ((with_reducible refine g_index ?_); refine sx_sidx A tbOk rfl rfl rfl rfl rfl ?_; clear A; intro a A)
      | ((with_reducible refine g_idx ?_); first | (refine sx_idx H A tbOk rfl rfl rfl rfl rfl rfl ?_; clear A; intro a A) | (refine sx_oidx H A tbOk rfl rfl rfl rfl rfl rfl ?_; clear A; intro a A))
      | ((with_reducible refine g_conv ?_); refine sx_conv A tbOk rfl rfl rfl rfl rfl ?_; clear A; intro a A)
      )
    | ((with_reducible refine g_draw ?_); refine qx_region H (by kernel_rfl) (by kernel_rfl) ?_)
    | ((with_reducible refine qx_nil ?_); clear H; intro w_ F_ H)
    | ((with_reducible refine q_at ?_); first
      | (refine qx_pure A tbOk rfl rfl rfl ?_; clear A; intro a A)
      | (refine qx_skip A rfl rfl ?_; clear A; intro a A)
      | ((with_reducible refine qg_bin ?_); first | ((refine qg_int A rfl ?_); first | (refine qx_cmp A rfl rfl rfl rfl ?_; clear A; intro a A) | (refine qx_arith A rfl rfl rfl rfl ?_; clear A; intro a A)) | ((refine qg_str A rfl ?_); first | (refine qx_scmp A rfl rfl rfl rfl ?_; clear A; intro a A) | (refine qx_concat A rfl rfl rfl rfl ?_; clear A; intro a A)))
      | ((with_reducible refine qg_builtin ?_); first | (refine qx_min A rfl rfl rfl rfl ?_; clear A; intro a A) | (refine qx_max A rfl rfl rfl rfl ?_; clear A; intro a A))
      | ((with_reducible refine qg_slice ?_); refine qx_sstr A tbOk rfl rfl rfl rfl rfl rfl ?_; clear A; intro a A)
      | ((with_reducible refine qg_load ?_); refine qx_load A tbOk rfl rfl rfl rfl ?_; clear A; intro a A)
      | ((with_reducible refine qg_idx ?_); first | (refine qx_idx H A tbOk rfl rfl rfl rfl rfl rfl ?_; clear A; intro a A) | (refine qx_oidx H A tbOk rfl rfl rfl rfl rfl rfl ?_; clear A; intro a A)))
    )
theorem sl_crc_Seal (H : St M F0 w0 F B R w) {s r : ByteArray} (h2 : s.size ≤ 70368744177664) (hr : Go.Proofs.YtniplmjbligmlaaDoor.V.B (sealL (L s)) = r) (k : ∀ Fx w', St M F0 w0 Fx B R w' → K (.returned (.string r)) w') : Calls Tryd.prog 75 #[.string s] w K := by
  refine St.fn0 H (R0 := []) no_mem (fun H => ?_)
  refine sx_enter Tryd.func75 Tryd.ntmps75 rfl rfl (fun a A => ?_)
  obtain ⟨c, hc⟩ : ∃ c, crcOf (L s) = c := ⟨_, rfl⟩
  have hlt := c.isLt
  have hp : putS (c.toNat : Int) 4 = (Go.Proofs.YtniplmjbligmlaaDoor.V.B (putL c.toNat 4), 0) := by
    unfold putS
    have : (256 : Nat) ^ (4 : Int).toNat = 4294967296 := by decide
    rw [Int.toNat_natCast, this, if_neg (by omega)]; rfl
  have hq : s ++ Go.Proofs.YtniplmjbligmlaaDoor.V.B (putL c.toNat 4) = r := by
    rw [← hr]; apply L_inj; rw [L_append, L_B, L_B]; unfold sealL; rw [hc]
  have hsz : (Go.Proofs.YtniplmjbligmlaaDoor.V.B (putL c.toNat 4)).size = 4 := by rw [size_B, putL_length]
  subst hq
  repeat' (first
    | ((with_reducible refine g_call ?_); first | (refine sx_call (f := 86) A rfl Tryd.call86 rfl rfl ?_; refine sl_crc_Of H (by omega) hc ?_; clear H; intro F_ w_ H; refine ⟨_, rfl, ?_⟩; clear A; intro a A) | (refine sx_call (f := 74) A rfl Tryd.call74 rfl rfl ?_; refine sl_le_Put H (by omega) (by omega) hp ?_; clear H; intro F_ w_ H; refine ⟨_, rfl, ?_⟩; clear A; intro a A))
    | (refine sx_ret tbOk H A rfl ?_; exact H.ret0 fun Fx Hx => k Fx _ Hx)
    | with_reducible refine wp_seq ?_
    | with_reducible refine sx_region ?_
    | with_reducible refine wp_block ?_
    | with_reducible refine wpList_nil ?_
    | with_reducible refine sx_then ?_
    | with_reducible refine sx_inb ?_
    | with_reducible refine wp_skip ?_
    | with_reducible refine wp_ret ?_
    | with_reducible refine wp_exit ?_
    | with_reducible refine sx_then_ret ?_
    | with_reducible refine sx_inb_ret ?_
    | with_reducible refine sx_then_exit ?_
    | with_reducible refine sx_inb_exit ?_
    | with_reducible refine sx_inb_other rfl ?_
    | with_reducible refine sx_if_t A rfl ?_
    | with_reducible refine sx_if_f A rfl ?_
    | ((with_reducible refine sx_at ?_); first
      | (refine sx_pure A tbOk rfl rfl rfl ?_; clear A; intro a A)
      | (refine sx_skip A rfl rfl ?_; clear A; intro a A)
      | ((with_reducible refine g_bin ?_); first | ((refine g_int A rfl ?_); first | (refine sx_cmp A rfl rfl rfl rfl ?_; clear A; intro a A) | (refine sx_arith A rfl rfl rfl rfl ?_; clear A; intro a A) | (refine sx_shl A rfl rfl rfl rfl ?_; clear A; intro a A) | (refine sx_shr A rfl rfl rfl rfl ?_; clear A; intro a A)) | ((refine g_str A rfl ?_); first | (refine sx_scmp A rfl rfl rfl rfl ?_; clear A; intro a A) | (refine sx_concat A rfl rfl rfl rfl ?_; clear A; intro a A)))
      | ((with_reducible refine g_load ?_); first | (refine sx_load_all H A tbOk rfl rfl rfl rfl rfl ?_; clear A; intro a A) | (refine sx_load H A tbOk rfl rfl rfl rfl ?_; clear A; intro a A))
      | ((with_reducible refine g_store ?_); refine sx_store H A tbOk rfl rfl rfl rfl ?_; clear H; intro w_ H)
      | ((with_reducible refine g_box ?_); refine sx_box H A rfl rfl rfl ?_; clear H A; intro b_ a w_ A H)
      | ((with_reducible refine g_alloc ?_); refine sx_alloc H A tbOk rfl rfl rfl ?_; clear H A; intro b_ a w_ A H)
      | ((with_reducible refine g_build ?_); refine sx_build A tbOk rfl rfl rfl rfl rfl rfl ?_; clear A; intro a A)
      | ((with_reducible refine g_builtin ?_); first | (refine sx_min A rfl rfl rfl rfl ?_; clear A; intro a A) | (refine sx_max A rfl rfl rfl rfl ?_; clear A; intro a A))
      | ((with_reducible refine g_slice ?_); first | (refine sx_sstr A tbOk rfl rfl rfl rfl rfl rfl ?_; clear A; intro a A) | (refine sx_cut H A tbOk rfl rfl rfl rfl rfl rfl rfl ?_; clear A H; intro A_ c_ a hc_ A H))
      | ((with_reducible refine g_index ?_); refine sx_sidx A tbOk rfl rfl rfl rfl rfl ?_; clear A; intro a A)
      | ((with_reducible refine g_idx ?_); first | (refine sx_idx H A tbOk rfl rfl rfl rfl rfl rfl ?_; clear A; intro a A) | (refine sx_oidx H A tbOk rfl rfl rfl rfl rfl rfl ?_; clear A; intro a A))
      | ((with_reducible refine g_conv ?_); refine sx_conv A tbOk rfl rfl rfl rfl rfl ?_; clear A; intro a A)
      )
    | ((with_reducible refine g_draw ?_); refine qx_region H (by kernel_rfl) (by kernel_rfl) ?_)
    | ((with_reducible refine qx_nil ?_); clear H; intro w_ F_ H)
    | ((with_reducible refine q_at ?_); first
      | (refine qx_pure A tbOk rfl rfl rfl ?_; clear A; intro a A)
      | (refine qx_skip A rfl rfl ?_; clear A; intro a A)
      | ((with_reducible refine qg_bin ?_); first | ((refine qg_int A rfl ?_); first | (refine qx_cmp A rfl rfl rfl rfl ?_; clear A; intro a A) | (refine qx_arith A rfl rfl rfl rfl ?_; clear A; intro a A)) | ((refine qg_str A rfl ?_); first | (refine qx_scmp A rfl rfl rfl rfl ?_; clear A; intro a A) | (refine qx_concat A rfl rfl rfl rfl ?_; clear A; intro a A)))
      | ((with_reducible refine qg_builtin ?_); first | (refine qx_min A rfl rfl rfl rfl ?_; clear A; intro a A) | (refine qx_max A rfl rfl rfl rfl ?_; clear A; intro a A))
      | ((with_reducible refine qg_slice ?_); refine qx_sstr A tbOk rfl rfl rfl rfl rfl rfl ?_; clear A; intro a A)
      | ((with_reducible refine qg_load ?_); refine qx_load A tbOk rfl rfl rfl rfl ?_; clear A; intro a A)
      | ((with_reducible refine qg_idx ?_); first | (refine qx_idx H A tbOk rfl rfl rfl rfl rfl rfl ?_; clear A; intro a A) | (refine qx_oidx H A tbOk rfl rfl rfl rfl rfl rfl ?_; clear A; intro a A)))
    )
theorem sl_ref01_Bytes (H : St M F0 w0 F B R w) {n : Nat} {size : Nat} {r : ByteArray} {q : Nat} (h1 : n < 18446744073709551616) (h2 : size ≤ 1000000) (hr : Go.Proofs.YtniplmjbligmlaaDoor.V.B (putL n size) = r) (hq : n / 256 ^ size = q) (k : ∀ Fx w', St M F0 w0 Fx B R w' → K (.returned (.tuple #[.string r, .int .u64 (q : Int)])) w') : Calls Tryd.prog 78 #[.int .u64 (n : Int), .int .i64 (size : Int)] w K := by
  refine St.fn0 H (R0 := []) no_mem (fun H => ?_)
  refine sx_enter Tryd.func78 Tryd.ntmps78 rfl rfl (fun a A => ?_)
  subst hr; subst hq
  repeat' (first
    | ((with_reducible refine g_lit ?_); refine sx_lit (dk := Kd.int .u8) H A tbOk rfl rfl rfl rfl rfl rfl .nil ?_; clear H A; intro b_ a w_ A H)
    | with_reducible refine wp_seq ?_
    | with_reducible refine sx_region ?_
    | with_reducible refine wp_block ?_
    | with_reducible refine wpList_nil ?_
    | with_reducible refine sx_then ?_
    | with_reducible refine sx_inb ?_
    | with_reducible refine wp_skip ?_
    | with_reducible refine wp_ret ?_
    | with_reducible refine wp_exit ?_
    | with_reducible refine sx_then_ret ?_
    | with_reducible refine sx_inb_ret ?_
    | with_reducible refine sx_then_exit ?_
    | with_reducible refine sx_inb_exit ?_
    | with_reducible refine sx_inb_other rfl ?_
    | with_reducible refine sx_if_t A rfl ?_
    | with_reducible refine sx_if_f A rfl ?_
    | ((with_reducible refine sx_at ?_); first
      | (refine sx_pure A tbOk rfl rfl rfl ?_; clear A; intro a A)
      | (refine sx_skip A rfl rfl ?_; clear A; intro a A)
      | ((with_reducible refine g_bin ?_); first | ((refine g_int A rfl ?_); first | (refine sx_cmp A rfl rfl rfl rfl ?_; clear A; intro a A) | (refine sx_arith A rfl rfl rfl rfl ?_; clear A; intro a A) | (refine sx_shl A rfl rfl rfl rfl ?_; clear A; intro a A) | (refine sx_shr A rfl rfl rfl rfl ?_; clear A; intro a A)) | ((refine g_str A rfl ?_); first | (refine sx_scmp A rfl rfl rfl rfl ?_; clear A; intro a A) | (refine sx_concat A rfl rfl rfl rfl ?_; clear A; intro a A)))
      | ((with_reducible refine g_load ?_); first | (refine sx_load_all H A tbOk rfl rfl rfl rfl rfl ?_; clear A; intro a A) | (refine sx_load H A tbOk rfl rfl rfl rfl ?_; clear A; intro a A))
      | ((with_reducible refine g_store ?_); refine sx_store H A tbOk rfl rfl rfl rfl ?_; clear H; intro w_ H)
      | ((with_reducible refine g_box ?_); refine sx_box H A rfl rfl rfl ?_; clear H A; intro b_ a w_ A H)
      | ((with_reducible refine g_alloc ?_); refine sx_alloc H A tbOk rfl rfl rfl ?_; clear H A; intro b_ a w_ A H)
      | ((with_reducible refine g_build ?_); refine sx_build A tbOk rfl rfl rfl rfl rfl rfl ?_; clear A; intro a A)
      | ((with_reducible refine g_builtin ?_); first | (refine sx_min A rfl rfl rfl rfl ?_; clear A; intro a A) | (refine sx_max A rfl rfl rfl rfl ?_; clear A; intro a A))
      | ((with_reducible refine g_slice ?_); first | (refine sx_sstr A tbOk rfl rfl rfl rfl rfl rfl ?_; clear A; intro a A) | (refine sx_cut H A tbOk rfl rfl rfl rfl rfl rfl rfl ?_; clear A H; intro A_ c_ a hc_ A H))
      | ((with_reducible refine g_index ?_); refine sx_sidx A tbOk rfl rfl rfl rfl rfl ?_; clear A; intro a A)
      | ((with_reducible refine g_idx ?_); first | (refine sx_idx H A tbOk rfl rfl rfl rfl rfl rfl ?_; clear A; intro a A) | (refine sx_oidx H A tbOk rfl rfl rfl rfl rfl rfl ?_; clear A; intro a A))
      | ((with_reducible refine g_conv ?_); refine sx_conv A tbOk rfl rfl rfl rfl rfl ?_; clear A; intro a A)
      )
    | ((with_reducible refine g_draw ?_); refine qx_region H (by kernel_rfl) (by kernel_rfl) ?_)
    | ((with_reducible refine qx_nil ?_); clear H; intro w_ F_ H)
    | ((with_reducible refine q_at ?_); first
      | (refine qx_pure A tbOk rfl rfl rfl ?_; clear A; intro a A)
      | (refine qx_skip A rfl rfl ?_; clear A; intro a A)
      | ((with_reducible refine qg_bin ?_); first | ((refine qg_int A rfl ?_); first | (refine qx_cmp A rfl rfl rfl rfl ?_; clear A; intro a A) | (refine qx_arith A rfl rfl rfl rfl ?_; clear A; intro a A)) | ((refine qg_str A rfl ?_); first | (refine qx_scmp A rfl rfl rfl rfl ?_; clear A; intro a A) | (refine qx_concat A rfl rfl rfl rfl ?_; clear A; intro a A)))
      | ((with_reducible refine qg_builtin ?_); first | (refine qx_min A rfl rfl rfl rfl ?_; clear A; intro a A) | (refine qx_max A rfl rfl rfl rfl ?_; clear A; intro a A))
      | ((with_reducible refine qg_slice ?_); refine qx_sstr A tbOk rfl rfl rfl rfl rfl rfl ?_; clear A; intro a A)
      | ((with_reducible refine qg_load ?_); refine qx_load A tbOk rfl rfl rfl rfl ?_; clear A; intro a A)
      | ((with_reducible refine qg_idx ?_); first | (refine qx_idx H A tbOk rfl rfl rfl rfl rfl rfl ?_; clear A; intro a A) | (refine qx_oidx H A tbOk rfl rfl rfl rfl rfl rfl ?_; clear A; intro a A)))
    )
  refine sx_rounds (ι := Nat × Option Addr × Nat) (fun x => x.1 ≤ size) (fun x => [(7, .int .i64 (x.1 : Int)), (6, .slice x.2.1 x.1 x.2.2), (0, .int .u64 ((n / 256 ^ x.1 : Nat) : Int)), (1, _)]) (fun x => [.row (Kd.int .u8) _ x.2.1 x.2.2 (bI (putL n x.1))]) (fun _ => []) (fun x => size - x.1) (0, _, _) H (by simpa using A.subs) (Nat.zero_le _) (fun x F a W hi H A => ?_)
  obtain ⟨i, Ai, ci⟩ := x
  dsimp only at hi H A
  have hlen : (bI (putL n i)).length = i := by rw [bI_len, putL_length]
  rcases Nat.lt_or_ge i size with hlt | hge
  · obtain ⟨m, hm⟩ : ∃ m, n / 256 ^ i = m := ⟨_, rfl⟩
    have hmn : m ≤ n := by rw [← hm]; exact Nat.div_le_self _ _
    rw [hm] at A
    have hr1 : arithI .rem .u64 (m : Int) 256 = some ((m % 256 : Nat) : Int) := by rw [rem_pos (by omega) (by omega)]; rfl
    have hc1 : IntKind.u8.wrap ((m % 256 : Nat) : Int) = ((m % 256 : Nat) : Int) := wrap_u8 (by omega) (by omega)
    have hq1 : arithI .quo .u64 (m : Int) 256 = some ((m / 256 : Nat) : Int) := by
      show some (IntKind.u64.wrap ((m : Int).tdiv 256)) = _
      rw [Int.tdiv_eq_ediv_of_nonneg (by omega), wrap_u64 (by omega) (by omega)]; rfl
    have hnx : bI (putL n i) ++ [((m % 256 : Nat) : Int)] = bI (putL n (i + 1)) := by
      have e : putL n (i + 1) = putL n i ++ [UInt8.ofNat (m % 256)] := by
        rw [← hm]
        apply List.ext_getElem?
        intro j
        rcases Nat.lt_trichotomy j i with h | h | h
        · rw [List.getElem?_append_left (by rw [putL_length]; exact h), putL_take n _ j (by omega), putL_take n _ j h]
        · subst h; rw [putL_take n _ j (by omega), List.getElem?_append_right (by rw [putL_length]; omega), putL_length]; simp
        · rw [List.getElem?_eq_none (by rw [putL_length]; omega), List.getElem?_eq_none (by simp [putL_length]; omega)]
      rw [e]; unfold bI; rw [List.map_append]; simp
    have hdn : m / 256 = n / 256 ^ (i + 1) := by rw [← hm, Nat.div_div_eq_div_mul, ← Nat.pow_succ]
    have hl2 : (bI (putL n (i + 1))).length = i + 1 := by rw [bI_len, putL_length]
    repeat' (first
    | ((with_reducible refine g_lit ?_); refine sx_lit (dk := Kd.int .u8) (ys := [_]) H A tbOk rfl rfl rfl rfl rfl rfl (.cons (mk_scalar _) .nil) ?_; clear H A; intro b_ a w_ A H)
    | ((with_reducible refine g_builtin ?_); refine sx_appendL (dk := Kd.int .u8) H A tbOk rfl rfl rfl rfl rfl rfl rfl rfl rfl ?_ (hn := hlen.symm); clear A H; intro A1 c1 a w_ A H; rw [hnx] at H A; rw [hl2] at A)
    | with_reducible refine wp_seq ?_
    | with_reducible refine sx_region ?_
    | with_reducible refine wp_block ?_
    | with_reducible refine wpList_nil ?_
    | with_reducible refine sx_then ?_
    | with_reducible refine sx_inb ?_
    | with_reducible refine wp_skip ?_
    | with_reducible refine wp_ret ?_
    | with_reducible refine wp_exit ?_
    | with_reducible refine sx_then_ret ?_
    | with_reducible refine sx_inb_ret ?_
    | with_reducible refine sx_then_exit ?_
    | with_reducible refine sx_inb_exit ?_
    | with_reducible refine sx_inb_other rfl ?_
    | with_reducible refine sx_if_t A rfl ?_
    | with_reducible refine sx_if_f A rfl ?_
    | ((with_reducible refine sx_at ?_); first
      | (refine sx_pure A tbOk rfl rfl rfl ?_; clear A; intro a A)
      | (refine sx_skip A rfl rfl ?_; clear A; intro a A)
      | ((with_reducible refine g_bin ?_); first | ((refine g_int A rfl ?_); first | (refine sx_cmp A rfl rfl rfl rfl ?_; clear A; intro a A) | (refine sx_arith A rfl rfl rfl rfl ?_; clear A; intro a A) | (refine sx_shl A rfl rfl rfl rfl ?_; clear A; intro a A) | (refine sx_shr A rfl rfl rfl rfl ?_; clear A; intro a A)) | ((refine g_str A rfl ?_); first | (refine sx_scmp A rfl rfl rfl rfl ?_; clear A; intro a A) | (refine sx_concat A rfl rfl rfl rfl ?_; clear A; intro a A)))
      | ((with_reducible refine g_load ?_); first | (refine sx_load_all H A tbOk rfl rfl rfl rfl rfl ?_; clear A; intro a A) | (refine sx_load H A tbOk rfl rfl rfl rfl ?_; clear A; intro a A))
      | ((with_reducible refine g_store ?_); refine sx_store H A tbOk rfl rfl rfl rfl ?_; clear H; intro w_ H)
      | ((with_reducible refine g_box ?_); refine sx_box H A rfl rfl rfl ?_; clear H A; intro b_ a w_ A H)
      | ((with_reducible refine g_alloc ?_); refine sx_alloc H A tbOk rfl rfl rfl ?_; clear H A; intro b_ a w_ A H)
      | ((with_reducible refine g_build ?_); refine sx_build A tbOk rfl rfl rfl rfl rfl rfl ?_; clear A; intro a A)
      | ((with_reducible refine g_builtin ?_); first | (refine sx_min A rfl rfl rfl rfl ?_; clear A; intro a A) | (refine sx_max A rfl rfl rfl rfl ?_; clear A; intro a A))
      | ((with_reducible refine g_slice ?_); first | (refine sx_sstr A tbOk rfl rfl rfl rfl rfl rfl ?_; clear A; intro a A) | (refine sx_cut H A tbOk rfl rfl rfl rfl rfl rfl rfl ?_; clear A H; intro A_ c_ a hc_ A H))
      | ((with_reducible refine g_index ?_); refine sx_sidx A tbOk rfl rfl rfl rfl rfl ?_; clear A; intro a A)
      | ((with_reducible refine g_idx ?_); first | (refine sx_idx H A tbOk rfl rfl rfl rfl rfl rfl ?_; clear A; intro a A) | (refine sx_oidx H A tbOk rfl rfl rfl rfl rfl rfl ?_; clear A; intro a A))
      | ((with_reducible refine g_conv ?_); refine sx_conv A tbOk rfl rfl rfl rfl rfl ?_; clear A; intro a A)
      )
    | ((with_reducible refine g_draw ?_); refine qx_region H (by kernel_rfl) (by kernel_rfl) ?_)
    | ((with_reducible refine qx_nil ?_); clear H; intro w_ F_ H)
    | ((with_reducible refine q_at ?_); first
      | (refine qx_pure A tbOk rfl rfl rfl ?_; clear A; intro a A)
      | (refine qx_skip A rfl rfl ?_; clear A; intro a A)
      | ((with_reducible refine qg_bin ?_); first | ((refine qg_int A rfl ?_); first | (refine qx_cmp A rfl rfl rfl rfl ?_; clear A; intro a A) | (refine qx_arith A rfl rfl rfl rfl ?_; clear A; intro a A)) | ((refine qg_str A rfl ?_); first | (refine qx_scmp A rfl rfl rfl rfl ?_; clear A; intro a A) | (refine qx_concat A rfl rfl rfl rfl ?_; clear A; intro a A)))
      | ((with_reducible refine qg_builtin ?_); first | (refine qx_min A rfl rfl rfl rfl ?_; clear A; intro a A) | (refine qx_max A rfl rfl rfl rfl ?_; clear A; intro a A))
      | ((with_reducible refine qg_slice ?_); refine qx_sstr A tbOk rfl rfl rfl rfl rfl rfl ?_; clear A; intro a A)
      | ((with_reducible refine qg_load ?_); refine qx_load A tbOk rfl rfl rfl rfl ?_; clear A; intro a A)
      | ((with_reducible refine qg_idx ?_); first | (refine qx_idx H A tbOk rfl rfl rfl rfl rfl rfl ?_; clear A; intro a A) | (refine qx_oidx H A tbOk rfl rfl rfl rfl rfl rfl ?_; clear A; intro a A)))
    )
    exact ⟨(i + 1, A1, c1), _, by (show i + 1 ≤ size); omega, by (show size - (i + 1) < size - i); omega, H.sel, by dsimp only; rw [← hdn]; exact A.subs⟩
  · have him : i = size := by omega
    subst him
    repeat' (first
    | ((with_reducible refine g_conv ?_); refine sx_ob2s (xs := bI (putL n i)) H A tbOk rfl rfl rfl rfl rfl rfl ?_ (hn := hlen.symm); clear A; intro a A; rw [strB_bI] at A)
    | (refine sx_ret tbOk H A rfl ?_; exact H.ret0 fun Fx Hx => k Fx _ Hx)
    | with_reducible refine wp_seq ?_
    | with_reducible refine sx_region ?_
    | with_reducible refine wp_block ?_
    | with_reducible refine wpList_nil ?_
    | with_reducible refine sx_then ?_
    | with_reducible refine sx_inb ?_
    | with_reducible refine wp_skip ?_
    | with_reducible refine wp_ret ?_
    | with_reducible refine wp_exit ?_
    | with_reducible refine sx_then_ret ?_
    | with_reducible refine sx_inb_ret ?_
    | with_reducible refine sx_then_exit ?_
    | with_reducible refine sx_inb_exit ?_
    | with_reducible refine sx_inb_other rfl ?_
    | with_reducible refine sx_if_t A rfl ?_
    | with_reducible refine sx_if_f A rfl ?_
    | ((with_reducible refine sx_at ?_); first
      | (refine sx_pure A tbOk rfl rfl rfl ?_; clear A; intro a A)
      | (refine sx_skip A rfl rfl ?_; clear A; intro a A)
      | ((with_reducible refine g_bin ?_); first | ((refine g_int A rfl ?_); first | (refine sx_cmp A rfl rfl rfl rfl ?_; clear A; intro a A) | (refine sx_arith A rfl rfl rfl rfl ?_; clear A; intro a A) | (refine sx_shl A rfl rfl rfl rfl ?_; clear A; intro a A) | (refine sx_shr A rfl rfl rfl rfl ?_; clear A; intro a A)) | ((refine g_str A rfl ?_); first | (refine sx_scmp A rfl rfl rfl rfl ?_; clear A; intro a A) | (refine sx_concat A rfl rfl rfl rfl ?_; clear A; intro a A)))
      | ((with_reducible refine g_load ?_); first | (refine sx_load_all H A tbOk rfl rfl rfl rfl rfl ?_; clear A; intro a A) | (refine sx_load H A tbOk rfl rfl rfl rfl ?_; clear A; intro a A))
      | ((with_reducible refine g_store ?_); refine sx_store H A tbOk rfl rfl rfl rfl ?_; clear H; intro w_ H)
      | ((with_reducible refine g_box ?_); refine sx_box H A rfl rfl rfl ?_; clear H A; intro b_ a w_ A H)
      | ((with_reducible refine g_alloc ?_); refine sx_alloc H A tbOk rfl rfl rfl ?_; clear H A; intro b_ a w_ A H)
      | ((with_reducible refine g_build ?_); refine sx_build A tbOk rfl rfl rfl rfl rfl rfl ?_; clear A; intro a A)
      | ((with_reducible refine g_builtin ?_); first | (refine sx_min A rfl rfl rfl rfl ?_; clear A; intro a A) | (refine sx_max A rfl rfl rfl rfl ?_; clear A; intro a A))
      | ((with_reducible refine g_slice ?_); first | (refine sx_sstr A tbOk rfl rfl rfl rfl rfl rfl ?_; clear A; intro a A) | (refine sx_cut H A tbOk rfl rfl rfl rfl rfl rfl rfl ?_; clear A H; intro A_ c_ a hc_ A H))
      | ((with_reducible refine g_index ?_); refine sx_sidx A tbOk rfl rfl rfl rfl rfl ?_; clear A; intro a A)
      | ((with_reducible refine g_idx ?_); first | (refine sx_idx H A tbOk rfl rfl rfl rfl rfl rfl ?_; clear A; intro a A) | (refine sx_oidx H A tbOk rfl rfl rfl rfl rfl rfl ?_; clear A; intro a A))
      | ((with_reducible refine g_conv ?_); refine sx_conv A tbOk rfl rfl rfl rfl rfl ?_; clear A; intro a A)
      )
    | ((with_reducible refine g_draw ?_); refine qx_region H (by kernel_rfl) (by kernel_rfl) ?_)
    | ((with_reducible refine qx_nil ?_); clear H; intro w_ F_ H)
    | ((with_reducible refine q_at ?_); first
      | (refine qx_pure A tbOk rfl rfl rfl ?_; clear A; intro a A)
      | (refine qx_skip A rfl rfl ?_; clear A; intro a A)
      | ((with_reducible refine qg_bin ?_); first | ((refine qg_int A rfl ?_); first | (refine qx_cmp A rfl rfl rfl rfl ?_; clear A; intro a A) | (refine qx_arith A rfl rfl rfl rfl ?_; clear A; intro a A)) | ((refine qg_str A rfl ?_); first | (refine qx_scmp A rfl rfl rfl rfl ?_; clear A; intro a A) | (refine qx_concat A rfl rfl rfl rfl ?_; clear A; intro a A)))
      | ((with_reducible refine qg_builtin ?_); first | (refine qx_min A rfl rfl rfl rfl ?_; clear A; intro a A) | (refine qx_max A rfl rfl rfl rfl ?_; clear A; intro a A))
      | ((with_reducible refine qg_slice ?_); refine qx_sstr A tbOk rfl rfl rfl rfl rfl rfl ?_; clear A; intro a A)
      | ((with_reducible refine qg_load ?_); refine qx_load A tbOk rfl rfl rfl rfl ?_; clear A; intro a A)
      | ((with_reducible refine qg_idx ?_); first | (refine qx_idx H A tbOk rfl rfl rfl rfl rfl rfl ?_; clear A; intro a A) | (refine qx_oidx H A tbOk rfl rfl rfl rfl rfl rfl ?_; clear A; intro a A)))
    )
end
end Go.Proofs.YtniplmjbligmlaaDoor.V

/-! Layer 4 of the program, walked: the log's own sectors, written. -/
namespace Go.Proofs.YtniplmjbligmlaaDoor.V
open Go.RowKit
set_option linter.unusedVariables false
set_option linter.unusedSimpArgs false
section
variable {M F0 F : Nat → Prop} {w0 w : World} {B : List Box} {R : List (World → Prop)} {K : Ending → World → Prop}
set_option maxRecDepth 100000
set_option maxHeartbeats 4000000
theorem sl_slot_epoch (H : St M F0 w0 F B R w) {n : Int} {b : Bool} (hr : isEpoch n = b) (k : ∀ Fx w', St M F0 w0 Fx B R w' → K (.returned (.bool b)) w') : Calls Tryd.prog 62 #[.int .i64 n] w K := by
  refine St.fn0 H (R0 := []) no_mem (fun H => ?_)
  refine sx_enter Tryd.func62 Tryd.ntmps62 rfl rfl (fun a A => ?_)
  subst hr
  unfold isEpoch at k
  by_cases h1 : 1 ≤ n <;> by_cases h2 : n ≤ 1099511627776
  all_goals (try (exfalso; omega))
  all_goals
    simp only [h1, h2, decide_true, decide_false, Bool.and_true, Bool.and_false, Bool.true_and, Bool.false_and] at k
    repeat' (first
    | (refine sx_ret tbOk H A rfl ?_; exact H.ret0 fun Fx Hx => k Fx _ Hx)
    | with_reducible refine wp_seq ?_
    | with_reducible refine sx_region ?_
    | with_reducible refine wp_block ?_
    | with_reducible refine wpList_nil ?_
    | with_reducible refine sx_then ?_
    | with_reducible refine sx_inb ?_
    | with_reducible refine wp_skip ?_
    | with_reducible refine wp_ret ?_
    | with_reducible refine wp_exit ?_
    | with_reducible refine sx_then_ret ?_
    | with_reducible refine sx_inb_ret ?_
    | with_reducible refine sx_then_exit ?_
    | with_reducible refine sx_inb_exit ?_
    | with_reducible refine sx_inb_other rfl ?_
    | with_reducible refine sx_if_t A rfl ?_
    | with_reducible refine sx_if_f A rfl ?_
    | ((with_reducible refine sx_at ?_); first
      | (refine sx_pure A tbOk rfl rfl rfl ?_; clear A; intro a A)
      | (refine sx_skip A rfl rfl ?_; clear A; intro a A)
      | ((with_reducible refine g_bin ?_); first | ((refine g_int A rfl ?_); first | (refine sx_cmp A rfl rfl rfl rfl ?_; clear A; intro a A) | (refine sx_arith A rfl rfl rfl rfl ?_; clear A; intro a A) | (refine sx_shl A rfl rfl rfl rfl ?_; clear A; intro a A) | (refine sx_shr A rfl rfl rfl rfl ?_; clear A; intro a A)) | ((refine g_str A rfl ?_); first | (refine sx_scmp A rfl rfl rfl rfl ?_; clear A; intro a A) | (refine sx_concat A rfl rfl rfl rfl ?_; clear A; intro a A)))
      | ((with_reducible refine g_load ?_); first | (refine sx_load_all H A tbOk rfl rfl rfl rfl rfl ?_; clear A; intro a A) | (refine sx_load H A tbOk rfl rfl rfl rfl ?_; clear A; intro a A))
      | ((with_reducible refine g_store ?_); refine sx_store H A tbOk rfl rfl rfl rfl ?_; clear H; intro w_ H)
      | ((with_reducible refine g_box ?_); refine sx_box H A rfl rfl rfl ?_; clear H A; intro b_ a w_ A H)
      | ((with_reducible refine g_alloc ?_); refine sx_alloc H A tbOk rfl rfl rfl ?_; clear H A; intro b_ a w_ A H)
      | ((with_reducible refine g_build ?_); refine sx_build A tbOk rfl rfl rfl rfl rfl rfl ?_; clear A; intro a A)
      | ((with_reducible refine g_builtin ?_); first | (refine sx_min A rfl rfl rfl rfl ?_; clear A; intro a A) | (refine sx_max A rfl rfl rfl rfl ?_; clear A; intro a A))
      | ((with_reducible refine g_slice ?_); first | (refine sx_sstr A tbOk rfl rfl rfl rfl rfl rfl ?_; clear A; intro a A) | (refine sx_cut H A tbOk rfl rfl rfl rfl rfl rfl rfl ?_; clear A H; intro A_ c_ a hc_ A H))
      | ((with_reducible refine g_index ?_); refine sx_sidx A tbOk rfl rfl rfl rfl rfl ?_; clear A; intro a A)
      | ((with_reducible refine g_idx ?_); first | (refine sx_idx H A tbOk rfl rfl rfl rfl rfl rfl ?_; clear A; intro a A) | (refine sx_oidx H A tbOk rfl rfl rfl rfl rfl rfl ?_; clear A; intro a A))
      | ((with_reducible refine g_conv ?_); refine sx_conv A tbOk rfl rfl rfl rfl rfl ?_; clear A; intro a A)
      )
    | ((with_reducible refine g_draw ?_); refine qx_region H (by kernel_rfl) (by kernel_rfl) ?_)
    | ((with_reducible refine qx_nil ?_); clear H; intro w_ F_ H)
    | ((with_reducible refine q_at ?_); first
      | (refine qx_pure A tbOk rfl rfl rfl ?_; clear A; intro a A)
      | (refine qx_skip A rfl rfl ?_; clear A; intro a A)
      | ((with_reducible refine qg_bin ?_); first | ((refine qg_int A rfl ?_); first | (refine qx_cmp A rfl rfl rfl rfl ?_; clear A; intro a A) | (refine qx_arith A rfl rfl rfl rfl ?_; clear A; intro a A)) | ((refine qg_str A rfl ?_); first | (refine qx_scmp A rfl rfl rfl rfl ?_; clear A; intro a A) | (refine qx_concat A rfl rfl rfl rfl ?_; clear A; intro a A)))
      | ((with_reducible refine qg_builtin ?_); first | (refine qx_min A rfl rfl rfl rfl ?_; clear A; intro a A) | (refine qx_max A rfl rfl rfl rfl ?_; clear A; intro a A))
      | ((with_reducible refine qg_slice ?_); refine qx_sstr A tbOk rfl rfl rfl rfl rfl rfl ?_; clear A; intro a A)
      | ((with_reducible refine qg_load ?_); refine qx_load A tbOk rfl rfl rfl rfl ?_; clear A; intro a A)
      | ((with_reducible refine qg_idx ?_); first | (refine qx_idx H A tbOk rfl rfl rfl rfl rfl rfl ?_; clear A; intro a A) | (refine qx_oidx H A tbOk rfl rfl rfl rfl rfl rfl ?_; clear A; intro a A)))
    )
theorem sl_slot_place (H : St M F0 w0 F B R w) {n : Int} {b : Bool} (hr : isPlace n = b) (k : ∀ Fx w', St M F0 w0 Fx B R w' → K (.returned (.bool b)) w') : Calls Tryd.prog 63 #[.int .i64 n] w K := by
  refine St.fn0 H (R0 := []) no_mem (fun H => ?_)
  refine sx_enter Tryd.func63 Tryd.ntmps63 rfl rfl (fun a A => ?_)
  subst hr
  unfold isPlace at k
  by_cases h1 : 0 ≤ n <;> by_cases h2 : n ≤ 5
  all_goals (try (exfalso; omega))
  all_goals
    simp only [h1, h2, decide_true, decide_false, Bool.and_true, Bool.and_false, Bool.true_and, Bool.false_and] at k
    repeat' (first
    | (refine sx_ret tbOk H A rfl ?_; exact H.ret0 fun Fx Hx => k Fx _ Hx)
    | with_reducible refine wp_seq ?_
    | with_reducible refine sx_region ?_
    | with_reducible refine wp_block ?_
    | with_reducible refine wpList_nil ?_
    | with_reducible refine sx_then ?_
    | with_reducible refine sx_inb ?_
    | with_reducible refine wp_skip ?_
    | with_reducible refine wp_ret ?_
    | with_reducible refine wp_exit ?_
    | with_reducible refine sx_then_ret ?_
    | with_reducible refine sx_inb_ret ?_
    | with_reducible refine sx_then_exit ?_
    | with_reducible refine sx_inb_exit ?_
    | with_reducible refine sx_inb_other rfl ?_
    | with_reducible refine sx_if_t A rfl ?_
    | with_reducible refine sx_if_f A rfl ?_
    | ((with_reducible refine sx_at ?_); first
      | (refine sx_pure A tbOk rfl rfl rfl ?_; clear A; intro a A)
      | (refine sx_skip A rfl rfl ?_; clear A; intro a A)
      | ((with_reducible refine g_bin ?_); first | ((refine g_int A rfl ?_); first | (refine sx_cmp A rfl rfl rfl rfl ?_; clear A; intro a A) | (refine sx_arith A rfl rfl rfl rfl ?_; clear A; intro a A) | (refine sx_shl A rfl rfl rfl rfl ?_; clear A; intro a A) | (refine sx_shr A rfl rfl rfl rfl ?_; clear A; intro a A)) | ((refine g_str A rfl ?_); first | (refine sx_scmp A rfl rfl rfl rfl ?_; clear A; intro a A) | (refine sx_concat A rfl rfl rfl rfl ?_; clear A; intro a A)))
      | ((with_reducible refine g_load ?_); first | (refine sx_load_all H A tbOk rfl rfl rfl rfl rfl ?_; clear A; intro a A) | (refine sx_load H A tbOk rfl rfl rfl rfl ?_; clear A; intro a A))
      | ((with_reducible refine g_store ?_); refine sx_store H A tbOk rfl rfl rfl rfl ?_; clear H; intro w_ H)
      | ((with_reducible refine g_box ?_); refine sx_box H A rfl rfl rfl ?_; clear H A; intro b_ a w_ A H)
      | ((with_reducible refine g_alloc ?_); refine sx_alloc H A tbOk rfl rfl rfl ?_; clear H A; intro b_ a w_ A H)
      | ((with_reducible refine g_build ?_); refine sx_build A tbOk rfl rfl rfl rfl rfl rfl ?_; clear A; intro a A)
      | ((with_reducible refine g_builtin ?_); first | (refine sx_min A rfl rfl rfl rfl ?_; clear A; intro a A) | (refine sx_max A rfl rfl rfl rfl ?_; clear A; intro a A))
      | ((with_reducible refine g_slice ?_); first | (refine sx_sstr A tbOk rfl rfl rfl rfl rfl rfl ?_; clear A; intro a A) | (refine sx_cut H A tbOk rfl rfl rfl rfl rfl rfl rfl ?_; clear A H; intro A_ c_ a hc_ A H))
      | ((with_reducible refine g_index ?_); refine sx_sidx A tbOk rfl rfl rfl rfl rfl ?_; clear A; intro a A)
      | ((with_reducible refine g_idx ?_); first | (refine sx_idx H A tbOk rfl rfl rfl rfl rfl rfl ?_; clear A; intro a A) | (refine sx_oidx H A tbOk rfl rfl rfl rfl rfl rfl ?_; clear A; intro a A))
      | ((with_reducible refine g_conv ?_); refine sx_conv A tbOk rfl rfl rfl rfl rfl ?_; clear A; intro a A)
      )
    | ((with_reducible refine g_draw ?_); refine qx_region H (by kernel_rfl) (by kernel_rfl) ?_)
    | ((with_reducible refine qx_nil ?_); clear H; intro w_ F_ H)
    | ((with_reducible refine q_at ?_); first
      | (refine qx_pure A tbOk rfl rfl rfl ?_; clear A; intro a A)
      | (refine qx_skip A rfl rfl ?_; clear A; intro a A)
      | ((with_reducible refine qg_bin ?_); first | ((refine qg_int A rfl ?_); first | (refine qx_cmp A rfl rfl rfl rfl ?_; clear A; intro a A) | (refine qx_arith A rfl rfl rfl rfl ?_; clear A; intro a A)) | ((refine qg_str A rfl ?_); first | (refine qx_scmp A rfl rfl rfl rfl ?_; clear A; intro a A) | (refine qx_concat A rfl rfl rfl rfl ?_; clear A; intro a A)))
      | ((with_reducible refine qg_builtin ?_); first | (refine qx_min A rfl rfl rfl rfl ?_; clear A; intro a A) | (refine qx_max A rfl rfl rfl rfl ?_; clear A; intro a A))
      | ((with_reducible refine qg_slice ?_); refine qx_sstr A tbOk rfl rfl rfl rfl rfl rfl ?_; clear A; intro a A)
      | ((with_reducible refine qg_load ?_); refine qx_load A tbOk rfl rfl rfl rfl ?_; clear A; intro a A)
      | ((with_reducible refine qg_idx ?_); first | (refine qx_idx H A tbOk rfl rfl rfl rfl rfl rfl ?_; clear A; intro a A) | (refine qx_oidx H A tbOk rfl rfl rfl rfl rfl rfl ?_; clear A; intro a A)))
    )
theorem sl_indexInt (H : St M F0 w0 F B R w) {A0 : Option Addr} {c0 : Nat} {l : List Int} {x : Int} (hl : l.length ≤ 4611686018427387904) (k : ∀ (r : Int) Fx w', (0 ≤ r ↔ x ∈ l) → -1 ≤ r → r ≤ l.length → St M F0 w0 Fx B R w' → K (.returned (.int .i64 r)) w') (hm : rdc (Kd.int .i64) A0 l ∈ R := by (repeat (first | with_reducible exact List.mem_cons_self | apply List.mem_cons_of_mem))) : Calls Tryd.prog 85 #[.slice A0 l.length c0, .int .i64 x] w K := by
  refine St.fn0 H (R0 := [rdc (Kd.int .i64) A0 l]) (fun p hp => by rw [List.mem_singleton.1 hp]; exact hm) (fun H => ?_)
  refine sx_enter Tryd.func85 Tryd.ntmps85 rfl rfl (fun a A => ?_)
  repeat' (first
    | with_reducible refine wp_seq ?_
    | with_reducible refine sx_region ?_
    | with_reducible refine wp_block ?_
    | with_reducible refine wpList_nil ?_
    | with_reducible refine sx_then ?_
    | with_reducible refine sx_inb ?_
    | with_reducible refine wp_skip ?_
    | with_reducible refine wp_ret ?_
    | with_reducible refine wp_exit ?_
    | with_reducible refine sx_then_ret ?_
    | with_reducible refine sx_inb_ret ?_
    | with_reducible refine sx_then_exit ?_
    | with_reducible refine sx_inb_exit ?_
    | with_reducible refine sx_inb_other rfl ?_
    | with_reducible refine sx_if_t A rfl ?_
    | with_reducible refine sx_if_f A rfl ?_
    | ((with_reducible refine sx_at ?_); first
      | (refine sx_pure A tbOk rfl rfl rfl ?_; clear A; intro a A)
      | (refine sx_skip A rfl rfl ?_; clear A; intro a A)
      | ((with_reducible refine g_bin ?_); first | ((refine g_int A rfl ?_); first | (refine sx_cmp A rfl rfl rfl rfl ?_; clear A; intro a A) | (refine sx_arith A rfl rfl rfl rfl ?_; clear A; intro a A) | (refine sx_shl A rfl rfl rfl rfl ?_; clear A; intro a A) | (refine sx_shr A rfl rfl rfl rfl ?_; clear A; intro a A)) | ((refine g_str A rfl ?_); first | (refine sx_scmp A rfl rfl rfl rfl ?_; clear A; intro a A) | (refine sx_concat A rfl rfl rfl rfl ?_; clear A; intro a A)))
      | ((with_reducible refine g_load ?_); first | (refine sx_load_all H A tbOk rfl rfl rfl rfl rfl ?_; clear A; intro a A) | (refine sx_load H A tbOk rfl rfl rfl rfl ?_; clear A; intro a A))
      | ((with_reducible refine g_store ?_); refine sx_store H A tbOk rfl rfl rfl rfl ?_; clear H; intro w_ H)
      | ((with_reducible refine g_box ?_); refine sx_box H A rfl rfl rfl ?_; clear H A; intro b_ a w_ A H)
      | ((with_reducible refine g_alloc ?_); refine sx_alloc H A tbOk rfl rfl rfl ?_; clear H A; intro b_ a w_ A H)
      | ((with_reducible refine g_build ?_); refine sx_build A tbOk rfl rfl rfl rfl rfl rfl ?_; clear A; intro a A)
      | ((with_reducible refine g_builtin ?_); first | (refine sx_min A rfl rfl rfl rfl ?_; clear A; intro a A) | (refine sx_max A rfl rfl rfl rfl ?_; clear A; intro a A))
      | ((with_reducible refine g_slice ?_); first | (refine sx_sstr A tbOk rfl rfl rfl rfl rfl rfl ?_; clear A; intro a A) | (refine sx_cut H A tbOk rfl rfl rfl rfl rfl rfl rfl ?_; clear A H; intro A_ c_ a hc_ A H))
      | ((with_reducible refine g_index ?_); refine sx_sidx A tbOk rfl rfl rfl rfl rfl ?_; clear A; intro a A)
      | ((with_reducible refine g_idx ?_); first | (refine sx_idx H A tbOk rfl rfl rfl rfl rfl rfl ?_; clear A; intro a A) | (refine sx_oidx H A tbOk rfl rfl rfl rfl rfl rfl ?_; clear A; intro a A))
      | ((with_reducible refine g_conv ?_); refine sx_conv A tbOk rfl rfl rfl rfl rfl ?_; clear A; intro a A)
      )
    | ((with_reducible refine g_draw ?_); refine qx_region H (by kernel_rfl) (by kernel_rfl) ?_)
    | ((with_reducible refine qx_nil ?_); clear H; intro w_ F_ H)
    | ((with_reducible refine q_at ?_); first
      | (refine qx_pure A tbOk rfl rfl rfl ?_; clear A; intro a A)
      | (refine qx_skip A rfl rfl ?_; clear A; intro a A)
      | ((with_reducible refine qg_bin ?_); first | ((refine qg_int A rfl ?_); first | (refine qx_cmp A rfl rfl rfl rfl ?_; clear A; intro a A) | (refine qx_arith A rfl rfl rfl rfl ?_; clear A; intro a A)) | ((refine qg_str A rfl ?_); first | (refine qx_scmp A rfl rfl rfl rfl ?_; clear A; intro a A) | (refine qx_concat A rfl rfl rfl rfl ?_; clear A; intro a A)))
      | ((with_reducible refine qg_builtin ?_); first | (refine qx_min A rfl rfl rfl rfl ?_; clear A; intro a A) | (refine qx_max A rfl rfl rfl rfl ?_; clear A; intro a A))
      | ((with_reducible refine qg_slice ?_); refine qx_sstr A tbOk rfl rfl rfl rfl rfl rfl ?_; clear A; intro a A)
      | ((with_reducible refine qg_load ?_); refine qx_load A tbOk rfl rfl rfl rfl ?_; clear A; intro a A)
      | ((with_reducible refine qg_idx ?_); first | (refine qx_idx H A tbOk rfl rfl rfl rfl rfl rfl ?_; clear A; intro a A) | (refine qx_oidx H A tbOk rfl rfl rfl rfl rfl rfl ?_; clear A; intro a A)))
    )
  refine sx_rounds (fun i : Nat => i ≤ l.length ∧ x ∉ l.take i) (fun i => [(8, .int .i64 (i : Int)), (7, _), (0, _), (1, _)]) (fun i => []) (fun _ => [_]) (fun i => l.length - i) 0 H A.subs ⟨Nat.zero_le _, by simp⟩ (fun i F a W hi H A => ?_)
  obtain ⟨hi, hx⟩ := hi
  rcases Nat.lt_or_ge i l.length with hlt | hge
  · obtain ⟨y, hy⟩ : ∃ y, l[i]? = some y := ⟨_, List.getElem?_eq_getElem hlt⟩
    have hy2 := (List.getElem?_eq_some_iff.1 hy).2
    have hmem : y ∈ l := List.mem_of_getElem? hy
    by_cases hxy : x = y
    all_goals repeat' (first
    | ((with_reducible refine g_load ?_); refine sx_eloadI H A tbOk rfl rfl rfl rfl rfl ?_; clear A; intro a A)
    | (refine sx_ret tbOk H A rfl ?_; exact H.ret0 fun Fx Hx => k _ Fx _ (by rw [hxy]; exact ⟨fun _ => hmem, fun _ => by omega⟩) (by omega) (by omega) Hx)
    | with_reducible refine wp_seq ?_
    | with_reducible refine sx_region ?_
    | with_reducible refine wp_block ?_
    | with_reducible refine wpList_nil ?_
    | with_reducible refine sx_then ?_
    | with_reducible refine sx_inb ?_
    | with_reducible refine wp_skip ?_
    | with_reducible refine wp_ret ?_
    | with_reducible refine wp_exit ?_
    | with_reducible refine sx_then_ret ?_
    | with_reducible refine sx_inb_ret ?_
    | with_reducible refine sx_then_exit ?_
    | with_reducible refine sx_inb_exit ?_
    | with_reducible refine sx_inb_other rfl ?_
    | with_reducible refine sx_if_t A rfl ?_
    | with_reducible refine sx_if_f A rfl ?_
    | ((with_reducible refine sx_at ?_); first
      | (refine sx_pure A tbOk rfl rfl rfl ?_; clear A; intro a A)
      | (refine sx_skip A rfl rfl ?_; clear A; intro a A)
      | ((with_reducible refine g_bin ?_); first | ((refine g_int A rfl ?_); first | (refine sx_cmp A rfl rfl rfl rfl ?_; clear A; intro a A) | (refine sx_arith A rfl rfl rfl rfl ?_; clear A; intro a A) | (refine sx_shl A rfl rfl rfl rfl ?_; clear A; intro a A) | (refine sx_shr A rfl rfl rfl rfl ?_; clear A; intro a A)) | ((refine g_str A rfl ?_); first | (refine sx_scmp A rfl rfl rfl rfl ?_; clear A; intro a A) | (refine sx_concat A rfl rfl rfl rfl ?_; clear A; intro a A)))
      | ((with_reducible refine g_load ?_); first | (refine sx_load_all H A tbOk rfl rfl rfl rfl rfl ?_; clear A; intro a A) | (refine sx_load H A tbOk rfl rfl rfl rfl ?_; clear A; intro a A))
      | ((with_reducible refine g_store ?_); refine sx_store H A tbOk rfl rfl rfl rfl ?_; clear H; intro w_ H)
      | ((with_reducible refine g_box ?_); refine sx_box H A rfl rfl rfl ?_; clear H A; intro b_ a w_ A H)
      | ((with_reducible refine g_alloc ?_); refine sx_alloc H A tbOk rfl rfl rfl ?_; clear H A; intro b_ a w_ A H)
      | ((with_reducible refine g_build ?_); refine sx_build A tbOk rfl rfl rfl rfl rfl rfl ?_; clear A; intro a A)
      | ((with_reducible refine g_builtin ?_); first | (refine sx_min A rfl rfl rfl rfl ?_; clear A; intro a A) | (refine sx_max A rfl rfl rfl rfl ?_; clear A; intro a A))
      | ((with_reducible refine g_slice ?_); first | (refine sx_sstr A tbOk rfl rfl rfl rfl rfl rfl ?_; clear A; intro a A) | (refine sx_cut H A tbOk rfl rfl rfl rfl rfl rfl rfl ?_; clear A H; intro A_ c_ a hc_ A H))
      | ((with_reducible refine g_index ?_); refine sx_sidx A tbOk rfl rfl rfl rfl rfl ?_; clear A; intro a A)
      | ((with_reducible refine g_idx ?_); first | (refine sx_idx H A tbOk rfl rfl rfl rfl rfl rfl ?_; clear A; intro a A) | (refine sx_oidx H A tbOk rfl rfl rfl rfl rfl rfl ?_; clear A; intro a A))
      | ((with_reducible refine g_conv ?_); refine sx_conv A tbOk rfl rfl rfl rfl rfl ?_; clear A; intro a A)
      )
    | ((with_reducible refine g_draw ?_); refine qx_region H (by kernel_rfl) (by kernel_rfl) ?_)
    | ((with_reducible refine qx_nil ?_); clear H; intro w_ F_ H)
    | ((with_reducible refine q_at ?_); first
      | (refine qx_pure A tbOk rfl rfl rfl ?_; clear A; intro a A)
      | (refine qx_skip A rfl rfl ?_; clear A; intro a A)
      | ((with_reducible refine qg_bin ?_); first | ((refine qg_int A rfl ?_); first | (refine qx_cmp A rfl rfl rfl rfl ?_; clear A; intro a A) | (refine qx_arith A rfl rfl rfl rfl ?_; clear A; intro a A)) | ((refine qg_str A rfl ?_); first | (refine qx_scmp A rfl rfl rfl rfl ?_; clear A; intro a A) | (refine qx_concat A rfl rfl rfl rfl ?_; clear A; intro a A)))
      | ((with_reducible refine qg_builtin ?_); first | (refine qx_min A rfl rfl rfl rfl ?_; clear A; intro a A) | (refine qx_max A rfl rfl rfl rfl ?_; clear A; intro a A))
      | ((with_reducible refine qg_slice ?_); refine qx_sstr A tbOk rfl rfl rfl rfl rfl rfl ?_; clear A; intro a A)
      | ((with_reducible refine qg_load ?_); refine qx_load A tbOk rfl rfl rfl rfl ?_; clear A; intro a A)
      | ((with_reducible refine qg_idx ?_); first | (refine qx_idx H A tbOk rfl rfl rfl rfl rfl rfl ?_; clear A; intro a A) | (refine qx_oidx H A tbOk rfl rfl rfl rfl rfl rfl ?_; clear A; intro a A)))
    )
    exact ⟨i + 1, _, ⟨by omega, by rw [List.take_succ_eq_append_getElem hlt, hy2]; simp [hx, hxy]⟩, by omega, H, A.subs⟩
  · have hxl : x ∉ l := by rwa [show i = l.length by omega, List.take_length] at hx
    repeat' (first
    | (refine sx_end tbOk H A rfl ?_; exact H.ret0 fun Fx Hx => k _ Fx _ ⟨fun h => absurd h (by decide), fun h => absurd h hxl⟩ (by omega) (by omega) Hx)
    | (refine sx_ret tbOk H A rfl ?_; exact H.ret0 fun Fx Hx => k _ Fx _ ⟨fun h => absurd h (by decide), fun h => absurd h hxl⟩ (by omega) (by omega) Hx)
    | with_reducible refine wp_seq ?_
    | with_reducible refine sx_region ?_
    | with_reducible refine wp_block ?_
    | with_reducible refine wpList_nil ?_
    | with_reducible refine sx_then ?_
    | with_reducible refine sx_inb ?_
    | with_reducible refine wp_skip ?_
    | with_reducible refine wp_ret ?_
    | with_reducible refine wp_exit ?_
    | with_reducible refine sx_then_ret ?_
    | with_reducible refine sx_inb_ret ?_
    | with_reducible refine sx_then_exit ?_
    | with_reducible refine sx_inb_exit ?_
    | with_reducible refine sx_inb_other rfl ?_
    | with_reducible refine sx_if_t A rfl ?_
    | with_reducible refine sx_if_f A rfl ?_
    | ((with_reducible refine sx_at ?_); first
      | (refine sx_pure A tbOk rfl rfl rfl ?_; clear A; intro a A)
      | (refine sx_skip A rfl rfl ?_; clear A; intro a A)
      | ((with_reducible refine g_bin ?_); first | ((refine g_int A rfl ?_); first | (refine sx_cmp A rfl rfl rfl rfl ?_; clear A; intro a A) | (refine sx_arith A rfl rfl rfl rfl ?_; clear A; intro a A) | (refine sx_shl A rfl rfl rfl rfl ?_; clear A; intro a A) | (refine sx_shr A rfl rfl rfl rfl ?_; clear A; intro a A)) | ((refine g_str A rfl ?_); first | (refine sx_scmp A rfl rfl rfl rfl ?_; clear A; intro a A) | (refine sx_concat A rfl rfl rfl rfl ?_; clear A; intro a A)))
      | ((with_reducible refine g_load ?_); first | (refine sx_load_all H A tbOk rfl rfl rfl rfl rfl ?_; clear A; intro a A) | (refine sx_load H A tbOk rfl rfl rfl rfl ?_; clear A; intro a A))
      | ((with_reducible refine g_store ?_); refine sx_store H A tbOk rfl rfl rfl rfl ?_; clear H; intro w_ H)
      | ((with_reducible refine g_box ?_); refine sx_box H A rfl rfl rfl ?_; clear H A; intro b_ a w_ A H)
      | ((with_reducible refine g_alloc ?_); refine sx_alloc H A tbOk rfl rfl rfl ?_; clear H A; intro b_ a w_ A H)
      | ((with_reducible refine g_build ?_); refine sx_build A tbOk rfl rfl rfl rfl rfl rfl ?_; clear A; intro a A)
      | ((with_reducible refine g_builtin ?_); first | (refine sx_min A rfl rfl rfl rfl ?_; clear A; intro a A) | (refine sx_max A rfl rfl rfl rfl ?_; clear A; intro a A))
      | ((with_reducible refine g_slice ?_); first | (refine sx_sstr A tbOk rfl rfl rfl rfl rfl rfl ?_; clear A; intro a A) | (refine sx_cut H A tbOk rfl rfl rfl rfl rfl rfl rfl ?_; clear A H; intro A_ c_ a hc_ A H))
      | ((with_reducible refine g_index ?_); refine sx_sidx A tbOk rfl rfl rfl rfl rfl ?_; clear A; intro a A)
      | ((with_reducible refine g_idx ?_); first | (refine sx_idx H A tbOk rfl rfl rfl rfl rfl rfl ?_; clear A; intro a A) | (refine sx_oidx H A tbOk rfl rfl rfl rfl rfl rfl ?_; clear A; intro a A))
      | ((with_reducible refine g_conv ?_); refine sx_conv A tbOk rfl rfl rfl rfl rfl ?_; clear A; intro a A)
      )
    | ((with_reducible refine g_draw ?_); refine qx_region H (by kernel_rfl) (by kernel_rfl) ?_)
    | ((with_reducible refine qx_nil ?_); clear H; intro w_ F_ H)
    | ((with_reducible refine q_at ?_); first
      | (refine qx_pure A tbOk rfl rfl rfl ?_; clear A; intro a A)
      | (refine qx_skip A rfl rfl ?_; clear A; intro a A)
      | ((with_reducible refine qg_bin ?_); first | ((refine qg_int A rfl ?_); first | (refine qx_cmp A rfl rfl rfl rfl ?_; clear A; intro a A) | (refine qx_arith A rfl rfl rfl rfl ?_; clear A; intro a A)) | ((refine qg_str A rfl ?_); first | (refine qx_scmp A rfl rfl rfl rfl ?_; clear A; intro a A) | (refine qx_concat A rfl rfl rfl rfl ?_; clear A; intro a A)))
      | ((with_reducible refine qg_builtin ?_); first | (refine qx_min A rfl rfl rfl rfl ?_; clear A; intro a A) | (refine qx_max A rfl rfl rfl rfl ?_; clear A; intro a A))
      | ((with_reducible refine qg_slice ?_); refine qx_sstr A tbOk rfl rfl rfl rfl rfl rfl ?_; clear A; intro a A)
      | ((with_reducible refine qg_load ?_); refine qx_load A tbOk rfl rfl rfl rfl ?_; clear A; intro a A)
      | ((with_reducible refine qg_idx ?_); first | (refine qx_idx H A tbOk rfl rfl rfl rfl rfl rfl ?_; clear A; intro a A) | (refine qx_oidx H A tbOk rfl rfl rfl rfl rfl rfl ?_; clear A; intro a A)))
    )
theorem sl_containsInt (H : St M F0 w0 F B R w) {A0 : Option Addr} {c0 : Nat} {l : List Int} {x : Int} {b : Bool} (hl : l.length ≤ 4611686018427387904) (hr : l.contains x = b) (k : ∀ Fx w', St M F0 w0 Fx B R w' → K (.returned (.bool b)) w') (hm : rdc (Kd.int .i64) A0 l ∈ R := by (repeat (first | with_reducible exact List.mem_cons_self | apply List.mem_cons_of_mem))) : Calls Tryd.prog 73 #[.slice A0 l.length c0, .int .i64 x] w K := by
  refine St.fn0 H (R0 := [rdc (Kd.int .i64) A0 l]) (fun p hp => by rw [List.mem_singleton.1 hp]; exact hm) (fun H => ?_)
  refine sx_enter Tryd.func73 Tryd.ntmps73 rfl rfl (fun a A => ?_)
  subst hr
  repeat' (first
    | ((with_reducible refine g_call ?_); refine sx_call (f := 85) A rfl Tryd.call85 rfl rfl ?_; refine sl_indexInt H hl ?_; clear H; intro r F_ w_ hx1 hx2 hx3 H; refine ⟨_, rfl, ?_⟩; clear A; intro a A; have hcr : cmpI .geq r 0 = some (l.contains x) := (by (show some (decide (r ≥ 0)) = _; congr 1; rw [Bool.eq_iff_iff, decide_eq_true_eq, List.contains_iff_mem]; exact hx1)))
    | (refine sx_ret tbOk H A rfl ?_; exact H.ret0 fun Fx Hx => k Fx _ Hx)
    | with_reducible refine wp_seq ?_
    | with_reducible refine sx_region ?_
    | with_reducible refine wp_block ?_
    | with_reducible refine wpList_nil ?_
    | with_reducible refine sx_then ?_
    | with_reducible refine sx_inb ?_
    | with_reducible refine wp_skip ?_
    | with_reducible refine wp_ret ?_
    | with_reducible refine wp_exit ?_
    | with_reducible refine sx_then_ret ?_
    | with_reducible refine sx_inb_ret ?_
    | with_reducible refine sx_then_exit ?_
    | with_reducible refine sx_inb_exit ?_
    | with_reducible refine sx_inb_other rfl ?_
    | with_reducible refine sx_if_t A rfl ?_
    | with_reducible refine sx_if_f A rfl ?_
    | ((with_reducible refine sx_at ?_); first
      | (refine sx_pure A tbOk rfl rfl rfl ?_; clear A; intro a A)
      | (refine sx_skip A rfl rfl ?_; clear A; intro a A)
      | ((with_reducible refine g_bin ?_); first | ((refine g_int A rfl ?_); first | (refine sx_cmp A rfl rfl rfl rfl ?_; clear A; intro a A) | (refine sx_arith A rfl rfl rfl rfl ?_; clear A; intro a A) | (refine sx_shl A rfl rfl rfl rfl ?_; clear A; intro a A) | (refine sx_shr A rfl rfl rfl rfl ?_; clear A; intro a A)) | ((refine g_str A rfl ?_); first | (refine sx_scmp A rfl rfl rfl rfl ?_; clear A; intro a A) | (refine sx_concat A rfl rfl rfl rfl ?_; clear A; intro a A)))
      | ((with_reducible refine g_load ?_); first | (refine sx_load_all H A tbOk rfl rfl rfl rfl rfl ?_; clear A; intro a A) | (refine sx_load H A tbOk rfl rfl rfl rfl ?_; clear A; intro a A))
      | ((with_reducible refine g_store ?_); refine sx_store H A tbOk rfl rfl rfl rfl ?_; clear H; intro w_ H)
      | ((with_reducible refine g_box ?_); refine sx_box H A rfl rfl rfl ?_; clear H A; intro b_ a w_ A H)
      | ((with_reducible refine g_alloc ?_); refine sx_alloc H A tbOk rfl rfl rfl ?_; clear H A; intro b_ a w_ A H)
      | ((with_reducible refine g_build ?_); refine sx_build A tbOk rfl rfl rfl rfl rfl rfl ?_; clear A; intro a A)
      | ((with_reducible refine g_builtin ?_); first | (refine sx_min A rfl rfl rfl rfl ?_; clear A; intro a A) | (refine sx_max A rfl rfl rfl rfl ?_; clear A; intro a A))
      | ((with_reducible refine g_slice ?_); first | (refine sx_sstr A tbOk rfl rfl rfl rfl rfl rfl ?_; clear A; intro a A) | (refine sx_cut H A tbOk rfl rfl rfl rfl rfl rfl rfl ?_; clear A H; intro A_ c_ a hc_ A H))
      | ((with_reducible refine g_index ?_); refine sx_sidx A tbOk rfl rfl rfl rfl rfl ?_; clear A; intro a A)
      | ((with_reducible refine g_idx ?_); first | (refine sx_idx H A tbOk rfl rfl rfl rfl rfl rfl ?_; clear A; intro a A) | (refine sx_oidx H A tbOk rfl rfl rfl rfl rfl rfl ?_; clear A; intro a A))
      | ((with_reducible refine g_conv ?_); refine sx_conv A tbOk rfl rfl rfl rfl rfl ?_; clear A; intro a A)
      )
    | ((with_reducible refine g_draw ?_); refine qx_region H (by kernel_rfl) (by kernel_rfl) ?_)
    | ((with_reducible refine qx_nil ?_); clear H; intro w_ F_ H)
    | ((with_reducible refine q_at ?_); first
      | (refine qx_pure A tbOk rfl rfl rfl ?_; clear A; intro a A)
      | (refine qx_skip A rfl rfl ?_; clear A; intro a A)
      | ((with_reducible refine qg_bin ?_); first | ((refine qg_int A rfl ?_); first | (refine qx_cmp A rfl rfl rfl rfl ?_; clear A; intro a A) | (refine qx_arith A rfl rfl rfl rfl ?_; clear A; intro a A)) | ((refine qg_str A rfl ?_); first | (refine qx_scmp A rfl rfl rfl rfl ?_; clear A; intro a A) | (refine qx_concat A rfl rfl rfl rfl ?_; clear A; intro a A)))
      | ((with_reducible refine qg_builtin ?_); first | (refine qx_min A rfl rfl rfl rfl ?_; clear A; intro a A) | (refine qx_max A rfl rfl rfl rfl ?_; clear A; intro a A))
      | ((with_reducible refine qg_slice ?_); refine qx_sstr A tbOk rfl rfl rfl rfl rfl rfl ?_; clear A; intro a A)
      | ((with_reducible refine qg_load ?_); refine qx_load A tbOk rfl rfl rfl rfl ?_; clear A; intro a A)
      | ((with_reducible refine qg_idx ?_); first | (refine qx_idx H A tbOk rfl rfl rfl rfl rfl rfl ?_; clear A; intro a A) | (refine qx_oidx H A tbOk rfl rfl rfl rfl rfl rfl ?_; clear A; intro a A)))
    )
end
end Go.Proofs.YtniplmjbligmlaaDoor.V
