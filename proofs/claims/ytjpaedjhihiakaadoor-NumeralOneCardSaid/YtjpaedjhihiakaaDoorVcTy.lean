/-
  The types of the program, as the reckoning asks for them: printed by wip/TyGen.lean.
-/
import Derived.Test.YtjpaedjhihiakaaDoorVcV
namespace Go.Proofs.YtjpaedjhihiakaaDoor
set_option linter.unusedVariables false
set_option maxRecDepth 100000
def tyL : List (Nat × TI) := [
  (1, ⟨.other, 1, [.v (.nilFunc)], false, 8⟩),
  (2, ⟨.int .i64, 1, [.v (.int .i64 0)], false, 8⟩),
  (3, ⟨.int .i64, 1, [.v (.int .i64 0)], false, 8⟩),
  (4, ⟨.bool, 1, [.v (.bool false)], false, 1⟩),
  (5, ⟨.int .u8, 1, [.v (.int .u8 0)], false, 1⟩),
  (6, ⟨.int .u8, 1, [.v (.int .u8 0)], false, 1⟩),
  (7, ⟨.struct [(0, 2), (1, 3), (2, 4), (3, 6)], 4, [.v (.int .i64 0), .v (.int .i64 0), .v (.bool false), .v (.int .u8 0)], true, 24⟩),
  (8, ⟨.struct [(0, 2), (1, 3), (2, 4), (3, 6)], 4, [.v (.int .i64 0), .v (.int .i64 0), .v (.bool false), .v (.int .u8 0)], true, 24⟩),
  (9, ⟨.str, 1, [.v (.string ⟨#[]⟩)], false, 16⟩),
  (10, ⟨.str, 1, [.v (.string ⟨#[]⟩)], false, 16⟩),
  (11, ⟨.str, 1, [.v (.string ⟨#[]⟩)], false, 16⟩),
  (12, ⟨.int .u64, 1, [.v (.int .u64 0)], false, 8⟩),
  (13, ⟨.struct [(0, 9), (1, 12)], 2, [.v (.string ⟨#[]⟩), .v (.int .u64 0)], false, 24⟩),
  (14, ⟨.struct [(0, 9), (1, 12)], 2, [.v (.string ⟨#[]⟩), .v (.int .u64 0)], false, 24⟩),
  (15, ⟨.other, 1, [.v (.pointer none)], false, 8⟩),
  (16, ⟨.other, 1, [.v (.pointer none)], false, 8⟩),
  (17, ⟨.other, 1, [.v (.pointer none)], false, 8⟩),
  (18, ⟨.struct [(0, 17)], 1, [.v (.pointer none)], false, 8⟩),
  (19, ⟨.struct [(0, 17)], 1, [.v (.pointer none)], false, 8⟩),
  (20, ⟨.other, 1, [.v (.nilIface)], false, 16⟩),
  (21, ⟨.int .i32, 1, [.v (.int .i32 0)], false, 4⟩),
  (22, ⟨.other, 1, [.v (.nilFunc)], false, 8⟩),
  (24, ⟨.other, 1, [.v (.nilFunc)], false, 8⟩),
  (25, ⟨.other, 1, [.v (.nilFunc)], false, 8⟩),
  (26, ⟨.struct [(0, 3), (1, 3), (2, 3), (3, 3), (4, 3), (5, 4)], 6, [.v (.int .i64 0), .v (.int .i64 0), .v (.int .i64 0), .v (.int .i64 0), .v (.int .i64 0), .v (.bool false)], true, 48⟩),
  (27, ⟨.struct [(0, 3), (1, 3), (2, 3), (3, 3), (4, 3), (5, 4)], 6, [.v (.int .i64 0), .v (.int .i64 0), .v (.int .i64 0), .v (.int .i64 0), .v (.int .i64 0), .v (.bool false)], true, 48⟩),
  (28, ⟨.struct [(0, 3), (1, 3), (2, 3)], 3, [.v (.int .i64 0), .v (.int .i64 0), .v (.int .i64 0)], true, 24⟩),
  (29, ⟨.struct [(0, 3), (1, 3), (2, 3)], 3, [.v (.int .i64 0), .v (.int .i64 0), .v (.int .i64 0)], true, 24⟩),
  (30, ⟨.struct [(0, 3), (1, 4), (2, 3)], 3, [.v (.int .i64 0), .v (.bool false), .v (.int .i64 0)], true, 24⟩),
  (31, ⟨.struct [(0, 3), (1, 4), (2, 3)], 3, [.v (.int .i64 0), .v (.bool false), .v (.int .i64 0)], true, 24⟩),
  (32, ⟨.struct [(0, 29), (3, 31)], 6, [.v (.int .i64 0), .v (.int .i64 0), .v (.int .i64 0), .v (.int .i64 0), .v (.bool false), .v (.int .i64 0)], true, 48⟩),
  (33, ⟨.struct [(0, 29), (3, 31)], 6, [.v (.int .i64 0), .v (.int .i64 0), .v (.int .i64 0), .v (.int .i64 0), .v (.bool false), .v (.int .i64 0)], true, 48⟩),
  (34, ⟨.other, 1, [.v (.nilFunc)], false, 8⟩),
  (35, ⟨.other, 1, [.v (.nilFunc)], false, 8⟩),
  (36, ⟨.other, 1, [.v (.nilFunc)], false, 8⟩),
  (37, ⟨.other, 1, [.v (.nilFunc)], false, 8⟩),
  (38, ⟨.other, 1, [.v (.nilFunc)], false, 8⟩),
  (39, ⟨.other, 1, [.v (.nilFunc)], false, 8⟩),
  (40, ⟨.other, 1, [.v (.nilFunc)], false, 8⟩),
  (41, ⟨.other, 1, [.v (.nilFunc)], false, 8⟩),
  (42, ⟨.other, 1, [.v (.nilFunc)], false, 8⟩),
  (43, ⟨.other, 1, [.v (.nilFunc)], false, 8⟩),
  (44, ⟨.int .u16, 1, [.v (.int .u16 0)], false, 2⟩),
  (45, ⟨.other, 1, [.v (.nilFunc)], false, 8⟩),
  (46, ⟨.other, 1, [.v (.nilFunc)], false, 8⟩),
  (47, ⟨.other, 1, [.v (.nilFunc)], false, 8⟩),
  (49, ⟨.other, 1, [.v (.nilFunc)], false, 8⟩),
  (51, ⟨.other, 1, [.v (.nilFunc)], false, 8⟩),
  (53, ⟨.other, 1, [.v (.nilFunc)], false, 8⟩),
  (54, ⟨.int .u64, 1, [.v (.int .u64 0)], false, 8⟩),
  (55, ⟨.struct [(0, 54), (1, 54)], 2, [.v (.int .u64 0), .v (.int .u64 0)], true, 16⟩),
  (56, ⟨.struct [(0, 54), (1, 54)], 2, [.v (.int .u64 0), .v (.int .u64 0)], true, 16⟩),
  (57, ⟨.struct [(0, 4), (1, 56), (3, 3)], 4, [.v (.bool false), .v (.int .u64 0), .v (.int .u64 0), .v (.int .i64 0)], true, 32⟩),
  (58, ⟨.struct [(0, 4), (1, 56), (3, 3)], 4, [.v (.bool false), .v (.int .u64 0), .v (.int .u64 0), .v (.int .i64 0)], true, 32⟩),
  (60, ⟨.other, 1, [.v (.nilFunc)], false, 8⟩),
  (61, ⟨.other, 1, [.v (.nilFunc)], false, 8⟩),
  (62, ⟨.other, 1, [.v (.nilFunc)], false, 8⟩),
  (63, ⟨.struct [(0, 4), (1, 56), (3, 3)], 4, [.v (.bool false), .v (.int .u64 0), .v (.int .u64 0), .v (.int .i64 0)], true, 32⟩),
  (64, ⟨.other, 1, [.v (.nilFunc)], false, 8⟩),
  (65, ⟨.other, 1, [.v (.nilFunc)], false, 8⟩),
  (66, ⟨.other, 1, [.v (.nilFunc)], false, 8⟩),
  (67, ⟨.other, 1, [.v (.nilFunc)], false, 8⟩),
  (68, ⟨.other, 1, [.v (.nilFunc)], false, 8⟩),
  (69, ⟨.other, 1, [.v (.nilFunc)], false, 8⟩),
  (70, ⟨.other, 1, [.v (.nilFunc)], false, 8⟩),
  (71, ⟨.other, 1, [.v (.nilFunc)], false, 8⟩),
  (72, ⟨.other, 1, [.v (.nilFunc)], false, 8⟩),
  (73, ⟨.other, 1, [.v (.nilFunc)], false, 8⟩),
  (75, ⟨.other, 1, [.v (.nilFunc)], false, 8⟩),
  (76, ⟨.slice 9, 1, [.sl 0 []], false, 24⟩),
  (77, ⟨.slice 3, 1, [.sl 0 []], false, 24⟩),
  (78, ⟨.other, 1, [.v (.nilFunc)], false, 8⟩),
  (80, ⟨.other, 1, [.v (.nilFunc)], false, 8⟩),
  (81, ⟨.other, 1, [.v (.nilFunc)], false, 8⟩),
  (82, ⟨.other, 1, [.v (.nilFunc)], false, 8⟩),
  (83, ⟨.other, 1, [.v (.nilFunc)], false, 8⟩),
  (84, ⟨.arr 2 3, 2, [.v (.int .i64 0), .v (.int .i64 0)], false, 16⟩),
  (85, ⟨.slice 84, 1, [.sl 0 []], false, 24⟩),
  (86, ⟨.other, 1, [.v (.nilFunc)], false, 8⟩),
  (87, ⟨.other, 1, [.v (.nilFunc)], false, 8⟩),
  (89, ⟨.other, 1, [.v (.nilFunc)], false, 8⟩),
  (90, ⟨.other, 1, [.v (.nilFunc)], false, 8⟩),
  (91, ⟨.other, 1, [.v (.nilFunc)], false, 8⟩),
  (92, ⟨.other, 1, [.v (.nilFunc)], false, 8⟩),
  (94, ⟨.other, 1, [.v (.nilFunc)], false, 8⟩),
  (95, ⟨.other, 1, [.v (.nilIface)], false, 16⟩),
  (96, ⟨.other, 1, [.v (.nilIface)], false, 16⟩),
  (98, ⟨.other, 1, [.v (.nilFunc)], false, 8⟩),
  (99, ⟨.struct [(0, 4), (1, 56), (3, 56), (5, 3), (6, 4)], 7, [.v (.bool false), .v (.int .u64 0), .v (.int .u64 0), .v (.int .u64 0), .v (.int .u64 0), .v (.int .i64 0), .v (.bool false)], true, 56⟩),
  (100, ⟨.struct [(0, 4), (1, 56), (3, 56), (5, 3), (6, 4)], 7, [.v (.bool false), .v (.int .u64 0), .v (.int .u64 0), .v (.int .u64 0), .v (.int .u64 0), .v (.int .i64 0), .v (.bool false)], true, 56⟩),
  (102, ⟨.other, 1, [.v (.nilFunc)], false, 8⟩),
  (103, ⟨.other, 1, [.v (.nilFunc)], false, 8⟩),
  (104, ⟨.int .i64, 1, [.v (.int .i64 0)], false, 8⟩),
  (105, ⟨.other, 1, [.v (.nilFunc)], false, 8⟩),
  (106, ⟨.other, 1, [.v (.nilFunc)], false, 8⟩),
  (107, ⟨.other, 1, [.v (.nilFunc)], false, 8⟩),
  (109, ⟨.other, 1, [.v (.nilFunc)], false, 8⟩),
  (110, ⟨.arr 40 5, 40, [.v (.int .u8 0), .v (.int .u8 0), .v (.int .u8 0), .v (.int .u8 0), .v (.int .u8 0), .v (.int .u8 0), .v (.int .u8 0), .v (.int .u8 0), .v (.int .u8 0), .v (.int .u8 0), .v (.int .u8 0), .v (.int .u8 0), .v (.int .u8 0), .v (.int .u8 0), .v (.int .u8 0), .v (.int .u8 0), .v (.int .u8 0), .v (.int .u8 0), .v (.int .u8 0), .v (.int .u8 0), .v (.int .u8 0), .v (.int .u8 0), .v (.int .u8 0), .v (.int .u8 0), .v (.int .u8 0), .v (.int .u8 0), .v (.int .u8 0), .v (.int .u8 0), .v (.int .u8 0), .v (.int .u8 0), .v (.int .u8 0), .v (.int .u8 0), .v (.int .u8 0), .v (.int .u8 0), .v (.int .u8 0), .v (.int .u8 0), .v (.int .u8 0), .v (.int .u8 0), .v (.int .u8 0), .v (.int .u8 0)], false, 40⟩),
  (112, ⟨.other, 1, [.v (.nilFunc)], false, 8⟩),
  (113, ⟨.slice 5, 1, [.sl 0 []], false, 24⟩),
  (115, ⟨.other, 1, [.v (.nilFunc)], false, 8⟩),
  (116, ⟨.other, 1, [.v (.nilFunc)], false, 8⟩),
  (117, ⟨.other, 1, [.v (.nilFunc)], false, 8⟩),
  (118, ⟨.other, 1, [.v (.nilFunc)], false, 8⟩),
  (120, ⟨.other, 1, [.v (.nilFunc)], false, 8⟩),
  (121, ⟨.other, 1, [.v (.nilFunc)], false, 8⟩),
  (122, ⟨.slice 3, 1, [.sl 0 []], false, 24⟩),
  (123, ⟨.other, 1, [.v (.nilFunc)], false, 8⟩),
  (124, ⟨.other, 1, [.v (.nilFunc)], false, 8⟩),
  (125, ⟨.other, 1, [.v (.nilFunc)], false, 8⟩),
  (126, ⟨.other, 1, [.v (.nilFunc)], false, 8⟩),
  (127, ⟨.other, 1, [.v (.nilFunc)], false, 8⟩),
  (128, ⟨.other, 1, [.v (.nilFunc)], false, 8⟩),
  (129, ⟨.other, 1, [.v (.nilFunc)], false, 8⟩),
  (130, ⟨.other, 1, [.v (.nilFunc)], false, 8⟩),
  (134, ⟨.other, 1, [.v (.nilFunc)], false, 8⟩),
  (135, ⟨.other, 1, [.v (.nilFunc)], false, 8⟩),
  (136, ⟨.other, 1, [.v (.pointer none)], false, 8⟩),
  (138, ⟨.other, 1, [.v (.nilFunc)], false, 8⟩),
  (140, ⟨.other, 1, [.v (.nilFunc)], false, 8⟩),
  (141, ⟨.other, 1, [.v (.nilFunc)], false, 8⟩),
  (142, ⟨.int .u64, 1, [.v (.int .u64 0)], false, 8⟩),
  (143, ⟨.other, 1, [.v (.nilFunc)], false, 8⟩),
  (144, ⟨.arr 4 54, 4, [.v (.int .u64 0), .v (.int .u64 0), .v (.int .u64 0), .v (.int .u64 0)], false, 32⟩),
  (146, ⟨.other, 1, [.v (.nilFunc)], false, 8⟩),
  (147, ⟨.other, 1, [.v (.nilFunc)], false, 8⟩),
  (148, ⟨.slice 54, 1, [.sl 0 []], false, 24⟩),
  (149, ⟨.other, 1, [.v (.nilFunc)], false, 8⟩),
  (150, ⟨.other, 1, [.v (.nilFunc)], false, 8⟩),
  (151, ⟨.int .i64, 1, [.v (.int .i64 0)], false, 8⟩),
  (153, ⟨.other, 1, [.v (.nilFunc)], false, 8⟩),
  (154, ⟨.other, 1, [.v (.pointer none)], false, 8⟩),
  (155, ⟨.other, 1, [.v (.nilFunc)], false, 8⟩),
  (156, ⟨.other, 1, [.v (.nilFunc)], false, 8⟩),
  (157, ⟨.other, 1, [.v (.nilFunc)], false, 8⟩),
  (159, ⟨.other, 1, [.v (.nilFunc)], false, 8⟩),
  (160, ⟨.other, 1, [.v (.nilFunc)], false, 8⟩),
  (161, ⟨.other, 1, [.v (.nilFunc)], false, 8⟩),
  (162, ⟨.other, 1, [.v (.nilFunc)], false, 8⟩),
  (164, ⟨.other, 1, [.v (.nilFunc)], false, 8⟩),
  (165, ⟨.other, 1, [.v (.nilFunc)], false, 8⟩),
  (166, ⟨.other, 1, [.v (.nilFunc)], false, 8⟩),
  (167, ⟨.other, 1, [.v (.nilFunc)], false, 8⟩),
  (168, ⟨.other, 1, [.v (.nilFunc)], false, 8⟩),
  (170, ⟨.other, 1, [.v (.nilFunc)], false, 8⟩),
  (171, ⟨.other, 1, [.v (.nilFunc)], false, 8⟩),
  (172, ⟨.struct [(0, 9), (1, 9), (2, 96)], 3, [.v (.string ⟨#[]⟩), .v (.string ⟨#[]⟩), .v (.nilIface)], false, 48⟩),
  (173, ⟨.struct [(0, 9), (1, 9), (2, 96)], 3, [.v (.string ⟨#[]⟩), .v (.string ⟨#[]⟩), .v (.nilIface)], false, 48⟩),
  (174, ⟨.other, 1, [.v (.nilFunc)], false, 8⟩),
  (175, ⟨.other, 1, [.v (.nilFunc)], false, 8⟩),
  (176, ⟨.arr 24 5, 24, [.v (.int .u8 0), .v (.int .u8 0), .v (.int .u8 0), .v (.int .u8 0), .v (.int .u8 0), .v (.int .u8 0), .v (.int .u8 0), .v (.int .u8 0), .v (.int .u8 0), .v (.int .u8 0), .v (.int .u8 0), .v (.int .u8 0), .v (.int .u8 0), .v (.int .u8 0), .v (.int .u8 0), .v (.int .u8 0), .v (.int .u8 0), .v (.int .u8 0), .v (.int .u8 0), .v (.int .u8 0), .v (.int .u8 0), .v (.int .u8 0), .v (.int .u8 0), .v (.int .u8 0)], false, 24⟩),
  (177, ⟨.other, 1, [.v (.nilFunc)], false, 8⟩),
  (179, ⟨.other, 1, [.v (.nilFunc)], false, 8⟩),
  (180, ⟨.int .u32, 1, [.v (.int .u32 0)], false, 4⟩),
  (182, ⟨.other, 1, [.v (.nilFunc)], false, 8⟩),
  (183, ⟨.other, 1, [.v (.nilFunc)], false, 8⟩),
  (184, ⟨.other, 1, [.v (.pointer none)], false, 8⟩),
  (185, ⟨.other, 1, [.v (.pointer none)], false, 8⟩),
  (186, ⟨.struct [(0, 9)], 1, [.v (.string ⟨#[]⟩)], true, 16⟩),
  (187, ⟨.struct [(0, 9)], 1, [.v (.string ⟨#[]⟩)], true, 16⟩),
  (189, ⟨.struct [(0, 5), (1, 5)], 2, [.v (.int .u8 0), .v (.int .u8 0)], true, 2⟩),
  (190, ⟨.struct [(0, 5), (1, 5)], 2, [.v (.int .u8 0), .v (.int .u8 0)], true, 2⟩),
  (191, ⟨.arr 16 190, 32, [.v (.int .u8 0), .v (.int .u8 0), .v (.int .u8 0), .v (.int .u8 0), .v (.int .u8 0), .v (.int .u8 0), .v (.int .u8 0), .v (.int .u8 0), .v (.int .u8 0), .v (.int .u8 0), .v (.int .u8 0), .v (.int .u8 0), .v (.int .u8 0), .v (.int .u8 0), .v (.int .u8 0), .v (.int .u8 0), .v (.int .u8 0), .v (.int .u8 0), .v (.int .u8 0), .v (.int .u8 0), .v (.int .u8 0), .v (.int .u8 0), .v (.int .u8 0), .v (.int .u8 0), .v (.int .u8 0), .v (.int .u8 0), .v (.int .u8 0), .v (.int .u8 0), .v (.int .u8 0), .v (.int .u8 0), .v (.int .u8 0), .v (.int .u8 0)], false, 32⟩),
  (192, ⟨.other, 1, [.v (.nilFunc)], false, 8⟩),
  (193, ⟨.other, 1, [.v (.nilFunc)], false, 8⟩),
  (194, ⟨.arr 20 54, 20, [.v (.int .u64 0), .v (.int .u64 0), .v (.int .u64 0), .v (.int .u64 0), .v (.int .u64 0), .v (.int .u64 0), .v (.int .u64 0), .v (.int .u64 0), .v (.int .u64 0), .v (.int .u64 0), .v (.int .u64 0), .v (.int .u64 0), .v (.int .u64 0), .v (.int .u64 0), .v (.int .u64 0), .v (.int .u64 0), .v (.int .u64 0), .v (.int .u64 0), .v (.int .u64 0), .v (.int .u64 0)], false, 160⟩),
  (196, ⟨.other, 1, [.v (.nilFunc)], false, 8⟩),
  (197, ⟨.other, 1, [.v (.nilFunc)], false, 8⟩),
  (198, ⟨.arr 32 5, 32, [.v (.int .u8 0), .v (.int .u8 0), .v (.int .u8 0), .v (.int .u8 0), .v (.int .u8 0), .v (.int .u8 0), .v (.int .u8 0), .v (.int .u8 0), .v (.int .u8 0), .v (.int .u8 0), .v (.int .u8 0), .v (.int .u8 0), .v (.int .u8 0), .v (.int .u8 0), .v (.int .u8 0), .v (.int .u8 0), .v (.int .u8 0), .v (.int .u8 0), .v (.int .u8 0), .v (.int .u8 0), .v (.int .u8 0), .v (.int .u8 0), .v (.int .u8 0), .v (.int .u8 0), .v (.int .u8 0), .v (.int .u8 0), .v (.int .u8 0), .v (.int .u8 0), .v (.int .u8 0), .v (.int .u8 0), .v (.int .u8 0), .v (.int .u8 0)], false, 32⟩),
  (199, ⟨.arr 64 5, 64, [.v (.int .u8 0), .v (.int .u8 0), .v (.int .u8 0), .v (.int .u8 0), .v (.int .u8 0), .v (.int .u8 0), .v (.int .u8 0), .v (.int .u8 0), .v (.int .u8 0), .v (.int .u8 0), .v (.int .u8 0), .v (.int .u8 0), .v (.int .u8 0), .v (.int .u8 0), .v (.int .u8 0), .v (.int .u8 0), .v (.int .u8 0), .v (.int .u8 0), .v (.int .u8 0), .v (.int .u8 0), .v (.int .u8 0), .v (.int .u8 0), .v (.int .u8 0), .v (.int .u8 0), .v (.int .u8 0), .v (.int .u8 0), .v (.int .u8 0), .v (.int .u8 0), .v (.int .u8 0), .v (.int .u8 0), .v (.int .u8 0), .v (.int .u8 0), .v (.int .u8 0), .v (.int .u8 0), .v (.int .u8 0), .v (.int .u8 0), .v (.int .u8 0), .v (.int .u8 0), .v (.int .u8 0), .v (.int .u8 0), .v (.int .u8 0), .v (.int .u8 0), .v (.int .u8 0), .v (.int .u8 0), .v (.int .u8 0), .v (.int .u8 0), .v (.int .u8 0), .v (.int .u8 0), .v (.int .u8 0), .v (.int .u8 0), .v (.int .u8 0), .v (.int .u8 0), .v (.int .u8 0), .v (.int .u8 0), .v (.int .u8 0), .v (.int .u8 0), .v (.int .u8 0), .v (.int .u8 0), .v (.int .u8 0), .v (.int .u8 0), .v (.int .u8 0), .v (.int .u8 0), .v (.int .u8 0), .v (.int .u8 0)], false, 64⟩),
  (200, ⟨.struct [(0, 17), (1, 17), (2, 17), (3, 9)], 4, [.v (.pointer none), .v (.pointer none), .v (.pointer none), .v (.string ⟨#[]⟩)], false, 40⟩),
  (201, ⟨.struct [(0, 17), (1, 17), (2, 17), (3, 9)], 4, [.v (.pointer none), .v (.pointer none), .v (.pointer none), .v (.string ⟨#[]⟩)], false, 40⟩),
  (202, ⟨.arr 0 16, 0, [], false, 0⟩),
  (203, ⟨.struct [(0, 202)], 0, [], false, 0⟩),
  (204, ⟨.struct [(0, 202)], 0, [], false, 0⟩),
  (205, ⟨.int .u8, 1, [.v (.int .u8 0)], false, 1⟩),
  (206, ⟨.int .u8, 1, [.v (.int .u8 0)], false, 1⟩),
  (207, ⟨.other, 1, [.v (.nilFunc)], false, 8⟩),
  (208, ⟨.int .i32, 1, [.v (.int .i32 0)], false, 4⟩),
  (209, ⟨.int .i32, 1, [.v (.int .i32 0)], false, 4⟩),
  (210, ⟨.struct [(0, 12), (1, 12), (2, 180), (3, 205), (4, 5), (5, 5), (6, 206), (7, 207), (8, 184), (9, 208), (10, 209)], 11, [.v (.int .u64 0), .v (.int .u64 0), .v (.int .u32 0), .v (.int .u8 0), .v (.int .u8 0), .v (.int .u8 0), .v (.int .u8 0), .v (.nilFunc), .v (.pointer none), .v (.int .i32 0), .v (.int .i32 0)], false, 48⟩),
  (211, ⟨.struct [(0, 12), (1, 12), (2, 180), (3, 205), (4, 5), (5, 5), (6, 206), (7, 207), (8, 184), (9, 208), (10, 209)], 11, [.v (.int .u64 0), .v (.int .u64 0), .v (.int .u32 0), .v (.int .u8 0), .v (.int .u8 0), .v (.int .u8 0), .v (.int .u8 0), .v (.nilFunc), .v (.pointer none), .v (.int .i32 0), .v (.int .i32 0)], false, 48⟩),
  (212, ⟨.other, 1, [.v (.pointer none)], false, 8⟩)]
def tyT : TypeId → Option TI := look tyL
theorem ty1 : TyOk1 Tryd.prog tyT 1 ⟨.other, 1, [.v (.nilFunc)], false, 8⟩ := ⟨⟨_, _, rfl, rfl, rfl, rfl, rfl, (by first | exact (fun _ => ⟨_, rfl⟩) | exact (fun h => by cases h)), (by first | exact (fun _ => rfl) | exact (fun h => by cases h))⟩, ⟨_, rfl, (fun _ h => by cases h), (fun _ _ h => by cases h)⟩, (fun fs h => by cases h),
  (fun h => by cases h)⟩
theorem ty2 : TyOk1 Tryd.prog tyT 2 ⟨.int .i64, 1, [.v (.int .i64 0)], false, 8⟩ := ⟨⟨_, _, rfl, rfl, rfl, rfl, rfl, (by first | exact (fun _ => ⟨_, rfl⟩) | exact (fun h => by cases h)), (by first | exact (fun _ => rfl) | exact (fun h => by cases h))⟩, rfl, (fun fs h => by cases h),
  (fun h => by cases h)⟩
theorem ty3 : TyOk1 Tryd.prog tyT 3 ⟨.int .i64, 1, [.v (.int .i64 0)], false, 8⟩ := ⟨⟨_, _, rfl, rfl, rfl, rfl, rfl, (by first | exact (fun _ => ⟨_, rfl⟩) | exact (fun h => by cases h)), (by first | exact (fun _ => rfl) | exact (fun h => by cases h))⟩, rfl, (fun fs h => by cases h),
  (fun h => by cases h)⟩
theorem ty4 : TyOk1 Tryd.prog tyT 4 ⟨.bool, 1, [.v (.bool false)], false, 1⟩ := ⟨⟨_, _, rfl, rfl, rfl, rfl, rfl, (by first | exact (fun _ => ⟨_, rfl⟩) | exact (fun h => by cases h)), (by first | exact (fun _ => rfl) | exact (fun h => by cases h))⟩, rfl, (fun fs h => by cases h),
  (fun h => by cases h)⟩
theorem ty5 : TyOk1 Tryd.prog tyT 5 ⟨.int .u8, 1, [.v (.int .u8 0)], false, 1⟩ := ⟨⟨_, _, rfl, rfl, rfl, rfl, rfl, (by first | exact (fun _ => ⟨_, rfl⟩) | exact (fun h => by cases h)), (by first | exact (fun _ => rfl) | exact (fun h => by cases h))⟩, rfl, (fun fs h => by cases h),
  (fun h => by cases h)⟩
theorem ty6 : TyOk1 Tryd.prog tyT 6 ⟨.int .u8, 1, [.v (.int .u8 0)], false, 1⟩ := ⟨⟨_, _, rfl, rfl, rfl, rfl, rfl, (by first | exact (fun _ => ⟨_, rfl⟩) | exact (fun h => by cases h)), (by first | exact (fun _ => rfl) | exact (fun h => by cases h))⟩, rfl, (fun fs h => by cases h),
  (fun h => by cases h)⟩
theorem ty7 : TyOk1 Tryd.prog tyT 7 ⟨.struct [(0, 2), (1, 3), (2, 4), (3, 6)], 4, [.v (.int .i64 0), .v (.int .i64 0), .v (.bool false), .v (.int .u8 0)], true, 24⟩ := ⟨⟨_, _, rfl, rfl, rfl, rfl, rfl, (by first | exact (fun _ => ⟨_, rfl⟩) | exact (fun h => by cases h)), (by first | exact (fun _ => rfl) | exact (fun h => by cases h))⟩, ⟨_, rfl, rfl⟩, (fun fs h => by injection h with h; subst h; intro p hp; revert p; simp only [List.forall_mem_cons, List.not_mem_nil, false_implies, implies_true, and_true]; first | rfl | (repeat' apply And.intro) <;> rfl),
  (fun _ => ⟨(by first | exact Tryd.stoodInHeld7 | kernel_rfl), (by first | exact Tryd.eqGuardType7 | kernel_rfl), (fun fields h => by injection h with h; injection h with h; subst h; simp)⟩)⟩
theorem ty8 : TyOk1 Tryd.prog tyT 8 ⟨.struct [(0, 2), (1, 3), (2, 4), (3, 6)], 4, [.v (.int .i64 0), .v (.int .i64 0), .v (.bool false), .v (.int .u8 0)], true, 24⟩ := ⟨⟨_, _, rfl, rfl, rfl, rfl, rfl, (by first | exact (fun _ => ⟨_, rfl⟩) | exact (fun h => by cases h)), (by first | exact (fun _ => rfl) | exact (fun h => by cases h))⟩, ⟨_, rfl, rfl⟩, (fun fs h => by injection h with h; subst h; intro p hp; revert p; simp only [List.forall_mem_cons, List.not_mem_nil, false_implies, implies_true, and_true]; first | rfl | (repeat' apply And.intro) <;> rfl),
  (fun _ => ⟨(by first | exact Tryd.stoodInHeld8 | kernel_rfl), (by first | exact Tryd.eqGuardType8 | kernel_rfl), (fun fields h => by injection h with h; injection h with h; subst h; simp)⟩)⟩
theorem ty9 : TyOk1 Tryd.prog tyT 9 ⟨.str, 1, [.v (.string ⟨#[]⟩)], false, 16⟩ := ⟨⟨_, _, rfl, rfl, rfl, rfl, rfl, (by first | exact (fun _ => ⟨_, rfl⟩) | exact (fun h => by cases h)), (by first | exact (fun _ => rfl) | exact (fun h => by cases h))⟩, rfl, (fun fs h => by cases h),
  (fun h => by cases h)⟩
theorem ty10 : TyOk1 Tryd.prog tyT 10 ⟨.str, 1, [.v (.string ⟨#[]⟩)], false, 16⟩ := ⟨⟨_, _, rfl, rfl, rfl, rfl, rfl, (by first | exact (fun _ => ⟨_, rfl⟩) | exact (fun h => by cases h)), (by first | exact (fun _ => rfl) | exact (fun h => by cases h))⟩, rfl, (fun fs h => by cases h),
  (fun h => by cases h)⟩
theorem ty11 : TyOk1 Tryd.prog tyT 11 ⟨.str, 1, [.v (.string ⟨#[]⟩)], false, 16⟩ := ⟨⟨_, _, rfl, rfl, rfl, rfl, rfl, (by first | exact (fun _ => ⟨_, rfl⟩) | exact (fun h => by cases h)), (by first | exact (fun _ => rfl) | exact (fun h => by cases h))⟩, rfl, (fun fs h => by cases h),
  (fun h => by cases h)⟩
theorem ty12 : TyOk1 Tryd.prog tyT 12 ⟨.int .u64, 1, [.v (.int .u64 0)], false, 8⟩ := ⟨⟨_, _, rfl, rfl, rfl, rfl, rfl, (by first | exact (fun _ => ⟨_, rfl⟩) | exact (fun h => by cases h)), (by first | exact (fun _ => rfl) | exact (fun h => by cases h))⟩, rfl, (fun fs h => by cases h),
  (fun h => by cases h)⟩
theorem ty13 : TyOk1 Tryd.prog tyT 13 ⟨.struct [(0, 9), (1, 12)], 2, [.v (.string ⟨#[]⟩), .v (.int .u64 0)], false, 24⟩ := ⟨⟨_, _, rfl, rfl, rfl, rfl, rfl, (by first | exact (fun _ => ⟨_, rfl⟩) | exact (fun h => by cases h)), (by first | exact (fun _ => rfl) | exact (fun h => by cases h))⟩, ⟨_, rfl, rfl⟩, (fun fs h => by injection h with h; subst h; intro p hp; revert p; simp only [List.forall_mem_cons, List.not_mem_nil, false_implies, implies_true, and_true]; first | rfl | (repeat' apply And.intro) <;> rfl),
  (fun h => by cases h)⟩
theorem ty14 : TyOk1 Tryd.prog tyT 14 ⟨.struct [(0, 9), (1, 12)], 2, [.v (.string ⟨#[]⟩), .v (.int .u64 0)], false, 24⟩ := ⟨⟨_, _, rfl, rfl, rfl, rfl, rfl, (by first | exact (fun _ => ⟨_, rfl⟩) | exact (fun h => by cases h)), (by first | exact (fun _ => rfl) | exact (fun h => by cases h))⟩, ⟨_, rfl, rfl⟩, (fun fs h => by injection h with h; subst h; intro p hp; revert p; simp only [List.forall_mem_cons, List.not_mem_nil, false_implies, implies_true, and_true]; first | rfl | (repeat' apply And.intro) <;> rfl),
  (fun h => by cases h)⟩
theorem ty15 : TyOk1 Tryd.prog tyT 15 ⟨.other, 1, [.v (.pointer none)], false, 8⟩ := ⟨⟨_, _, rfl, rfl, rfl, rfl, rfl, (by first | exact (fun _ => ⟨_, rfl⟩) | exact (fun h => by cases h)), (by first | exact (fun _ => rfl) | exact (fun h => by cases h))⟩, ⟨_, rfl, (fun _ h => by cases h), (fun _ _ h => by cases h)⟩, (fun fs h => by cases h),
  (fun h => by cases h)⟩
theorem ty16 : TyOk1 Tryd.prog tyT 16 ⟨.other, 1, [.v (.pointer none)], false, 8⟩ := ⟨⟨_, _, rfl, rfl, rfl, rfl, rfl, (by first | exact (fun _ => ⟨_, rfl⟩) | exact (fun h => by cases h)), (by first | exact (fun _ => rfl) | exact (fun h => by cases h))⟩, ⟨_, rfl, (fun _ h => by cases h), (fun _ _ h => by cases h)⟩, (fun fs h => by cases h),
  (fun h => by cases h)⟩
theorem ty17 : TyOk1 Tryd.prog tyT 17 ⟨.other, 1, [.v (.pointer none)], false, 8⟩ := ⟨⟨_, _, rfl, rfl, rfl, rfl, rfl, (by first | exact (fun _ => ⟨_, rfl⟩) | exact (fun h => by cases h)), (by first | exact (fun _ => rfl) | exact (fun h => by cases h))⟩, ⟨_, rfl, (fun _ h => by cases h), (fun _ _ h => by cases h)⟩, (fun fs h => by cases h),
  (fun h => by cases h)⟩
theorem ty18 : TyOk1 Tryd.prog tyT 18 ⟨.struct [(0, 17)], 1, [.v (.pointer none)], false, 8⟩ := ⟨⟨_, _, rfl, rfl, rfl, rfl, rfl, (by first | exact (fun _ => ⟨_, rfl⟩) | exact (fun h => by cases h)), (by first | exact (fun _ => rfl) | exact (fun h => by cases h))⟩, ⟨_, rfl, rfl⟩, (fun fs h => by injection h with h; subst h; intro p hp; revert p; simp only [List.forall_mem_cons, List.not_mem_nil, false_implies, implies_true, and_true]; first | rfl | (repeat' apply And.intro) <;> rfl),
  (fun h => by cases h)⟩
theorem ty19 : TyOk1 Tryd.prog tyT 19 ⟨.struct [(0, 17)], 1, [.v (.pointer none)], false, 8⟩ := ⟨⟨_, _, rfl, rfl, rfl, rfl, rfl, (by first | exact (fun _ => ⟨_, rfl⟩) | exact (fun h => by cases h)), (by first | exact (fun _ => rfl) | exact (fun h => by cases h))⟩, ⟨_, rfl, rfl⟩, (fun fs h => by injection h with h; subst h; intro p hp; revert p; simp only [List.forall_mem_cons, List.not_mem_nil, false_implies, implies_true, and_true]; first | rfl | (repeat' apply And.intro) <;> rfl),
  (fun h => by cases h)⟩
theorem ty20 : TyOk1 Tryd.prog tyT 20 ⟨.other, 1, [.v (.nilIface)], false, 16⟩ := ⟨⟨_, _, rfl, rfl, rfl, rfl, rfl, (by first | exact (fun _ => ⟨_, rfl⟩) | exact (fun h => by cases h)), (by first | exact (fun _ => rfl) | exact (fun h => by cases h))⟩, ⟨_, rfl, (fun _ h => by cases h), (fun _ _ h => by cases h)⟩, (fun fs h => by cases h),
  (fun h => by cases h)⟩
theorem ty21 : TyOk1 Tryd.prog tyT 21 ⟨.int .i32, 1, [.v (.int .i32 0)], false, 4⟩ := ⟨⟨_, _, rfl, rfl, rfl, rfl, rfl, (by first | exact (fun _ => ⟨_, rfl⟩) | exact (fun h => by cases h)), (by first | exact (fun _ => rfl) | exact (fun h => by cases h))⟩, rfl, (fun fs h => by cases h),
  (fun h => by cases h)⟩
theorem ty22 : TyOk1 Tryd.prog tyT 22 ⟨.other, 1, [.v (.nilFunc)], false, 8⟩ := ⟨⟨_, _, rfl, rfl, rfl, rfl, rfl, (by first | exact (fun _ => ⟨_, rfl⟩) | exact (fun h => by cases h)), (by first | exact (fun _ => rfl) | exact (fun h => by cases h))⟩, ⟨_, rfl, (fun _ h => by cases h), (fun _ _ h => by cases h)⟩, (fun fs h => by cases h),
  (fun h => by cases h)⟩
theorem ty24 : TyOk1 Tryd.prog tyT 24 ⟨.other, 1, [.v (.nilFunc)], false, 8⟩ := ⟨⟨_, _, rfl, rfl, rfl, rfl, rfl, (by first | exact (fun _ => ⟨_, rfl⟩) | exact (fun h => by cases h)), (by first | exact (fun _ => rfl) | exact (fun h => by cases h))⟩, ⟨_, rfl, (fun _ h => by cases h), (fun _ _ h => by cases h)⟩, (fun fs h => by cases h),
  (fun h => by cases h)⟩
theorem ty25 : TyOk1 Tryd.prog tyT 25 ⟨.other, 1, [.v (.nilFunc)], false, 8⟩ := ⟨⟨_, _, rfl, rfl, rfl, rfl, rfl, (by first | exact (fun _ => ⟨_, rfl⟩) | exact (fun h => by cases h)), (by first | exact (fun _ => rfl) | exact (fun h => by cases h))⟩, ⟨_, rfl, (fun _ h => by cases h), (fun _ _ h => by cases h)⟩, (fun fs h => by cases h),
  (fun h => by cases h)⟩
theorem ty26 : TyOk1 Tryd.prog tyT 26 ⟨.struct [(0, 3), (1, 3), (2, 3), (3, 3), (4, 3), (5, 4)], 6, [.v (.int .i64 0), .v (.int .i64 0), .v (.int .i64 0), .v (.int .i64 0), .v (.int .i64 0), .v (.bool false)], true, 48⟩ := ⟨⟨_, _, rfl, rfl, rfl, rfl, rfl, (by first | exact (fun _ => ⟨_, rfl⟩) | exact (fun h => by cases h)), (by first | exact (fun _ => rfl) | exact (fun h => by cases h))⟩, ⟨_, rfl, rfl⟩, (fun fs h => by injection h with h; subst h; intro p hp; revert p; simp only [List.forall_mem_cons, List.not_mem_nil, false_implies, implies_true, and_true]; first | rfl | (repeat' apply And.intro) <;> rfl),
  (fun _ => ⟨(by first | exact Tryd.stoodInHeld26 | kernel_rfl), (by first | exact Tryd.eqGuardType26 | kernel_rfl), (fun fields h => by injection h with h; injection h with h; subst h; simp)⟩)⟩
theorem ty27 : TyOk1 Tryd.prog tyT 27 ⟨.struct [(0, 3), (1, 3), (2, 3), (3, 3), (4, 3), (5, 4)], 6, [.v (.int .i64 0), .v (.int .i64 0), .v (.int .i64 0), .v (.int .i64 0), .v (.int .i64 0), .v (.bool false)], true, 48⟩ := ⟨⟨_, _, rfl, rfl, rfl, rfl, rfl, (by first | exact (fun _ => ⟨_, rfl⟩) | exact (fun h => by cases h)), (by first | exact (fun _ => rfl) | exact (fun h => by cases h))⟩, ⟨_, rfl, rfl⟩, (fun fs h => by injection h with h; subst h; intro p hp; revert p; simp only [List.forall_mem_cons, List.not_mem_nil, false_implies, implies_true, and_true]; first | rfl | (repeat' apply And.intro) <;> rfl),
  (fun _ => ⟨(by first | exact Tryd.stoodInHeld27 | kernel_rfl), (by first | exact Tryd.eqGuardType27 | kernel_rfl), (fun fields h => by injection h with h; injection h with h; subst h; simp)⟩)⟩
theorem ty28 : TyOk1 Tryd.prog tyT 28 ⟨.struct [(0, 3), (1, 3), (2, 3)], 3, [.v (.int .i64 0), .v (.int .i64 0), .v (.int .i64 0)], true, 24⟩ := ⟨⟨_, _, rfl, rfl, rfl, rfl, rfl, (by first | exact (fun _ => ⟨_, rfl⟩) | exact (fun h => by cases h)), (by first | exact (fun _ => rfl) | exact (fun h => by cases h))⟩, ⟨_, rfl, rfl⟩, (fun fs h => by injection h with h; subst h; intro p hp; revert p; simp only [List.forall_mem_cons, List.not_mem_nil, false_implies, implies_true, and_true]; first | rfl | (repeat' apply And.intro) <;> rfl),
  (fun _ => ⟨(by first | exact Tryd.stoodInHeld28 | kernel_rfl), (by first | exact Tryd.eqGuardType28 | kernel_rfl), (fun fields h => by injection h with h; injection h with h; subst h; simp)⟩)⟩
theorem ty29 : TyOk1 Tryd.prog tyT 29 ⟨.struct [(0, 3), (1, 3), (2, 3)], 3, [.v (.int .i64 0), .v (.int .i64 0), .v (.int .i64 0)], true, 24⟩ := ⟨⟨_, _, rfl, rfl, rfl, rfl, rfl, (by first | exact (fun _ => ⟨_, rfl⟩) | exact (fun h => by cases h)), (by first | exact (fun _ => rfl) | exact (fun h => by cases h))⟩, ⟨_, rfl, rfl⟩, (fun fs h => by injection h with h; subst h; intro p hp; revert p; simp only [List.forall_mem_cons, List.not_mem_nil, false_implies, implies_true, and_true]; first | rfl | (repeat' apply And.intro) <;> rfl),
  (fun _ => ⟨(by first | exact Tryd.stoodInHeld29 | kernel_rfl), (by first | exact Tryd.eqGuardType29 | kernel_rfl), (fun fields h => by injection h with h; injection h with h; subst h; simp)⟩)⟩
theorem ty30 : TyOk1 Tryd.prog tyT 30 ⟨.struct [(0, 3), (1, 4), (2, 3)], 3, [.v (.int .i64 0), .v (.bool false), .v (.int .i64 0)], true, 24⟩ := ⟨⟨_, _, rfl, rfl, rfl, rfl, rfl, (by first | exact (fun _ => ⟨_, rfl⟩) | exact (fun h => by cases h)), (by first | exact (fun _ => rfl) | exact (fun h => by cases h))⟩, ⟨_, rfl, rfl⟩, (fun fs h => by injection h with h; subst h; intro p hp; revert p; simp only [List.forall_mem_cons, List.not_mem_nil, false_implies, implies_true, and_true]; first | rfl | (repeat' apply And.intro) <;> rfl),
  (fun _ => ⟨(by first | exact Tryd.stoodInHeld30 | kernel_rfl), (by first | exact Tryd.eqGuardType30 | kernel_rfl), (fun fields h => by injection h with h; injection h with h; subst h; simp)⟩)⟩
theorem ty31 : TyOk1 Tryd.prog tyT 31 ⟨.struct [(0, 3), (1, 4), (2, 3)], 3, [.v (.int .i64 0), .v (.bool false), .v (.int .i64 0)], true, 24⟩ := ⟨⟨_, _, rfl, rfl, rfl, rfl, rfl, (by first | exact (fun _ => ⟨_, rfl⟩) | exact (fun h => by cases h)), (by first | exact (fun _ => rfl) | exact (fun h => by cases h))⟩, ⟨_, rfl, rfl⟩, (fun fs h => by injection h with h; subst h; intro p hp; revert p; simp only [List.forall_mem_cons, List.not_mem_nil, false_implies, implies_true, and_true]; first | rfl | (repeat' apply And.intro) <;> rfl),
  (fun _ => ⟨(by first | exact Tryd.stoodInHeld31 | kernel_rfl), (by first | exact Tryd.eqGuardType31 | kernel_rfl), (fun fields h => by injection h with h; injection h with h; subst h; simp)⟩)⟩
theorem ty32 : TyOk1 Tryd.prog tyT 32 ⟨.struct [(0, 29), (3, 31)], 6, [.v (.int .i64 0), .v (.int .i64 0), .v (.int .i64 0), .v (.int .i64 0), .v (.bool false), .v (.int .i64 0)], true, 48⟩ := ⟨⟨_, _, rfl, rfl, rfl, rfl, rfl, (by first | exact (fun _ => ⟨_, rfl⟩) | exact (fun h => by cases h)), (by first | exact (fun _ => rfl) | exact (fun h => by cases h))⟩, ⟨_, rfl, rfl⟩, (fun fs h => by injection h with h; subst h; intro p hp; revert p; simp only [List.forall_mem_cons, List.not_mem_nil, false_implies, implies_true, and_true]; first | rfl | (repeat' apply And.intro) <;> rfl),
  (fun _ => ⟨(by first | exact Tryd.stoodInHeld32 | kernel_rfl), (by first | exact Tryd.eqGuardType32 | kernel_rfl), (fun fields h => by injection h with h; injection h with h; subst h; simp)⟩)⟩
theorem ty33 : TyOk1 Tryd.prog tyT 33 ⟨.struct [(0, 29), (3, 31)], 6, [.v (.int .i64 0), .v (.int .i64 0), .v (.int .i64 0), .v (.int .i64 0), .v (.bool false), .v (.int .i64 0)], true, 48⟩ := ⟨⟨_, _, rfl, rfl, rfl, rfl, rfl, (by first | exact (fun _ => ⟨_, rfl⟩) | exact (fun h => by cases h)), (by first | exact (fun _ => rfl) | exact (fun h => by cases h))⟩, ⟨_, rfl, rfl⟩, (fun fs h => by injection h with h; subst h; intro p hp; revert p; simp only [List.forall_mem_cons, List.not_mem_nil, false_implies, implies_true, and_true]; first | rfl | (repeat' apply And.intro) <;> rfl),
  (fun _ => ⟨(by first | exact Tryd.stoodInHeld33 | kernel_rfl), (by first | exact Tryd.eqGuardType33 | kernel_rfl), (fun fields h => by injection h with h; injection h with h; subst h; simp)⟩)⟩
theorem ty34 : TyOk1 Tryd.prog tyT 34 ⟨.other, 1, [.v (.nilFunc)], false, 8⟩ := ⟨⟨_, _, rfl, rfl, rfl, rfl, rfl, (by first | exact (fun _ => ⟨_, rfl⟩) | exact (fun h => by cases h)), (by first | exact (fun _ => rfl) | exact (fun h => by cases h))⟩, ⟨_, rfl, (fun _ h => by cases h), (fun _ _ h => by cases h)⟩, (fun fs h => by cases h),
  (fun h => by cases h)⟩
theorem ty35 : TyOk1 Tryd.prog tyT 35 ⟨.other, 1, [.v (.nilFunc)], false, 8⟩ := ⟨⟨_, _, rfl, rfl, rfl, rfl, rfl, (by first | exact (fun _ => ⟨_, rfl⟩) | exact (fun h => by cases h)), (by first | exact (fun _ => rfl) | exact (fun h => by cases h))⟩, ⟨_, rfl, (fun _ h => by cases h), (fun _ _ h => by cases h)⟩, (fun fs h => by cases h),
  (fun h => by cases h)⟩
theorem ty36 : TyOk1 Tryd.prog tyT 36 ⟨.other, 1, [.v (.nilFunc)], false, 8⟩ := ⟨⟨_, _, rfl, rfl, rfl, rfl, rfl, (by first | exact (fun _ => ⟨_, rfl⟩) | exact (fun h => by cases h)), (by first | exact (fun _ => rfl) | exact (fun h => by cases h))⟩, ⟨_, rfl, (fun _ h => by cases h), (fun _ _ h => by cases h)⟩, (fun fs h => by cases h),
  (fun h => by cases h)⟩
theorem ty37 : TyOk1 Tryd.prog tyT 37 ⟨.other, 1, [.v (.nilFunc)], false, 8⟩ := ⟨⟨_, _, rfl, rfl, rfl, rfl, rfl, (by first | exact (fun _ => ⟨_, rfl⟩) | exact (fun h => by cases h)), (by first | exact (fun _ => rfl) | exact (fun h => by cases h))⟩, ⟨_, rfl, (fun _ h => by cases h), (fun _ _ h => by cases h)⟩, (fun fs h => by cases h),
  (fun h => by cases h)⟩
theorem ty38 : TyOk1 Tryd.prog tyT 38 ⟨.other, 1, [.v (.nilFunc)], false, 8⟩ := ⟨⟨_, _, rfl, rfl, rfl, rfl, rfl, (by first | exact (fun _ => ⟨_, rfl⟩) | exact (fun h => by cases h)), (by first | exact (fun _ => rfl) | exact (fun h => by cases h))⟩, ⟨_, rfl, (fun _ h => by cases h), (fun _ _ h => by cases h)⟩, (fun fs h => by cases h),
  (fun h => by cases h)⟩
theorem ty39 : TyOk1 Tryd.prog tyT 39 ⟨.other, 1, [.v (.nilFunc)], false, 8⟩ := ⟨⟨_, _, rfl, rfl, rfl, rfl, rfl, (by first | exact (fun _ => ⟨_, rfl⟩) | exact (fun h => by cases h)), (by first | exact (fun _ => rfl) | exact (fun h => by cases h))⟩, ⟨_, rfl, (fun _ h => by cases h), (fun _ _ h => by cases h)⟩, (fun fs h => by cases h),
  (fun h => by cases h)⟩
theorem ty40 : TyOk1 Tryd.prog tyT 40 ⟨.other, 1, [.v (.nilFunc)], false, 8⟩ := ⟨⟨_, _, rfl, rfl, rfl, rfl, rfl, (by first | exact (fun _ => ⟨_, rfl⟩) | exact (fun h => by cases h)), (by first | exact (fun _ => rfl) | exact (fun h => by cases h))⟩, ⟨_, rfl, (fun _ h => by cases h), (fun _ _ h => by cases h)⟩, (fun fs h => by cases h),
  (fun h => by cases h)⟩
theorem ty41 : TyOk1 Tryd.prog tyT 41 ⟨.other, 1, [.v (.nilFunc)], false, 8⟩ := ⟨⟨_, _, rfl, rfl, rfl, rfl, rfl, (by first | exact (fun _ => ⟨_, rfl⟩) | exact (fun h => by cases h)), (by first | exact (fun _ => rfl) | exact (fun h => by cases h))⟩, ⟨_, rfl, (fun _ h => by cases h), (fun _ _ h => by cases h)⟩, (fun fs h => by cases h),
  (fun h => by cases h)⟩
theorem ty42 : TyOk1 Tryd.prog tyT 42 ⟨.other, 1, [.v (.nilFunc)], false, 8⟩ := ⟨⟨_, _, rfl, rfl, rfl, rfl, rfl, (by first | exact (fun _ => ⟨_, rfl⟩) | exact (fun h => by cases h)), (by first | exact (fun _ => rfl) | exact (fun h => by cases h))⟩, ⟨_, rfl, (fun _ h => by cases h), (fun _ _ h => by cases h)⟩, (fun fs h => by cases h),
  (fun h => by cases h)⟩
theorem ty43 : TyOk1 Tryd.prog tyT 43 ⟨.other, 1, [.v (.nilFunc)], false, 8⟩ := ⟨⟨_, _, rfl, rfl, rfl, rfl, rfl, (by first | exact (fun _ => ⟨_, rfl⟩) | exact (fun h => by cases h)), (by first | exact (fun _ => rfl) | exact (fun h => by cases h))⟩, ⟨_, rfl, (fun _ h => by cases h), (fun _ _ h => by cases h)⟩, (fun fs h => by cases h),
  (fun h => by cases h)⟩
theorem ty44 : TyOk1 Tryd.prog tyT 44 ⟨.int .u16, 1, [.v (.int .u16 0)], false, 2⟩ := ⟨⟨_, _, rfl, rfl, rfl, rfl, rfl, (by first | exact (fun _ => ⟨_, rfl⟩) | exact (fun h => by cases h)), (by first | exact (fun _ => rfl) | exact (fun h => by cases h))⟩, rfl, (fun fs h => by cases h),
  (fun h => by cases h)⟩
theorem ty45 : TyOk1 Tryd.prog tyT 45 ⟨.other, 1, [.v (.nilFunc)], false, 8⟩ := ⟨⟨_, _, rfl, rfl, rfl, rfl, rfl, (by first | exact (fun _ => ⟨_, rfl⟩) | exact (fun h => by cases h)), (by first | exact (fun _ => rfl) | exact (fun h => by cases h))⟩, ⟨_, rfl, (fun _ h => by cases h), (fun _ _ h => by cases h)⟩, (fun fs h => by cases h),
  (fun h => by cases h)⟩
theorem ty46 : TyOk1 Tryd.prog tyT 46 ⟨.other, 1, [.v (.nilFunc)], false, 8⟩ := ⟨⟨_, _, rfl, rfl, rfl, rfl, rfl, (by first | exact (fun _ => ⟨_, rfl⟩) | exact (fun h => by cases h)), (by first | exact (fun _ => rfl) | exact (fun h => by cases h))⟩, ⟨_, rfl, (fun _ h => by cases h), (fun _ _ h => by cases h)⟩, (fun fs h => by cases h),
  (fun h => by cases h)⟩
theorem ty47 : TyOk1 Tryd.prog tyT 47 ⟨.other, 1, [.v (.nilFunc)], false, 8⟩ := ⟨⟨_, _, rfl, rfl, rfl, rfl, rfl, (by first | exact (fun _ => ⟨_, rfl⟩) | exact (fun h => by cases h)), (by first | exact (fun _ => rfl) | exact (fun h => by cases h))⟩, ⟨_, rfl, (fun _ h => by cases h), (fun _ _ h => by cases h)⟩, (fun fs h => by cases h),
  (fun h => by cases h)⟩
theorem ty49 : TyOk1 Tryd.prog tyT 49 ⟨.other, 1, [.v (.nilFunc)], false, 8⟩ := ⟨⟨_, _, rfl, rfl, rfl, rfl, rfl, (by first | exact (fun _ => ⟨_, rfl⟩) | exact (fun h => by cases h)), (by first | exact (fun _ => rfl) | exact (fun h => by cases h))⟩, ⟨_, rfl, (fun _ h => by cases h), (fun _ _ h => by cases h)⟩, (fun fs h => by cases h),
  (fun h => by cases h)⟩
theorem ty51 : TyOk1 Tryd.prog tyT 51 ⟨.other, 1, [.v (.nilFunc)], false, 8⟩ := ⟨⟨_, _, rfl, rfl, rfl, rfl, rfl, (by first | exact (fun _ => ⟨_, rfl⟩) | exact (fun h => by cases h)), (by first | exact (fun _ => rfl) | exact (fun h => by cases h))⟩, ⟨_, rfl, (fun _ h => by cases h), (fun _ _ h => by cases h)⟩, (fun fs h => by cases h),
  (fun h => by cases h)⟩
theorem ty53 : TyOk1 Tryd.prog tyT 53 ⟨.other, 1, [.v (.nilFunc)], false, 8⟩ := ⟨⟨_, _, rfl, rfl, rfl, rfl, rfl, (by first | exact (fun _ => ⟨_, rfl⟩) | exact (fun h => by cases h)), (by first | exact (fun _ => rfl) | exact (fun h => by cases h))⟩, ⟨_, rfl, (fun _ h => by cases h), (fun _ _ h => by cases h)⟩, (fun fs h => by cases h),
  (fun h => by cases h)⟩
theorem ty54 : TyOk1 Tryd.prog tyT 54 ⟨.int .u64, 1, [.v (.int .u64 0)], false, 8⟩ := ⟨⟨_, _, rfl, rfl, rfl, rfl, rfl, (by first | exact (fun _ => ⟨_, rfl⟩) | exact (fun h => by cases h)), (by first | exact (fun _ => rfl) | exact (fun h => by cases h))⟩, rfl, (fun fs h => by cases h),
  (fun h => by cases h)⟩
theorem ty55 : TyOk1 Tryd.prog tyT 55 ⟨.struct [(0, 54), (1, 54)], 2, [.v (.int .u64 0), .v (.int .u64 0)], true, 16⟩ := ⟨⟨_, _, rfl, rfl, rfl, rfl, rfl, (by first | exact (fun _ => ⟨_, rfl⟩) | exact (fun h => by cases h)), (by first | exact (fun _ => rfl) | exact (fun h => by cases h))⟩, ⟨_, rfl, rfl⟩, (fun fs h => by injection h with h; subst h; intro p hp; revert p; simp only [List.forall_mem_cons, List.not_mem_nil, false_implies, implies_true, and_true]; first | rfl | (repeat' apply And.intro) <;> rfl),
  (fun _ => ⟨(by first | exact Tryd.stoodInHeld55 | kernel_rfl), (by first | exact Tryd.eqGuardType55 | kernel_rfl), (fun fields h => by injection h with h; injection h with h; subst h; simp)⟩)⟩
theorem ty56 : TyOk1 Tryd.prog tyT 56 ⟨.struct [(0, 54), (1, 54)], 2, [.v (.int .u64 0), .v (.int .u64 0)], true, 16⟩ := ⟨⟨_, _, rfl, rfl, rfl, rfl, rfl, (by first | exact (fun _ => ⟨_, rfl⟩) | exact (fun h => by cases h)), (by first | exact (fun _ => rfl) | exact (fun h => by cases h))⟩, ⟨_, rfl, rfl⟩, (fun fs h => by injection h with h; subst h; intro p hp; revert p; simp only [List.forall_mem_cons, List.not_mem_nil, false_implies, implies_true, and_true]; first | rfl | (repeat' apply And.intro) <;> rfl),
  (fun _ => ⟨(by first | exact Tryd.stoodInHeld56 | kernel_rfl), (by first | exact Tryd.eqGuardType56 | kernel_rfl), (fun fields h => by injection h with h; injection h with h; subst h; simp)⟩)⟩
theorem ty57 : TyOk1 Tryd.prog tyT 57 ⟨.struct [(0, 4), (1, 56), (3, 3)], 4, [.v (.bool false), .v (.int .u64 0), .v (.int .u64 0), .v (.int .i64 0)], true, 32⟩ := ⟨⟨_, _, rfl, rfl, rfl, rfl, rfl, (by first | exact (fun _ => ⟨_, rfl⟩) | exact (fun h => by cases h)), (by first | exact (fun _ => rfl) | exact (fun h => by cases h))⟩, ⟨_, rfl, rfl⟩, (fun fs h => by injection h with h; subst h; intro p hp; revert p; simp only [List.forall_mem_cons, List.not_mem_nil, false_implies, implies_true, and_true]; first | rfl | (repeat' apply And.intro) <;> rfl),
  (fun _ => ⟨(by first | exact Tryd.stoodInHeld57 | kernel_rfl), (by first | exact Tryd.eqGuardType57 | kernel_rfl), (fun fields h => by injection h with h; injection h with h; subst h; simp)⟩)⟩
theorem ty58 : TyOk1 Tryd.prog tyT 58 ⟨.struct [(0, 4), (1, 56), (3, 3)], 4, [.v (.bool false), .v (.int .u64 0), .v (.int .u64 0), .v (.int .i64 0)], true, 32⟩ := ⟨⟨_, _, rfl, rfl, rfl, rfl, rfl, (by first | exact (fun _ => ⟨_, rfl⟩) | exact (fun h => by cases h)), (by first | exact (fun _ => rfl) | exact (fun h => by cases h))⟩, ⟨_, rfl, rfl⟩, (fun fs h => by injection h with h; subst h; intro p hp; revert p; simp only [List.forall_mem_cons, List.not_mem_nil, false_implies, implies_true, and_true]; first | rfl | (repeat' apply And.intro) <;> rfl),
  (fun _ => ⟨(by first | exact Tryd.stoodInHeld58 | kernel_rfl), (by first | exact Tryd.eqGuardType58 | kernel_rfl), (fun fields h => by injection h with h; injection h with h; subst h; simp)⟩)⟩
theorem ty60 : TyOk1 Tryd.prog tyT 60 ⟨.other, 1, [.v (.nilFunc)], false, 8⟩ := ⟨⟨_, _, rfl, rfl, rfl, rfl, rfl, (by first | exact (fun _ => ⟨_, rfl⟩) | exact (fun h => by cases h)), (by first | exact (fun _ => rfl) | exact (fun h => by cases h))⟩, ⟨_, rfl, (fun _ h => by cases h), (fun _ _ h => by cases h)⟩, (fun fs h => by cases h),
  (fun h => by cases h)⟩
theorem ty61 : TyOk1 Tryd.prog tyT 61 ⟨.other, 1, [.v (.nilFunc)], false, 8⟩ := ⟨⟨_, _, rfl, rfl, rfl, rfl, rfl, (by first | exact (fun _ => ⟨_, rfl⟩) | exact (fun h => by cases h)), (by first | exact (fun _ => rfl) | exact (fun h => by cases h))⟩, ⟨_, rfl, (fun _ h => by cases h), (fun _ _ h => by cases h)⟩, (fun fs h => by cases h),
  (fun h => by cases h)⟩
theorem ty62 : TyOk1 Tryd.prog tyT 62 ⟨.other, 1, [.v (.nilFunc)], false, 8⟩ := ⟨⟨_, _, rfl, rfl, rfl, rfl, rfl, (by first | exact (fun _ => ⟨_, rfl⟩) | exact (fun h => by cases h)), (by first | exact (fun _ => rfl) | exact (fun h => by cases h))⟩, ⟨_, rfl, (fun _ h => by cases h), (fun _ _ h => by cases h)⟩, (fun fs h => by cases h),
  (fun h => by cases h)⟩
theorem ty63 : TyOk1 Tryd.prog tyT 63 ⟨.struct [(0, 4), (1, 56), (3, 3)], 4, [.v (.bool false), .v (.int .u64 0), .v (.int .u64 0), .v (.int .i64 0)], true, 32⟩ := ⟨⟨_, _, rfl, rfl, rfl, rfl, rfl, (by first | exact (fun _ => ⟨_, rfl⟩) | exact (fun h => by cases h)), (by first | exact (fun _ => rfl) | exact (fun h => by cases h))⟩, ⟨_, rfl, rfl⟩, (fun fs h => by injection h with h; subst h; intro p hp; revert p; simp only [List.forall_mem_cons, List.not_mem_nil, false_implies, implies_true, and_true]; first | rfl | (repeat' apply And.intro) <;> rfl),
  (fun _ => ⟨(by first | exact Tryd.stoodInHeld63 | kernel_rfl), (by first | exact Tryd.eqGuardType63 | kernel_rfl), (fun fields h => by injection h with h; injection h with h; subst h; simp)⟩)⟩
theorem ty64 : TyOk1 Tryd.prog tyT 64 ⟨.other, 1, [.v (.nilFunc)], false, 8⟩ := ⟨⟨_, _, rfl, rfl, rfl, rfl, rfl, (by first | exact (fun _ => ⟨_, rfl⟩) | exact (fun h => by cases h)), (by first | exact (fun _ => rfl) | exact (fun h => by cases h))⟩, ⟨_, rfl, (fun _ h => by cases h), (fun _ _ h => by cases h)⟩, (fun fs h => by cases h),
  (fun h => by cases h)⟩
theorem ty65 : TyOk1 Tryd.prog tyT 65 ⟨.other, 1, [.v (.nilFunc)], false, 8⟩ := ⟨⟨_, _, rfl, rfl, rfl, rfl, rfl, (by first | exact (fun _ => ⟨_, rfl⟩) | exact (fun h => by cases h)), (by first | exact (fun _ => rfl) | exact (fun h => by cases h))⟩, ⟨_, rfl, (fun _ h => by cases h), (fun _ _ h => by cases h)⟩, (fun fs h => by cases h),
  (fun h => by cases h)⟩
theorem ty66 : TyOk1 Tryd.prog tyT 66 ⟨.other, 1, [.v (.nilFunc)], false, 8⟩ := ⟨⟨_, _, rfl, rfl, rfl, rfl, rfl, (by first | exact (fun _ => ⟨_, rfl⟩) | exact (fun h => by cases h)), (by first | exact (fun _ => rfl) | exact (fun h => by cases h))⟩, ⟨_, rfl, (fun _ h => by cases h), (fun _ _ h => by cases h)⟩, (fun fs h => by cases h),
  (fun h => by cases h)⟩
theorem ty67 : TyOk1 Tryd.prog tyT 67 ⟨.other, 1, [.v (.nilFunc)], false, 8⟩ := ⟨⟨_, _, rfl, rfl, rfl, rfl, rfl, (by first | exact (fun _ => ⟨_, rfl⟩) | exact (fun h => by cases h)), (by first | exact (fun _ => rfl) | exact (fun h => by cases h))⟩, ⟨_, rfl, (fun _ h => by cases h), (fun _ _ h => by cases h)⟩, (fun fs h => by cases h),
  (fun h => by cases h)⟩
theorem ty68 : TyOk1 Tryd.prog tyT 68 ⟨.other, 1, [.v (.nilFunc)], false, 8⟩ := ⟨⟨_, _, rfl, rfl, rfl, rfl, rfl, (by first | exact (fun _ => ⟨_, rfl⟩) | exact (fun h => by cases h)), (by first | exact (fun _ => rfl) | exact (fun h => by cases h))⟩, ⟨_, rfl, (fun _ h => by cases h), (fun _ _ h => by cases h)⟩, (fun fs h => by cases h),
  (fun h => by cases h)⟩
theorem ty69 : TyOk1 Tryd.prog tyT 69 ⟨.other, 1, [.v (.nilFunc)], false, 8⟩ := ⟨⟨_, _, rfl, rfl, rfl, rfl, rfl, (by first | exact (fun _ => ⟨_, rfl⟩) | exact (fun h => by cases h)), (by first | exact (fun _ => rfl) | exact (fun h => by cases h))⟩, ⟨_, rfl, (fun _ h => by cases h), (fun _ _ h => by cases h)⟩, (fun fs h => by cases h),
  (fun h => by cases h)⟩
theorem ty70 : TyOk1 Tryd.prog tyT 70 ⟨.other, 1, [.v (.nilFunc)], false, 8⟩ := ⟨⟨_, _, rfl, rfl, rfl, rfl, rfl, (by first | exact (fun _ => ⟨_, rfl⟩) | exact (fun h => by cases h)), (by first | exact (fun _ => rfl) | exact (fun h => by cases h))⟩, ⟨_, rfl, (fun _ h => by cases h), (fun _ _ h => by cases h)⟩, (fun fs h => by cases h),
  (fun h => by cases h)⟩
theorem ty71 : TyOk1 Tryd.prog tyT 71 ⟨.other, 1, [.v (.nilFunc)], false, 8⟩ := ⟨⟨_, _, rfl, rfl, rfl, rfl, rfl, (by first | exact (fun _ => ⟨_, rfl⟩) | exact (fun h => by cases h)), (by first | exact (fun _ => rfl) | exact (fun h => by cases h))⟩, ⟨_, rfl, (fun _ h => by cases h), (fun _ _ h => by cases h)⟩, (fun fs h => by cases h),
  (fun h => by cases h)⟩
theorem ty72 : TyOk1 Tryd.prog tyT 72 ⟨.other, 1, [.v (.nilFunc)], false, 8⟩ := ⟨⟨_, _, rfl, rfl, rfl, rfl, rfl, (by first | exact (fun _ => ⟨_, rfl⟩) | exact (fun h => by cases h)), (by first | exact (fun _ => rfl) | exact (fun h => by cases h))⟩, ⟨_, rfl, (fun _ h => by cases h), (fun _ _ h => by cases h)⟩, (fun fs h => by cases h),
  (fun h => by cases h)⟩
theorem ty73 : TyOk1 Tryd.prog tyT 73 ⟨.other, 1, [.v (.nilFunc)], false, 8⟩ := ⟨⟨_, _, rfl, rfl, rfl, rfl, rfl, (by first | exact (fun _ => ⟨_, rfl⟩) | exact (fun h => by cases h)), (by first | exact (fun _ => rfl) | exact (fun h => by cases h))⟩, ⟨_, rfl, (fun _ h => by cases h), (fun _ _ h => by cases h)⟩, (fun fs h => by cases h),
  (fun h => by cases h)⟩
theorem ty75 : TyOk1 Tryd.prog tyT 75 ⟨.other, 1, [.v (.nilFunc)], false, 8⟩ := ⟨⟨_, _, rfl, rfl, rfl, rfl, rfl, (by first | exact (fun _ => ⟨_, rfl⟩) | exact (fun h => by cases h)), (by first | exact (fun _ => rfl) | exact (fun h => by cases h))⟩, ⟨_, rfl, (fun _ h => by cases h), (fun _ _ h => by cases h)⟩, (fun fs h => by cases h),
  (fun h => by cases h)⟩
theorem ty76 : TyOk1 Tryd.prog tyT 76 ⟨.slice 9, 1, [.sl 0 []], false, 24⟩ := ⟨⟨_, _, rfl, rfl, rfl, rfl, rfl, (by first | exact (fun _ => ⟨_, rfl⟩) | exact (fun h => by cases h)), (by first | exact (fun _ => rfl) | exact (fun h => by cases h))⟩, rfl, (fun fs h => by cases h),
  (fun h => by cases h)⟩
theorem ty77 : TyOk1 Tryd.prog tyT 77 ⟨.slice 3, 1, [.sl 0 []], false, 24⟩ := ⟨⟨_, _, rfl, rfl, rfl, rfl, rfl, (by first | exact (fun _ => ⟨_, rfl⟩) | exact (fun h => by cases h)), (by first | exact (fun _ => rfl) | exact (fun h => by cases h))⟩, rfl, (fun fs h => by cases h),
  (fun h => by cases h)⟩
theorem ty78 : TyOk1 Tryd.prog tyT 78 ⟨.other, 1, [.v (.nilFunc)], false, 8⟩ := ⟨⟨_, _, rfl, rfl, rfl, rfl, rfl, (by first | exact (fun _ => ⟨_, rfl⟩) | exact (fun h => by cases h)), (by first | exact (fun _ => rfl) | exact (fun h => by cases h))⟩, ⟨_, rfl, (fun _ h => by cases h), (fun _ _ h => by cases h)⟩, (fun fs h => by cases h),
  (fun h => by cases h)⟩
theorem ty80 : TyOk1 Tryd.prog tyT 80 ⟨.other, 1, [.v (.nilFunc)], false, 8⟩ := ⟨⟨_, _, rfl, rfl, rfl, rfl, rfl, (by first | exact (fun _ => ⟨_, rfl⟩) | exact (fun h => by cases h)), (by first | exact (fun _ => rfl) | exact (fun h => by cases h))⟩, ⟨_, rfl, (fun _ h => by cases h), (fun _ _ h => by cases h)⟩, (fun fs h => by cases h),
  (fun h => by cases h)⟩
theorem ty81 : TyOk1 Tryd.prog tyT 81 ⟨.other, 1, [.v (.nilFunc)], false, 8⟩ := ⟨⟨_, _, rfl, rfl, rfl, rfl, rfl, (by first | exact (fun _ => ⟨_, rfl⟩) | exact (fun h => by cases h)), (by first | exact (fun _ => rfl) | exact (fun h => by cases h))⟩, ⟨_, rfl, (fun _ h => by cases h), (fun _ _ h => by cases h)⟩, (fun fs h => by cases h),
  (fun h => by cases h)⟩
theorem ty82 : TyOk1 Tryd.prog tyT 82 ⟨.other, 1, [.v (.nilFunc)], false, 8⟩ := ⟨⟨_, _, rfl, rfl, rfl, rfl, rfl, (by first | exact (fun _ => ⟨_, rfl⟩) | exact (fun h => by cases h)), (by first | exact (fun _ => rfl) | exact (fun h => by cases h))⟩, ⟨_, rfl, (fun _ h => by cases h), (fun _ _ h => by cases h)⟩, (fun fs h => by cases h),
  (fun h => by cases h)⟩
theorem ty83 : TyOk1 Tryd.prog tyT 83 ⟨.other, 1, [.v (.nilFunc)], false, 8⟩ := ⟨⟨_, _, rfl, rfl, rfl, rfl, rfl, (by first | exact (fun _ => ⟨_, rfl⟩) | exact (fun h => by cases h)), (by first | exact (fun _ => rfl) | exact (fun h => by cases h))⟩, ⟨_, rfl, (fun _ h => by cases h), (fun _ _ h => by cases h)⟩, (fun fs h => by cases h),
  (fun h => by cases h)⟩
theorem ty84 : TyOk1 Tryd.prog tyT 84 ⟨.arr 2 3, 2, [.v (.int .i64 0), .v (.int .i64 0)], false, 16⟩ := ⟨⟨_, _, rfl, rfl, rfl, rfl, rfl, (by first | exact (fun _ => ⟨_, rfl⟩) | exact (fun h => by cases h)), (by first | exact (fun _ => rfl) | exact (fun h => by cases h))⟩, rfl, (fun fs h => by cases h),
  (fun h => by cases h)⟩
theorem ty85 : TyOk1 Tryd.prog tyT 85 ⟨.slice 84, 1, [.sl 0 []], false, 24⟩ := ⟨⟨_, _, rfl, rfl, rfl, rfl, rfl, (by first | exact (fun _ => ⟨_, rfl⟩) | exact (fun h => by cases h)), (by first | exact (fun _ => rfl) | exact (fun h => by cases h))⟩, rfl, (fun fs h => by cases h),
  (fun h => by cases h)⟩
theorem ty86 : TyOk1 Tryd.prog tyT 86 ⟨.other, 1, [.v (.nilFunc)], false, 8⟩ := ⟨⟨_, _, rfl, rfl, rfl, rfl, rfl, (by first | exact (fun _ => ⟨_, rfl⟩) | exact (fun h => by cases h)), (by first | exact (fun _ => rfl) | exact (fun h => by cases h))⟩, ⟨_, rfl, (fun _ h => by cases h), (fun _ _ h => by cases h)⟩, (fun fs h => by cases h),
  (fun h => by cases h)⟩
theorem ty87 : TyOk1 Tryd.prog tyT 87 ⟨.other, 1, [.v (.nilFunc)], false, 8⟩ := ⟨⟨_, _, rfl, rfl, rfl, rfl, rfl, (by first | exact (fun _ => ⟨_, rfl⟩) | exact (fun h => by cases h)), (by first | exact (fun _ => rfl) | exact (fun h => by cases h))⟩, ⟨_, rfl, (fun _ h => by cases h), (fun _ _ h => by cases h)⟩, (fun fs h => by cases h),
  (fun h => by cases h)⟩
theorem ty89 : TyOk1 Tryd.prog tyT 89 ⟨.other, 1, [.v (.nilFunc)], false, 8⟩ := ⟨⟨_, _, rfl, rfl, rfl, rfl, rfl, (by first | exact (fun _ => ⟨_, rfl⟩) | exact (fun h => by cases h)), (by first | exact (fun _ => rfl) | exact (fun h => by cases h))⟩, ⟨_, rfl, (fun _ h => by cases h), (fun _ _ h => by cases h)⟩, (fun fs h => by cases h),
  (fun h => by cases h)⟩
theorem ty90 : TyOk1 Tryd.prog tyT 90 ⟨.other, 1, [.v (.nilFunc)], false, 8⟩ := ⟨⟨_, _, rfl, rfl, rfl, rfl, rfl, (by first | exact (fun _ => ⟨_, rfl⟩) | exact (fun h => by cases h)), (by first | exact (fun _ => rfl) | exact (fun h => by cases h))⟩, ⟨_, rfl, (fun _ h => by cases h), (fun _ _ h => by cases h)⟩, (fun fs h => by cases h),
  (fun h => by cases h)⟩
theorem ty91 : TyOk1 Tryd.prog tyT 91 ⟨.other, 1, [.v (.nilFunc)], false, 8⟩ := ⟨⟨_, _, rfl, rfl, rfl, rfl, rfl, (by first | exact (fun _ => ⟨_, rfl⟩) | exact (fun h => by cases h)), (by first | exact (fun _ => rfl) | exact (fun h => by cases h))⟩, ⟨_, rfl, (fun _ h => by cases h), (fun _ _ h => by cases h)⟩, (fun fs h => by cases h),
  (fun h => by cases h)⟩
theorem ty92 : TyOk1 Tryd.prog tyT 92 ⟨.other, 1, [.v (.nilFunc)], false, 8⟩ := ⟨⟨_, _, rfl, rfl, rfl, rfl, rfl, (by first | exact (fun _ => ⟨_, rfl⟩) | exact (fun h => by cases h)), (by first | exact (fun _ => rfl) | exact (fun h => by cases h))⟩, ⟨_, rfl, (fun _ h => by cases h), (fun _ _ h => by cases h)⟩, (fun fs h => by cases h),
  (fun h => by cases h)⟩
theorem ty94 : TyOk1 Tryd.prog tyT 94 ⟨.other, 1, [.v (.nilFunc)], false, 8⟩ := ⟨⟨_, _, rfl, rfl, rfl, rfl, rfl, (by first | exact (fun _ => ⟨_, rfl⟩) | exact (fun h => by cases h)), (by first | exact (fun _ => rfl) | exact (fun h => by cases h))⟩, ⟨_, rfl, (fun _ h => by cases h), (fun _ _ h => by cases h)⟩, (fun fs h => by cases h),
  (fun h => by cases h)⟩
theorem ty95 : TyOk1 Tryd.prog tyT 95 ⟨.other, 1, [.v (.nilIface)], false, 16⟩ := ⟨⟨_, _, rfl, rfl, rfl, rfl, rfl, (by first | exact (fun _ => ⟨_, rfl⟩) | exact (fun h => by cases h)), (by first | exact (fun _ => rfl) | exact (fun h => by cases h))⟩, ⟨_, rfl, (fun _ h => by cases h), (fun _ _ h => by cases h)⟩, (fun fs h => by cases h),
  (fun h => by cases h)⟩
theorem ty96 : TyOk1 Tryd.prog tyT 96 ⟨.other, 1, [.v (.nilIface)], false, 16⟩ := ⟨⟨_, _, rfl, rfl, rfl, rfl, rfl, (by first | exact (fun _ => ⟨_, rfl⟩) | exact (fun h => by cases h)), (by first | exact (fun _ => rfl) | exact (fun h => by cases h))⟩, ⟨_, rfl, (fun _ h => by cases h), (fun _ _ h => by cases h)⟩, (fun fs h => by cases h),
  (fun h => by cases h)⟩
theorem ty98 : TyOk1 Tryd.prog tyT 98 ⟨.other, 1, [.v (.nilFunc)], false, 8⟩ := ⟨⟨_, _, rfl, rfl, rfl, rfl, rfl, (by first | exact (fun _ => ⟨_, rfl⟩) | exact (fun h => by cases h)), (by first | exact (fun _ => rfl) | exact (fun h => by cases h))⟩, ⟨_, rfl, (fun _ h => by cases h), (fun _ _ h => by cases h)⟩, (fun fs h => by cases h),
  (fun h => by cases h)⟩
theorem ty99 : TyOk1 Tryd.prog tyT 99 ⟨.struct [(0, 4), (1, 56), (3, 56), (5, 3), (6, 4)], 7, [.v (.bool false), .v (.int .u64 0), .v (.int .u64 0), .v (.int .u64 0), .v (.int .u64 0), .v (.int .i64 0), .v (.bool false)], true, 56⟩ := ⟨⟨_, _, rfl, rfl, rfl, rfl, rfl, (by first | exact (fun _ => ⟨_, rfl⟩) | exact (fun h => by cases h)), (by first | exact (fun _ => rfl) | exact (fun h => by cases h))⟩, ⟨_, rfl, rfl⟩, (fun fs h => by injection h with h; subst h; intro p hp; revert p; simp only [List.forall_mem_cons, List.not_mem_nil, false_implies, implies_true, and_true]; first | rfl | (repeat' apply And.intro) <;> rfl),
  (fun _ => ⟨(by first | exact Tryd.stoodInHeld99 | kernel_rfl), (by first | exact Tryd.eqGuardType99 | kernel_rfl), (fun fields h => by injection h with h; injection h with h; subst h; simp)⟩)⟩
theorem ty100 : TyOk1 Tryd.prog tyT 100 ⟨.struct [(0, 4), (1, 56), (3, 56), (5, 3), (6, 4)], 7, [.v (.bool false), .v (.int .u64 0), .v (.int .u64 0), .v (.int .u64 0), .v (.int .u64 0), .v (.int .i64 0), .v (.bool false)], true, 56⟩ := ⟨⟨_, _, rfl, rfl, rfl, rfl, rfl, (by first | exact (fun _ => ⟨_, rfl⟩) | exact (fun h => by cases h)), (by first | exact (fun _ => rfl) | exact (fun h => by cases h))⟩, ⟨_, rfl, rfl⟩, (fun fs h => by injection h with h; subst h; intro p hp; revert p; simp only [List.forall_mem_cons, List.not_mem_nil, false_implies, implies_true, and_true]; first | rfl | (repeat' apply And.intro) <;> rfl),
  (fun _ => ⟨(by first | exact Tryd.stoodInHeld100 | kernel_rfl), (by first | exact Tryd.eqGuardType100 | kernel_rfl), (fun fields h => by injection h with h; injection h with h; subst h; simp)⟩)⟩
theorem ty102 : TyOk1 Tryd.prog tyT 102 ⟨.other, 1, [.v (.nilFunc)], false, 8⟩ := ⟨⟨_, _, rfl, rfl, rfl, rfl, rfl, (by first | exact (fun _ => ⟨_, rfl⟩) | exact (fun h => by cases h)), (by first | exact (fun _ => rfl) | exact (fun h => by cases h))⟩, ⟨_, rfl, (fun _ h => by cases h), (fun _ _ h => by cases h)⟩, (fun fs h => by cases h),
  (fun h => by cases h)⟩
theorem ty103 : TyOk1 Tryd.prog tyT 103 ⟨.other, 1, [.v (.nilFunc)], false, 8⟩ := ⟨⟨_, _, rfl, rfl, rfl, rfl, rfl, (by first | exact (fun _ => ⟨_, rfl⟩) | exact (fun h => by cases h)), (by first | exact (fun _ => rfl) | exact (fun h => by cases h))⟩, ⟨_, rfl, (fun _ h => by cases h), (fun _ _ h => by cases h)⟩, (fun fs h => by cases h),
  (fun h => by cases h)⟩
theorem ty104 : TyOk1 Tryd.prog tyT 104 ⟨.int .i64, 1, [.v (.int .i64 0)], false, 8⟩ := ⟨⟨_, _, rfl, rfl, rfl, rfl, rfl, (by first | exact (fun _ => ⟨_, rfl⟩) | exact (fun h => by cases h)), (by first | exact (fun _ => rfl) | exact (fun h => by cases h))⟩, rfl, (fun fs h => by cases h),
  (fun h => by cases h)⟩
theorem ty105 : TyOk1 Tryd.prog tyT 105 ⟨.other, 1, [.v (.nilFunc)], false, 8⟩ := ⟨⟨_, _, rfl, rfl, rfl, rfl, rfl, (by first | exact (fun _ => ⟨_, rfl⟩) | exact (fun h => by cases h)), (by first | exact (fun _ => rfl) | exact (fun h => by cases h))⟩, ⟨_, rfl, (fun _ h => by cases h), (fun _ _ h => by cases h)⟩, (fun fs h => by cases h),
  (fun h => by cases h)⟩
theorem ty106 : TyOk1 Tryd.prog tyT 106 ⟨.other, 1, [.v (.nilFunc)], false, 8⟩ := ⟨⟨_, _, rfl, rfl, rfl, rfl, rfl, (by first | exact (fun _ => ⟨_, rfl⟩) | exact (fun h => by cases h)), (by first | exact (fun _ => rfl) | exact (fun h => by cases h))⟩, ⟨_, rfl, (fun _ h => by cases h), (fun _ _ h => by cases h)⟩, (fun fs h => by cases h),
  (fun h => by cases h)⟩
theorem ty107 : TyOk1 Tryd.prog tyT 107 ⟨.other, 1, [.v (.nilFunc)], false, 8⟩ := ⟨⟨_, _, rfl, rfl, rfl, rfl, rfl, (by first | exact (fun _ => ⟨_, rfl⟩) | exact (fun h => by cases h)), (by first | exact (fun _ => rfl) | exact (fun h => by cases h))⟩, ⟨_, rfl, (fun _ h => by cases h), (fun _ _ h => by cases h)⟩, (fun fs h => by cases h),
  (fun h => by cases h)⟩
theorem ty109 : TyOk1 Tryd.prog tyT 109 ⟨.other, 1, [.v (.nilFunc)], false, 8⟩ := ⟨⟨_, _, rfl, rfl, rfl, rfl, rfl, (by first | exact (fun _ => ⟨_, rfl⟩) | exact (fun h => by cases h)), (by first | exact (fun _ => rfl) | exact (fun h => by cases h))⟩, ⟨_, rfl, (fun _ h => by cases h), (fun _ _ h => by cases h)⟩, (fun fs h => by cases h),
  (fun h => by cases h)⟩
theorem ty110 : TyOk1 Tryd.prog tyT 110 ⟨.arr 40 5, 40, [.v (.int .u8 0), .v (.int .u8 0), .v (.int .u8 0), .v (.int .u8 0), .v (.int .u8 0), .v (.int .u8 0), .v (.int .u8 0), .v (.int .u8 0), .v (.int .u8 0), .v (.int .u8 0), .v (.int .u8 0), .v (.int .u8 0), .v (.int .u8 0), .v (.int .u8 0), .v (.int .u8 0), .v (.int .u8 0), .v (.int .u8 0), .v (.int .u8 0), .v (.int .u8 0), .v (.int .u8 0), .v (.int .u8 0), .v (.int .u8 0), .v (.int .u8 0), .v (.int .u8 0), .v (.int .u8 0), .v (.int .u8 0), .v (.int .u8 0), .v (.int .u8 0), .v (.int .u8 0), .v (.int .u8 0), .v (.int .u8 0), .v (.int .u8 0), .v (.int .u8 0), .v (.int .u8 0), .v (.int .u8 0), .v (.int .u8 0), .v (.int .u8 0), .v (.int .u8 0), .v (.int .u8 0), .v (.int .u8 0)], false, 40⟩ := ⟨⟨_, _, rfl, rfl, rfl, rfl, rfl, (by first | exact (fun _ => ⟨_, rfl⟩) | exact (fun h => by cases h)), (by first | exact (fun _ => rfl) | exact (fun h => by cases h))⟩, rfl, (fun fs h => by cases h),
  (fun h => by cases h)⟩
theorem ty112 : TyOk1 Tryd.prog tyT 112 ⟨.other, 1, [.v (.nilFunc)], false, 8⟩ := ⟨⟨_, _, rfl, rfl, rfl, rfl, rfl, (by first | exact (fun _ => ⟨_, rfl⟩) | exact (fun h => by cases h)), (by first | exact (fun _ => rfl) | exact (fun h => by cases h))⟩, ⟨_, rfl, (fun _ h => by cases h), (fun _ _ h => by cases h)⟩, (fun fs h => by cases h),
  (fun h => by cases h)⟩
theorem ty113 : TyOk1 Tryd.prog tyT 113 ⟨.slice 5, 1, [.sl 0 []], false, 24⟩ := ⟨⟨_, _, rfl, rfl, rfl, rfl, rfl, (by first | exact (fun _ => ⟨_, rfl⟩) | exact (fun h => by cases h)), (by first | exact (fun _ => rfl) | exact (fun h => by cases h))⟩, rfl, (fun fs h => by cases h),
  (fun h => by cases h)⟩
theorem ty115 : TyOk1 Tryd.prog tyT 115 ⟨.other, 1, [.v (.nilFunc)], false, 8⟩ := ⟨⟨_, _, rfl, rfl, rfl, rfl, rfl, (by first | exact (fun _ => ⟨_, rfl⟩) | exact (fun h => by cases h)), (by first | exact (fun _ => rfl) | exact (fun h => by cases h))⟩, ⟨_, rfl, (fun _ h => by cases h), (fun _ _ h => by cases h)⟩, (fun fs h => by cases h),
  (fun h => by cases h)⟩
theorem ty116 : TyOk1 Tryd.prog tyT 116 ⟨.other, 1, [.v (.nilFunc)], false, 8⟩ := ⟨⟨_, _, rfl, rfl, rfl, rfl, rfl, (by first | exact (fun _ => ⟨_, rfl⟩) | exact (fun h => by cases h)), (by first | exact (fun _ => rfl) | exact (fun h => by cases h))⟩, ⟨_, rfl, (fun _ h => by cases h), (fun _ _ h => by cases h)⟩, (fun fs h => by cases h),
  (fun h => by cases h)⟩
theorem ty117 : TyOk1 Tryd.prog tyT 117 ⟨.other, 1, [.v (.nilFunc)], false, 8⟩ := ⟨⟨_, _, rfl, rfl, rfl, rfl, rfl, (by first | exact (fun _ => ⟨_, rfl⟩) | exact (fun h => by cases h)), (by first | exact (fun _ => rfl) | exact (fun h => by cases h))⟩, ⟨_, rfl, (fun _ h => by cases h), (fun _ _ h => by cases h)⟩, (fun fs h => by cases h),
  (fun h => by cases h)⟩
theorem ty118 : TyOk1 Tryd.prog tyT 118 ⟨.other, 1, [.v (.nilFunc)], false, 8⟩ := ⟨⟨_, _, rfl, rfl, rfl, rfl, rfl, (by first | exact (fun _ => ⟨_, rfl⟩) | exact (fun h => by cases h)), (by first | exact (fun _ => rfl) | exact (fun h => by cases h))⟩, ⟨_, rfl, (fun _ h => by cases h), (fun _ _ h => by cases h)⟩, (fun fs h => by cases h),
  (fun h => by cases h)⟩
theorem ty120 : TyOk1 Tryd.prog tyT 120 ⟨.other, 1, [.v (.nilFunc)], false, 8⟩ := ⟨⟨_, _, rfl, rfl, rfl, rfl, rfl, (by first | exact (fun _ => ⟨_, rfl⟩) | exact (fun h => by cases h)), (by first | exact (fun _ => rfl) | exact (fun h => by cases h))⟩, ⟨_, rfl, (fun _ h => by cases h), (fun _ _ h => by cases h)⟩, (fun fs h => by cases h),
  (fun h => by cases h)⟩
theorem ty121 : TyOk1 Tryd.prog tyT 121 ⟨.other, 1, [.v (.nilFunc)], false, 8⟩ := ⟨⟨_, _, rfl, rfl, rfl, rfl, rfl, (by first | exact (fun _ => ⟨_, rfl⟩) | exact (fun h => by cases h)), (by first | exact (fun _ => rfl) | exact (fun h => by cases h))⟩, ⟨_, rfl, (fun _ h => by cases h), (fun _ _ h => by cases h)⟩, (fun fs h => by cases h),
  (fun h => by cases h)⟩
theorem ty122 : TyOk1 Tryd.prog tyT 122 ⟨.slice 3, 1, [.sl 0 []], false, 24⟩ := ⟨⟨_, _, rfl, rfl, rfl, rfl, rfl, (by first | exact (fun _ => ⟨_, rfl⟩) | exact (fun h => by cases h)), (by first | exact (fun _ => rfl) | exact (fun h => by cases h))⟩, rfl, (fun fs h => by cases h),
  (fun h => by cases h)⟩
theorem ty123 : TyOk1 Tryd.prog tyT 123 ⟨.other, 1, [.v (.nilFunc)], false, 8⟩ := ⟨⟨_, _, rfl, rfl, rfl, rfl, rfl, (by first | exact (fun _ => ⟨_, rfl⟩) | exact (fun h => by cases h)), (by first | exact (fun _ => rfl) | exact (fun h => by cases h))⟩, ⟨_, rfl, (fun _ h => by cases h), (fun _ _ h => by cases h)⟩, (fun fs h => by cases h),
  (fun h => by cases h)⟩
theorem ty124 : TyOk1 Tryd.prog tyT 124 ⟨.other, 1, [.v (.nilFunc)], false, 8⟩ := ⟨⟨_, _, rfl, rfl, rfl, rfl, rfl, (by first | exact (fun _ => ⟨_, rfl⟩) | exact (fun h => by cases h)), (by first | exact (fun _ => rfl) | exact (fun h => by cases h))⟩, ⟨_, rfl, (fun _ h => by cases h), (fun _ _ h => by cases h)⟩, (fun fs h => by cases h),
  (fun h => by cases h)⟩
theorem ty125 : TyOk1 Tryd.prog tyT 125 ⟨.other, 1, [.v (.nilFunc)], false, 8⟩ := ⟨⟨_, _, rfl, rfl, rfl, rfl, rfl, (by first | exact (fun _ => ⟨_, rfl⟩) | exact (fun h => by cases h)), (by first | exact (fun _ => rfl) | exact (fun h => by cases h))⟩, ⟨_, rfl, (fun _ h => by cases h), (fun _ _ h => by cases h)⟩, (fun fs h => by cases h),
  (fun h => by cases h)⟩
theorem ty126 : TyOk1 Tryd.prog tyT 126 ⟨.other, 1, [.v (.nilFunc)], false, 8⟩ := ⟨⟨_, _, rfl, rfl, rfl, rfl, rfl, (by first | exact (fun _ => ⟨_, rfl⟩) | exact (fun h => by cases h)), (by first | exact (fun _ => rfl) | exact (fun h => by cases h))⟩, ⟨_, rfl, (fun _ h => by cases h), (fun _ _ h => by cases h)⟩, (fun fs h => by cases h),
  (fun h => by cases h)⟩
theorem ty127 : TyOk1 Tryd.prog tyT 127 ⟨.other, 1, [.v (.nilFunc)], false, 8⟩ := ⟨⟨_, _, rfl, rfl, rfl, rfl, rfl, (by first | exact (fun _ => ⟨_, rfl⟩) | exact (fun h => by cases h)), (by first | exact (fun _ => rfl) | exact (fun h => by cases h))⟩, ⟨_, rfl, (fun _ h => by cases h), (fun _ _ h => by cases h)⟩, (fun fs h => by cases h),
  (fun h => by cases h)⟩
theorem ty128 : TyOk1 Tryd.prog tyT 128 ⟨.other, 1, [.v (.nilFunc)], false, 8⟩ := ⟨⟨_, _, rfl, rfl, rfl, rfl, rfl, (by first | exact (fun _ => ⟨_, rfl⟩) | exact (fun h => by cases h)), (by first | exact (fun _ => rfl) | exact (fun h => by cases h))⟩, ⟨_, rfl, (fun _ h => by cases h), (fun _ _ h => by cases h)⟩, (fun fs h => by cases h),
  (fun h => by cases h)⟩
theorem ty129 : TyOk1 Tryd.prog tyT 129 ⟨.other, 1, [.v (.nilFunc)], false, 8⟩ := ⟨⟨_, _, rfl, rfl, rfl, rfl, rfl, (by first | exact (fun _ => ⟨_, rfl⟩) | exact (fun h => by cases h)), (by first | exact (fun _ => rfl) | exact (fun h => by cases h))⟩, ⟨_, rfl, (fun _ h => by cases h), (fun _ _ h => by cases h)⟩, (fun fs h => by cases h),
  (fun h => by cases h)⟩
theorem ty130 : TyOk1 Tryd.prog tyT 130 ⟨.other, 1, [.v (.nilFunc)], false, 8⟩ := ⟨⟨_, _, rfl, rfl, rfl, rfl, rfl, (by first | exact (fun _ => ⟨_, rfl⟩) | exact (fun h => by cases h)), (by first | exact (fun _ => rfl) | exact (fun h => by cases h))⟩, ⟨_, rfl, (fun _ h => by cases h), (fun _ _ h => by cases h)⟩, (fun fs h => by cases h),
  (fun h => by cases h)⟩
theorem ty134 : TyOk1 Tryd.prog tyT 134 ⟨.other, 1, [.v (.nilFunc)], false, 8⟩ := ⟨⟨_, _, rfl, rfl, rfl, rfl, rfl, (by first | exact (fun _ => ⟨_, rfl⟩) | exact (fun h => by cases h)), (by first | exact (fun _ => rfl) | exact (fun h => by cases h))⟩, ⟨_, rfl, (fun _ h => by cases h), (fun _ _ h => by cases h)⟩, (fun fs h => by cases h),
  (fun h => by cases h)⟩
theorem ty135 : TyOk1 Tryd.prog tyT 135 ⟨.other, 1, [.v (.nilFunc)], false, 8⟩ := ⟨⟨_, _, rfl, rfl, rfl, rfl, rfl, (by first | exact (fun _ => ⟨_, rfl⟩) | exact (fun h => by cases h)), (by first | exact (fun _ => rfl) | exact (fun h => by cases h))⟩, ⟨_, rfl, (fun _ h => by cases h), (fun _ _ h => by cases h)⟩, (fun fs h => by cases h),
  (fun h => by cases h)⟩
theorem ty136 : TyOk1 Tryd.prog tyT 136 ⟨.other, 1, [.v (.pointer none)], false, 8⟩ := ⟨⟨_, _, rfl, rfl, rfl, rfl, rfl, (by first | exact (fun _ => ⟨_, rfl⟩) | exact (fun h => by cases h)), (by first | exact (fun _ => rfl) | exact (fun h => by cases h))⟩, ⟨_, rfl, (fun _ h => by cases h), (fun _ _ h => by cases h)⟩, (fun fs h => by cases h),
  (fun h => by cases h)⟩
theorem ty138 : TyOk1 Tryd.prog tyT 138 ⟨.other, 1, [.v (.nilFunc)], false, 8⟩ := ⟨⟨_, _, rfl, rfl, rfl, rfl, rfl, (by first | exact (fun _ => ⟨_, rfl⟩) | exact (fun h => by cases h)), (by first | exact (fun _ => rfl) | exact (fun h => by cases h))⟩, ⟨_, rfl, (fun _ h => by cases h), (fun _ _ h => by cases h)⟩, (fun fs h => by cases h),
  (fun h => by cases h)⟩
theorem ty140 : TyOk1 Tryd.prog tyT 140 ⟨.other, 1, [.v (.nilFunc)], false, 8⟩ := ⟨⟨_, _, rfl, rfl, rfl, rfl, rfl, (by first | exact (fun _ => ⟨_, rfl⟩) | exact (fun h => by cases h)), (by first | exact (fun _ => rfl) | exact (fun h => by cases h))⟩, ⟨_, rfl, (fun _ h => by cases h), (fun _ _ h => by cases h)⟩, (fun fs h => by cases h),
  (fun h => by cases h)⟩
theorem ty141 : TyOk1 Tryd.prog tyT 141 ⟨.other, 1, [.v (.nilFunc)], false, 8⟩ := ⟨⟨_, _, rfl, rfl, rfl, rfl, rfl, (by first | exact (fun _ => ⟨_, rfl⟩) | exact (fun h => by cases h)), (by first | exact (fun _ => rfl) | exact (fun h => by cases h))⟩, ⟨_, rfl, (fun _ h => by cases h), (fun _ _ h => by cases h)⟩, (fun fs h => by cases h),
  (fun h => by cases h)⟩
theorem ty142 : TyOk1 Tryd.prog tyT 142 ⟨.int .u64, 1, [.v (.int .u64 0)], false, 8⟩ := ⟨⟨_, _, rfl, rfl, rfl, rfl, rfl, (by first | exact (fun _ => ⟨_, rfl⟩) | exact (fun h => by cases h)), (by first | exact (fun _ => rfl) | exact (fun h => by cases h))⟩, rfl, (fun fs h => by cases h),
  (fun h => by cases h)⟩
theorem ty143 : TyOk1 Tryd.prog tyT 143 ⟨.other, 1, [.v (.nilFunc)], false, 8⟩ := ⟨⟨_, _, rfl, rfl, rfl, rfl, rfl, (by first | exact (fun _ => ⟨_, rfl⟩) | exact (fun h => by cases h)), (by first | exact (fun _ => rfl) | exact (fun h => by cases h))⟩, ⟨_, rfl, (fun _ h => by cases h), (fun _ _ h => by cases h)⟩, (fun fs h => by cases h),
  (fun h => by cases h)⟩
theorem ty144 : TyOk1 Tryd.prog tyT 144 ⟨.arr 4 54, 4, [.v (.int .u64 0), .v (.int .u64 0), .v (.int .u64 0), .v (.int .u64 0)], false, 32⟩ := ⟨⟨_, _, rfl, rfl, rfl, rfl, rfl, (by first | exact (fun _ => ⟨_, rfl⟩) | exact (fun h => by cases h)), (by first | exact (fun _ => rfl) | exact (fun h => by cases h))⟩, rfl, (fun fs h => by cases h),
  (fun h => by cases h)⟩
theorem ty146 : TyOk1 Tryd.prog tyT 146 ⟨.other, 1, [.v (.nilFunc)], false, 8⟩ := ⟨⟨_, _, rfl, rfl, rfl, rfl, rfl, (by first | exact (fun _ => ⟨_, rfl⟩) | exact (fun h => by cases h)), (by first | exact (fun _ => rfl) | exact (fun h => by cases h))⟩, ⟨_, rfl, (fun _ h => by cases h), (fun _ _ h => by cases h)⟩, (fun fs h => by cases h),
  (fun h => by cases h)⟩
theorem ty147 : TyOk1 Tryd.prog tyT 147 ⟨.other, 1, [.v (.nilFunc)], false, 8⟩ := ⟨⟨_, _, rfl, rfl, rfl, rfl, rfl, (by first | exact (fun _ => ⟨_, rfl⟩) | exact (fun h => by cases h)), (by first | exact (fun _ => rfl) | exact (fun h => by cases h))⟩, ⟨_, rfl, (fun _ h => by cases h), (fun _ _ h => by cases h)⟩, (fun fs h => by cases h),
  (fun h => by cases h)⟩
theorem ty148 : TyOk1 Tryd.prog tyT 148 ⟨.slice 54, 1, [.sl 0 []], false, 24⟩ := ⟨⟨_, _, rfl, rfl, rfl, rfl, rfl, (by first | exact (fun _ => ⟨_, rfl⟩) | exact (fun h => by cases h)), (by first | exact (fun _ => rfl) | exact (fun h => by cases h))⟩, rfl, (fun fs h => by cases h),
  (fun h => by cases h)⟩
theorem ty149 : TyOk1 Tryd.prog tyT 149 ⟨.other, 1, [.v (.nilFunc)], false, 8⟩ := ⟨⟨_, _, rfl, rfl, rfl, rfl, rfl, (by first | exact (fun _ => ⟨_, rfl⟩) | exact (fun h => by cases h)), (by first | exact (fun _ => rfl) | exact (fun h => by cases h))⟩, ⟨_, rfl, (fun _ h => by cases h), (fun _ _ h => by cases h)⟩, (fun fs h => by cases h),
  (fun h => by cases h)⟩
theorem ty150 : TyOk1 Tryd.prog tyT 150 ⟨.other, 1, [.v (.nilFunc)], false, 8⟩ := ⟨⟨_, _, rfl, rfl, rfl, rfl, rfl, (by first | exact (fun _ => ⟨_, rfl⟩) | exact (fun h => by cases h)), (by first | exact (fun _ => rfl) | exact (fun h => by cases h))⟩, ⟨_, rfl, (fun _ h => by cases h), (fun _ _ h => by cases h)⟩, (fun fs h => by cases h),
  (fun h => by cases h)⟩
theorem ty151 : TyOk1 Tryd.prog tyT 151 ⟨.int .i64, 1, [.v (.int .i64 0)], false, 8⟩ := ⟨⟨_, _, rfl, rfl, rfl, rfl, rfl, (by first | exact (fun _ => ⟨_, rfl⟩) | exact (fun h => by cases h)), (by first | exact (fun _ => rfl) | exact (fun h => by cases h))⟩, rfl, (fun fs h => by cases h),
  (fun h => by cases h)⟩
theorem ty153 : TyOk1 Tryd.prog tyT 153 ⟨.other, 1, [.v (.nilFunc)], false, 8⟩ := ⟨⟨_, _, rfl, rfl, rfl, rfl, rfl, (by first | exact (fun _ => ⟨_, rfl⟩) | exact (fun h => by cases h)), (by first | exact (fun _ => rfl) | exact (fun h => by cases h))⟩, ⟨_, rfl, (fun _ h => by cases h), (fun _ _ h => by cases h)⟩, (fun fs h => by cases h),
  (fun h => by cases h)⟩
theorem ty154 : TyOk1 Tryd.prog tyT 154 ⟨.other, 1, [.v (.pointer none)], false, 8⟩ := ⟨⟨_, _, rfl, rfl, rfl, rfl, rfl, (by first | exact (fun _ => ⟨_, rfl⟩) | exact (fun h => by cases h)), (by first | exact (fun _ => rfl) | exact (fun h => by cases h))⟩, ⟨_, rfl, (fun _ h => by cases h), (fun _ _ h => by cases h)⟩, (fun fs h => by cases h),
  (fun h => by cases h)⟩
theorem ty155 : TyOk1 Tryd.prog tyT 155 ⟨.other, 1, [.v (.nilFunc)], false, 8⟩ := ⟨⟨_, _, rfl, rfl, rfl, rfl, rfl, (by first | exact (fun _ => ⟨_, rfl⟩) | exact (fun h => by cases h)), (by first | exact (fun _ => rfl) | exact (fun h => by cases h))⟩, ⟨_, rfl, (fun _ h => by cases h), (fun _ _ h => by cases h)⟩, (fun fs h => by cases h),
  (fun h => by cases h)⟩
theorem ty156 : TyOk1 Tryd.prog tyT 156 ⟨.other, 1, [.v (.nilFunc)], false, 8⟩ := ⟨⟨_, _, rfl, rfl, rfl, rfl, rfl, (by first | exact (fun _ => ⟨_, rfl⟩) | exact (fun h => by cases h)), (by first | exact (fun _ => rfl) | exact (fun h => by cases h))⟩, ⟨_, rfl, (fun _ h => by cases h), (fun _ _ h => by cases h)⟩, (fun fs h => by cases h),
  (fun h => by cases h)⟩
theorem ty157 : TyOk1 Tryd.prog tyT 157 ⟨.other, 1, [.v (.nilFunc)], false, 8⟩ := ⟨⟨_, _, rfl, rfl, rfl, rfl, rfl, (by first | exact (fun _ => ⟨_, rfl⟩) | exact (fun h => by cases h)), (by first | exact (fun _ => rfl) | exact (fun h => by cases h))⟩, ⟨_, rfl, (fun _ h => by cases h), (fun _ _ h => by cases h)⟩, (fun fs h => by cases h),
  (fun h => by cases h)⟩
theorem ty159 : TyOk1 Tryd.prog tyT 159 ⟨.other, 1, [.v (.nilFunc)], false, 8⟩ := ⟨⟨_, _, rfl, rfl, rfl, rfl, rfl, (by first | exact (fun _ => ⟨_, rfl⟩) | exact (fun h => by cases h)), (by first | exact (fun _ => rfl) | exact (fun h => by cases h))⟩, ⟨_, rfl, (fun _ h => by cases h), (fun _ _ h => by cases h)⟩, (fun fs h => by cases h),
  (fun h => by cases h)⟩
theorem ty160 : TyOk1 Tryd.prog tyT 160 ⟨.other, 1, [.v (.nilFunc)], false, 8⟩ := ⟨⟨_, _, rfl, rfl, rfl, rfl, rfl, (by first | exact (fun _ => ⟨_, rfl⟩) | exact (fun h => by cases h)), (by first | exact (fun _ => rfl) | exact (fun h => by cases h))⟩, ⟨_, rfl, (fun _ h => by cases h), (fun _ _ h => by cases h)⟩, (fun fs h => by cases h),
  (fun h => by cases h)⟩
theorem ty161 : TyOk1 Tryd.prog tyT 161 ⟨.other, 1, [.v (.nilFunc)], false, 8⟩ := ⟨⟨_, _, rfl, rfl, rfl, rfl, rfl, (by first | exact (fun _ => ⟨_, rfl⟩) | exact (fun h => by cases h)), (by first | exact (fun _ => rfl) | exact (fun h => by cases h))⟩, ⟨_, rfl, (fun _ h => by cases h), (fun _ _ h => by cases h)⟩, (fun fs h => by cases h),
  (fun h => by cases h)⟩
theorem ty162 : TyOk1 Tryd.prog tyT 162 ⟨.other, 1, [.v (.nilFunc)], false, 8⟩ := ⟨⟨_, _, rfl, rfl, rfl, rfl, rfl, (by first | exact (fun _ => ⟨_, rfl⟩) | exact (fun h => by cases h)), (by first | exact (fun _ => rfl) | exact (fun h => by cases h))⟩, ⟨_, rfl, (fun _ h => by cases h), (fun _ _ h => by cases h)⟩, (fun fs h => by cases h),
  (fun h => by cases h)⟩
theorem ty164 : TyOk1 Tryd.prog tyT 164 ⟨.other, 1, [.v (.nilFunc)], false, 8⟩ := ⟨⟨_, _, rfl, rfl, rfl, rfl, rfl, (by first | exact (fun _ => ⟨_, rfl⟩) | exact (fun h => by cases h)), (by first | exact (fun _ => rfl) | exact (fun h => by cases h))⟩, ⟨_, rfl, (fun _ h => by cases h), (fun _ _ h => by cases h)⟩, (fun fs h => by cases h),
  (fun h => by cases h)⟩
theorem ty165 : TyOk1 Tryd.prog tyT 165 ⟨.other, 1, [.v (.nilFunc)], false, 8⟩ := ⟨⟨_, _, rfl, rfl, rfl, rfl, rfl, (by first | exact (fun _ => ⟨_, rfl⟩) | exact (fun h => by cases h)), (by first | exact (fun _ => rfl) | exact (fun h => by cases h))⟩, ⟨_, rfl, (fun _ h => by cases h), (fun _ _ h => by cases h)⟩, (fun fs h => by cases h),
  (fun h => by cases h)⟩
theorem ty166 : TyOk1 Tryd.prog tyT 166 ⟨.other, 1, [.v (.nilFunc)], false, 8⟩ := ⟨⟨_, _, rfl, rfl, rfl, rfl, rfl, (by first | exact (fun _ => ⟨_, rfl⟩) | exact (fun h => by cases h)), (by first | exact (fun _ => rfl) | exact (fun h => by cases h))⟩, ⟨_, rfl, (fun _ h => by cases h), (fun _ _ h => by cases h)⟩, (fun fs h => by cases h),
  (fun h => by cases h)⟩
theorem ty167 : TyOk1 Tryd.prog tyT 167 ⟨.other, 1, [.v (.nilFunc)], false, 8⟩ := ⟨⟨_, _, rfl, rfl, rfl, rfl, rfl, (by first | exact (fun _ => ⟨_, rfl⟩) | exact (fun h => by cases h)), (by first | exact (fun _ => rfl) | exact (fun h => by cases h))⟩, ⟨_, rfl, (fun _ h => by cases h), (fun _ _ h => by cases h)⟩, (fun fs h => by cases h),
  (fun h => by cases h)⟩
theorem ty168 : TyOk1 Tryd.prog tyT 168 ⟨.other, 1, [.v (.nilFunc)], false, 8⟩ := ⟨⟨_, _, rfl, rfl, rfl, rfl, rfl, (by first | exact (fun _ => ⟨_, rfl⟩) | exact (fun h => by cases h)), (by first | exact (fun _ => rfl) | exact (fun h => by cases h))⟩, ⟨_, rfl, (fun _ h => by cases h), (fun _ _ h => by cases h)⟩, (fun fs h => by cases h),
  (fun h => by cases h)⟩
theorem ty170 : TyOk1 Tryd.prog tyT 170 ⟨.other, 1, [.v (.nilFunc)], false, 8⟩ := ⟨⟨_, _, rfl, rfl, rfl, rfl, rfl, (by first | exact (fun _ => ⟨_, rfl⟩) | exact (fun h => by cases h)), (by first | exact (fun _ => rfl) | exact (fun h => by cases h))⟩, ⟨_, rfl, (fun _ h => by cases h), (fun _ _ h => by cases h)⟩, (fun fs h => by cases h),
  (fun h => by cases h)⟩
theorem ty171 : TyOk1 Tryd.prog tyT 171 ⟨.other, 1, [.v (.nilFunc)], false, 8⟩ := ⟨⟨_, _, rfl, rfl, rfl, rfl, rfl, (by first | exact (fun _ => ⟨_, rfl⟩) | exact (fun h => by cases h)), (by first | exact (fun _ => rfl) | exact (fun h => by cases h))⟩, ⟨_, rfl, (fun _ h => by cases h), (fun _ _ h => by cases h)⟩, (fun fs h => by cases h),
  (fun h => by cases h)⟩
theorem ty172 : TyOk1 Tryd.prog tyT 172 ⟨.struct [(0, 9), (1, 9), (2, 96)], 3, [.v (.string ⟨#[]⟩), .v (.string ⟨#[]⟩), .v (.nilIface)], false, 48⟩ := ⟨⟨_, _, rfl, rfl, rfl, rfl, rfl, (by first | exact (fun _ => ⟨_, rfl⟩) | exact (fun h => by cases h)), (by first | exact (fun _ => rfl) | exact (fun h => by cases h))⟩, ⟨_, rfl, rfl⟩, (fun fs h => by injection h with h; subst h; intro p hp; revert p; simp only [List.forall_mem_cons, List.not_mem_nil, false_implies, implies_true, and_true]; first | rfl | (repeat' apply And.intro) <;> rfl),
  (fun h => by cases h)⟩
theorem ty173 : TyOk1 Tryd.prog tyT 173 ⟨.struct [(0, 9), (1, 9), (2, 96)], 3, [.v (.string ⟨#[]⟩), .v (.string ⟨#[]⟩), .v (.nilIface)], false, 48⟩ := ⟨⟨_, _, rfl, rfl, rfl, rfl, rfl, (by first | exact (fun _ => ⟨_, rfl⟩) | exact (fun h => by cases h)), (by first | exact (fun _ => rfl) | exact (fun h => by cases h))⟩, ⟨_, rfl, rfl⟩, (fun fs h => by injection h with h; subst h; intro p hp; revert p; simp only [List.forall_mem_cons, List.not_mem_nil, false_implies, implies_true, and_true]; first | rfl | (repeat' apply And.intro) <;> rfl),
  (fun h => by cases h)⟩
theorem ty174 : TyOk1 Tryd.prog tyT 174 ⟨.other, 1, [.v (.nilFunc)], false, 8⟩ := ⟨⟨_, _, rfl, rfl, rfl, rfl, rfl, (by first | exact (fun _ => ⟨_, rfl⟩) | exact (fun h => by cases h)), (by first | exact (fun _ => rfl) | exact (fun h => by cases h))⟩, ⟨_, rfl, (fun _ h => by cases h), (fun _ _ h => by cases h)⟩, (fun fs h => by cases h),
  (fun h => by cases h)⟩
theorem ty175 : TyOk1 Tryd.prog tyT 175 ⟨.other, 1, [.v (.nilFunc)], false, 8⟩ := ⟨⟨_, _, rfl, rfl, rfl, rfl, rfl, (by first | exact (fun _ => ⟨_, rfl⟩) | exact (fun h => by cases h)), (by first | exact (fun _ => rfl) | exact (fun h => by cases h))⟩, ⟨_, rfl, (fun _ h => by cases h), (fun _ _ h => by cases h)⟩, (fun fs h => by cases h),
  (fun h => by cases h)⟩
theorem ty176 : TyOk1 Tryd.prog tyT 176 ⟨.arr 24 5, 24, [.v (.int .u8 0), .v (.int .u8 0), .v (.int .u8 0), .v (.int .u8 0), .v (.int .u8 0), .v (.int .u8 0), .v (.int .u8 0), .v (.int .u8 0), .v (.int .u8 0), .v (.int .u8 0), .v (.int .u8 0), .v (.int .u8 0), .v (.int .u8 0), .v (.int .u8 0), .v (.int .u8 0), .v (.int .u8 0), .v (.int .u8 0), .v (.int .u8 0), .v (.int .u8 0), .v (.int .u8 0), .v (.int .u8 0), .v (.int .u8 0), .v (.int .u8 0), .v (.int .u8 0)], false, 24⟩ := ⟨⟨_, _, rfl, rfl, rfl, rfl, rfl, (by first | exact (fun _ => ⟨_, rfl⟩) | exact (fun h => by cases h)), (by first | exact (fun _ => rfl) | exact (fun h => by cases h))⟩, rfl, (fun fs h => by cases h),
  (fun h => by cases h)⟩
theorem ty177 : TyOk1 Tryd.prog tyT 177 ⟨.other, 1, [.v (.nilFunc)], false, 8⟩ := ⟨⟨_, _, rfl, rfl, rfl, rfl, rfl, (by first | exact (fun _ => ⟨_, rfl⟩) | exact (fun h => by cases h)), (by first | exact (fun _ => rfl) | exact (fun h => by cases h))⟩, ⟨_, rfl, (fun _ h => by cases h), (fun _ _ h => by cases h)⟩, (fun fs h => by cases h),
  (fun h => by cases h)⟩
theorem ty179 : TyOk1 Tryd.prog tyT 179 ⟨.other, 1, [.v (.nilFunc)], false, 8⟩ := ⟨⟨_, _, rfl, rfl, rfl, rfl, rfl, (by first | exact (fun _ => ⟨_, rfl⟩) | exact (fun h => by cases h)), (by first | exact (fun _ => rfl) | exact (fun h => by cases h))⟩, ⟨_, rfl, (fun _ h => by cases h), (fun _ _ h => by cases h)⟩, (fun fs h => by cases h),
  (fun h => by cases h)⟩
theorem ty180 : TyOk1 Tryd.prog tyT 180 ⟨.int .u32, 1, [.v (.int .u32 0)], false, 4⟩ := ⟨⟨_, _, rfl, rfl, rfl, rfl, rfl, (by first | exact (fun _ => ⟨_, rfl⟩) | exact (fun h => by cases h)), (by first | exact (fun _ => rfl) | exact (fun h => by cases h))⟩, rfl, (fun fs h => by cases h),
  (fun h => by cases h)⟩
theorem ty182 : TyOk1 Tryd.prog tyT 182 ⟨.other, 1, [.v (.nilFunc)], false, 8⟩ := ⟨⟨_, _, rfl, rfl, rfl, rfl, rfl, (by first | exact (fun _ => ⟨_, rfl⟩) | exact (fun h => by cases h)), (by first | exact (fun _ => rfl) | exact (fun h => by cases h))⟩, ⟨_, rfl, (fun _ h => by cases h), (fun _ _ h => by cases h)⟩, (fun fs h => by cases h),
  (fun h => by cases h)⟩
theorem ty183 : TyOk1 Tryd.prog tyT 183 ⟨.other, 1, [.v (.nilFunc)], false, 8⟩ := ⟨⟨_, _, rfl, rfl, rfl, rfl, rfl, (by first | exact (fun _ => ⟨_, rfl⟩) | exact (fun h => by cases h)), (by first | exact (fun _ => rfl) | exact (fun h => by cases h))⟩, ⟨_, rfl, (fun _ h => by cases h), (fun _ _ h => by cases h)⟩, (fun fs h => by cases h),
  (fun h => by cases h)⟩
theorem ty184 : TyOk1 Tryd.prog tyT 184 ⟨.other, 1, [.v (.pointer none)], false, 8⟩ := ⟨⟨_, _, rfl, rfl, rfl, rfl, rfl, (by first | exact (fun _ => ⟨_, rfl⟩) | exact (fun h => by cases h)), (by first | exact (fun _ => rfl) | exact (fun h => by cases h))⟩, ⟨_, rfl, (fun _ h => by cases h), (fun _ _ h => by cases h)⟩, (fun fs h => by cases h),
  (fun h => by cases h)⟩
theorem ty185 : TyOk1 Tryd.prog tyT 185 ⟨.other, 1, [.v (.pointer none)], false, 8⟩ := ⟨⟨_, _, rfl, rfl, rfl, rfl, rfl, (by first | exact (fun _ => ⟨_, rfl⟩) | exact (fun h => by cases h)), (by first | exact (fun _ => rfl) | exact (fun h => by cases h))⟩, ⟨_, rfl, (fun _ h => by cases h), (fun _ _ h => by cases h)⟩, (fun fs h => by cases h),
  (fun h => by cases h)⟩
theorem ty186 : TyOk1 Tryd.prog tyT 186 ⟨.struct [(0, 9)], 1, [.v (.string ⟨#[]⟩)], true, 16⟩ := ⟨⟨_, _, rfl, rfl, rfl, rfl, rfl, (by first | exact (fun _ => ⟨_, rfl⟩) | exact (fun h => by cases h)), (by first | exact (fun _ => rfl) | exact (fun h => by cases h))⟩, ⟨_, rfl, rfl⟩, (fun fs h => by injection h with h; subst h; intro p hp; revert p; simp only [List.forall_mem_cons, List.not_mem_nil, false_implies, implies_true, and_true]; first | rfl | (repeat' apply And.intro) <;> rfl),
  (fun _ => ⟨(by first | exact Tryd.stoodInHeld186 | kernel_rfl), (by first | exact Tryd.eqGuardType186 | kernel_rfl), (fun fields h => by injection h with h; injection h with h; subst h; simp)⟩)⟩
theorem ty187 : TyOk1 Tryd.prog tyT 187 ⟨.struct [(0, 9)], 1, [.v (.string ⟨#[]⟩)], true, 16⟩ := ⟨⟨_, _, rfl, rfl, rfl, rfl, rfl, (by first | exact (fun _ => ⟨_, rfl⟩) | exact (fun h => by cases h)), (by first | exact (fun _ => rfl) | exact (fun h => by cases h))⟩, ⟨_, rfl, rfl⟩, (fun fs h => by injection h with h; subst h; intro p hp; revert p; simp only [List.forall_mem_cons, List.not_mem_nil, false_implies, implies_true, and_true]; first | rfl | (repeat' apply And.intro) <;> rfl),
  (fun _ => ⟨(by first | exact Tryd.stoodInHeld187 | kernel_rfl), (by first | exact Tryd.eqGuardType187 | kernel_rfl), (fun fields h => by injection h with h; injection h with h; subst h; simp)⟩)⟩
theorem ty189 : TyOk1 Tryd.prog tyT 189 ⟨.struct [(0, 5), (1, 5)], 2, [.v (.int .u8 0), .v (.int .u8 0)], true, 2⟩ := ⟨⟨_, _, rfl, rfl, rfl, rfl, rfl, (by first | exact (fun _ => ⟨_, rfl⟩) | exact (fun h => by cases h)), (by first | exact (fun _ => rfl) | exact (fun h => by cases h))⟩, ⟨_, rfl, rfl⟩, (fun fs h => by injection h with h; subst h; intro p hp; revert p; simp only [List.forall_mem_cons, List.not_mem_nil, false_implies, implies_true, and_true]; first | rfl | (repeat' apply And.intro) <;> rfl),
  (fun _ => ⟨(by first | exact Tryd.stoodInHeld189 | kernel_rfl), (by first | exact Tryd.eqGuardType189 | kernel_rfl), (fun fields h => by injection h with h; injection h with h; subst h; simp)⟩)⟩
theorem ty190 : TyOk1 Tryd.prog tyT 190 ⟨.struct [(0, 5), (1, 5)], 2, [.v (.int .u8 0), .v (.int .u8 0)], true, 2⟩ := ⟨⟨_, _, rfl, rfl, rfl, rfl, rfl, (by first | exact (fun _ => ⟨_, rfl⟩) | exact (fun h => by cases h)), (by first | exact (fun _ => rfl) | exact (fun h => by cases h))⟩, ⟨_, rfl, rfl⟩, (fun fs h => by injection h with h; subst h; intro p hp; revert p; simp only [List.forall_mem_cons, List.not_mem_nil, false_implies, implies_true, and_true]; first | rfl | (repeat' apply And.intro) <;> rfl),
  (fun _ => ⟨(by first | exact Tryd.stoodInHeld190 | kernel_rfl), (by first | exact Tryd.eqGuardType190 | kernel_rfl), (fun fields h => by injection h with h; injection h with h; subst h; simp)⟩)⟩
theorem ty191 : TyOk1 Tryd.prog tyT 191 ⟨.arr 16 190, 32, [.v (.int .u8 0), .v (.int .u8 0), .v (.int .u8 0), .v (.int .u8 0), .v (.int .u8 0), .v (.int .u8 0), .v (.int .u8 0), .v (.int .u8 0), .v (.int .u8 0), .v (.int .u8 0), .v (.int .u8 0), .v (.int .u8 0), .v (.int .u8 0), .v (.int .u8 0), .v (.int .u8 0), .v (.int .u8 0), .v (.int .u8 0), .v (.int .u8 0), .v (.int .u8 0), .v (.int .u8 0), .v (.int .u8 0), .v (.int .u8 0), .v (.int .u8 0), .v (.int .u8 0), .v (.int .u8 0), .v (.int .u8 0), .v (.int .u8 0), .v (.int .u8 0), .v (.int .u8 0), .v (.int .u8 0), .v (.int .u8 0), .v (.int .u8 0)], false, 32⟩ := ⟨⟨_, _, rfl, rfl, rfl, rfl, rfl, (by first | exact (fun _ => ⟨_, rfl⟩) | exact (fun h => by cases h)), (by first | exact (fun _ => rfl) | exact (fun h => by cases h))⟩, rfl, (fun fs h => by cases h),
  (fun h => by cases h)⟩
theorem ty192 : TyOk1 Tryd.prog tyT 192 ⟨.other, 1, [.v (.nilFunc)], false, 8⟩ := ⟨⟨_, _, rfl, rfl, rfl, rfl, rfl, (by first | exact (fun _ => ⟨_, rfl⟩) | exact (fun h => by cases h)), (by first | exact (fun _ => rfl) | exact (fun h => by cases h))⟩, ⟨_, rfl, (fun _ h => by cases h), (fun _ _ h => by cases h)⟩, (fun fs h => by cases h),
  (fun h => by cases h)⟩
theorem ty193 : TyOk1 Tryd.prog tyT 193 ⟨.other, 1, [.v (.nilFunc)], false, 8⟩ := ⟨⟨_, _, rfl, rfl, rfl, rfl, rfl, (by first | exact (fun _ => ⟨_, rfl⟩) | exact (fun h => by cases h)), (by first | exact (fun _ => rfl) | exact (fun h => by cases h))⟩, ⟨_, rfl, (fun _ h => by cases h), (fun _ _ h => by cases h)⟩, (fun fs h => by cases h),
  (fun h => by cases h)⟩
theorem ty194 : TyOk1 Tryd.prog tyT 194 ⟨.arr 20 54, 20, [.v (.int .u64 0), .v (.int .u64 0), .v (.int .u64 0), .v (.int .u64 0), .v (.int .u64 0), .v (.int .u64 0), .v (.int .u64 0), .v (.int .u64 0), .v (.int .u64 0), .v (.int .u64 0), .v (.int .u64 0), .v (.int .u64 0), .v (.int .u64 0), .v (.int .u64 0), .v (.int .u64 0), .v (.int .u64 0), .v (.int .u64 0), .v (.int .u64 0), .v (.int .u64 0), .v (.int .u64 0)], false, 160⟩ := ⟨⟨_, _, rfl, rfl, rfl, rfl, rfl, (by first | exact (fun _ => ⟨_, rfl⟩) | exact (fun h => by cases h)), (by first | exact (fun _ => rfl) | exact (fun h => by cases h))⟩, rfl, (fun fs h => by cases h),
  (fun h => by cases h)⟩
theorem ty196 : TyOk1 Tryd.prog tyT 196 ⟨.other, 1, [.v (.nilFunc)], false, 8⟩ := ⟨⟨_, _, rfl, rfl, rfl, rfl, rfl, (by first | exact (fun _ => ⟨_, rfl⟩) | exact (fun h => by cases h)), (by first | exact (fun _ => rfl) | exact (fun h => by cases h))⟩, ⟨_, rfl, (fun _ h => by cases h), (fun _ _ h => by cases h)⟩, (fun fs h => by cases h),
  (fun h => by cases h)⟩
theorem ty197 : TyOk1 Tryd.prog tyT 197 ⟨.other, 1, [.v (.nilFunc)], false, 8⟩ := ⟨⟨_, _, rfl, rfl, rfl, rfl, rfl, (by first | exact (fun _ => ⟨_, rfl⟩) | exact (fun h => by cases h)), (by first | exact (fun _ => rfl) | exact (fun h => by cases h))⟩, ⟨_, rfl, (fun _ h => by cases h), (fun _ _ h => by cases h)⟩, (fun fs h => by cases h),
  (fun h => by cases h)⟩
theorem ty198 : TyOk1 Tryd.prog tyT 198 ⟨.arr 32 5, 32, [.v (.int .u8 0), .v (.int .u8 0), .v (.int .u8 0), .v (.int .u8 0), .v (.int .u8 0), .v (.int .u8 0), .v (.int .u8 0), .v (.int .u8 0), .v (.int .u8 0), .v (.int .u8 0), .v (.int .u8 0), .v (.int .u8 0), .v (.int .u8 0), .v (.int .u8 0), .v (.int .u8 0), .v (.int .u8 0), .v (.int .u8 0), .v (.int .u8 0), .v (.int .u8 0), .v (.int .u8 0), .v (.int .u8 0), .v (.int .u8 0), .v (.int .u8 0), .v (.int .u8 0), .v (.int .u8 0), .v (.int .u8 0), .v (.int .u8 0), .v (.int .u8 0), .v (.int .u8 0), .v (.int .u8 0), .v (.int .u8 0), .v (.int .u8 0)], false, 32⟩ := ⟨⟨_, _, rfl, rfl, rfl, rfl, rfl, (by first | exact (fun _ => ⟨_, rfl⟩) | exact (fun h => by cases h)), (by first | exact (fun _ => rfl) | exact (fun h => by cases h))⟩, rfl, (fun fs h => by cases h),
  (fun h => by cases h)⟩
theorem ty199 : TyOk1 Tryd.prog tyT 199 ⟨.arr 64 5, 64, [.v (.int .u8 0), .v (.int .u8 0), .v (.int .u8 0), .v (.int .u8 0), .v (.int .u8 0), .v (.int .u8 0), .v (.int .u8 0), .v (.int .u8 0), .v (.int .u8 0), .v (.int .u8 0), .v (.int .u8 0), .v (.int .u8 0), .v (.int .u8 0), .v (.int .u8 0), .v (.int .u8 0), .v (.int .u8 0), .v (.int .u8 0), .v (.int .u8 0), .v (.int .u8 0), .v (.int .u8 0), .v (.int .u8 0), .v (.int .u8 0), .v (.int .u8 0), .v (.int .u8 0), .v (.int .u8 0), .v (.int .u8 0), .v (.int .u8 0), .v (.int .u8 0), .v (.int .u8 0), .v (.int .u8 0), .v (.int .u8 0), .v (.int .u8 0), .v (.int .u8 0), .v (.int .u8 0), .v (.int .u8 0), .v (.int .u8 0), .v (.int .u8 0), .v (.int .u8 0), .v (.int .u8 0), .v (.int .u8 0), .v (.int .u8 0), .v (.int .u8 0), .v (.int .u8 0), .v (.int .u8 0), .v (.int .u8 0), .v (.int .u8 0), .v (.int .u8 0), .v (.int .u8 0), .v (.int .u8 0), .v (.int .u8 0), .v (.int .u8 0), .v (.int .u8 0), .v (.int .u8 0), .v (.int .u8 0), .v (.int .u8 0), .v (.int .u8 0), .v (.int .u8 0), .v (.int .u8 0), .v (.int .u8 0), .v (.int .u8 0), .v (.int .u8 0), .v (.int .u8 0), .v (.int .u8 0), .v (.int .u8 0)], false, 64⟩ := ⟨⟨_, _, rfl, rfl, rfl, rfl, rfl, (by first | exact (fun _ => ⟨_, rfl⟩) | exact (fun h => by cases h)), (by first | exact (fun _ => rfl) | exact (fun h => by cases h))⟩, rfl, (fun fs h => by cases h),
  (fun h => by cases h)⟩
theorem ty200 : TyOk1 Tryd.prog tyT 200 ⟨.struct [(0, 17), (1, 17), (2, 17), (3, 9)], 4, [.v (.pointer none), .v (.pointer none), .v (.pointer none), .v (.string ⟨#[]⟩)], false, 40⟩ := ⟨⟨_, _, rfl, rfl, rfl, rfl, rfl, (by first | exact (fun _ => ⟨_, rfl⟩) | exact (fun h => by cases h)), (by first | exact (fun _ => rfl) | exact (fun h => by cases h))⟩, ⟨_, rfl, rfl⟩, (fun fs h => by injection h with h; subst h; intro p hp; revert p; simp only [List.forall_mem_cons, List.not_mem_nil, false_implies, implies_true, and_true]; first | rfl | (repeat' apply And.intro) <;> rfl),
  (fun h => by cases h)⟩
theorem ty201 : TyOk1 Tryd.prog tyT 201 ⟨.struct [(0, 17), (1, 17), (2, 17), (3, 9)], 4, [.v (.pointer none), .v (.pointer none), .v (.pointer none), .v (.string ⟨#[]⟩)], false, 40⟩ := ⟨⟨_, _, rfl, rfl, rfl, rfl, rfl, (by first | exact (fun _ => ⟨_, rfl⟩) | exact (fun h => by cases h)), (by first | exact (fun _ => rfl) | exact (fun h => by cases h))⟩, ⟨_, rfl, rfl⟩, (fun fs h => by injection h with h; subst h; intro p hp; revert p; simp only [List.forall_mem_cons, List.not_mem_nil, false_implies, implies_true, and_true]; first | rfl | (repeat' apply And.intro) <;> rfl),
  (fun h => by cases h)⟩
theorem ty202 : TyOk1 Tryd.prog tyT 202 ⟨.arr 0 16, 0, [], false, 0⟩ := ⟨⟨_, _, rfl, rfl, rfl, rfl, rfl, (by first | exact (fun _ => ⟨_, rfl⟩) | exact (fun h => by cases h)), (by first | exact (fun _ => rfl) | exact (fun h => by cases h))⟩, rfl, (fun fs h => by cases h),
  (fun h => by cases h)⟩
theorem ty203 : TyOk1 Tryd.prog tyT 203 ⟨.struct [(0, 202)], 0, [], false, 0⟩ := ⟨⟨_, _, rfl, rfl, rfl, rfl, rfl, (by first | exact (fun _ => ⟨_, rfl⟩) | exact (fun h => by cases h)), (by first | exact (fun _ => rfl) | exact (fun h => by cases h))⟩, ⟨_, rfl, rfl⟩, (fun fs h => by injection h with h; subst h; intro p hp; revert p; simp only [List.forall_mem_cons, List.not_mem_nil, false_implies, implies_true, and_true]; first | rfl | (repeat' apply And.intro) <;> rfl),
  (fun h => by cases h)⟩
theorem ty204 : TyOk1 Tryd.prog tyT 204 ⟨.struct [(0, 202)], 0, [], false, 0⟩ := ⟨⟨_, _, rfl, rfl, rfl, rfl, rfl, (by first | exact (fun _ => ⟨_, rfl⟩) | exact (fun h => by cases h)), (by first | exact (fun _ => rfl) | exact (fun h => by cases h))⟩, ⟨_, rfl, rfl⟩, (fun fs h => by injection h with h; subst h; intro p hp; revert p; simp only [List.forall_mem_cons, List.not_mem_nil, false_implies, implies_true, and_true]; first | rfl | (repeat' apply And.intro) <;> rfl),
  (fun h => by cases h)⟩
theorem ty205 : TyOk1 Tryd.prog tyT 205 ⟨.int .u8, 1, [.v (.int .u8 0)], false, 1⟩ := ⟨⟨_, _, rfl, rfl, rfl, rfl, rfl, (by first | exact (fun _ => ⟨_, rfl⟩) | exact (fun h => by cases h)), (by first | exact (fun _ => rfl) | exact (fun h => by cases h))⟩, rfl, (fun fs h => by cases h),
  (fun h => by cases h)⟩
theorem ty206 : TyOk1 Tryd.prog tyT 206 ⟨.int .u8, 1, [.v (.int .u8 0)], false, 1⟩ := ⟨⟨_, _, rfl, rfl, rfl, rfl, rfl, (by first | exact (fun _ => ⟨_, rfl⟩) | exact (fun h => by cases h)), (by first | exact (fun _ => rfl) | exact (fun h => by cases h))⟩, rfl, (fun fs h => by cases h),
  (fun h => by cases h)⟩
theorem ty207 : TyOk1 Tryd.prog tyT 207 ⟨.other, 1, [.v (.nilFunc)], false, 8⟩ := ⟨⟨_, _, rfl, rfl, rfl, rfl, rfl, (by first | exact (fun _ => ⟨_, rfl⟩) | exact (fun h => by cases h)), (by first | exact (fun _ => rfl) | exact (fun h => by cases h))⟩, ⟨_, rfl, (fun _ h => by cases h), (fun _ _ h => by cases h)⟩, (fun fs h => by cases h),
  (fun h => by cases h)⟩
theorem ty208 : TyOk1 Tryd.prog tyT 208 ⟨.int .i32, 1, [.v (.int .i32 0)], false, 4⟩ := ⟨⟨_, _, rfl, rfl, rfl, rfl, rfl, (by first | exact (fun _ => ⟨_, rfl⟩) | exact (fun h => by cases h)), (by first | exact (fun _ => rfl) | exact (fun h => by cases h))⟩, rfl, (fun fs h => by cases h),
  (fun h => by cases h)⟩
theorem ty209 : TyOk1 Tryd.prog tyT 209 ⟨.int .i32, 1, [.v (.int .i32 0)], false, 4⟩ := ⟨⟨_, _, rfl, rfl, rfl, rfl, rfl, (by first | exact (fun _ => ⟨_, rfl⟩) | exact (fun h => by cases h)), (by first | exact (fun _ => rfl) | exact (fun h => by cases h))⟩, rfl, (fun fs h => by cases h),
  (fun h => by cases h)⟩
theorem ty210 : TyOk1 Tryd.prog tyT 210 ⟨.struct [(0, 12), (1, 12), (2, 180), (3, 205), (4, 5), (5, 5), (6, 206), (7, 207), (8, 184), (9, 208), (10, 209)], 11, [.v (.int .u64 0), .v (.int .u64 0), .v (.int .u32 0), .v (.int .u8 0), .v (.int .u8 0), .v (.int .u8 0), .v (.int .u8 0), .v (.nilFunc), .v (.pointer none), .v (.int .i32 0), .v (.int .i32 0)], false, 48⟩ := ⟨⟨_, _, rfl, rfl, rfl, rfl, rfl, (by first | exact (fun _ => ⟨_, rfl⟩) | exact (fun h => by cases h)), (by first | exact (fun _ => rfl) | exact (fun h => by cases h))⟩, ⟨_, rfl, rfl⟩, (fun fs h => by injection h with h; subst h; intro p hp; revert p; simp only [List.forall_mem_cons, List.not_mem_nil, false_implies, implies_true, and_true]; first | rfl | (repeat' apply And.intro) <;> rfl),
  (fun h => by cases h)⟩
theorem ty211 : TyOk1 Tryd.prog tyT 211 ⟨.struct [(0, 12), (1, 12), (2, 180), (3, 205), (4, 5), (5, 5), (6, 206), (7, 207), (8, 184), (9, 208), (10, 209)], 11, [.v (.int .u64 0), .v (.int .u64 0), .v (.int .u32 0), .v (.int .u8 0), .v (.int .u8 0), .v (.int .u8 0), .v (.int .u8 0), .v (.nilFunc), .v (.pointer none), .v (.int .i32 0), .v (.int .i32 0)], false, 48⟩ := ⟨⟨_, _, rfl, rfl, rfl, rfl, rfl, (by first | exact (fun _ => ⟨_, rfl⟩) | exact (fun h => by cases h)), (by first | exact (fun _ => rfl) | exact (fun h => by cases h))⟩, ⟨_, rfl, rfl⟩, (fun fs h => by injection h with h; subst h; intro p hp; revert p; simp only [List.forall_mem_cons, List.not_mem_nil, false_implies, implies_true, and_true]; first | rfl | (repeat' apply And.intro) <;> rfl),
  (fun h => by cases h)⟩
theorem ty212 : TyOk1 Tryd.prog tyT 212 ⟨.other, 1, [.v (.pointer none)], false, 8⟩ := ⟨⟨_, _, rfl, rfl, rfl, rfl, rfl, (by first | exact (fun _ => ⟨_, rfl⟩) | exact (fun h => by cases h)), (by first | exact (fun _ => rfl) | exact (fun h => by cases h))⟩, ⟨_, rfl, (fun _ h => by cases h), (fun _ _ h => by cases h)⟩, (fun fs h => by cases h),
  (fun h => by cases h)⟩
theorem tyOk : TyOk Tryd.prog tyT := tyOk_of (by
  simp only [tyL, List.forall_mem_cons, List.not_mem_nil, false_implies, implies_true, and_true]
  exact ⟨ty1, ty2, ty3, ty4, ty5, ty6, ty7, ty8, ty9, ty10, ty11, ty12, ty13, ty14, ty15, ty16, ty17, ty18, ty19, ty20, ty21, ty22, ty24, ty25, ty26, ty27, ty28, ty29, ty30, ty31, ty32, ty33, ty34, ty35, ty36, ty37, ty38, ty39, ty40, ty41, ty42, ty43, ty44, ty45, ty46, ty47, ty49, ty51, ty53, ty54, ty55, ty56, ty57, ty58, ty60, ty61, ty62, ty63, ty64, ty65, ty66, ty67, ty68, ty69, ty70, ty71, ty72, ty73, ty75, ty76, ty77, ty78, ty80, ty81, ty82, ty83, ty84, ty85, ty86, ty87, ty89, ty90, ty91, ty92, ty94, ty95, ty96, ty98, ty99, ty100, ty102, ty103, ty104, ty105, ty106, ty107, ty109, ty110, ty112, ty113, ty115, ty116, ty117, ty118, ty120, ty121, ty122, ty123, ty124, ty125, ty126, ty127, ty128, ty129, ty130, ty134, ty135, ty136, ty138, ty140, ty141, ty142, ty143, ty144, ty146, ty147, ty148, ty149, ty150, ty151, ty153, ty154, ty155, ty156, ty157, ty159, ty160, ty161, ty162, ty164, ty165, ty166, ty167, ty168, ty170, ty171, ty172, ty173, ty174, ty175, ty176, ty177, ty179, ty180, ty182, ty183, ty184, ty185, ty186, ty187, ty189, ty190, ty191, ty192, ty193, ty194, ty196, ty197, ty198, ty199, ty200, ty201, ty202, ty203, ty204, ty205, ty206, ty207, ty208, ty209, ty210, ty211, ty212⟩)
end Go.Proofs.YtjpaedjhihiakaaDoor
