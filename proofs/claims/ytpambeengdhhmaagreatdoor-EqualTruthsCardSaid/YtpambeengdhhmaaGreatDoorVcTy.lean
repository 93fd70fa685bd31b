/-
  The types of the program, as the reckoning asks for them: printed by wip/TyGen.lean.
-/
import Derived.Test.YtpambeengdhhmaaGreatDoorVcV
namespace Go.Proofs.YtpambeengdhhmaaGreatDoor
set_option linter.unusedVariables false
set_option maxRecDepth 100000
def tyL : List (Nat × TI) := [
  (1, ⟨.other, 1, [.v (.nilFunc)], false, 8⟩),
  (2, ⟨.int .i64, 1, [.v (.int .i64 0)], false, 8⟩),
  (3, ⟨.int .i64, 1, [.v (.int .i64 0)], false, 8⟩),
  (4, ⟨.bool, 1, [.v (.bool false)], false, 1⟩),
  (5, ⟨.int .u8, 1, [.v (.int .u8 0)], false, 1⟩),
  (6, ⟨.int .u8, 1, [.v (.int .u8 0)], false, 1⟩),
  (7, ⟨.struct [(0, 2), (1, 3), (2, 4), (3, 6)], 4, [.v (.int .i64 0), .v (.int .i64 0), .v (.bool false), .v (.int .u8 0)], true, 24⟩),
  (8, ⟨.struct [(0, 2), (1, 3), (2, 4), (3, 6)], 4, [.v (.int .i64 0), .v (.int .i64 0), .v (.bool false), .v (.int .u8 0)], true, 24⟩),
  (9, ⟨.str, 1, [.v (.string ⟨#[]⟩)], false, 16⟩),
  (10, ⟨.str, 1, [.v (.string ⟨#[]⟩)], false, 16⟩),
  (11, ⟨.str, 1, [.v (.string ⟨#[]⟩)], false, 16⟩),
  (12, ⟨.int .u64, 1, [.v (.int .u64 0)], false, 8⟩),
  (13, ⟨.struct [(0, 9), (1, 12)], 2, [.v (.string ⟨#[]⟩), .v (.int .u64 0)], false, 24⟩),
  (14, ⟨.struct [(0, 9), (1, 12)], 2, [.v (.string ⟨#[]⟩), .v (.int .u64 0)], false, 24⟩),
  (15, ⟨.other, 1, [.v (.pointer none)], false, 8⟩),
  (16, ⟨.other, 1, [.v (.pointer none)], false, 8⟩),
  (17, ⟨.other, 1, [.v (.pointer none)], false, 8⟩),
  (18, ⟨.struct [(0, 17)], 1, [.v (.pointer none)], false, 8⟩),
  (19, ⟨.struct [(0, 17)], 1, [.v (.pointer none)], false, 8⟩),
  (20, ⟨.other, 1, [.v (.nilIface)], false, 16⟩),
  (21, ⟨.int .i32, 1, [.v (.int .i32 0)], false, 4⟩),
  (22, ⟨.other, 1, [.v (.nilFunc)], false, 8⟩),
  (23, ⟨.int .i64, 1, [.v (.int .i64 0)], false, 8⟩),
  (24, ⟨.other, 1, [.v (.nilFunc)], false, 8⟩),
  (25, ⟨.other, 1, [.v (.nilFunc)], false, 8⟩),
  (26, ⟨.other, 1, [.v (.nilFunc)], false, 8⟩),
  (27, ⟨.other, 1, [.v (.nilIface)], false, 16⟩),
  (28, ⟨.other, 1, [.v (.nilIface)], false, 16⟩),
  (29, ⟨.struct [(0, 28)], 1, [.v (.nilIface)], false, 16⟩),
  (30, ⟨.struct [(0, 28)], 1, [.v (.nilIface)], false, 16⟩),
  (31, ⟨.other, 1, [.v (.nilFunc)], false, 8⟩),
  (32, ⟨.other, 1, [.v (.nilFunc)], false, 8⟩),
  (33, ⟨.other, 1, [.v (.nilFunc)], false, 8⟩),
  (34, ⟨.other, 1, [.v (.nilFunc)], false, 8⟩),
  (35, ⟨.other, 1, [.v (.nilFunc)], false, 8⟩),
  (36, ⟨.int .i64, 1, [.v (.int .i64 0)], false, 8⟩),
  (37, ⟨.slice 41, 1, [.sl 0 []], false, 24⟩),
  (38, ⟨.slice 9, 1, [.sl 0 []], false, 24⟩),
  (39, ⟨.arr 2 4, 2, [.v (.bool false), .v (.bool false)], true, 2⟩),
  (40, ⟨.struct [(0, 36), (1, 9), (2, 37), (3, 38), (4, 39)], 6, [.v (.int .i64 0), .v (.string ⟨#[]⟩), .sl 0 [], .sl 0 [], .v (.bool false), .v (.bool false)], false, 80⟩),
  (41, ⟨.struct [(0, 36), (1, 9), (2, 37), (3, 38), (4, 39)], 6, [.v (.int .i64 0), .v (.string ⟨#[]⟩), .sl 0 [], .sl 0 [], .v (.bool false), .v (.bool false)], false, 80⟩),
  (42, ⟨.other, 1, [.v (.nilFunc)], false, 8⟩),
  (43, ⟨.other, 1, [.v (.nilFunc)], false, 8⟩),
  (44, ⟨.other, 1, [.v (.nilFunc)], false, 8⟩),
  (45, ⟨.other, 1, [.v (.nilFunc)], false, 8⟩),
  (46, ⟨.other, 1, [.v (.nilFunc)], false, 8⟩),
  (48, ⟨.other, 1, [.v (.nilFunc)], false, 8⟩),
  (49, ⟨.other, 1, [.v (.nilFunc)], false, 8⟩),
  (50, ⟨.other, 1, [.v (.nilFunc)], false, 8⟩),
  (51, ⟨.other, 1, [.v (.nilFunc)], false, 8⟩),
  (52, ⟨.other, 1, [.v (.nilFunc)], false, 8⟩),
  (53, ⟨.other, 1, [.v (.nilFunc)], false, 8⟩),
  (54, ⟨.other, 1, [.v (.nilFunc)], false, 8⟩),
  (55, ⟨.slice 30, 1, [.sl 0 []], false, 24⟩),
  (56, ⟨.other, 1, [.v (.nilFunc)], false, 8⟩),
  (57, ⟨.other, 1, [.v (.nilFunc)], false, 8⟩),
  (58, ⟨.int .u64, 1, [.v (.int .u64 0)], false, 8⟩),
  (59, ⟨.struct [(0, 58), (1, 58)], 2, [.v (.int .u64 0), .v (.int .u64 0)], true, 16⟩),
  (60, ⟨.struct [(0, 58), (1, 58)], 2, [.v (.int .u64 0), .v (.int .u64 0)], true, 16⟩),
  (61, ⟨.struct [(0, 4), (1, 60), (3, 3)], 4, [.v (.bool false), .v (.int .u64 0), .v (.int .u64 0), .v (.int .i64 0)], true, 32⟩),
  (62, ⟨.struct [(0, 4), (1, 60), (3, 3)], 4, [.v (.bool false), .v (.int .u64 0), .v (.int .u64 0), .v (.int .i64 0)], true, 32⟩),
  (64, ⟨.other, 1, [.v (.nilFunc)], false, 8⟩),
  (65, ⟨.other, 1, [.v (.nilFunc)], false, 8⟩),
  (66, ⟨.other, 1, [.v (.nilFunc)], false, 8⟩),
  (67, ⟨.other, 1, [.v (.nilFunc)], false, 8⟩),
  (68, ⟨.other, 1, [.v (.nilFunc)], false, 8⟩),
  (70, ⟨.other, 1, [.v (.nilFunc)], false, 8⟩),
  (71, ⟨.other, 1, [.v (.nilFunc)], false, 8⟩),
  (73, ⟨.other, 1, [.v (.nilFunc)], false, 8⟩),
  (74, ⟨.other, 1, [.v (.nilFunc)], false, 8⟩),
  (75, ⟨.other, 1, [.v (.nilFunc)], false, 8⟩),
  (76, ⟨.arr 2 30, 2, [.v (.nilIface), .v (.nilIface)], false, 32⟩),
  (77, ⟨.struct [(0, 76), (2, 39)], 4, [.v (.nilIface), .v (.nilIface), .v (.bool false), .v (.bool false)], false, 40⟩),
  (78, ⟨.struct [(0, 76), (2, 39)], 4, [.v (.nilIface), .v (.nilIface), .v (.bool false), .v (.bool false)], false, 40⟩),
  (80, ⟨.other, 1, [.v (.nilFunc)], false, 8⟩),
  (82, ⟨.other, 1, [.v (.nilFunc)], false, 8⟩),
  (83, ⟨.other, 1, [.v (.nilFunc)], false, 8⟩),
  (84, ⟨.other, 1, [.v (.nilFunc)], false, 8⟩),
  (85, ⟨.struct [(0, 30), (1, 30), (2, 39), (4, 4)], 5, [.v (.nilIface), .v (.nilIface), .v (.bool false), .v (.bool false), .v (.bool false)], false, 40⟩),
  (86, ⟨.struct [(0, 30), (1, 30), (2, 39), (4, 4)], 5, [.v (.nilIface), .v (.nilIface), .v (.bool false), .v (.bool false), .v (.bool false)], false, 40⟩),
  (88, ⟨.other, 1, [.v (.nilFunc)], false, 8⟩),
  (89, ⟨.other, 1, [.v (.nilFunc)], false, 8⟩),
  (90, ⟨.other, 1, [.v (.nilFunc)], false, 8⟩),
  (91, ⟨.other, 1, [.v (.nilFunc)], false, 8⟩),
  (93, ⟨.other, 1, [.v (.nilFunc)], false, 8⟩),
  (94, ⟨.other, 1, [.v (.nilIface)], false, 16⟩),
  (95, ⟨.other, 1, [.v (.nilIface)], false, 16⟩),
  (97, ⟨.other, 1, [.v (.nilFunc)], false, 8⟩),
  (98, ⟨.other, 1, [.v (.nilFunc)], false, 8⟩),
  (99, ⟨.struct [(0, 4), (1, 60), (3, 60), (5, 3), (6, 4)], 7, [.v (.bool false), .v (.int .u64 0), .v (.int .u64 0), .v (.int .u64 0), .v (.int .u64 0), .v (.int .i64 0), .v (.bool false)], true, 56⟩),
  (100, ⟨.struct [(0, 4), (1, 60), (3, 60), (5, 3), (6, 4)], 7, [.v (.bool false), .v (.int .u64 0), .v (.int .u64 0), .v (.int .u64 0), .v (.int .u64 0), .v (.int .i64 0), .v (.bool false)], true, 56⟩),
  (102, ⟨.other, 1, [.v (.nilFunc)], false, 8⟩),
  (103, ⟨.other, 1, [.v (.nilFunc)], false, 8⟩),
  (104, ⟨.int .i64, 1, [.v (.int .i64 0)], false, 8⟩),
  (105, ⟨.slice 30, 1, [.sl 0 []], false, 24⟩),
  (106, ⟨.other, 1, [.v (.nilFunc)], false, 8⟩),
  (107, ⟨.struct [(0, 4), (1, 60), (3, 3)], 4, [.v (.bool false), .v (.int .u64 0), .v (.int .u64 0), .v (.int .i64 0)], true, 32⟩),
  (108, ⟨.str, 1, [.v (.string ⟨#[]⟩)], false, 16⟩),
  (109, ⟨.bool, 1, [.v (.bool false)], false, 1⟩),
  (111, ⟨.other, 1, [.v (.nilFunc)], false, 8⟩),
  (112, ⟨.other, 1, [.v (.nilFunc)], false, 8⟩),
  (116, ⟨.other, 1, [.v (.nilFunc)], false, 8⟩),
  (117, ⟨.other, 1, [.v (.nilFunc)], false, 8⟩),
  (118, ⟨.other, 1, [.v (.nilFunc)], false, 8⟩),
  (119, ⟨.other, 1, [.v (.nilFunc)], false, 8⟩),
  (121, ⟨.other, 1, [.v (.nilFunc)], false, 8⟩),
  (122, ⟨.other, 1, [.v (.nilFunc)], false, 8⟩),
  (123, ⟨.struct [(0, 3), (1, 3), (2, 3)], 3, [.v (.int .i64 0), .v (.int .i64 0), .v (.int .i64 0)], true, 24⟩),
  (124, ⟨.struct [(0, 3), (1, 3), (2, 3)], 3, [.v (.int .i64 0), .v (.int .i64 0), .v (.int .i64 0)], true, 24⟩),
  (126, ⟨.other, 1, [.v (.nilFunc)], false, 8⟩),
  (127, ⟨.other, 1, [.v (.nilFunc)], false, 8⟩),
  (128, ⟨.struct [(0, 3), (1, 4), (2, 3)], 3, [.v (.int .i64 0), .v (.bool false), .v (.int .i64 0)], true, 24⟩),
  (129, ⟨.struct [(0, 3), (1, 4), (2, 3)], 3, [.v (.int .i64 0), .v (.bool false), .v (.int .i64 0)], true, 24⟩),
  (131, ⟨.other, 1, [.v (.nilFunc)], false, 8⟩),
  (132, ⟨.other, 1, [.v (.nilFunc)], false, 8⟩),
  (133, ⟨.struct [(0, 124), (3, 129)], 6, [.v (.int .i64 0), .v (.int .i64 0), .v (.int .i64 0), .v (.int .i64 0), .v (.bool false), .v (.int .i64 0)], true, 48⟩),
  (134, ⟨.struct [(0, 124), (3, 129)], 6, [.v (.int .i64 0), .v (.int .i64 0), .v (.int .i64 0), .v (.int .i64 0), .v (.bool false), .v (.int .i64 0)], true, 48⟩),
  (136, ⟨.other, 1, [.v (.nilFunc)], false, 8⟩),
  (137, ⟨.other, 1, [.v (.nilFunc)], false, 8⟩),
  (138, ⟨.other, 1, [.v (.nilFunc)], false, 8⟩),
  (139, ⟨.other, 1, [.v (.nilFunc)], false, 8⟩),
  (140, ⟨.other, 1, [.v (.nilFunc)], false, 8⟩),
  (144, ⟨.other, 1, [.v (.nilFunc)], false, 8⟩),
  (145, ⟨.other, 1, [.v (.nilFunc)], false, 8⟩),
  (146, ⟨.other, 1, [.v (.pointer none)], false, 8⟩),
  (148, ⟨.other, 1, [.v (.nilFunc)], false, 8⟩),
  (150, ⟨.other, 1, [.v (.nilFunc)], false, 8⟩),
  (151, ⟨.other, 1, [.v (.nilFunc)], false, 8⟩),
  (152, ⟨.other, 1, [.v (.nilFunc)], false, 8⟩),
  (153, ⟨.other, 1, [.v (.nilFunc)], false, 8⟩),
  (154, ⟨.other, 1, [.v (.nilFunc)], false, 8⟩),
  (156, ⟨.struct [(0, 5), (1, 5)], 2, [.v (.int .u8 0), .v (.int .u8 0)], true, 2⟩),
  (157, ⟨.struct [(0, 5), (1, 5)], 2, [.v (.int .u8 0), .v (.int .u8 0)], true, 2⟩),
  (158, ⟨.arr 16 157, 32, [.v (.int .u8 0), .v (.int .u8 0), .v (.int .u8 0), .v (.int .u8 0), .v (.int .u8 0), .v (.int .u8 0), .v (.int .u8 0), .v (.int .u8 0), .v (.int .u8 0), .v (.int .u8 0), .v (.int .u8 0), .v (.int .u8 0), .v (.int .u8 0), .v (.int .u8 0), .v (.int .u8 0), .v (.int .u8 0), .v (.int .u8 0), .v (.int .u8 0), .v (.int .u8 0), .v (.int .u8 0), .v (.int .u8 0), .v (.int .u8 0), .v (.int .u8 0), .v (.int .u8 0), .v (.int .u8 0), .v (.int .u8 0), .v (.int .u8 0), .v (.int .u8 0), .v (.int .u8 0), .v (.int .u8 0), .v (.int .u8 0), .v (.int .u8 0)], false, 32⟩),
  (159, ⟨.int .u64, 1, [.v (.int .u64 0)], false, 8⟩),
  (160, ⟨.other, 1, [.v (.nilFunc)], false, 8⟩),
  (161, ⟨.other, 1, [.v (.nilFunc)], false, 8⟩),
  (162, ⟨.other, 1, [.v (.nilFunc)], false, 8⟩),
  (163, ⟨.other, 1, [.v (.nilFunc)], false, 8⟩),
  (164, ⟨.other, 1, [.v (.nilFunc)], false, 8⟩),
  (165, ⟨.other, 1, [.v (.nilFunc)], false, 8⟩),
  (166, ⟨.other, 1, [.v (.nilFunc)], false, 8⟩),
  (167, ⟨.other, 1, [.v (.nilFunc)], false, 8⟩),
  (168, ⟨.struct [(0, 38), (1, 55)], 2, [.sl 0 [], .sl 0 []], false, 48⟩),
  (169, ⟨.struct [(0, 38), (1, 55)], 2, [.sl 0 [], .sl 0 []], false, 48⟩),
  (171, ⟨.other, 1, [.v (.nilFunc)], false, 8⟩),
  (172, ⟨.other, 1, [.v (.nilFunc)], false, 8⟩),
  (174, ⟨.other, 1, [.v (.nilFunc)], false, 8⟩),
  (175, ⟨.other, 1, [.v (.nilFunc)], false, 8⟩),
  (176, ⟨.other, 1, [.v (.nilFunc)], false, 8⟩),
  (177, ⟨.other, 1, [.v (.nilFunc)], false, 8⟩),
  (178, ⟨.other, 1, [.v (.nilFunc)], false, 8⟩),
  (180, ⟨.struct [(0, 3), (1, 3), (2, 3)], 3, [.v (.int .i64 0), .v (.int .i64 0), .v (.int .i64 0)], true, 24⟩),
  (182, ⟨.arr 2 3, 2, [.v (.int .i64 0), .v (.int .i64 0)], false, 16⟩),
  (183, ⟨.slice 182, 1, [.sl 0 []], false, 24⟩),
  (184, ⟨.struct [(0, 3), (1, 4), (2, 3)], 3, [.v (.int .i64 0), .v (.bool false), .v (.int .i64 0)], true, 24⟩),
  (186, ⟨.struct [(0, 124), (3, 129)], 6, [.v (.int .i64 0), .v (.int .i64 0), .v (.int .i64 0), .v (.int .i64 0), .v (.bool false), .v (.int .i64 0)], true, 48⟩),
  (188, ⟨.other, 1, [.v (.nilFunc)], false, 8⟩),
  (189, ⟨.other, 1, [.v (.nilFunc)], false, 8⟩),
  (190, ⟨.int .i64, 1, [.v (.int .i64 0)], false, 8⟩),
  (191, ⟨.slice 5, 1, [.sl 0 []], false, 24⟩),
  (193, ⟨.other, 1, [.v (.nilFunc)], false, 8⟩),
  (194, ⟨.other, 1, [.v (.pointer none)], false, 8⟩),
  (195, ⟨.other, 1, [.v (.nilFunc)], false, 8⟩),
  (196, ⟨.other, 1, [.v (.nilFunc)], false, 8⟩),
  (197, ⟨.other, 1, [.v (.nilFunc)], false, 8⟩),
  (198, ⟨.other, 1, [.v (.nilFunc)], false, 8⟩),
  (200, ⟨.other, 1, [.v (.nilFunc)], false, 8⟩),
  (201, ⟨.other, 1, [.v (.nilFunc)], false, 8⟩),
  (203, ⟨.other, 1, [.v (.nilFunc)], false, 8⟩),
  (204, ⟨.other, 1, [.v (.nilFunc)], false, 8⟩),
  (206, ⟨.other, 1, [.v (.nilFunc)], false, 8⟩),
  (207, ⟨.other, 1, [.v (.nilFunc)], false, 8⟩),
  (209, ⟨.other, 1, [.v (.nilFunc)], false, 8⟩),
  (210, ⟨.other, 1, [.v (.nilFunc)], false, 8⟩),
  (211, ⟨.other, 1, [.v (.nilFunc)], false, 8⟩),
  (212, ⟨.other, 1, [.v (.nilFunc)], false, 8⟩),
  (213, ⟨.other, 1, [.v (.nilFunc)], false, 8⟩),
  (214, ⟨.other, 1, [.v (.nilFunc)], false, 8⟩),
  (215, ⟨.other, 1, [.v (.nilFunc)], false, 8⟩),
  (216, ⟨.slice 3, 1, [.sl 0 []], false, 24⟩),
  (218, ⟨.other, 1, [.v (.nilFunc)], false, 8⟩),
  (219, ⟨.other, 1, [.v (.nilFunc)], false, 8⟩),
  (220, ⟨.other, 1, [.v (.nilFunc)], false, 8⟩),
  (221, ⟨.other, 1, [.v (.nilFunc)], false, 8⟩),
  (223, ⟨.other, 1, [.v (.nilFunc)], false, 8⟩),
  (224, ⟨.other, 1, [.v (.nilFunc)], false, 8⟩),
  (225, ⟨.other, 1, [.v (.nilFunc)], false, 8⟩),
  (226, ⟨.int .i64, 1, [.v (.int .i64 0)], false, 8⟩),
  (227, ⟨.int .i64, 1, [.v (.int .i64 0)], false, 8⟩),
  (229, ⟨.other, 1, [.v (.nilFunc)], false, 8⟩),
  (230, ⟨.other, 1, [.v (.nilFunc)], false, 8⟩),
  (233, ⟨.other, 1, [.v (.nilFunc)], false, 8⟩),
  (234, ⟨.other, 1, [.v (.nilFunc)], false, 8⟩),
  (236, ⟨.other, 1, [.v (.nilFunc)], false, 8⟩),
  (237, ⟨.other, 1, [.v (.nilFunc)], false, 8⟩),
  (238, ⟨.struct [(0, 9), (1, 9), (2, 95)], 3, [.v (.string ⟨#[]⟩), .v (.string ⟨#[]⟩), .v (.nilIface)], false, 48⟩),
  (239, ⟨.struct [(0, 9), (1, 9), (2, 95)], 3, [.v (.string ⟨#[]⟩), .v (.string ⟨#[]⟩), .v (.nilIface)], false, 48⟩),
  (240, ⟨.other, 1, [.v (.nilFunc)], false, 8⟩),
  (241, ⟨.other, 1, [.v (.nilFunc)], false, 8⟩),
  (242, ⟨.other, 1, [.v (.nilFunc)], false, 8⟩),
  (243, ⟨.arr 4 58, 4, [.v (.int .u64 0), .v (.int .u64 0), .v (.int .u64 0), .v (.int .u64 0)], false, 32⟩),
  (244, ⟨.other, 1, [.v (.nilFunc)], false, 8⟩),
  (245, ⟨.other, 1, [.v (.nilFunc)], false, 8⟩),
  (247, ⟨.other, 1, [.v (.nilFunc)], false, 8⟩),
  (248, ⟨.other, 1, [.v (.nilFunc)], false, 8⟩),
  (249, ⟨.int .u32, 1, [.v (.int .u32 0)], false, 4⟩),
  (251, ⟨.other, 1, [.v (.nilFunc)], false, 8⟩),
  (252, ⟨.other, 1, [.v (.nilFunc)], false, 8⟩),
  (253, ⟨.other, 1, [.v (.pointer none)], false, 8⟩),
  (254, ⟨.other, 1, [.v (.pointer none)], false, 8⟩),
  (255, ⟨.struct [(0, 9)], 1, [.v (.string ⟨#[]⟩)], true, 16⟩),
  (256, ⟨.struct [(0, 9)], 1, [.v (.string ⟨#[]⟩)], true, 16⟩),
  (257, ⟨.other, 1, [.v (.nilFunc)], false, 8⟩),
  (258, ⟨.other, 1, [.v (.nilFunc)], false, 8⟩),
  (259, ⟨.other, 1, [.v (.nilFunc)], false, 8⟩),
  (260, ⟨.other, 1, [.v (.nilFunc)], false, 8⟩),
  (261, ⟨.arr 24 5, 24, [.v (.int .u8 0), .v (.int .u8 0), .v (.int .u8 0), .v (.int .u8 0), .v (.int .u8 0), .v (.int .u8 0), .v (.int .u8 0), .v (.int .u8 0), .v (.int .u8 0), .v (.int .u8 0), .v (.int .u8 0), .v (.int .u8 0), .v (.int .u8 0), .v (.int .u8 0), .v (.int .u8 0), .v (.int .u8 0), .v (.int .u8 0), .v (.int .u8 0), .v (.int .u8 0), .v (.int .u8 0), .v (.int .u8 0), .v (.int .u8 0), .v (.int .u8 0), .v (.int .u8 0)], false, 24⟩),
  (262, ⟨.other, 1, [.v (.nilFunc)], false, 8⟩),
  (264, ⟨.other, 1, [.v (.nilFunc)], false, 8⟩),
  (265, ⟨.other, 1, [.v (.nilFunc)], false, 8⟩),
  (266, ⟨.arr 20 58, 20, [.v (.int .u64 0), .v (.int .u64 0), .v (.int .u64 0), .v (.int .u64 0), .v (.int .u64 0), .v (.int .u64 0), .v (.int .u64 0), .v (.int .u64 0), .v (.int .u64 0), .v (.int .u64 0), .v (.int .u64 0), .v (.int .u64 0), .v (.int .u64 0), .v (.int .u64 0), .v (.int .u64 0), .v (.int .u64 0), .v (.int .u64 0), .v (.int .u64 0), .v (.int .u64 0), .v (.int .u64 0)], false, 160⟩),
  (268, ⟨.other, 1, [.v (.nilFunc)], false, 8⟩),
  (269, ⟨.other, 1, [.v (.nilFunc)], false, 8⟩),
  (270, ⟨.arr 32 5, 32, [.v (.int .u8 0), .v (.int .u8 0), .v (.int .u8 0), .v (.int .u8 0), .v (.int .u8 0), .v (.int .u8 0), .v (.int .u8 0), .v (.int .u8 0), .v (.int .u8 0), .v (.int .u8 0), .v (.int .u8 0), .v (.int .u8 0), .v (.int .u8 0), .v (.int .u8 0), .v (.int .u8 0), .v (.int .u8 0), .v (.int .u8 0), .v (.int .u8 0), .v (.int .u8 0), .v (.int .u8 0), .v (.int .u8 0), .v (.int .u8 0), .v (.int .u8 0), .v (.int .u8 0), .v (.int .u8 0), .v (.int .u8 0), .v (.int .u8 0), .v (.int .u8 0), .v (.int .u8 0), .v (.int .u8 0), .v (.int .u8 0), .v (.int .u8 0)], false, 32⟩),
  (271, ⟨.arr 64 5, 64, [.v (.int .u8 0), .v (.int .u8 0), .v (.int .u8 0), .v (.int .u8 0), .v (.int .u8 0), .v (.int .u8 0), .v (.int .u8 0), .v (.int .u8 0), .v (.int .u8 0), .v (.int .u8 0), .v (.int .u8 0), .v (.int .u8 0), .v (.int .u8 0), .v (.int .u8 0), .v (.int .u8 0), .v (.int .u8 0), .v (.int .u8 0), .v (.int .u8 0), .v (.int .u8 0), .v (.int .u8 0), .v (.int .u8 0), .v (.int .u8 0), .v (.int .u8 0), .v (.int .u8 0), .v (.int .u8 0), .v (.int .u8 0), .v (.int .u8 0), .v (.int .u8 0), .v (.int .u8 0), .v (.int .u8 0), .v (.int .u8 0), .v (.int .u8 0), .v (.int .u8 0), .v (.int .u8 0), .v (.int .u8 0), .v (.int .u8 0), .v (.int .u8 0), .v (.int .u8 0), .v (.int .u8 0), .v (.int .u8 0), .v (.int .u8 0), .v (.int .u8 0), .v (.int .u8 0), .v (.int .u8 0), .v (.int .u8 0), .v (.int .u8 0), .v (.int .u8 0), .v (.int .u8 0), .v (.int .u8 0), .v (.int .u8 0), .v (.int .u8 0), .v (.int .u8 0), .v (.int .u8 0), .v (.int .u8 0), .v (.int .u8 0), .v (.int .u8 0), .v (.int .u8 0), .v (.int .u8 0), .v (.int .u8 0), .v (.int .u8 0), .v (.int .u8 0), .v (.int .u8 0), .v (.int .u8 0), .v (.int .u8 0)], false, 64⟩),
  (272, ⟨.other, 1, [.v (.nilFunc)], false, 8⟩),
  (273, ⟨.struct [(0, 17), (1, 17), (2, 17), (3, 9)], 4, [.v (.pointer none), .v (.pointer none), .v (.pointer none), .v (.string ⟨#[]⟩)], false, 40⟩),
  (274, ⟨.struct [(0, 17), (1, 17), (2, 17), (3, 9)], 4, [.v (.pointer none), .v (.pointer none), .v (.pointer none), .v (.string ⟨#[]⟩)], false, 40⟩),
  (275, ⟨.arr 0 16, 0, [], false, 0⟩),
  (276, ⟨.struct [(0, 275)], 0, [], false, 0⟩),
  (277, ⟨.struct [(0, 275)], 0, [], false, 0⟩),
  (278, ⟨.int .u8, 1, [.v (.int .u8 0)], false, 1⟩),
  (279, ⟨.int .u8, 1, [.v (.int .u8 0)], false, 1⟩),
  (280, ⟨.other, 1, [.v (.nilFunc)], false, 8⟩),
  (281, ⟨.int .i32, 1, [.v (.int .i32 0)], false, 4⟩),
  (282, ⟨.int .i32, 1, [.v (.int .i32 0)], false, 4⟩),
  (283, ⟨.struct [(0, 12), (1, 12), (2, 249), (3, 278), (4, 5), (5, 5), (6, 279), (7, 280), (8, 253), (9, 281), (10, 282)], 11, [.v (.int .u64 0), .v (.int .u64 0), .v (.int .u32 0), .v (.int .u8 0), .v (.int .u8 0), .v (.int .u8 0), .v (.int .u8 0), .v (.nilFunc), .v (.pointer none), .v (.int .i32 0), .v (.int .i32 0)], false, 48⟩),
  (284, ⟨.struct [(0, 12), (1, 12), (2, 249), (3, 278), (4, 5), (5, 5), (6, 279), (7, 280), (8, 253), (9, 281), (10, 282)], 11, [.v (.int .u64 0), .v (.int .u64 0), .v (.int .u32 0), .v (.int .u8 0), .v (.int .u8 0), .v (.int .u8 0), .v (.int .u8 0), .v (.nilFunc), .v (.pointer none), .v (.int .i32 0), .v (.int .i32 0)], false, 48⟩),
  (285, ⟨.other, 1, [.v (.pointer none)], false, 8⟩)]
def tyT : TypeId → Option TI := look tyL
theorem ty1 : TyOk1 Tryz.prog tyT 1 ⟨.other, 1, [.v (.nilFunc)], false, 8⟩ := ⟨⟨_, _, rfl, rfl, rfl, rfl, rfl, (by first | exact (fun _ => ⟨_, rfl⟩) | exact (fun h => by cases h)), (by first | exact (fun _ => rfl) | exact (fun h => by cases h))⟩, ⟨_, rfl, (fun _ h => by cases h), (fun _ _ h => by cases h)⟩, (fun fs h => by cases h),
  (fun h => by cases h)⟩
theorem ty2 : TyOk1 Tryz.prog tyT 2 ⟨.int .i64, 1, [.v (.int .i64 0)], false, 8⟩ := ⟨⟨_, _, rfl, rfl, rfl, rfl, rfl, (by first | exact (fun _ => ⟨_, rfl⟩) | exact (fun h => by cases h)), (by first | exact (fun _ => rfl) | exact (fun h => by cases h))⟩, rfl, (fun fs h => by cases h),
  (fun h => by cases h)⟩
theorem ty3 : TyOk1 Tryz.prog tyT 3 ⟨.int .i64, 1, [.v (.int .i64 0)], false, 8⟩ := ⟨⟨_, _, rfl, rfl, rfl, rfl, rfl, (by first | exact (fun _ => ⟨_, rfl⟩) | exact (fun h => by cases h)), (by first | exact (fun _ => rfl) | exact (fun h => by cases h))⟩, rfl, (fun fs h => by cases h),
  (fun h => by cases h)⟩
theorem ty4 : TyOk1 Tryz.prog tyT 4 ⟨.bool, 1, [.v (.bool false)], false, 1⟩ := ⟨⟨_, _, rfl, rfl, rfl, rfl, rfl, (by first | exact (fun _ => ⟨_, rfl⟩) | exact (fun h => by cases h)), (by first | exact (fun _ => rfl) | exact (fun h => by cases h))⟩, rfl, (fun fs h => by cases h),
  (fun h => by cases h)⟩
theorem ty5 : TyOk1 Tryz.prog tyT 5 ⟨.int .u8, 1, [.v (.int .u8 0)], false, 1⟩ := ⟨⟨_, _, rfl, rfl, rfl, rfl, rfl, (by first | exact (fun _ => ⟨_, rfl⟩) | exact (fun h => by cases h)), (by first | exact (fun _ => rfl) | exact (fun h => by cases h))⟩, rfl, (fun fs h => by cases h),
  (fun h => by cases h)⟩
theorem ty6 : TyOk1 Tryz.prog tyT 6 ⟨.int .u8, 1, [.v (.int .u8 0)], false, 1⟩ := ⟨⟨_, _, rfl, rfl, rfl, rfl, rfl, (by first | exact (fun _ => ⟨_, rfl⟩) | exact (fun h => by cases h)), (by first | exact (fun _ => rfl) | exact (fun h => by cases h))⟩, rfl, (fun fs h => by cases h),
  (fun h => by cases h)⟩
theorem ty7 : TyOk1 Tryz.prog tyT 7 ⟨.struct [(0, 2), (1, 3), (2, 4), (3, 6)], 4, [.v (.int .i64 0), .v (.int .i64 0), .v (.bool false), .v (.int .u8 0)], true, 24⟩ := ⟨⟨_, _, rfl, rfl, rfl, rfl, rfl, (by first | exact (fun _ => ⟨_, rfl⟩) | exact (fun h => by cases h)), (by first | exact (fun _ => rfl) | exact (fun h => by cases h))⟩, ⟨_, rfl, rfl⟩, (fun fs h => by injection h with h; subst h; intro p hp; revert p; simp only [List.forall_mem_cons, List.not_mem_nil, false_implies, implies_true, and_true]; first | rfl | (repeat' apply And.intro) <;> rfl),
  (fun _ => ⟨(by first | exact Tryz.stoodInHeld7 | kernel_rfl), (by first | exact Tryz.eqGuardType7 | kernel_rfl), (fun fields h => by first | (injection h with h; injection h with h; subst h; simp; done) | (cases h))⟩)⟩
theorem ty8 : TyOk1 Tryz.prog tyT 8 ⟨.struct [(0, 2), (1, 3), (2, 4), (3, 6)], 4, [.v (.int .i64 0), .v (.int .i64 0), .v (.bool false), .v (.int .u8 0)], true, 24⟩ := ⟨⟨_, _, rfl, rfl, rfl, rfl, rfl, (by first | exact (fun _ => ⟨_, rfl⟩) | exact (fun h => by cases h)), (by first | exact (fun _ => rfl) | exact (fun h => by cases h))⟩, ⟨_, rfl, rfl⟩, (fun fs h => by injection h with h; subst h; intro p hp; revert p; simp only [List.forall_mem_cons, List.not_mem_nil, false_implies, implies_true, and_true]; first | rfl | (repeat' apply And.intro) <;> rfl),
  (fun _ => ⟨(by first | exact Tryz.stoodInHeld8 | kernel_rfl), (by first | exact Tryz.eqGuardType8 | kernel_rfl), (fun fields h => by first | (injection h with h; injection h with h; subst h; simp; done) | (cases h))⟩)⟩
theorem ty9 : TyOk1 Tryz.prog tyT 9 ⟨.str, 1, [.v (.string ⟨#[]⟩)], false, 16⟩ := ⟨⟨_, _, rfl, rfl, rfl, rfl, rfl, (by first | exact (fun _ => ⟨_, rfl⟩) | exact (fun h => by cases h)), (by first | exact (fun _ => rfl) | exact (fun h => by cases h))⟩, rfl, (fun fs h => by cases h),
  (fun h => by cases h)⟩
theorem ty10 : TyOk1 Tryz.prog tyT 10 ⟨.str, 1, [.v (.string ⟨#[]⟩)], false, 16⟩ := ⟨⟨_, _, rfl, rfl, rfl, rfl, rfl, (by first | exact (fun _ => ⟨_, rfl⟩) | exact (fun h => by cases h)), (by first | exact (fun _ => rfl) | exact (fun h => by cases h))⟩, rfl, (fun fs h => by cases h),
  (fun h => by cases h)⟩
theorem ty11 : TyOk1 Tryz.prog tyT 11 ⟨.str, 1, [.v (.string ⟨#[]⟩)], false, 16⟩ := ⟨⟨_, _, rfl, rfl, rfl, rfl, rfl, (by first | exact (fun _ => ⟨_, rfl⟩) | exact (fun h => by cases h)), (by first | exact (fun _ => rfl) | exact (fun h => by cases h))⟩, rfl, (fun fs h => by cases h),
  (fun h => by cases h)⟩
theorem ty12 : TyOk1 Tryz.prog tyT 12 ⟨.int .u64, 1, [.v (.int .u64 0)], false, 8⟩ := ⟨⟨_, _, rfl, rfl, rfl, rfl, rfl, (by first | exact (fun _ => ⟨_, rfl⟩) | exact (fun h => by cases h)), (by first | exact (fun _ => rfl) | exact (fun h => by cases h))⟩, rfl, (fun fs h => by cases h),
  (fun h => by cases h)⟩
theorem ty13 : TyOk1 Tryz.prog tyT 13 ⟨.struct [(0, 9), (1, 12)], 2, [.v (.string ⟨#[]⟩), .v (.int .u64 0)], false, 24⟩ := ⟨⟨_, _, rfl, rfl, rfl, rfl, rfl, (by first | exact (fun _ => ⟨_, rfl⟩) | exact (fun h => by cases h)), (by first | exact (fun _ => rfl) | exact (fun h => by cases h))⟩, ⟨_, rfl, rfl⟩, (fun fs h => by injection h with h; subst h; intro p hp; revert p; simp only [List.forall_mem_cons, List.not_mem_nil, false_implies, implies_true, and_true]; first | rfl | (repeat' apply And.intro) <;> rfl),
  (fun h => by cases h)⟩
theorem ty14 : TyOk1 Tryz.prog tyT 14 ⟨.struct [(0, 9), (1, 12)], 2, [.v (.string ⟨#[]⟩), .v (.int .u64 0)], false, 24⟩ := ⟨⟨_, _, rfl, rfl, rfl, rfl, rfl, (by first | exact (fun _ => ⟨_, rfl⟩) | exact (fun h => by cases h)), (by first | exact (fun _ => rfl) | exact (fun h => by cases h))⟩, ⟨_, rfl, rfl⟩, (fun fs h => by injection h with h; subst h; intro p hp; revert p; simp only [List.forall_mem_cons, List.not_mem_nil, false_implies, implies_true, and_true]; first | rfl | (repeat' apply And.intro) <;> rfl),
  (fun h => by cases h)⟩
theorem ty15 : TyOk1 Tryz.prog tyT 15 ⟨.other, 1, [.v (.pointer none)], false, 8⟩ := ⟨⟨_, _, rfl, rfl, rfl, rfl, rfl, (by first | exact (fun _ => ⟨_, rfl⟩) | exact (fun h => by cases h)), (by first | exact (fun _ => rfl) | exact (fun h => by cases h))⟩, ⟨_, rfl, (fun _ h => by cases h), (fun _ _ h => by cases h)⟩, (fun fs h => by cases h),
  (fun h => by cases h)⟩
theorem ty16 : TyOk1 Tryz.prog tyT 16 ⟨.other, 1, [.v (.pointer none)], false, 8⟩ := ⟨⟨_, _, rfl, rfl, rfl, rfl, rfl, (by first | exact (fun _ => ⟨_, rfl⟩) | exact (fun h => by cases h)), (by first | exact (fun _ => rfl) | exact (fun h => by cases h))⟩, ⟨_, rfl, (fun _ h => by cases h), (fun _ _ h => by cases h)⟩, (fun fs h => by cases h),
  (fun h => by cases h)⟩
theorem ty17 : TyOk1 Tryz.prog tyT 17 ⟨.other, 1, [.v (.pointer none)], false, 8⟩ := ⟨⟨_, _, rfl, rfl, rfl, rfl, rfl, (by first | exact (fun _ => ⟨_, rfl⟩) | exact (fun h => by cases h)), (by first | exact (fun _ => rfl) | exact (fun h => by cases h))⟩, ⟨_, rfl, (fun _ h => by cases h), (fun _ _ h => by cases h)⟩, (fun fs h => by cases h),
  (fun h => by cases h)⟩
theorem ty18 : TyOk1 Tryz.prog tyT 18 ⟨.struct [(0, 17)], 1, [.v (.pointer none)], false, 8⟩ := ⟨⟨_, _, rfl, rfl, rfl, rfl, rfl, (by first | exact (fun _ => ⟨_, rfl⟩) | exact (fun h => by cases h)), (by first | exact (fun _ => rfl) | exact (fun h => by cases h))⟩, ⟨_, rfl, rfl⟩, (fun fs h => by injection h with h; subst h; intro p hp; revert p; simp only [List.forall_mem_cons, List.not_mem_nil, false_implies, implies_true, and_true]; first | rfl | (repeat' apply And.intro) <;> rfl),
  (fun h => by cases h)⟩
theorem ty19 : TyOk1 Tryz.prog tyT 19 ⟨.struct [(0, 17)], 1, [.v (.pointer none)], false, 8⟩ := ⟨⟨_, _, rfl, rfl, rfl, rfl, rfl, (by first | exact (fun _ => ⟨_, rfl⟩) | exact (fun h => by cases h)), (by first | exact (fun _ => rfl) | exact (fun h => by cases h))⟩, ⟨_, rfl, rfl⟩, (fun fs h => by injection h with h; subst h; intro p hp; revert p; simp only [List.forall_mem_cons, List.not_mem_nil, false_implies, implies_true, and_true]; first | rfl | (repeat' apply And.intro) <;> rfl),
  (fun h => by cases h)⟩
theorem ty20 : TyOk1 Tryz.prog tyT 20 ⟨.other, 1, [.v (.nilIface)], false, 16⟩ := ⟨⟨_, _, rfl, rfl, rfl, rfl, rfl, (by first | exact (fun _ => ⟨_, rfl⟩) | exact (fun h => by cases h)), (by first | exact (fun _ => rfl) | exact (fun h => by cases h))⟩, ⟨_, rfl, (fun _ h => by cases h), (fun _ _ h => by cases h)⟩, (fun fs h => by cases h),
  (fun h => by cases h)⟩
theorem ty21 : TyOk1 Tryz.prog tyT 21 ⟨.int .i32, 1, [.v (.int .i32 0)], false, 4⟩ := ⟨⟨_, _, rfl, rfl, rfl, rfl, rfl, (by first | exact (fun _ => ⟨_, rfl⟩) | exact (fun h => by cases h)), (by first | exact (fun _ => rfl) | exact (fun h => by cases h))⟩, rfl, (fun fs h => by cases h),
  (fun h => by cases h)⟩
theorem ty22 : TyOk1 Tryz.prog tyT 22 ⟨.other, 1, [.v (.nilFunc)], false, 8⟩ := ⟨⟨_, _, rfl, rfl, rfl, rfl, rfl, (by first | exact (fun _ => ⟨_, rfl⟩) | exact (fun h => by cases h)), (by first | exact (fun _ => rfl) | exact (fun h => by cases h))⟩, ⟨_, rfl, (fun _ h => by cases h), (fun _ _ h => by cases h)⟩, (fun fs h => by cases h),
  (fun h => by cases h)⟩
theorem ty23 : TyOk1 Tryz.prog tyT 23 ⟨.int .i64, 1, [.v (.int .i64 0)], false, 8⟩ := ⟨⟨_, _, rfl, rfl, rfl, rfl, rfl, (by first | exact (fun _ => ⟨_, rfl⟩) | exact (fun h => by cases h)), (by first | exact (fun _ => rfl) | exact (fun h => by cases h))⟩, rfl, (fun fs h => by cases h),
  (fun h => by cases h)⟩
theorem ty24 : TyOk1 Tryz.prog tyT 24 ⟨.other, 1, [.v (.nilFunc)], false, 8⟩ := ⟨⟨_, _, rfl, rfl, rfl, rfl, rfl, (by first | exact (fun _ => ⟨_, rfl⟩) | exact (fun h => by cases h)), (by first | exact (fun _ => rfl) | exact (fun h => by cases h))⟩, ⟨_, rfl, (fun _ h => by cases h), (fun _ _ h => by cases h)⟩, (fun fs h => by cases h),
  (fun h => by cases h)⟩
theorem ty25 : TyOk1 Tryz.prog tyT 25 ⟨.other, 1, [.v (.nilFunc)], false, 8⟩ := ⟨⟨_, _, rfl, rfl, rfl, rfl, rfl, (by first | exact (fun _ => ⟨_, rfl⟩) | exact (fun h => by cases h)), (by first | exact (fun _ => rfl) | exact (fun h => by cases h))⟩, ⟨_, rfl, (fun _ h => by cases h), (fun _ _ h => by cases h)⟩, (fun fs h => by cases h),
  (fun h => by cases h)⟩
theorem ty26 : TyOk1 Tryz.prog tyT 26 ⟨.other, 1, [.v (.nilFunc)], false, 8⟩ := ⟨⟨_, _, rfl, rfl, rfl, rfl, rfl, (by first | exact (fun _ => ⟨_, rfl⟩) | exact (fun h => by cases h)), (by first | exact (fun _ => rfl) | exact (fun h => by cases h))⟩, ⟨_, rfl, (fun _ h => by cases h), (fun _ _ h => by cases h)⟩, (fun fs h => by cases h),
  (fun h => by cases h)⟩
theorem ty27 : TyOk1 Tryz.prog tyT 27 ⟨.other, 1, [.v (.nilIface)], false, 16⟩ := ⟨⟨_, _, rfl, rfl, rfl, rfl, rfl, (by first | exact (fun _ => ⟨_, rfl⟩) | exact (fun h => by cases h)), (by first | exact (fun _ => rfl) | exact (fun h => by cases h))⟩, ⟨_, rfl, (fun _ h => by cases h), (fun _ _ h => by cases h)⟩, (fun fs h => by cases h),
  (fun h => by cases h)⟩
theorem ty28 : TyOk1 Tryz.prog tyT 28 ⟨.other, 1, [.v (.nilIface)], false, 16⟩ := ⟨⟨_, _, rfl, rfl, rfl, rfl, rfl, (by first | exact (fun _ => ⟨_, rfl⟩) | exact (fun h => by cases h)), (by first | exact (fun _ => rfl) | exact (fun h => by cases h))⟩, ⟨_, rfl, (fun _ h => by cases h), (fun _ _ h => by cases h)⟩, (fun fs h => by cases h),
  (fun h => by cases h)⟩
theorem ty29 : TyOk1 Tryz.prog tyT 29 ⟨.struct [(0, 28)], 1, [.v (.nilIface)], false, 16⟩ := ⟨⟨_, _, rfl, rfl, rfl, rfl, rfl, (by first | exact (fun _ => ⟨_, rfl⟩) | exact (fun h => by cases h)), (by first | exact (fun _ => rfl) | exact (fun h => by cases h))⟩, ⟨_, rfl, rfl⟩, (fun fs h => by injection h with h; subst h; intro p hp; revert p; simp only [List.forall_mem_cons, List.not_mem_nil, false_implies, implies_true, and_true]; first | rfl | (repeat' apply And.intro) <;> rfl),
  (fun h => by cases h)⟩
theorem ty30 : TyOk1 Tryz.prog tyT 30 ⟨.struct [(0, 28)], 1, [.v (.nilIface)], false, 16⟩ := ⟨⟨_, _, rfl, rfl, rfl, rfl, rfl, (by first | exact (fun _ => ⟨_, rfl⟩) | exact (fun h => by cases h)), (by first | exact (fun _ => rfl) | exact (fun h => by cases h))⟩, ⟨_, rfl, rfl⟩, (fun fs h => by injection h with h; subst h; intro p hp; revert p; simp only [List.forall_mem_cons, List.not_mem_nil, false_implies, implies_true, and_true]; first | rfl | (repeat' apply And.intro) <;> rfl),
  (fun h => by cases h)⟩
theorem ty31 : TyOk1 Tryz.prog tyT 31 ⟨.other, 1, [.v (.nilFunc)], false, 8⟩ := ⟨⟨_, _, rfl, rfl, rfl, rfl, rfl, (by first | exact (fun _ => ⟨_, rfl⟩) | exact (fun h => by cases h)), (by first | exact (fun _ => rfl) | exact (fun h => by cases h))⟩, ⟨_, rfl, (fun _ h => by cases h), (fun _ _ h => by cases h)⟩, (fun fs h => by cases h),
  (fun h => by cases h)⟩
theorem ty32 : TyOk1 Tryz.prog tyT 32 ⟨.other, 1, [.v (.nilFunc)], false, 8⟩ := ⟨⟨_, _, rfl, rfl, rfl, rfl, rfl, (by first | exact (fun _ => ⟨_, rfl⟩) | exact (fun h => by cases h)), (by first | exact (fun _ => rfl) | exact (fun h => by cases h))⟩, ⟨_, rfl, (fun _ h => by cases h), (fun _ _ h => by cases h)⟩, (fun fs h => by cases h),
  (fun h => by cases h)⟩
theorem ty33 : TyOk1 Tryz.prog tyT 33 ⟨.other, 1, [.v (.nilFunc)], false, 8⟩ := ⟨⟨_, _, rfl, rfl, rfl, rfl, rfl, (by first | exact (fun _ => ⟨_, rfl⟩) | exact (fun h => by cases h)), (by first | exact (fun _ => rfl) | exact (fun h => by cases h))⟩, ⟨_, rfl, (fun _ h => by cases h), (fun _ _ h => by cases h)⟩, (fun fs h => by cases h),
  (fun h => by cases h)⟩
theorem ty34 : TyOk1 Tryz.prog tyT 34 ⟨.other, 1, [.v (.nilFunc)], false, 8⟩ := ⟨⟨_, _, rfl, rfl, rfl, rfl, rfl, (by first | exact (fun _ => ⟨_, rfl⟩) | exact (fun h => by cases h)), (by first | exact (fun _ => rfl) | exact (fun h => by cases h))⟩, ⟨_, rfl, (fun _ h => by cases h), (fun _ _ h => by cases h)⟩, (fun fs h => by cases h),
  (fun h => by cases h)⟩
theorem ty35 : TyOk1 Tryz.prog tyT 35 ⟨.other, 1, [.v (.nilFunc)], false, 8⟩ := ⟨⟨_, _, rfl, rfl, rfl, rfl, rfl, (by first | exact (fun _ => ⟨_, rfl⟩) | exact (fun h => by cases h)), (by first | exact (fun _ => rfl) | exact (fun h => by cases h))⟩, ⟨_, rfl, (fun _ h => by cases h), (fun _ _ h => by cases h)⟩, (fun fs h => by cases h),
  (fun h => by cases h)⟩
theorem ty36 : TyOk1 Tryz.prog tyT 36 ⟨.int .i64, 1, [.v (.int .i64 0)], false, 8⟩ := ⟨⟨_, _, rfl, rfl, rfl, rfl, rfl, (by first | exact (fun _ => ⟨_, rfl⟩) | exact (fun h => by cases h)), (by first | exact (fun _ => rfl) | exact (fun h => by cases h))⟩, rfl, (fun fs h => by cases h),
  (fun h => by cases h)⟩
theorem ty37 : TyOk1 Tryz.prog tyT 37 ⟨.slice 41, 1, [.sl 0 []], false, 24⟩ := ⟨⟨_, _, rfl, rfl, rfl, rfl, rfl, (by first | exact (fun _ => ⟨_, rfl⟩) | exact (fun h => by cases h)), (by first | exact (fun _ => rfl) | exact (fun h => by cases h))⟩, rfl, (fun fs h => by cases h),
  (fun h => by cases h)⟩
theorem ty38 : TyOk1 Tryz.prog tyT 38 ⟨.slice 9, 1, [.sl 0 []], false, 24⟩ := ⟨⟨_, _, rfl, rfl, rfl, rfl, rfl, (by first | exact (fun _ => ⟨_, rfl⟩) | exact (fun h => by cases h)), (by first | exact (fun _ => rfl) | exact (fun h => by cases h))⟩, rfl, (fun fs h => by cases h),
  (fun h => by cases h)⟩
theorem ty39 : TyOk1 Tryz.prog tyT 39 ⟨.arr 2 4, 2, [.v (.bool false), .v (.bool false)], true, 2⟩ := ⟨⟨_, _, rfl, rfl, rfl, rfl, rfl, (by first | exact (fun _ => ⟨_, rfl⟩) | exact (fun h => by cases h)), (by first | exact (fun _ => rfl) | exact (fun h => by cases h))⟩, rfl, (fun fs h => by cases h),
  (fun _ => ⟨(by first | exact Tryz.stoodInHeld39 | kernel_rfl), (by first | exact Tryz.eqGuardType39 | kernel_rfl), (fun fields h => by first | (injection h with h; injection h with h; subst h; simp; done) | (cases h))⟩)⟩
theorem ty40 : TyOk1 Tryz.prog tyT 40 ⟨.struct [(0, 36), (1, 9), (2, 37), (3, 38), (4, 39)], 6, [.v (.int .i64 0), .v (.string ⟨#[]⟩), .sl 0 [], .sl 0 [], .v (.bool false), .v (.bool false)], false, 80⟩ := ⟨⟨_, _, rfl, rfl, rfl, rfl, rfl, (by first | exact (fun _ => ⟨_, rfl⟩) | exact (fun h => by cases h)), (by first | exact (fun _ => rfl) | exact (fun h => by cases h))⟩, ⟨_, rfl, rfl⟩, (fun fs h => by injection h with h; subst h; intro p hp; revert p; simp only [List.forall_mem_cons, List.not_mem_nil, false_implies, implies_true, and_true]; first | rfl | (repeat' apply And.intro) <;> rfl),
  (fun h => by cases h)⟩
theorem ty41 : TyOk1 Tryz.prog tyT 41 ⟨.struct [(0, 36), (1, 9), (2, 37), (3, 38), (4, 39)], 6, [.v (.int .i64 0), .v (.string ⟨#[]⟩), .sl 0 [], .sl 0 [], .v (.bool false), .v (.bool false)], false, 80⟩ := ⟨⟨_, _, rfl, rfl, rfl, rfl, rfl, (by first | exact (fun _ => ⟨_, rfl⟩) | exact (fun h => by cases h)), (by first | exact (fun _ => rfl) | exact (fun h => by cases h))⟩, ⟨_, rfl, rfl⟩, (fun fs h => by injection h with h; subst h; intro p hp; revert p; simp only [List.forall_mem_cons, List.not_mem_nil, false_implies, implies_true, and_true]; first | rfl | (repeat' apply And.intro) <;> rfl),
  (fun h => by cases h)⟩
theorem ty42 : TyOk1 Tryz.prog tyT 42 ⟨.other, 1, [.v (.nilFunc)], false, 8⟩ := ⟨⟨_, _, rfl, rfl, rfl, rfl, rfl, (by first | exact (fun _ => ⟨_, rfl⟩) | exact (fun h => by cases h)), (by first | exact (fun _ => rfl) | exact (fun h => by cases h))⟩, ⟨_, rfl, (fun _ h => by cases h), (fun _ _ h => by cases h)⟩, (fun fs h => by cases h),
  (fun h => by cases h)⟩
theorem ty43 : TyOk1 Tryz.prog tyT 43 ⟨.other, 1, [.v (.nilFunc)], false, 8⟩ := ⟨⟨_, _, rfl, rfl, rfl, rfl, rfl, (by first | exact (fun _ => ⟨_, rfl⟩) | exact (fun h => by cases h)), (by first | exact (fun _ => rfl) | exact (fun h => by cases h))⟩, ⟨_, rfl, (fun _ h => by cases h), (fun _ _ h => by cases h)⟩, (fun fs h => by cases h),
  (fun h => by cases h)⟩
theorem ty44 : TyOk1 Tryz.prog tyT 44 ⟨.other, 1, [.v (.nilFunc)], false, 8⟩ := ⟨⟨_, _, rfl, rfl, rfl, rfl, rfl, (by first | exact (fun _ => ⟨_, rfl⟩) | exact (fun h => by cases h)), (by first | exact (fun _ => rfl) | exact (fun h => by cases h))⟩, ⟨_, rfl, (fun _ h => by cases h), (fun _ _ h => by cases h)⟩, (fun fs h => by cases h),
  (fun h => by cases h)⟩
theorem ty45 : TyOk1 Tryz.prog tyT 45 ⟨.other, 1, [.v (.nilFunc)], false, 8⟩ := ⟨⟨_, _, rfl, rfl, rfl, rfl, rfl, (by first | exact (fun _ => ⟨_, rfl⟩) | exact (fun h => by cases h)), (by first | exact (fun _ => rfl) | exact (fun h => by cases h))⟩, ⟨_, rfl, (fun _ h => by cases h), (fun _ _ h => by cases h)⟩, (fun fs h => by cases h),
  (fun h => by cases h)⟩
theorem ty46 : TyOk1 Tryz.prog tyT 46 ⟨.other, 1, [.v (.nilFunc)], false, 8⟩ := ⟨⟨_, _, rfl, rfl, rfl, rfl, rfl, (by first | exact (fun _ => ⟨_, rfl⟩) | exact (fun h => by cases h)), (by first | exact (fun _ => rfl) | exact (fun h => by cases h))⟩, ⟨_, rfl, (fun _ h => by cases h), (fun _ _ h => by cases h)⟩, (fun fs h => by cases h),
  (fun h => by cases h)⟩
theorem ty48 : TyOk1 Tryz.prog tyT 48 ⟨.other, 1, [.v (.nilFunc)], false, 8⟩ := ⟨⟨_, _, rfl, rfl, rfl, rfl, rfl, (by first | exact (fun _ => ⟨_, rfl⟩) | exact (fun h => by cases h)), (by first | exact (fun _ => rfl) | exact (fun h => by cases h))⟩, ⟨_, rfl, (fun _ h => by cases h), (fun _ _ h => by cases h)⟩, (fun fs h => by cases h),
  (fun h => by cases h)⟩
theorem ty49 : TyOk1 Tryz.prog tyT 49 ⟨.other, 1, [.v (.nilFunc)], false, 8⟩ := ⟨⟨_, _, rfl, rfl, rfl, rfl, rfl, (by first | exact (fun _ => ⟨_, rfl⟩) | exact (fun h => by cases h)), (by first | exact (fun _ => rfl) | exact (fun h => by cases h))⟩, ⟨_, rfl, (fun _ h => by cases h), (fun _ _ h => by cases h)⟩, (fun fs h => by cases h),
  (fun h => by cases h)⟩
theorem ty50 : TyOk1 Tryz.prog tyT 50 ⟨.other, 1, [.v (.nilFunc)], false, 8⟩ := ⟨⟨_, _, rfl, rfl, rfl, rfl, rfl, (by first | exact (fun _ => ⟨_, rfl⟩) | exact (fun h => by cases h)), (by first | exact (fun _ => rfl) | exact (fun h => by cases h))⟩, ⟨_, rfl, (fun _ h => by cases h), (fun _ _ h => by cases h)⟩, (fun fs h => by cases h),
  (fun h => by cases h)⟩
theorem ty51 : TyOk1 Tryz.prog tyT 51 ⟨.other, 1, [.v (.nilFunc)], false, 8⟩ := ⟨⟨_, _, rfl, rfl, rfl, rfl, rfl, (by first | exact (fun _ => ⟨_, rfl⟩) | exact (fun h => by cases h)), (by first | exact (fun _ => rfl) | exact (fun h => by cases h))⟩, ⟨_, rfl, (fun _ h => by cases h), (fun _ _ h => by cases h)⟩, (fun fs h => by cases h),
  (fun h => by cases h)⟩
theorem ty52 : TyOk1 Tryz.prog tyT 52 ⟨.other, 1, [.v (.nilFunc)], false, 8⟩ := ⟨⟨_, _, rfl, rfl, rfl, rfl, rfl, (by first | exact (fun _ => ⟨_, rfl⟩) | exact (fun h => by cases h)), (by first | exact (fun _ => rfl) | exact (fun h => by cases h))⟩, ⟨_, rfl, (fun _ h => by cases h), (fun _ _ h => by cases h)⟩, (fun fs h => by cases h),
  (fun h => by cases h)⟩
theorem ty53 : TyOk1 Tryz.prog tyT 53 ⟨.other, 1, [.v (.nilFunc)], false, 8⟩ := ⟨⟨_, _, rfl, rfl, rfl, rfl, rfl, (by first | exact (fun _ => ⟨_, rfl⟩) | exact (fun h => by cases h)), (by first | exact (fun _ => rfl) | exact (fun h => by cases h))⟩, ⟨_, rfl, (fun _ h => by cases h), (fun _ _ h => by cases h)⟩, (fun fs h => by cases h),
  (fun h => by cases h)⟩
theorem ty54 : TyOk1 Tryz.prog tyT 54 ⟨.other, 1, [.v (.nilFunc)], false, 8⟩ := ⟨⟨_, _, rfl, rfl, rfl, rfl, rfl, (by first | exact (fun _ => ⟨_, rfl⟩) | exact (fun h => by cases h)), (by first | exact (fun _ => rfl) | exact (fun h => by cases h))⟩, ⟨_, rfl, (fun _ h => by cases h), (fun _ _ h => by cases h)⟩, (fun fs h => by cases h),
  (fun h => by cases h)⟩
theorem ty55 : TyOk1 Tryz.prog tyT 55 ⟨.slice 30, 1, [.sl 0 []], false, 24⟩ := ⟨⟨_, _, rfl, rfl, rfl, rfl, rfl, (by first | exact (fun _ => ⟨_, rfl⟩) | exact (fun h => by cases h)), (by first | exact (fun _ => rfl) | exact (fun h => by cases h))⟩, rfl, (fun fs h => by cases h),
  (fun h => by cases h)⟩
theorem ty56 : TyOk1 Tryz.prog tyT 56 ⟨.other, 1, [.v (.nilFunc)], false, 8⟩ := ⟨⟨_, _, rfl, rfl, rfl, rfl, rfl, (by first | exact (fun _ => ⟨_, rfl⟩) | exact (fun h => by cases h)), (by first | exact (fun _ => rfl) | exact (fun h => by cases h))⟩, ⟨_, rfl, (fun _ h => by cases h), (fun _ _ h => by cases h)⟩, (fun fs h => by cases h),
  (fun h => by cases h)⟩
theorem ty57 : TyOk1 Tryz.prog tyT 57 ⟨.other, 1, [.v (.nilFunc)], false, 8⟩ := ⟨⟨_, _, rfl, rfl, rfl, rfl, rfl, (by first | exact (fun _ => ⟨_, rfl⟩) | exact (fun h => by cases h)), (by first | exact (fun _ => rfl) | exact (fun h => by cases h))⟩, ⟨_, rfl, (fun _ h => by cases h), (fun _ _ h => by cases h)⟩, (fun fs h => by cases h),
  (fun h => by cases h)⟩
theorem ty58 : TyOk1 Tryz.prog tyT 58 ⟨.int .u64, 1, [.v (.int .u64 0)], false, 8⟩ := ⟨⟨_, _, rfl, rfl, rfl, rfl, rfl, (by first | exact (fun _ => ⟨_, rfl⟩) | exact (fun h => by cases h)), (by first | exact (fun _ => rfl) | exact (fun h => by cases h))⟩, rfl, (fun fs h => by cases h),
  (fun h => by cases h)⟩
theorem ty59 : TyOk1 Tryz.prog tyT 59 ⟨.struct [(0, 58), (1, 58)], 2, [.v (.int .u64 0), .v (.int .u64 0)], true, 16⟩ := ⟨⟨_, _, rfl, rfl, rfl, rfl, rfl, (by first | exact (fun _ => ⟨_, rfl⟩) | exact (fun h => by cases h)), (by first | exact (fun _ => rfl) | exact (fun h => by cases h))⟩, ⟨_, rfl, rfl⟩, (fun fs h => by injection h with h; subst h; intro p hp; revert p; simp only [List.forall_mem_cons, List.not_mem_nil, false_implies, implies_true, and_true]; first | rfl | (repeat' apply And.intro) <;> rfl),
  (fun _ => ⟨(by first | exact Tryz.stoodInHeld59 | kernel_rfl), (by first | exact Tryz.eqGuardType59 | kernel_rfl), (fun fields h => by first | (injection h with h; injection h with h; subst h; simp; done) | (cases h))⟩)⟩
theorem ty60 : TyOk1 Tryz.prog tyT 60 ⟨.struct [(0, 58), (1, 58)], 2, [.v (.int .u64 0), .v (.int .u64 0)], true, 16⟩ := ⟨⟨_, _, rfl, rfl, rfl, rfl, rfl, (by first | exact (fun _ => ⟨_, rfl⟩) | exact (fun h => by cases h)), (by first | exact (fun _ => rfl) | exact (fun h => by cases h))⟩, ⟨_, rfl, rfl⟩, (fun fs h => by injection h with h; subst h; intro p hp; revert p; simp only [List.forall_mem_cons, List.not_mem_nil, false_implies, implies_true, and_true]; first | rfl | (repeat' apply And.intro) <;> rfl),
  (fun _ => ⟨(by first | exact Tryz.stoodInHeld60 | kernel_rfl), (by first | exact Tryz.eqGuardType60 | kernel_rfl), (fun fields h => by first | (injection h with h; injection h with h; subst h; simp; done) | (cases h))⟩)⟩
theorem ty61 : TyOk1 Tryz.prog tyT 61 ⟨.struct [(0, 4), (1, 60), (3, 3)], 4, [.v (.bool false), .v (.int .u64 0), .v (.int .u64 0), .v (.int .i64 0)], true, 32⟩ := ⟨⟨_, _, rfl, rfl, rfl, rfl, rfl, (by first | exact (fun _ => ⟨_, rfl⟩) | exact (fun h => by cases h)), (by first | exact (fun _ => rfl) | exact (fun h => by cases h))⟩, ⟨_, rfl, rfl⟩, (fun fs h => by injection h with h; subst h; intro p hp; revert p; simp only [List.forall_mem_cons, List.not_mem_nil, false_implies, implies_true, and_true]; first | rfl | (repeat' apply And.intro) <;> rfl),
  (fun _ => ⟨(by first | exact Tryz.stoodInHeld61 | kernel_rfl), (by first | exact Tryz.eqGuardType61 | kernel_rfl), (fun fields h => by first | (injection h with h; injection h with h; subst h; simp; done) | (cases h))⟩)⟩
theorem ty62 : TyOk1 Tryz.prog tyT 62 ⟨.struct [(0, 4), (1, 60), (3, 3)], 4, [.v (.bool false), .v (.int .u64 0), .v (.int .u64 0), .v (.int .i64 0)], true, 32⟩ := ⟨⟨_, _, rfl, rfl, rfl, rfl, rfl, (by first | exact (fun _ => ⟨_, rfl⟩) | exact (fun h => by cases h)), (by first | exact (fun _ => rfl) | exact (fun h => by cases h))⟩, ⟨_, rfl, rfl⟩, (fun fs h => by injection h with h; subst h; intro p hp; revert p; simp only [List.forall_mem_cons, List.not_mem_nil, false_implies, implies_true, and_true]; first | rfl | (repeat' apply And.intro) <;> rfl),
  (fun _ => ⟨(by first | exact Tryz.stoodInHeld62 | kernel_rfl), (by first | exact Tryz.eqGuardType62 | kernel_rfl), (fun fields h => by first | (injection h with h; injection h with h; subst h; simp; done) | (cases h))⟩)⟩
theorem ty64 : TyOk1 Tryz.prog tyT 64 ⟨.other, 1, [.v (.nilFunc)], false, 8⟩ := ⟨⟨_, _, rfl, rfl, rfl, rfl, rfl, (by first | exact (fun _ => ⟨_, rfl⟩) | exact (fun h => by cases h)), (by first | exact (fun _ => rfl) | exact (fun h => by cases h))⟩, ⟨_, rfl, (fun _ h => by cases h), (fun _ _ h => by cases h)⟩, (fun fs h => by cases h),
  (fun h => by cases h)⟩
theorem ty65 : TyOk1 Tryz.prog tyT 65 ⟨.other, 1, [.v (.nilFunc)], false, 8⟩ := ⟨⟨_, _, rfl, rfl, rfl, rfl, rfl, (by first | exact (fun _ => ⟨_, rfl⟩) | exact (fun h => by cases h)), (by first | exact (fun _ => rfl) | exact (fun h => by cases h))⟩, ⟨_, rfl, (fun _ h => by cases h), (fun _ _ h => by cases h)⟩, (fun fs h => by cases h),
  (fun h => by cases h)⟩
theorem ty66 : TyOk1 Tryz.prog tyT 66 ⟨.other, 1, [.v (.nilFunc)], false, 8⟩ := ⟨⟨_, _, rfl, rfl, rfl, rfl, rfl, (by first | exact (fun _ => ⟨_, rfl⟩) | exact (fun h => by cases h)), (by first | exact (fun _ => rfl) | exact (fun h => by cases h))⟩, ⟨_, rfl, (fun _ h => by cases h), (fun _ _ h => by cases h)⟩, (fun fs h => by cases h),
  (fun h => by cases h)⟩
theorem ty67 : TyOk1 Tryz.prog tyT 67 ⟨.other, 1, [.v (.nilFunc)], false, 8⟩ := ⟨⟨_, _, rfl, rfl, rfl, rfl, rfl, (by first | exact (fun _ => ⟨_, rfl⟩) | exact (fun h => by cases h)), (by first | exact (fun _ => rfl) | exact (fun h => by cases h))⟩, ⟨_, rfl, (fun _ h => by cases h), (fun _ _ h => by cases h)⟩, (fun fs h => by cases h),
  (fun h => by cases h)⟩
theorem ty68 : TyOk1 Tryz.prog tyT 68 ⟨.other, 1, [.v (.nilFunc)], false, 8⟩ := ⟨⟨_, _, rfl, rfl, rfl, rfl, rfl, (by first | exact (fun _ => ⟨_, rfl⟩) | exact (fun h => by cases h)), (by first | exact (fun _ => rfl) | exact (fun h => by cases h))⟩, ⟨_, rfl, (fun _ h => by cases h), (fun _ _ h => by cases h)⟩, (fun fs h => by cases h),
  (fun h => by cases h)⟩
theorem ty70 : TyOk1 Tryz.prog tyT 70 ⟨.other, 1, [.v (.nilFunc)], false, 8⟩ := ⟨⟨_, _, rfl, rfl, rfl, rfl, rfl, (by first | exact (fun _ => ⟨_, rfl⟩) | exact (fun h => by cases h)), (by first | exact (fun _ => rfl) | exact (fun h => by cases h))⟩, ⟨_, rfl, (fun _ h => by cases h), (fun _ _ h => by cases h)⟩, (fun fs h => by cases h),
  (fun h => by cases h)⟩
theorem ty71 : TyOk1 Tryz.prog tyT 71 ⟨.other, 1, [.v (.nilFunc)], false, 8⟩ := ⟨⟨_, _, rfl, rfl, rfl, rfl, rfl, (by first | exact (fun _ => ⟨_, rfl⟩) | exact (fun h => by cases h)), (by first | exact (fun _ => rfl) | exact (fun h => by cases h))⟩, ⟨_, rfl, (fun _ h => by cases h), (fun _ _ h => by cases h)⟩, (fun fs h => by cases h),
  (fun h => by cases h)⟩
theorem ty73 : TyOk1 Tryz.prog tyT 73 ⟨.other, 1, [.v (.nilFunc)], false, 8⟩ := ⟨⟨_, _, rfl, rfl, rfl, rfl, rfl, (by first | exact (fun _ => ⟨_, rfl⟩) | exact (fun h => by cases h)), (by first | exact (fun _ => rfl) | exact (fun h => by cases h))⟩, ⟨_, rfl, (fun _ h => by cases h), (fun _ _ h => by cases h)⟩, (fun fs h => by cases h),
  (fun h => by cases h)⟩
theorem ty74 : TyOk1 Tryz.prog tyT 74 ⟨.other, 1, [.v (.nilFunc)], false, 8⟩ := ⟨⟨_, _, rfl, rfl, rfl, rfl, rfl, (by first | exact (fun _ => ⟨_, rfl⟩) | exact (fun h => by cases h)), (by first | exact (fun _ => rfl) | exact (fun h => by cases h))⟩, ⟨_, rfl, (fun _ h => by cases h), (fun _ _ h => by cases h)⟩, (fun fs h => by cases h),
  (fun h => by cases h)⟩
theorem ty75 : TyOk1 Tryz.prog tyT 75 ⟨.other, 1, [.v (.nilFunc)], false, 8⟩ := ⟨⟨_, _, rfl, rfl, rfl, rfl, rfl, (by first | exact (fun _ => ⟨_, rfl⟩) | exact (fun h => by cases h)), (by first | exact (fun _ => rfl) | exact (fun h => by cases h))⟩, ⟨_, rfl, (fun _ h => by cases h), (fun _ _ h => by cases h)⟩, (fun fs h => by cases h),
  (fun h => by cases h)⟩
theorem ty76 : TyOk1 Tryz.prog tyT 76 ⟨.arr 2 30, 2, [.v (.nilIface), .v (.nilIface)], false, 32⟩ := ⟨⟨_, _, rfl, rfl, rfl, rfl, rfl, (by first | exact (fun _ => ⟨_, rfl⟩) | exact (fun h => by cases h)), (by first | exact (fun _ => rfl) | exact (fun h => by cases h))⟩, rfl, (fun fs h => by cases h),
  (fun h => by cases h)⟩
theorem ty77 : TyOk1 Tryz.prog tyT 77 ⟨.struct [(0, 76), (2, 39)], 4, [.v (.nilIface), .v (.nilIface), .v (.bool false), .v (.bool false)], false, 40⟩ := ⟨⟨_, _, rfl, rfl, rfl, rfl, rfl, (by first | exact (fun _ => ⟨_, rfl⟩) | exact (fun h => by cases h)), (by first | exact (fun _ => rfl) | exact (fun h => by cases h))⟩, ⟨_, rfl, rfl⟩, (fun fs h => by injection h with h; subst h; intro p hp; revert p; simp only [List.forall_mem_cons, List.not_mem_nil, false_implies, implies_true, and_true]; first | rfl | (repeat' apply And.intro) <;> rfl),
  (fun h => by cases h)⟩
theorem ty78 : TyOk1 Tryz.prog tyT 78 ⟨.struct [(0, 76), (2, 39)], 4, [.v (.nilIface), .v (.nilIface), .v (.bool false), .v (.bool false)], false, 40⟩ := ⟨⟨_, _, rfl, rfl, rfl, rfl, rfl, (by first | exact (fun _ => ⟨_, rfl⟩) | exact (fun h => by cases h)), (by first | exact (fun _ => rfl) | exact (fun h => by cases h))⟩, ⟨_, rfl, rfl⟩, (fun fs h => by injection h with h; subst h; intro p hp; revert p; simp only [List.forall_mem_cons, List.not_mem_nil, false_implies, implies_true, and_true]; first | rfl | (repeat' apply And.intro) <;> rfl),
  (fun h => by cases h)⟩
theorem ty80 : TyOk1 Tryz.prog tyT 80 ⟨.other, 1, [.v (.nilFunc)], false, 8⟩ := ⟨⟨_, _, rfl, rfl, rfl, rfl, rfl, (by first | exact (fun _ => ⟨_, rfl⟩) | exact (fun h => by cases h)), (by first | exact (fun _ => rfl) | exact (fun h => by cases h))⟩, ⟨_, rfl, (fun _ h => by cases h), (fun _ _ h => by cases h)⟩, (fun fs h => by cases h),
  (fun h => by cases h)⟩
theorem ty82 : TyOk1 Tryz.prog tyT 82 ⟨.other, 1, [.v (.nilFunc)], false, 8⟩ := ⟨⟨_, _, rfl, rfl, rfl, rfl, rfl, (by first | exact (fun _ => ⟨_, rfl⟩) | exact (fun h => by cases h)), (by first | exact (fun _ => rfl) | exact (fun h => by cases h))⟩, ⟨_, rfl, (fun _ h => by cases h), (fun _ _ h => by cases h)⟩, (fun fs h => by cases h),
  (fun h => by cases h)⟩
theorem ty83 : TyOk1 Tryz.prog tyT 83 ⟨.other, 1, [.v (.nilFunc)], false, 8⟩ := ⟨⟨_, _, rfl, rfl, rfl, rfl, rfl, (by first | exact (fun _ => ⟨_, rfl⟩) | exact (fun h => by cases h)), (by first | exact (fun _ => rfl) | exact (fun h => by cases h))⟩, ⟨_, rfl, (fun _ h => by cases h), (fun _ _ h => by cases h)⟩, (fun fs h => by cases h),
  (fun h => by cases h)⟩
theorem ty84 : TyOk1 Tryz.prog tyT 84 ⟨.other, 1, [.v (.nilFunc)], false, 8⟩ := ⟨⟨_, _, rfl, rfl, rfl, rfl, rfl, (by first | exact (fun _ => ⟨_, rfl⟩) | exact (fun h => by cases h)), (by first | exact (fun _ => rfl) | exact (fun h => by cases h))⟩, ⟨_, rfl, (fun _ h => by cases h), (fun _ _ h => by cases h)⟩, (fun fs h => by cases h),
  (fun h => by cases h)⟩
theorem ty85 : TyOk1 Tryz.prog tyT 85 ⟨.struct [(0, 30), (1, 30), (2, 39), (4, 4)], 5, [.v (.nilIface), .v (.nilIface), .v (.bool false), .v (.bool false), .v (.bool false)], false, 40⟩ := ⟨⟨_, _, rfl, rfl, rfl, rfl, rfl, (by first | exact (fun _ => ⟨_, rfl⟩) | exact (fun h => by cases h)), (by first | exact (fun _ => rfl) | exact (fun h => by cases h))⟩, ⟨_, rfl, rfl⟩, (fun fs h => by injection h with h; subst h; intro p hp; revert p; simp only [List.forall_mem_cons, List.not_mem_nil, false_implies, implies_true, and_true]; first | rfl | (repeat' apply And.intro) <;> rfl),
  (fun h => by cases h)⟩
theorem ty86 : TyOk1 Tryz.prog tyT 86 ⟨.struct [(0, 30), (1, 30), (2, 39), (4, 4)], 5, [.v (.nilIface), .v (.nilIface), .v (.bool false), .v (.bool false), .v (.bool false)], false, 40⟩ := ⟨⟨_, _, rfl, rfl, rfl, rfl, rfl, (by first | exact (fun _ => ⟨_, rfl⟩) | exact (fun h => by cases h)), (by first | exact (fun _ => rfl) | exact (fun h => by cases h))⟩, ⟨_, rfl, rfl⟩, (fun fs h => by injection h with h; subst h; intro p hp; revert p; simp only [List.forall_mem_cons, List.not_mem_nil, false_implies, implies_true, and_true]; first | rfl | (repeat' apply And.intro) <;> rfl),
  (fun h => by cases h)⟩
theorem ty88 : TyOk1 Tryz.prog tyT 88 ⟨.other, 1, [.v (.nilFunc)], false, 8⟩ := ⟨⟨_, _, rfl, rfl, rfl, rfl, rfl, (by first | exact (fun _ => ⟨_, rfl⟩) | exact (fun h => by cases h)), (by first | exact (fun _ => rfl) | exact (fun h => by cases h))⟩, ⟨_, rfl, (fun _ h => by cases h), (fun _ _ h => by cases h)⟩, (fun fs h => by cases h),
  (fun h => by cases h)⟩
theorem ty89 : TyOk1 Tryz.prog tyT 89 ⟨.other, 1, [.v (.nilFunc)], false, 8⟩ := ⟨⟨_, _, rfl, rfl, rfl, rfl, rfl, (by first | exact (fun _ => ⟨_, rfl⟩) | exact (fun h => by cases h)), (by first | exact (fun _ => rfl) | exact (fun h => by cases h))⟩, ⟨_, rfl, (fun _ h => by cases h), (fun _ _ h => by cases h)⟩, (fun fs h => by cases h),
  (fun h => by cases h)⟩
theorem ty90 : TyOk1 Tryz.prog tyT 90 ⟨.other, 1, [.v (.nilFunc)], false, 8⟩ := ⟨⟨_, _, rfl, rfl, rfl, rfl, rfl, (by first | exact (fun _ => ⟨_, rfl⟩) | exact (fun h => by cases h)), (by first | exact (fun _ => rfl) | exact (fun h => by cases h))⟩, ⟨_, rfl, (fun _ h => by cases h), (fun _ _ h => by cases h)⟩, (fun fs h => by cases h),
  (fun h => by cases h)⟩
theorem ty91 : TyOk1 Tryz.prog tyT 91 ⟨.other, 1, [.v (.nilFunc)], false, 8⟩ := ⟨⟨_, _, rfl, rfl, rfl, rfl, rfl, (by first | exact (fun _ => ⟨_, rfl⟩) | exact (fun h => by cases h)), (by first | exact (fun _ => rfl) | exact (fun h => by cases h))⟩, ⟨_, rfl, (fun _ h => by cases h), (fun _ _ h => by cases h)⟩, (fun fs h => by cases h),
  (fun h => by cases h)⟩
theorem ty93 : TyOk1 Tryz.prog tyT 93 ⟨.other, 1, [.v (.nilFunc)], false, 8⟩ := ⟨⟨_, _, rfl, rfl, rfl, rfl, rfl, (by first | exact (fun _ => ⟨_, rfl⟩) | exact (fun h => by cases h)), (by first | exact (fun _ => rfl) | exact (fun h => by cases h))⟩, ⟨_, rfl, (fun _ h => by cases h), (fun _ _ h => by cases h)⟩, (fun fs h => by cases h),
  (fun h => by cases h)⟩
theorem ty94 : TyOk1 Tryz.prog tyT 94 ⟨.other, 1, [.v (.nilIface)], false, 16⟩ := ⟨⟨_, _, rfl, rfl, rfl, rfl, rfl, (by first | exact (fun _ => ⟨_, rfl⟩) | exact (fun h => by cases h)), (by first | exact (fun _ => rfl) | exact (fun h => by cases h))⟩, ⟨_, rfl, (fun _ h => by cases h), (fun _ _ h => by cases h)⟩, (fun fs h => by cases h),
  (fun h => by cases h)⟩
theorem ty95 : TyOk1 Tryz.prog tyT 95 ⟨.other, 1, [.v (.nilIface)], false, 16⟩ := ⟨⟨_, _, rfl, rfl, rfl, rfl, rfl, (by first | exact (fun _ => ⟨_, rfl⟩) | exact (fun h => by cases h)), (by first | exact (fun _ => rfl) | exact (fun h => by cases h))⟩, ⟨_, rfl, (fun _ h => by cases h), (fun _ _ h => by cases h)⟩, (fun fs h => by cases h),
  (fun h => by cases h)⟩
theorem ty97 : TyOk1 Tryz.prog tyT 97 ⟨.other, 1, [.v (.nilFunc)], false, 8⟩ := ⟨⟨_, _, rfl, rfl, rfl, rfl, rfl, (by first | exact (fun _ => ⟨_, rfl⟩) | exact (fun h => by cases h)), (by first | exact (fun _ => rfl) | exact (fun h => by cases h))⟩, ⟨_, rfl, (fun _ h => by cases h), (fun _ _ h => by cases h)⟩, (fun fs h => by cases h),
  (fun h => by cases h)⟩
theorem ty98 : TyOk1 Tryz.prog tyT 98 ⟨.other, 1, [.v (.nilFunc)], false, 8⟩ := ⟨⟨_, _, rfl, rfl, rfl, rfl, rfl, (by first | exact (fun _ => ⟨_, rfl⟩) | exact (fun h => by cases h)), (by first | exact (fun _ => rfl) | exact (fun h => by cases h))⟩, ⟨_, rfl, (fun _ h => by cases h), (fun _ _ h => by cases h)⟩, (fun fs h => by cases h),
  (fun h => by cases h)⟩
theorem ty99 : TyOk1 Tryz.prog tyT 99 ⟨.struct [(0, 4), (1, 60), (3, 60), (5, 3), (6, 4)], 7, [.v (.bool false), .v (.int .u64 0), .v (.int .u64 0), .v (.int .u64 0), .v (.int .u64 0), .v (.int .i64 0), .v (.bool false)], true, 56⟩ := ⟨⟨_, _, rfl, rfl, rfl, rfl, rfl, (by first | exact (fun _ => ⟨_, rfl⟩) | exact (fun h => by cases h)), (by first | exact (fun _ => rfl) | exact (fun h => by cases h))⟩, ⟨_, rfl, rfl⟩, (fun fs h => by injection h with h; subst h; intro p hp; revert p; simp only [List.forall_mem_cons, List.not_mem_nil, false_implies, implies_true, and_true]; first | rfl | (repeat' apply And.intro) <;> rfl),
  (fun _ => ⟨(by first | exact Tryz.stoodInHeld99 | kernel_rfl), (by first | exact Tryz.eqGuardType99 | kernel_rfl), (fun fields h => by first | (injection h with h; injection h with h; subst h; simp; done) | (cases h))⟩)⟩
theorem ty100 : TyOk1 Tryz.prog tyT 100 ⟨.struct [(0, 4), (1, 60), (3, 60), (5, 3), (6, 4)], 7, [.v (.bool false), .v (.int .u64 0), .v (.int .u64 0), .v (.int .u64 0), .v (.int .u64 0), .v (.int .i64 0), .v (.bool false)], true, 56⟩ := ⟨⟨_, _, rfl, rfl, rfl, rfl, rfl, (by first | exact (fun _ => ⟨_, rfl⟩) | exact (fun h => by cases h)), (by first | exact (fun _ => rfl) | exact (fun h => by cases h))⟩, ⟨_, rfl, rfl⟩, (fun fs h => by injection h with h; subst h; intro p hp; revert p; simp only [List.forall_mem_cons, List.not_mem_nil, false_implies, implies_true, and_true]; first | rfl | (repeat' apply And.intro) <;> rfl),
  (fun _ => ⟨(by first | exact Tryz.stoodInHeld100 | kernel_rfl), (by first | exact Tryz.eqGuardType100 | kernel_rfl), (fun fields h => by first | (injection h with h; injection h with h; subst h; simp; done) | (cases h))⟩)⟩
theorem ty102 : TyOk1 Tryz.prog tyT 102 ⟨.other, 1, [.v (.nilFunc)], false, 8⟩ := ⟨⟨_, _, rfl, rfl, rfl, rfl, rfl, (by first | exact (fun _ => ⟨_, rfl⟩) | exact (fun h => by cases h)), (by first | exact (fun _ => rfl) | exact (fun h => by cases h))⟩, ⟨_, rfl, (fun _ h => by cases h), (fun _ _ h => by cases h)⟩, (fun fs h => by cases h),
  (fun h => by cases h)⟩
theorem ty103 : TyOk1 Tryz.prog tyT 103 ⟨.other, 1, [.v (.nilFunc)], false, 8⟩ := ⟨⟨_, _, rfl, rfl, rfl, rfl, rfl, (by first | exact (fun _ => ⟨_, rfl⟩) | exact (fun h => by cases h)), (by first | exact (fun _ => rfl) | exact (fun h => by cases h))⟩, ⟨_, rfl, (fun _ h => by cases h), (fun _ _ h => by cases h)⟩, (fun fs h => by cases h),
  (fun h => by cases h)⟩
theorem ty104 : TyOk1 Tryz.prog tyT 104 ⟨.int .i64, 1, [.v (.int .i64 0)], false, 8⟩ := ⟨⟨_, _, rfl, rfl, rfl, rfl, rfl, (by first | exact (fun _ => ⟨_, rfl⟩) | exact (fun h => by cases h)), (by first | exact (fun _ => rfl) | exact (fun h => by cases h))⟩, rfl, (fun fs h => by cases h),
  (fun h => by cases h)⟩
theorem ty105 : TyOk1 Tryz.prog tyT 105 ⟨.slice 30, 1, [.sl 0 []], false, 24⟩ := ⟨⟨_, _, rfl, rfl, rfl, rfl, rfl, (by first | exact (fun _ => ⟨_, rfl⟩) | exact (fun h => by cases h)), (by first | exact (fun _ => rfl) | exact (fun h => by cases h))⟩, rfl, (fun fs h => by cases h),
  (fun h => by cases h)⟩
theorem ty106 : TyOk1 Tryz.prog tyT 106 ⟨.other, 1, [.v (.nilFunc)], false, 8⟩ := ⟨⟨_, _, rfl, rfl, rfl, rfl, rfl, (by first | exact (fun _ => ⟨_, rfl⟩) | exact (fun h => by cases h)), (by first | exact (fun _ => rfl) | exact (fun h => by cases h))⟩, ⟨_, rfl, (fun _ h => by cases h), (fun _ _ h => by cases h)⟩, (fun fs h => by cases h),
  (fun h => by cases h)⟩
theorem ty107 : TyOk1 Tryz.prog tyT 107 ⟨.struct [(0, 4), (1, 60), (3, 3)], 4, [.v (.bool false), .v (.int .u64 0), .v (.int .u64 0), .v (.int .i64 0)], true, 32⟩ := ⟨⟨_, _, rfl, rfl, rfl, rfl, rfl, (by first | exact (fun _ => ⟨_, rfl⟩) | exact (fun h => by cases h)), (by first | exact (fun _ => rfl) | exact (fun h => by cases h))⟩, ⟨_, rfl, rfl⟩, (fun fs h => by injection h with h; subst h; intro p hp; revert p; simp only [List.forall_mem_cons, List.not_mem_nil, false_implies, implies_true, and_true]; first | rfl | (repeat' apply And.intro) <;> rfl),
  (fun _ => ⟨(by first | exact Tryz.stoodInHeld107 | kernel_rfl), (by first | exact Tryz.eqGuardType107 | kernel_rfl), (fun fields h => by first | (injection h with h; injection h with h; subst h; simp; done) | (cases h))⟩)⟩
theorem ty108 : TyOk1 Tryz.prog tyT 108 ⟨.str, 1, [.v (.string ⟨#[]⟩)], false, 16⟩ := ⟨⟨_, _, rfl, rfl, rfl, rfl, rfl, (by first | exact (fun _ => ⟨_, rfl⟩) | exact (fun h => by cases h)), (by first | exact (fun _ => rfl) | exact (fun h => by cases h))⟩, rfl, (fun fs h => by cases h),
  (fun h => by cases h)⟩
theorem ty109 : TyOk1 Tryz.prog tyT 109 ⟨.bool, 1, [.v (.bool false)], false, 1⟩ := ⟨⟨_, _, rfl, rfl, rfl, rfl, rfl, (by first | exact (fun _ => ⟨_, rfl⟩) | exact (fun h => by cases h)), (by first | exact (fun _ => rfl) | exact (fun h => by cases h))⟩, rfl, (fun fs h => by cases h),
  (fun h => by cases h)⟩
theorem ty111 : TyOk1 Tryz.prog tyT 111 ⟨.other, 1, [.v (.nilFunc)], false, 8⟩ := ⟨⟨_, _, rfl, rfl, rfl, rfl, rfl, (by first | exact (fun _ => ⟨_, rfl⟩) | exact (fun h => by cases h)), (by first | exact (fun _ => rfl) | exact (fun h => by cases h))⟩, ⟨_, rfl, (fun _ h => by cases h), (fun _ _ h => by cases h)⟩, (fun fs h => by cases h),
  (fun h => by cases h)⟩
theorem ty112 : TyOk1 Tryz.prog tyT 112 ⟨.other, 1, [.v (.nilFunc)], false, 8⟩ := ⟨⟨_, _, rfl, rfl, rfl, rfl, rfl, (by first | exact (fun _ => ⟨_, rfl⟩) | exact (fun h => by cases h)), (by first | exact (fun _ => rfl) | exact (fun h => by cases h))⟩, ⟨_, rfl, (fun _ h => by cases h), (fun _ _ h => by cases h)⟩, (fun fs h => by cases h),
  (fun h => by cases h)⟩
theorem ty116 : TyOk1 Tryz.prog tyT 116 ⟨.other, 1, [.v (.nilFunc)], false, 8⟩ := ⟨⟨_, _, rfl, rfl, rfl, rfl, rfl, (by first | exact (fun _ => ⟨_, rfl⟩) | exact (fun h => by cases h)), (by first | exact (fun _ => rfl) | exact (fun h => by cases h))⟩, ⟨_, rfl, (fun _ h => by cases h), (fun _ _ h => by cases h)⟩, (fun fs h => by cases h),
  (fun h => by cases h)⟩
theorem ty117 : TyOk1 Tryz.prog tyT 117 ⟨.other, 1, [.v (.nilFunc)], false, 8⟩ := ⟨⟨_, _, rfl, rfl, rfl, rfl, rfl, (by first | exact (fun _ => ⟨_, rfl⟩) | exact (fun h => by cases h)), (by first | exact (fun _ => rfl) | exact (fun h => by cases h))⟩, ⟨_, rfl, (fun _ h => by cases h), (fun _ _ h => by cases h)⟩, (fun fs h => by cases h),
  (fun h => by cases h)⟩
theorem ty118 : TyOk1 Tryz.prog tyT 118 ⟨.other, 1, [.v (.nilFunc)], false, 8⟩ := ⟨⟨_, _, rfl, rfl, rfl, rfl, rfl, (by first | exact (fun _ => ⟨_, rfl⟩) | exact (fun h => by cases h)), (by first | exact (fun _ => rfl) | exact (fun h => by cases h))⟩, ⟨_, rfl, (fun _ h => by cases h), (fun _ _ h => by cases h)⟩, (fun fs h => by cases h),
  (fun h => by cases h)⟩
theorem ty119 : TyOk1 Tryz.prog tyT 119 ⟨.other, 1, [.v (.nilFunc)], false, 8⟩ := ⟨⟨_, _, rfl, rfl, rfl, rfl, rfl, (by first | exact (fun _ => ⟨_, rfl⟩) | exact (fun h => by cases h)), (by first | exact (fun _ => rfl) | exact (fun h => by cases h))⟩, ⟨_, rfl, (fun _ h => by cases h), (fun _ _ h => by cases h)⟩, (fun fs h => by cases h),
  (fun h => by cases h)⟩
theorem ty121 : TyOk1 Tryz.prog tyT 121 ⟨.other, 1, [.v (.nilFunc)], false, 8⟩ := ⟨⟨_, _, rfl, rfl, rfl, rfl, rfl, (by first | exact (fun _ => ⟨_, rfl⟩) | exact (fun h => by cases h)), (by first | exact (fun _ => rfl) | exact (fun h => by cases h))⟩, ⟨_, rfl, (fun _ h => by cases h), (fun _ _ h => by cases h)⟩, (fun fs h => by cases h),
  (fun h => by cases h)⟩
theorem ty122 : TyOk1 Tryz.prog tyT 122 ⟨.other, 1, [.v (.nilFunc)], false, 8⟩ := ⟨⟨_, _, rfl, rfl, rfl, rfl, rfl, (by first | exact (fun _ => ⟨_, rfl⟩) | exact (fun h => by cases h)), (by first | exact (fun _ => rfl) | exact (fun h => by cases h))⟩, ⟨_, rfl, (fun _ h => by cases h), (fun _ _ h => by cases h)⟩, (fun fs h => by cases h),
  (fun h => by cases h)⟩
theorem ty123 : TyOk1 Tryz.prog tyT 123 ⟨.struct [(0, 3), (1, 3), (2, 3)], 3, [.v (.int .i64 0), .v (.int .i64 0), .v (.int .i64 0)], true, 24⟩ := ⟨⟨_, _, rfl, rfl, rfl, rfl, rfl, (by first | exact (fun _ => ⟨_, rfl⟩) | exact (fun h => by cases h)), (by first | exact (fun _ => rfl) | exact (fun h => by cases h))⟩, ⟨_, rfl, rfl⟩, (fun fs h => by injection h with h; subst h; intro p hp; revert p; simp only [List.forall_mem_cons, List.not_mem_nil, false_implies, implies_true, and_true]; first | rfl | (repeat' apply And.intro) <;> rfl),
  (fun _ => ⟨(by first | exact Tryz.stoodInHeld123 | kernel_rfl), (by first | exact Tryz.eqGuardType123 | kernel_rfl), (fun fields h => by first | (injection h with h; injection h with h; subst h; simp; done) | (cases h))⟩)⟩
theorem ty124 : TyOk1 Tryz.prog tyT 124 ⟨.struct [(0, 3), (1, 3), (2, 3)], 3, [.v (.int .i64 0), .v (.int .i64 0), .v (.int .i64 0)], true, 24⟩ := ⟨⟨_, _, rfl, rfl, rfl, rfl, rfl, (by first | exact (fun _ => ⟨_, rfl⟩) | exact (fun h => by cases h)), (by first | exact (fun _ => rfl) | exact (fun h => by cases h))⟩, ⟨_, rfl, rfl⟩, (fun fs h => by injection h with h; subst h; intro p hp; revert p; simp only [List.forall_mem_cons, List.not_mem_nil, false_implies, implies_true, and_true]; first | rfl | (repeat' apply And.intro) <;> rfl),
  (fun _ => ⟨(by first | exact Tryz.stoodInHeld124 | kernel_rfl), (by first | exact Tryz.eqGuardType124 | kernel_rfl), (fun fields h => by first | (injection h with h; injection h with h; subst h; simp; done) | (cases h))⟩)⟩
theorem ty126 : TyOk1 Tryz.prog tyT 126 ⟨.other, 1, [.v (.nilFunc)], false, 8⟩ := ⟨⟨_, _, rfl, rfl, rfl, rfl, rfl, (by first | exact (fun _ => ⟨_, rfl⟩) | exact (fun h => by cases h)), (by first | exact (fun _ => rfl) | exact (fun h => by cases h))⟩, ⟨_, rfl, (fun _ h => by cases h), (fun _ _ h => by cases h)⟩, (fun fs h => by cases h),
  (fun h => by cases h)⟩
theorem ty127 : TyOk1 Tryz.prog tyT 127 ⟨.other, 1, [.v (.nilFunc)], false, 8⟩ := ⟨⟨_, _, rfl, rfl, rfl, rfl, rfl, (by first | exact (fun _ => ⟨_, rfl⟩) | exact (fun h => by cases h)), (by first | exact (fun _ => rfl) | exact (fun h => by cases h))⟩, ⟨_, rfl, (fun _ h => by cases h), (fun _ _ h => by cases h)⟩, (fun fs h => by cases h),
  (fun h => by cases h)⟩
theorem ty128 : TyOk1 Tryz.prog tyT 128 ⟨.struct [(0, 3), (1, 4), (2, 3)], 3, [.v (.int .i64 0), .v (.bool false), .v (.int .i64 0)], true, 24⟩ := ⟨⟨_, _, rfl, rfl, rfl, rfl, rfl, (by first | exact (fun _ => ⟨_, rfl⟩) | exact (fun h => by cases h)), (by first | exact (fun _ => rfl) | exact (fun h => by cases h))⟩, ⟨_, rfl, rfl⟩, (fun fs h => by injection h with h; subst h; intro p hp; revert p; simp only [List.forall_mem_cons, List.not_mem_nil, false_implies, implies_true, and_true]; first | rfl | (repeat' apply And.intro) <;> rfl),
  (fun _ => ⟨(by first | exact Tryz.stoodInHeld128 | kernel_rfl), (by first | exact Tryz.eqGuardType128 | kernel_rfl), (fun fields h => by first | (injection h with h; injection h with h; subst h; simp; done) | (cases h))⟩)⟩
theorem ty129 : TyOk1 Tryz.prog tyT 129 ⟨.struct [(0, 3), (1, 4), (2, 3)], 3, [.v (.int .i64 0), .v (.bool false), .v (.int .i64 0)], true, 24⟩ := ⟨⟨_, _, rfl, rfl, rfl, rfl, rfl, (by first | exact (fun _ => ⟨_, rfl⟩) | exact (fun h => by cases h)), (by first | exact (fun _ => rfl) | exact (fun h => by cases h))⟩, ⟨_, rfl, rfl⟩, (fun fs h => by injection h with h; subst h; intro p hp; revert p; simp only [List.forall_mem_cons, List.not_mem_nil, false_implies, implies_true, and_true]; first | rfl | (repeat' apply And.intro) <;> rfl),
  (fun _ => ⟨(by first | exact Tryz.stoodInHeld129 | kernel_rfl), (by first | exact Tryz.eqGuardType129 | kernel_rfl), (fun fields h => by first | (injection h with h; injection h with h; subst h; simp; done) | (cases h))⟩)⟩
theorem ty131 : TyOk1 Tryz.prog tyT 131 ⟨.other, 1, [.v (.nilFunc)], false, 8⟩ := ⟨⟨_, _, rfl, rfl, rfl, rfl, rfl, (by first | exact (fun _ => ⟨_, rfl⟩) | exact (fun h => by cases h)), (by first | exact (fun _ => rfl) | exact (fun h => by cases h))⟩, ⟨_, rfl, (fun _ h => by cases h), (fun _ _ h => by cases h)⟩, (fun fs h => by cases h),
  (fun h => by cases h)⟩
theorem ty132 : TyOk1 Tryz.prog tyT 132 ⟨.other, 1, [.v (.nilFunc)], false, 8⟩ := ⟨⟨_, _, rfl, rfl, rfl, rfl, rfl, (by first | exact (fun _ => ⟨_, rfl⟩) | exact (fun h => by cases h)), (by first | exact (fun _ => rfl) | exact (fun h => by cases h))⟩, ⟨_, rfl, (fun _ h => by cases h), (fun _ _ h => by cases h)⟩, (fun fs h => by cases h),
  (fun h => by cases h)⟩
theorem ty133 : TyOk1 Tryz.prog tyT 133 ⟨.struct [(0, 124), (3, 129)], 6, [.v (.int .i64 0), .v (.int .i64 0), .v (.int .i64 0), .v (.int .i64 0), .v (.bool false), .v (.int .i64 0)], true, 48⟩ := ⟨⟨_, _, rfl, rfl, rfl, rfl, rfl, (by first | exact (fun _ => ⟨_, rfl⟩) | exact (fun h => by cases h)), (by first | exact (fun _ => rfl) | exact (fun h => by cases h))⟩, ⟨_, rfl, rfl⟩, (fun fs h => by injection h with h; subst h; intro p hp; revert p; simp only [List.forall_mem_cons, List.not_mem_nil, false_implies, implies_true, and_true]; first | rfl | (repeat' apply And.intro) <;> rfl),
  (fun _ => ⟨(by first | exact Tryz.stoodInHeld133 | kernel_rfl), (by first | exact Tryz.eqGuardType133 | kernel_rfl), (fun fields h => by first | (injection h with h; injection h with h; subst h; simp; done) | (cases h))⟩)⟩
theorem ty134 : TyOk1 Tryz.prog tyT 134 ⟨.struct [(0, 124), (3, 129)], 6, [.v (.int .i64 0), .v (.int .i64 0), .v (.int .i64 0), .v (.int .i64 0), .v (.bool false), .v (.int .i64 0)], true, 48⟩ := ⟨⟨_, _, rfl, rfl, rfl, rfl, rfl, (by first | exact (fun _ => ⟨_, rfl⟩) | exact (fun h => by cases h)), (by first | exact (fun _ => rfl) | exact (fun h => by cases h))⟩, ⟨_, rfl, rfl⟩, (fun fs h => by injection h with h; subst h; intro p hp; revert p; simp only [List.forall_mem_cons, List.not_mem_nil, false_implies, implies_true, and_true]; first | rfl | (repeat' apply And.intro) <;> rfl),
  (fun _ => ⟨(by first | exact Tryz.stoodInHeld134 | kernel_rfl), (by first | exact Tryz.eqGuardType134 | kernel_rfl), (fun fields h => by first | (injection h with h; injection h with h; subst h; simp; done) | (cases h))⟩)⟩
theorem ty136 : TyOk1 Tryz.prog tyT 136 ⟨.other, 1, [.v (.nilFunc)], false, 8⟩ := ⟨⟨_, _, rfl, rfl, rfl, rfl, rfl, (by first | exact (fun _ => ⟨_, rfl⟩) | exact (fun h => by cases h)), (by first | exact (fun _ => rfl) | exact (fun h => by cases h))⟩, ⟨_, rfl, (fun _ h => by cases h), (fun _ _ h => by cases h)⟩, (fun fs h => by cases h),
  (fun h => by cases h)⟩
theorem ty137 : TyOk1 Tryz.prog tyT 137 ⟨.other, 1, [.v (.nilFunc)], false, 8⟩ := ⟨⟨_, _, rfl, rfl, rfl, rfl, rfl, (by first | exact (fun _ => ⟨_, rfl⟩) | exact (fun h => by cases h)), (by first | exact (fun _ => rfl) | exact (fun h => by cases h))⟩, ⟨_, rfl, (fun _ h => by cases h), (fun _ _ h => by cases h)⟩, (fun fs h => by cases h),
  (fun h => by cases h)⟩
theorem ty138 : TyOk1 Tryz.prog tyT 138 ⟨.other, 1, [.v (.nilFunc)], false, 8⟩ := ⟨⟨_, _, rfl, rfl, rfl, rfl, rfl, (by first | exact (fun _ => ⟨_, rfl⟩) | exact (fun h => by cases h)), (by first | exact (fun _ => rfl) | exact (fun h => by cases h))⟩, ⟨_, rfl, (fun _ h => by cases h), (fun _ _ h => by cases h)⟩, (fun fs h => by cases h),
  (fun h => by cases h)⟩
theorem ty139 : TyOk1 Tryz.prog tyT 139 ⟨.other, 1, [.v (.nilFunc)], false, 8⟩ := ⟨⟨_, _, rfl, rfl, rfl, rfl, rfl, (by first | exact (fun _ => ⟨_, rfl⟩) | exact (fun h => by cases h)), (by first | exact (fun _ => rfl) | exact (fun h => by cases h))⟩, ⟨_, rfl, (fun _ h => by cases h), (fun _ _ h => by cases h)⟩, (fun fs h => by cases h),
  (fun h => by cases h)⟩
theorem ty140 : TyOk1 Tryz.prog tyT 140 ⟨.other, 1, [.v (.nilFunc)], false, 8⟩ := ⟨⟨_, _, rfl, rfl, rfl, rfl, rfl, (by first | exact (fun _ => ⟨_, rfl⟩) | exact (fun h => by cases h)), (by first | exact (fun _ => rfl) | exact (fun h => by cases h))⟩, ⟨_, rfl, (fun _ h => by cases h), (fun _ _ h => by cases h)⟩, (fun fs h => by cases h),
  (fun h => by cases h)⟩
theorem ty144 : TyOk1 Tryz.prog tyT 144 ⟨.other, 1, [.v (.nilFunc)], false, 8⟩ := ⟨⟨_, _, rfl, rfl, rfl, rfl, rfl, (by first | exact (fun _ => ⟨_, rfl⟩) | exact (fun h => by cases h)), (by first | exact (fun _ => rfl) | exact (fun h => by cases h))⟩, ⟨_, rfl, (fun _ h => by cases h), (fun _ _ h => by cases h)⟩, (fun fs h => by cases h),
  (fun h => by cases h)⟩
theorem ty145 : TyOk1 Tryz.prog tyT 145 ⟨.other, 1, [.v (.nilFunc)], false, 8⟩ := ⟨⟨_, _, rfl, rfl, rfl, rfl, rfl, (by first | exact (fun _ => ⟨_, rfl⟩) | exact (fun h => by cases h)), (by first | exact (fun _ => rfl) | exact (fun h => by cases h))⟩, ⟨_, rfl, (fun _ h => by cases h), (fun _ _ h => by cases h)⟩, (fun fs h => by cases h),
  (fun h => by cases h)⟩
theorem ty146 : TyOk1 Tryz.prog tyT 146 ⟨.other, 1, [.v (.pointer none)], false, 8⟩ := ⟨⟨_, _, rfl, rfl, rfl, rfl, rfl, (by first | exact (fun _ => ⟨_, rfl⟩) | exact (fun h => by cases h)), (by first | exact (fun _ => rfl) | exact (fun h => by cases h))⟩, ⟨_, rfl, (fun _ h => by cases h), (fun _ _ h => by cases h)⟩, (fun fs h => by cases h),
  (fun h => by cases h)⟩
theorem ty148 : TyOk1 Tryz.prog tyT 148 ⟨.other, 1, [.v (.nilFunc)], false, 8⟩ := ⟨⟨_, _, rfl, rfl, rfl, rfl, rfl, (by first | exact (fun _ => ⟨_, rfl⟩) | exact (fun h => by cases h)), (by first | exact (fun _ => rfl) | exact (fun h => by cases h))⟩, ⟨_, rfl, (fun _ h => by cases h), (fun _ _ h => by cases h)⟩, (fun fs h => by cases h),
  (fun h => by cases h)⟩
theorem ty150 : TyOk1 Tryz.prog tyT 150 ⟨.other, 1, [.v (.nilFunc)], false, 8⟩ := ⟨⟨_, _, rfl, rfl, rfl, rfl, rfl, (by first | exact (fun _ => ⟨_, rfl⟩) | exact (fun h => by cases h)), (by first | exact (fun _ => rfl) | exact (fun h => by cases h))⟩, ⟨_, rfl, (fun _ h => by cases h), (fun _ _ h => by cases h)⟩, (fun fs h => by cases h),
  (fun h => by cases h)⟩
theorem ty151 : TyOk1 Tryz.prog tyT 151 ⟨.other, 1, [.v (.nilFunc)], false, 8⟩ := ⟨⟨_, _, rfl, rfl, rfl, rfl, rfl, (by first | exact (fun _ => ⟨_, rfl⟩) | exact (fun h => by cases h)), (by first | exact (fun _ => rfl) | exact (fun h => by cases h))⟩, ⟨_, rfl, (fun _ h => by cases h), (fun _ _ h => by cases h)⟩, (fun fs h => by cases h),
  (fun h => by cases h)⟩
theorem ty152 : TyOk1 Tryz.prog tyT 152 ⟨.other, 1, [.v (.nilFunc)], false, 8⟩ := ⟨⟨_, _, rfl, rfl, rfl, rfl, rfl, (by first | exact (fun _ => ⟨_, rfl⟩) | exact (fun h => by cases h)), (by first | exact (fun _ => rfl) | exact (fun h => by cases h))⟩, ⟨_, rfl, (fun _ h => by cases h), (fun _ _ h => by cases h)⟩, (fun fs h => by cases h),
  (fun h => by cases h)⟩
theorem ty153 : TyOk1 Tryz.prog tyT 153 ⟨.other, 1, [.v (.nilFunc)], false, 8⟩ := ⟨⟨_, _, rfl, rfl, rfl, rfl, rfl, (by first | exact (fun _ => ⟨_, rfl⟩) | exact (fun h => by cases h)), (by first | exact (fun _ => rfl) | exact (fun h => by cases h))⟩, ⟨_, rfl, (fun _ h => by cases h), (fun _ _ h => by cases h)⟩, (fun fs h => by cases h),
  (fun h => by cases h)⟩
theorem ty154 : TyOk1 Tryz.prog tyT 154 ⟨.other, 1, [.v (.nilFunc)], false, 8⟩ := ⟨⟨_, _, rfl, rfl, rfl, rfl, rfl, (by first | exact (fun _ => ⟨_, rfl⟩) | exact (fun h => by cases h)), (by first | exact (fun _ => rfl) | exact (fun h => by cases h))⟩, ⟨_, rfl, (fun _ h => by cases h), (fun _ _ h => by cases h)⟩, (fun fs h => by cases h),
  (fun h => by cases h)⟩
theorem ty156 : TyOk1 Tryz.prog tyT 156 ⟨.struct [(0, 5), (1, 5)], 2, [.v (.int .u8 0), .v (.int .u8 0)], true, 2⟩ := ⟨⟨_, _, rfl, rfl, rfl, rfl, rfl, (by first | exact (fun _ => ⟨_, rfl⟩) | exact (fun h => by cases h)), (by first | exact (fun _ => rfl) | exact (fun h => by cases h))⟩, ⟨_, rfl, rfl⟩, (fun fs h => by injection h with h; subst h; intro p hp; revert p; simp only [List.forall_mem_cons, List.not_mem_nil, false_implies, implies_true, and_true]; first | rfl | (repeat' apply And.intro) <;> rfl),
  (fun _ => ⟨(by first | exact Tryz.stoodInHeld156 | kernel_rfl), (by first | exact Tryz.eqGuardType156 | kernel_rfl), (fun fields h => by first | (injection h with h; injection h with h; subst h; simp; done) | (cases h))⟩)⟩
theorem ty157 : TyOk1 Tryz.prog tyT 157 ⟨.struct [(0, 5), (1, 5)], 2, [.v (.int .u8 0), .v (.int .u8 0)], true, 2⟩ := ⟨⟨_, _, rfl, rfl, rfl, rfl, rfl, (by first | exact (fun _ => ⟨_, rfl⟩) | exact (fun h => by cases h)), (by first | exact (fun _ => rfl) | exact (fun h => by cases h))⟩, ⟨_, rfl, rfl⟩, (fun fs h => by injection h with h; subst h; intro p hp; revert p; simp only [List.forall_mem_cons, List.not_mem_nil, false_implies, implies_true, and_true]; first | rfl | (repeat' apply And.intro) <;> rfl),
  (fun _ => ⟨(by first | exact Tryz.stoodInHeld157 | kernel_rfl), (by first | exact Tryz.eqGuardType157 | kernel_rfl), (fun fields h => by first | (injection h with h; injection h with h; subst h; simp; done) | (cases h))⟩)⟩
theorem ty158 : TyOk1 Tryz.prog tyT 158 ⟨.arr 16 157, 32, [.v (.int .u8 0), .v (.int .u8 0), .v (.int .u8 0), .v (.int .u8 0), .v (.int .u8 0), .v (.int .u8 0), .v (.int .u8 0), .v (.int .u8 0), .v (.int .u8 0), .v (.int .u8 0), .v (.int .u8 0), .v (.int .u8 0), .v (.int .u8 0), .v (.int .u8 0), .v (.int .u8 0), .v (.int .u8 0), .v (.int .u8 0), .v (.int .u8 0), .v (.int .u8 0), .v (.int .u8 0), .v (.int .u8 0), .v (.int .u8 0), .v (.int .u8 0), .v (.int .u8 0), .v (.int .u8 0), .v (.int .u8 0), .v (.int .u8 0), .v (.int .u8 0), .v (.int .u8 0), .v (.int .u8 0), .v (.int .u8 0), .v (.int .u8 0)], false, 32⟩ := ⟨⟨_, _, rfl, rfl, rfl, rfl, rfl, (by first | exact (fun _ => ⟨_, rfl⟩) | exact (fun h => by cases h)), (by first | exact (fun _ => rfl) | exact (fun h => by cases h))⟩, rfl, (fun fs h => by cases h),
  (fun h => by cases h)⟩
theorem ty159 : TyOk1 Tryz.prog tyT 159 ⟨.int .u64, 1, [.v (.int .u64 0)], false, 8⟩ := ⟨⟨_, _, rfl, rfl, rfl, rfl, rfl, (by first | exact (fun _ => ⟨_, rfl⟩) | exact (fun h => by cases h)), (by first | exact (fun _ => rfl) | exact (fun h => by cases h))⟩, rfl, (fun fs h => by cases h),
  (fun h => by cases h)⟩
theorem ty160 : TyOk1 Tryz.prog tyT 160 ⟨.other, 1, [.v (.nilFunc)], false, 8⟩ := ⟨⟨_, _, rfl, rfl, rfl, rfl, rfl, (by first | exact (fun _ => ⟨_, rfl⟩) | exact (fun h => by cases h)), (by first | exact (fun _ => rfl) | exact (fun h => by cases h))⟩, ⟨_, rfl, (fun _ h => by cases h), (fun _ _ h => by cases h)⟩, (fun fs h => by cases h),
  (fun h => by cases h)⟩
theorem ty161 : TyOk1 Tryz.prog tyT 161 ⟨.other, 1, [.v (.nilFunc)], false, 8⟩ := ⟨⟨_, _, rfl, rfl, rfl, rfl, rfl, (by first | exact (fun _ => ⟨_, rfl⟩) | exact (fun h => by cases h)), (by first | exact (fun _ => rfl) | exact (fun h => by cases h))⟩, ⟨_, rfl, (fun _ h => by cases h), (fun _ _ h => by cases h)⟩, (fun fs h => by cases h),
  (fun h => by cases h)⟩
theorem ty162 : TyOk1 Tryz.prog tyT 162 ⟨.other, 1, [.v (.nilFunc)], false, 8⟩ := ⟨⟨_, _, rfl, rfl, rfl, rfl, rfl, (by first | exact (fun _ => ⟨_, rfl⟩) | exact (fun h => by cases h)), (by first | exact (fun _ => rfl) | exact (fun h => by cases h))⟩, ⟨_, rfl, (fun _ h => by cases h), (fun _ _ h => by cases h)⟩, (fun fs h => by cases h),
  (fun h => by cases h)⟩
theorem ty163 : TyOk1 Tryz.prog tyT 163 ⟨.other, 1, [.v (.nilFunc)], false, 8⟩ := ⟨⟨_, _, rfl, rfl, rfl, rfl, rfl, (by first | exact (fun _ => ⟨_, rfl⟩) | exact (fun h => by cases h)), (by first | exact (fun _ => rfl) | exact (fun h => by cases h))⟩, ⟨_, rfl, (fun _ h => by cases h), (fun _ _ h => by cases h)⟩, (fun fs h => by cases h),
  (fun h => by cases h)⟩
theorem ty164 : TyOk1 Tryz.prog tyT 164 ⟨.other, 1, [.v (.nilFunc)], false, 8⟩ := ⟨⟨_, _, rfl, rfl, rfl, rfl, rfl, (by first | exact (fun _ => ⟨_, rfl⟩) | exact (fun h => by cases h)), (by first | exact (fun _ => rfl) | exact (fun h => by cases h))⟩, ⟨_, rfl, (fun _ h => by cases h), (fun _ _ h => by cases h)⟩, (fun fs h => by cases h),
  (fun h => by cases h)⟩
theorem ty165 : TyOk1 Tryz.prog tyT 165 ⟨.other, 1, [.v (.nilFunc)], false, 8⟩ := ⟨⟨_, _, rfl, rfl, rfl, rfl, rfl, (by first | exact (fun _ => ⟨_, rfl⟩) | exact (fun h => by cases h)), (by first | exact (fun _ => rfl) | exact (fun h => by cases h))⟩, ⟨_, rfl, (fun _ h => by cases h), (fun _ _ h => by cases h)⟩, (fun fs h => by cases h),
  (fun h => by cases h)⟩
theorem ty166 : TyOk1 Tryz.prog tyT 166 ⟨.other, 1, [.v (.nilFunc)], false, 8⟩ := ⟨⟨_, _, rfl, rfl, rfl, rfl, rfl, (by first | exact (fun _ => ⟨_, rfl⟩) | exact (fun h => by cases h)), (by first | exact (fun _ => rfl) | exact (fun h => by cases h))⟩, ⟨_, rfl, (fun _ h => by cases h), (fun _ _ h => by cases h)⟩, (fun fs h => by cases h),
  (fun h => by cases h)⟩
theorem ty167 : TyOk1 Tryz.prog tyT 167 ⟨.other, 1, [.v (.nilFunc)], false, 8⟩ := ⟨⟨_, _, rfl, rfl, rfl, rfl, rfl, (by first | exact (fun _ => ⟨_, rfl⟩) | exact (fun h => by cases h)), (by first | exact (fun _ => rfl) | exact (fun h => by cases h))⟩, ⟨_, rfl, (fun _ h => by cases h), (fun _ _ h => by cases h)⟩, (fun fs h => by cases h),
  (fun h => by cases h)⟩
theorem ty168 : TyOk1 Tryz.prog tyT 168 ⟨.struct [(0, 38), (1, 55)], 2, [.sl 0 [], .sl 0 []], false, 48⟩ := ⟨⟨_, _, rfl, rfl, rfl, rfl, rfl, (by first | exact (fun _ => ⟨_, rfl⟩) | exact (fun h => by cases h)), (by first | exact (fun _ => rfl) | exact (fun h => by cases h))⟩, ⟨_, rfl, rfl⟩, (fun fs h => by injection h with h; subst h; intro p hp; revert p; simp only [List.forall_mem_cons, List.not_mem_nil, false_implies, implies_true, and_true]; first | rfl | (repeat' apply And.intro) <;> rfl),
  (fun h => by cases h)⟩
theorem ty169 : TyOk1 Tryz.prog tyT 169 ⟨.struct [(0, 38), (1, 55)], 2, [.sl 0 [], .sl 0 []], false, 48⟩ := ⟨⟨_, _, rfl, rfl, rfl, rfl, rfl, (by first | exact (fun _ => ⟨_, rfl⟩) | exact (fun h => by cases h)), (by first | exact (fun _ => rfl) | exact (fun h => by cases h))⟩, ⟨_, rfl, rfl⟩, (fun fs h => by injection h with h; subst h; intro p hp; revert p; simp only [List.forall_mem_cons, List.not_mem_nil, false_implies, implies_true, and_true]; first | rfl | (repeat' apply And.intro) <;> rfl),
  (fun h => by cases h)⟩
theorem ty171 : TyOk1 Tryz.prog tyT 171 ⟨.other, 1, [.v (.nilFunc)], false, 8⟩ := ⟨⟨_, _, rfl, rfl, rfl, rfl, rfl, (by first | exact (fun _ => ⟨_, rfl⟩) | exact (fun h => by cases h)), (by first | exact (fun _ => rfl) | exact (fun h => by cases h))⟩, ⟨_, rfl, (fun _ h => by cases h), (fun _ _ h => by cases h)⟩, (fun fs h => by cases h),
  (fun h => by cases h)⟩
theorem ty172 : TyOk1 Tryz.prog tyT 172 ⟨.other, 1, [.v (.nilFunc)], false, 8⟩ := ⟨⟨_, _, rfl, rfl, rfl, rfl, rfl, (by first | exact (fun _ => ⟨_, rfl⟩) | exact (fun h => by cases h)), (by first | exact (fun _ => rfl) | exact (fun h => by cases h))⟩, ⟨_, rfl, (fun _ h => by cases h), (fun _ _ h => by cases h)⟩, (fun fs h => by cases h),
  (fun h => by cases h)⟩
theorem ty174 : TyOk1 Tryz.prog tyT 174 ⟨.other, 1, [.v (.nilFunc)], false, 8⟩ := ⟨⟨_, _, rfl, rfl, rfl, rfl, rfl, (by first | exact (fun _ => ⟨_, rfl⟩) | exact (fun h => by cases h)), (by first | exact (fun _ => rfl) | exact (fun h => by cases h))⟩, ⟨_, rfl, (fun _ h => by cases h), (fun _ _ h => by cases h)⟩, (fun fs h => by cases h),
  (fun h => by cases h)⟩
theorem ty175 : TyOk1 Tryz.prog tyT 175 ⟨.other, 1, [.v (.nilFunc)], false, 8⟩ := ⟨⟨_, _, rfl, rfl, rfl, rfl, rfl, (by first | exact (fun _ => ⟨_, rfl⟩) | exact (fun h => by cases h)), (by first | exact (fun _ => rfl) | exact (fun h => by cases h))⟩, ⟨_, rfl, (fun _ h => by cases h), (fun _ _ h => by cases h)⟩, (fun fs h => by cases h),
  (fun h => by cases h)⟩
theorem ty176 : TyOk1 Tryz.prog tyT 176 ⟨.other, 1, [.v (.nilFunc)], false, 8⟩ := ⟨⟨_, _, rfl, rfl, rfl, rfl, rfl, (by first | exact (fun _ => ⟨_, rfl⟩) | exact (fun h => by cases h)), (by first | exact (fun _ => rfl) | exact (fun h => by cases h))⟩, ⟨_, rfl, (fun _ h => by cases h), (fun _ _ h => by cases h)⟩, (fun fs h => by cases h),
  (fun h => by cases h)⟩
theorem ty177 : TyOk1 Tryz.prog tyT 177 ⟨.other, 1, [.v (.nilFunc)], false, 8⟩ := ⟨⟨_, _, rfl, rfl, rfl, rfl, rfl, (by first | exact (fun _ => ⟨_, rfl⟩) | exact (fun h => by cases h)), (by first | exact (fun _ => rfl) | exact (fun h => by cases h))⟩, ⟨_, rfl, (fun _ h => by cases h), (fun _ _ h => by cases h)⟩, (fun fs h => by cases h),
  (fun h => by cases h)⟩
theorem ty178 : TyOk1 Tryz.prog tyT 178 ⟨.other, 1, [.v (.nilFunc)], false, 8⟩ := ⟨⟨_, _, rfl, rfl, rfl, rfl, rfl, (by first | exact (fun _ => ⟨_, rfl⟩) | exact (fun h => by cases h)), (by first | exact (fun _ => rfl) | exact (fun h => by cases h))⟩, ⟨_, rfl, (fun _ h => by cases h), (fun _ _ h => by cases h)⟩, (fun fs h => by cases h),
  (fun h => by cases h)⟩
theorem ty180 : TyOk1 Tryz.prog tyT 180 ⟨.struct [(0, 3), (1, 3), (2, 3)], 3, [.v (.int .i64 0), .v (.int .i64 0), .v (.int .i64 0)], true, 24⟩ := ⟨⟨_, _, rfl, rfl, rfl, rfl, rfl, (by first | exact (fun _ => ⟨_, rfl⟩) | exact (fun h => by cases h)), (by first | exact (fun _ => rfl) | exact (fun h => by cases h))⟩, ⟨_, rfl, rfl⟩, (fun fs h => by injection h with h; subst h; intro p hp; revert p; simp only [List.forall_mem_cons, List.not_mem_nil, false_implies, implies_true, and_true]; first | rfl | (repeat' apply And.intro) <;> rfl),
  (fun _ => ⟨(by first | exact Tryz.stoodInHeld180 | kernel_rfl), (by first | exact Tryz.eqGuardType180 | kernel_rfl), (fun fields h => by first | (injection h with h; injection h with h; subst h; simp; done) | (cases h))⟩)⟩
theorem ty182 : TyOk1 Tryz.prog tyT 182 ⟨.arr 2 3, 2, [.v (.int .i64 0), .v (.int .i64 0)], false, 16⟩ := ⟨⟨_, _, rfl, rfl, rfl, rfl, rfl, (by first | exact (fun _ => ⟨_, rfl⟩) | exact (fun h => by cases h)), (by first | exact (fun _ => rfl) | exact (fun h => by cases h))⟩, rfl, (fun fs h => by cases h),
  (fun h => by cases h)⟩
theorem ty183 : TyOk1 Tryz.prog tyT 183 ⟨.slice 182, 1, [.sl 0 []], false, 24⟩ := ⟨⟨_, _, rfl, rfl, rfl, rfl, rfl, (by first | exact (fun _ => ⟨_, rfl⟩) | exact (fun h => by cases h)), (by first | exact (fun _ => rfl) | exact (fun h => by cases h))⟩, rfl, (fun fs h => by cases h),
  (fun h => by cases h)⟩
theorem ty184 : TyOk1 Tryz.prog tyT 184 ⟨.struct [(0, 3), (1, 4), (2, 3)], 3, [.v (.int .i64 0), .v (.bool false), .v (.int .i64 0)], true, 24⟩ := ⟨⟨_, _, rfl, rfl, rfl, rfl, rfl, (by first | exact (fun _ => ⟨_, rfl⟩) | exact (fun h => by cases h)), (by first | exact (fun _ => rfl) | exact (fun h => by cases h))⟩, ⟨_, rfl, rfl⟩, (fun fs h => by injection h with h; subst h; intro p hp; revert p; simp only [List.forall_mem_cons, List.not_mem_nil, false_implies, implies_true, and_true]; first | rfl | (repeat' apply And.intro) <;> rfl),
  (fun _ => ⟨(by first | exact Tryz.stoodInHeld184 | kernel_rfl), (by first | exact Tryz.eqGuardType184 | kernel_rfl), (fun fields h => by first | (injection h with h; injection h with h; subst h; simp; done) | (cases h))⟩)⟩
theorem ty186 : TyOk1 Tryz.prog tyT 186 ⟨.struct [(0, 124), (3, 129)], 6, [.v (.int .i64 0), .v (.int .i64 0), .v (.int .i64 0), .v (.int .i64 0), .v (.bool false), .v (.int .i64 0)], true, 48⟩ := ⟨⟨_, _, rfl, rfl, rfl, rfl, rfl, (by first | exact (fun _ => ⟨_, rfl⟩) | exact (fun h => by cases h)), (by first | exact (fun _ => rfl) | exact (fun h => by cases h))⟩, ⟨_, rfl, rfl⟩, (fun fs h => by injection h with h; subst h; intro p hp; revert p; simp only [List.forall_mem_cons, List.not_mem_nil, false_implies, implies_true, and_true]; first | rfl | (repeat' apply And.intro) <;> rfl),
  (fun _ => ⟨(by first | exact Tryz.stoodInHeld186 | kernel_rfl), (by first | exact Tryz.eqGuardType186 | kernel_rfl), (fun fields h => by first | (injection h with h; injection h with h; subst h; simp; done) | (cases h))⟩)⟩
theorem ty188 : TyOk1 Tryz.prog tyT 188 ⟨.other, 1, [.v (.nilFunc)], false, 8⟩ := ⟨⟨_, _, rfl, rfl, rfl, rfl, rfl, (by first | exact (fun _ => ⟨_, rfl⟩) | exact (fun h => by cases h)), (by first | exact (fun _ => rfl) | exact (fun h => by cases h))⟩, ⟨_, rfl, (fun _ h => by cases h), (fun _ _ h => by cases h)⟩, (fun fs h => by cases h),
  (fun h => by cases h)⟩
theorem ty189 : TyOk1 Tryz.prog tyT 189 ⟨.other, 1, [.v (.nilFunc)], false, 8⟩ := ⟨⟨_, _, rfl, rfl, rfl, rfl, rfl, (by first | exact (fun _ => ⟨_, rfl⟩) | exact (fun h => by cases h)), (by first | exact (fun _ => rfl) | exact (fun h => by cases h))⟩, ⟨_, rfl, (fun _ h => by cases h), (fun _ _ h => by cases h)⟩, (fun fs h => by cases h),
  (fun h => by cases h)⟩
theorem ty190 : TyOk1 Tryz.prog tyT 190 ⟨.int .i64, 1, [.v (.int .i64 0)], false, 8⟩ := ⟨⟨_, _, rfl, rfl, rfl, rfl, rfl, (by first | exact (fun _ => ⟨_, rfl⟩) | exact (fun h => by cases h)), (by first | exact (fun _ => rfl) | exact (fun h => by cases h))⟩, rfl, (fun fs h => by cases h),
  (fun h => by cases h)⟩
theorem ty191 : TyOk1 Tryz.prog tyT 191 ⟨.slice 5, 1, [.sl 0 []], false, 24⟩ := ⟨⟨_, _, rfl, rfl, rfl, rfl, rfl, (by first | exact (fun _ => ⟨_, rfl⟩) | exact (fun h => by cases h)), (by first | exact (fun _ => rfl) | exact (fun h => by cases h))⟩, rfl, (fun fs h => by cases h),
  (fun h => by cases h)⟩
theorem ty193 : TyOk1 Tryz.prog tyT 193 ⟨.other, 1, [.v (.nilFunc)], false, 8⟩ := ⟨⟨_, _, rfl, rfl, rfl, rfl, rfl, (by first | exact (fun _ => ⟨_, rfl⟩) | exact (fun h => by cases h)), (by first | exact (fun _ => rfl) | exact (fun h => by cases h))⟩, ⟨_, rfl, (fun _ h => by cases h), (fun _ _ h => by cases h)⟩, (fun fs h => by cases h),
  (fun h => by cases h)⟩
theorem ty194 : TyOk1 Tryz.prog tyT 194 ⟨.other, 1, [.v (.pointer none)], false, 8⟩ := ⟨⟨_, _, rfl, rfl, rfl, rfl, rfl, (by first | exact (fun _ => ⟨_, rfl⟩) | exact (fun h => by cases h)), (by first | exact (fun _ => rfl) | exact (fun h => by cases h))⟩, ⟨_, rfl, (fun _ h => by cases h), (fun _ _ h => by cases h)⟩, (fun fs h => by cases h),
  (fun h => by cases h)⟩
theorem ty195 : TyOk1 Tryz.prog tyT 195 ⟨.other, 1, [.v (.nilFunc)], false, 8⟩ := ⟨⟨_, _, rfl, rfl, rfl, rfl, rfl, (by first | exact (fun _ => ⟨_, rfl⟩) | exact (fun h => by cases h)), (by first | exact (fun _ => rfl) | exact (fun h => by cases h))⟩, ⟨_, rfl, (fun _ h => by cases h), (fun _ _ h => by cases h)⟩, (fun fs h => by cases h),
  (fun h => by cases h)⟩
theorem ty196 : TyOk1 Tryz.prog tyT 196 ⟨.other, 1, [.v (.nilFunc)], false, 8⟩ := ⟨⟨_, _, rfl, rfl, rfl, rfl, rfl, (by first | exact (fun _ => ⟨_, rfl⟩) | exact (fun h => by cases h)), (by first | exact (fun _ => rfl) | exact (fun h => by cases h))⟩, ⟨_, rfl, (fun _ h => by cases h), (fun _ _ h => by cases h)⟩, (fun fs h => by cases h),
  (fun h => by cases h)⟩
theorem ty197 : TyOk1 Tryz.prog tyT 197 ⟨.other, 1, [.v (.nilFunc)], false, 8⟩ := ⟨⟨_, _, rfl, rfl, rfl, rfl, rfl, (by first | exact (fun _ => ⟨_, rfl⟩) | exact (fun h => by cases h)), (by first | exact (fun _ => rfl) | exact (fun h => by cases h))⟩, ⟨_, rfl, (fun _ h => by cases h), (fun _ _ h => by cases h)⟩, (fun fs h => by cases h),
  (fun h => by cases h)⟩
theorem ty198 : TyOk1 Tryz.prog tyT 198 ⟨.other, 1, [.v (.nilFunc)], false, 8⟩ := ⟨⟨_, _, rfl, rfl, rfl, rfl, rfl, (by first | exact (fun _ => ⟨_, rfl⟩) | exact (fun h => by cases h)), (by first | exact (fun _ => rfl) | exact (fun h => by cases h))⟩, ⟨_, rfl, (fun _ h => by cases h), (fun _ _ h => by cases h)⟩, (fun fs h => by cases h),
  (fun h => by cases h)⟩
theorem ty200 : TyOk1 Tryz.prog tyT 200 ⟨.other, 1, [.v (.nilFunc)], false, 8⟩ := ⟨⟨_, _, rfl, rfl, rfl, rfl, rfl, (by first | exact (fun _ => ⟨_, rfl⟩) | exact (fun h => by cases h)), (by first | exact (fun _ => rfl) | exact (fun h => by cases h))⟩, ⟨_, rfl, (fun _ h => by cases h), (fun _ _ h => by cases h)⟩, (fun fs h => by cases h),
  (fun h => by cases h)⟩
theorem ty201 : TyOk1 Tryz.prog tyT 201 ⟨.other, 1, [.v (.nilFunc)], false, 8⟩ := ⟨⟨_, _, rfl, rfl, rfl, rfl, rfl, (by first | exact (fun _ => ⟨_, rfl⟩) | exact (fun h => by cases h)), (by first | exact (fun _ => rfl) | exact (fun h => by cases h))⟩, ⟨_, rfl, (fun _ h => by cases h), (fun _ _ h => by cases h)⟩, (fun fs h => by cases h),
  (fun h => by cases h)⟩
theorem ty203 : TyOk1 Tryz.prog tyT 203 ⟨.other, 1, [.v (.nilFunc)], false, 8⟩ := ⟨⟨_, _, rfl, rfl, rfl, rfl, rfl, (by first | exact (fun _ => ⟨_, rfl⟩) | exact (fun h => by cases h)), (by first | exact (fun _ => rfl) | exact (fun h => by cases h))⟩, ⟨_, rfl, (fun _ h => by cases h), (fun _ _ h => by cases h)⟩, (fun fs h => by cases h),
  (fun h => by cases h)⟩
theorem ty204 : TyOk1 Tryz.prog tyT 204 ⟨.other, 1, [.v (.nilFunc)], false, 8⟩ := ⟨⟨_, _, rfl, rfl, rfl, rfl, rfl, (by first | exact (fun _ => ⟨_, rfl⟩) | exact (fun h => by cases h)), (by first | exact (fun _ => rfl) | exact (fun h => by cases h))⟩, ⟨_, rfl, (fun _ h => by cases h), (fun _ _ h => by cases h)⟩, (fun fs h => by cases h),
  (fun h => by cases h)⟩
theorem ty206 : TyOk1 Tryz.prog tyT 206 ⟨.other, 1, [.v (.nilFunc)], false, 8⟩ := ⟨⟨_, _, rfl, rfl, rfl, rfl, rfl, (by first | exact (fun _ => ⟨_, rfl⟩) | exact (fun h => by cases h)), (by first | exact (fun _ => rfl) | exact (fun h => by cases h))⟩, ⟨_, rfl, (fun _ h => by cases h), (fun _ _ h => by cases h)⟩, (fun fs h => by cases h),
  (fun h => by cases h)⟩
theorem ty207 : TyOk1 Tryz.prog tyT 207 ⟨.other, 1, [.v (.nilFunc)], false, 8⟩ := ⟨⟨_, _, rfl, rfl, rfl, rfl, rfl, (by first | exact (fun _ => ⟨_, rfl⟩) | exact (fun h => by cases h)), (by first | exact (fun _ => rfl) | exact (fun h => by cases h))⟩, ⟨_, rfl, (fun _ h => by cases h), (fun _ _ h => by cases h)⟩, (fun fs h => by cases h),
  (fun h => by cases h)⟩
theorem ty209 : TyOk1 Tryz.prog tyT 209 ⟨.other, 1, [.v (.nilFunc)], false, 8⟩ := ⟨⟨_, _, rfl, rfl, rfl, rfl, rfl, (by first | exact (fun _ => ⟨_, rfl⟩) | exact (fun h => by cases h)), (by first | exact (fun _ => rfl) | exact (fun h => by cases h))⟩, ⟨_, rfl, (fun _ h => by cases h), (fun _ _ h => by cases h)⟩, (fun fs h => by cases h),
  (fun h => by cases h)⟩
theorem ty210 : TyOk1 Tryz.prog tyT 210 ⟨.other, 1, [.v (.nilFunc)], false, 8⟩ := ⟨⟨_, _, rfl, rfl, rfl, rfl, rfl, (by first | exact (fun _ => ⟨_, rfl⟩) | exact (fun h => by cases h)), (by first | exact (fun _ => rfl) | exact (fun h => by cases h))⟩, ⟨_, rfl, (fun _ h => by cases h), (fun _ _ h => by cases h)⟩, (fun fs h => by cases h),
  (fun h => by cases h)⟩
theorem ty211 : TyOk1 Tryz.prog tyT 211 ⟨.other, 1, [.v (.nilFunc)], false, 8⟩ := ⟨⟨_, _, rfl, rfl, rfl, rfl, rfl, (by first | exact (fun _ => ⟨_, rfl⟩) | exact (fun h => by cases h)), (by first | exact (fun _ => rfl) | exact (fun h => by cases h))⟩, ⟨_, rfl, (fun _ h => by cases h), (fun _ _ h => by cases h)⟩, (fun fs h => by cases h),
  (fun h => by cases h)⟩
theorem ty212 : TyOk1 Tryz.prog tyT 212 ⟨.other, 1, [.v (.nilFunc)], false, 8⟩ := ⟨⟨_, _, rfl, rfl, rfl, rfl, rfl, (by first | exact (fun _ => ⟨_, rfl⟩) | exact (fun h => by cases h)), (by first | exact (fun _ => rfl) | exact (fun h => by cases h))⟩, ⟨_, rfl, (fun _ h => by cases h), (fun _ _ h => by cases h)⟩, (fun fs h => by cases h),
  (fun h => by cases h)⟩
theorem ty213 : TyOk1 Tryz.prog tyT 213 ⟨.other, 1, [.v (.nilFunc)], false, 8⟩ := ⟨⟨_, _, rfl, rfl, rfl, rfl, rfl, (by first | exact (fun _ => ⟨_, rfl⟩) | exact (fun h => by cases h)), (by first | exact (fun _ => rfl) | exact (fun h => by cases h))⟩, ⟨_, rfl, (fun _ h => by cases h), (fun _ _ h => by cases h)⟩, (fun fs h => by cases h),
  (fun h => by cases h)⟩
theorem ty214 : TyOk1 Tryz.prog tyT 214 ⟨.other, 1, [.v (.nilFunc)], false, 8⟩ := ⟨⟨_, _, rfl, rfl, rfl, rfl, rfl, (by first | exact (fun _ => ⟨_, rfl⟩) | exact (fun h => by cases h)), (by first | exact (fun _ => rfl) | exact (fun h => by cases h))⟩, ⟨_, rfl, (fun _ h => by cases h), (fun _ _ h => by cases h)⟩, (fun fs h => by cases h),
  (fun h => by cases h)⟩
theorem ty215 : TyOk1 Tryz.prog tyT 215 ⟨.other, 1, [.v (.nilFunc)], false, 8⟩ := ⟨⟨_, _, rfl, rfl, rfl, rfl, rfl, (by first | exact (fun _ => ⟨_, rfl⟩) | exact (fun h => by cases h)), (by first | exact (fun _ => rfl) | exact (fun h => by cases h))⟩, ⟨_, rfl, (fun _ h => by cases h), (fun _ _ h => by cases h)⟩, (fun fs h => by cases h),
  (fun h => by cases h)⟩
theorem ty216 : TyOk1 Tryz.prog tyT 216 ⟨.slice 3, 1, [.sl 0 []], false, 24⟩ := ⟨⟨_, _, rfl, rfl, rfl, rfl, rfl, (by first | exact (fun _ => ⟨_, rfl⟩) | exact (fun h => by cases h)), (by first | exact (fun _ => rfl) | exact (fun h => by cases h))⟩, rfl, (fun fs h => by cases h),
  (fun h => by cases h)⟩
theorem ty218 : TyOk1 Tryz.prog tyT 218 ⟨.other, 1, [.v (.nilFunc)], false, 8⟩ := ⟨⟨_, _, rfl, rfl, rfl, rfl, rfl, (by first | exact (fun _ => ⟨_, rfl⟩) | exact (fun h => by cases h)), (by first | exact (fun _ => rfl) | exact (fun h => by cases h))⟩, ⟨_, rfl, (fun _ h => by cases h), (fun _ _ h => by cases h)⟩, (fun fs h => by cases h),
  (fun h => by cases h)⟩
theorem ty219 : TyOk1 Tryz.prog tyT 219 ⟨.other, 1, [.v (.nilFunc)], false, 8⟩ := ⟨⟨_, _, rfl, rfl, rfl, rfl, rfl, (by first | exact (fun _ => ⟨_, rfl⟩) | exact (fun h => by cases h)), (by first | exact (fun _ => rfl) | exact (fun h => by cases h))⟩, ⟨_, rfl, (fun _ h => by cases h), (fun _ _ h => by cases h)⟩, (fun fs h => by cases h),
  (fun h => by cases h)⟩
theorem ty220 : TyOk1 Tryz.prog tyT 220 ⟨.other, 1, [.v (.nilFunc)], false, 8⟩ := ⟨⟨_, _, rfl, rfl, rfl, rfl, rfl, (by first | exact (fun _ => ⟨_, rfl⟩) | exact (fun h => by cases h)), (by first | exact (fun _ => rfl) | exact (fun h => by cases h))⟩, ⟨_, rfl, (fun _ h => by cases h), (fun _ _ h => by cases h)⟩, (fun fs h => by cases h),
  (fun h => by cases h)⟩
theorem ty221 : TyOk1 Tryz.prog tyT 221 ⟨.other, 1, [.v (.nilFunc)], false, 8⟩ := ⟨⟨_, _, rfl, rfl, rfl, rfl, rfl, (by first | exact (fun _ => ⟨_, rfl⟩) | exact (fun h => by cases h)), (by first | exact (fun _ => rfl) | exact (fun h => by cases h))⟩, ⟨_, rfl, (fun _ h => by cases h), (fun _ _ h => by cases h)⟩, (fun fs h => by cases h),
  (fun h => by cases h)⟩
theorem ty223 : TyOk1 Tryz.prog tyT 223 ⟨.other, 1, [.v (.nilFunc)], false, 8⟩ := ⟨⟨_, _, rfl, rfl, rfl, rfl, rfl, (by first | exact (fun _ => ⟨_, rfl⟩) | exact (fun h => by cases h)), (by first | exact (fun _ => rfl) | exact (fun h => by cases h))⟩, ⟨_, rfl, (fun _ h => by cases h), (fun _ _ h => by cases h)⟩, (fun fs h => by cases h),
  (fun h => by cases h)⟩
theorem ty224 : TyOk1 Tryz.prog tyT 224 ⟨.other, 1, [.v (.nilFunc)], false, 8⟩ := ⟨⟨_, _, rfl, rfl, rfl, rfl, rfl, (by first | exact (fun _ => ⟨_, rfl⟩) | exact (fun h => by cases h)), (by first | exact (fun _ => rfl) | exact (fun h => by cases h))⟩, ⟨_, rfl, (fun _ h => by cases h), (fun _ _ h => by cases h)⟩, (fun fs h => by cases h),
  (fun h => by cases h)⟩
theorem ty225 : TyOk1 Tryz.prog tyT 225 ⟨.other, 1, [.v (.nilFunc)], false, 8⟩ := ⟨⟨_, _, rfl, rfl, rfl, rfl, rfl, (by first | exact (fun _ => ⟨_, rfl⟩) | exact (fun h => by cases h)), (by first | exact (fun _ => rfl) | exact (fun h => by cases h))⟩, ⟨_, rfl, (fun _ h => by cases h), (fun _ _ h => by cases h)⟩, (fun fs h => by cases h),
  (fun h => by cases h)⟩
theorem ty226 : TyOk1 Tryz.prog tyT 226 ⟨.int .i64, 1, [.v (.int .i64 0)], false, 8⟩ := ⟨⟨_, _, rfl, rfl, rfl, rfl, rfl, (by first | exact (fun _ => ⟨_, rfl⟩) | exact (fun h => by cases h)), (by first | exact (fun _ => rfl) | exact (fun h => by cases h))⟩, rfl, (fun fs h => by cases h),
  (fun h => by cases h)⟩
theorem ty227 : TyOk1 Tryz.prog tyT 227 ⟨.int .i64, 1, [.v (.int .i64 0)], false, 8⟩ := ⟨⟨_, _, rfl, rfl, rfl, rfl, rfl, (by first | exact (fun _ => ⟨_, rfl⟩) | exact (fun h => by cases h)), (by first | exact (fun _ => rfl) | exact (fun h => by cases h))⟩, rfl, (fun fs h => by cases h),
  (fun h => by cases h)⟩
theorem ty229 : TyOk1 Tryz.prog tyT 229 ⟨.other, 1, [.v (.nilFunc)], false, 8⟩ := ⟨⟨_, _, rfl, rfl, rfl, rfl, rfl, (by first | exact (fun _ => ⟨_, rfl⟩) | exact (fun h => by cases h)), (by first | exact (fun _ => rfl) | exact (fun h => by cases h))⟩, ⟨_, rfl, (fun _ h => by cases h), (fun _ _ h => by cases h)⟩, (fun fs h => by cases h),
  (fun h => by cases h)⟩
theorem ty230 : TyOk1 Tryz.prog tyT 230 ⟨.other, 1, [.v (.nilFunc)], false, 8⟩ := ⟨⟨_, _, rfl, rfl, rfl, rfl, rfl, (by first | exact (fun _ => ⟨_, rfl⟩) | exact (fun h => by cases h)), (by first | exact (fun _ => rfl) | exact (fun h => by cases h))⟩, ⟨_, rfl, (fun _ h => by cases h), (fun _ _ h => by cases h)⟩, (fun fs h => by cases h),
  (fun h => by cases h)⟩
theorem ty233 : TyOk1 Tryz.prog tyT 233 ⟨.other, 1, [.v (.nilFunc)], false, 8⟩ := ⟨⟨_, _, rfl, rfl, rfl, rfl, rfl, (by first | exact (fun _ => ⟨_, rfl⟩) | exact (fun h => by cases h)), (by first | exact (fun _ => rfl) | exact (fun h => by cases h))⟩, ⟨_, rfl, (fun _ h => by cases h), (fun _ _ h => by cases h)⟩, (fun fs h => by cases h),
  (fun h => by cases h)⟩
theorem ty234 : TyOk1 Tryz.prog tyT 234 ⟨.other, 1, [.v (.nilFunc)], false, 8⟩ := ⟨⟨_, _, rfl, rfl, rfl, rfl, rfl, (by first | exact (fun _ => ⟨_, rfl⟩) | exact (fun h => by cases h)), (by first | exact (fun _ => rfl) | exact (fun h => by cases h))⟩, ⟨_, rfl, (fun _ h => by cases h), (fun _ _ h => by cases h)⟩, (fun fs h => by cases h),
  (fun h => by cases h)⟩
theorem ty236 : TyOk1 Tryz.prog tyT 236 ⟨.other, 1, [.v (.nilFunc)], false, 8⟩ := ⟨⟨_, _, rfl, rfl, rfl, rfl, rfl, (by first | exact (fun _ => ⟨_, rfl⟩) | exact (fun h => by cases h)), (by first | exact (fun _ => rfl) | exact (fun h => by cases h))⟩, ⟨_, rfl, (fun _ h => by cases h), (fun _ _ h => by cases h)⟩, (fun fs h => by cases h),
  (fun h => by cases h)⟩
theorem ty237 : TyOk1 Tryz.prog tyT 237 ⟨.other, 1, [.v (.nilFunc)], false, 8⟩ := ⟨⟨_, _, rfl, rfl, rfl, rfl, rfl, (by first | exact (fun _ => ⟨_, rfl⟩) | exact (fun h => by cases h)), (by first | exact (fun _ => rfl) | exact (fun h => by cases h))⟩, ⟨_, rfl, (fun _ h => by cases h), (fun _ _ h => by cases h)⟩, (fun fs h => by cases h),
  (fun h => by cases h)⟩
theorem ty238 : TyOk1 Tryz.prog tyT 238 ⟨.struct [(0, 9), (1, 9), (2, 95)], 3, [.v (.string ⟨#[]⟩), .v (.string ⟨#[]⟩), .v (.nilIface)], false, 48⟩ := ⟨⟨_, _, rfl, rfl, rfl, rfl, rfl, (by first | exact (fun _ => ⟨_, rfl⟩) | exact (fun h => by cases h)), (by first | exact (fun _ => rfl) | exact (fun h => by cases h))⟩, ⟨_, rfl, rfl⟩, (fun fs h => by injection h with h; subst h; intro p hp; revert p; simp only [List.forall_mem_cons, List.not_mem_nil, false_implies, implies_true, and_true]; first | rfl | (repeat' apply And.intro) <;> rfl),
  (fun h => by cases h)⟩
theorem ty239 : TyOk1 Tryz.prog tyT 239 ⟨.struct [(0, 9), (1, 9), (2, 95)], 3, [.v (.string ⟨#[]⟩), .v (.string ⟨#[]⟩), .v (.nilIface)], false, 48⟩ := ⟨⟨_, _, rfl, rfl, rfl, rfl, rfl, (by first | exact (fun _ => ⟨_, rfl⟩) | exact (fun h => by cases h)), (by first | exact (fun _ => rfl) | exact (fun h => by cases h))⟩, ⟨_, rfl, rfl⟩, (fun fs h => by injection h with h; subst h; intro p hp; revert p; simp only [List.forall_mem_cons, List.not_mem_nil, false_implies, implies_true, and_true]; first | rfl | (repeat' apply And.intro) <;> rfl),
  (fun h => by cases h)⟩
theorem ty240 : TyOk1 Tryz.prog tyT 240 ⟨.other, 1, [.v (.nilFunc)], false, 8⟩ := ⟨⟨_, _, rfl, rfl, rfl, rfl, rfl, (by first | exact (fun _ => ⟨_, rfl⟩) | exact (fun h => by cases h)), (by first | exact (fun _ => rfl) | exact (fun h => by cases h))⟩, ⟨_, rfl, (fun _ h => by cases h), (fun _ _ h => by cases h)⟩, (fun fs h => by cases h),
  (fun h => by cases h)⟩
theorem ty241 : TyOk1 Tryz.prog tyT 241 ⟨.other, 1, [.v (.nilFunc)], false, 8⟩ := ⟨⟨_, _, rfl, rfl, rfl, rfl, rfl, (by first | exact (fun _ => ⟨_, rfl⟩) | exact (fun h => by cases h)), (by first | exact (fun _ => rfl) | exact (fun h => by cases h))⟩, ⟨_, rfl, (fun _ h => by cases h), (fun _ _ h => by cases h)⟩, (fun fs h => by cases h),
  (fun h => by cases h)⟩
theorem ty242 : TyOk1 Tryz.prog tyT 242 ⟨.other, 1, [.v (.nilFunc)], false, 8⟩ := ⟨⟨_, _, rfl, rfl, rfl, rfl, rfl, (by first | exact (fun _ => ⟨_, rfl⟩) | exact (fun h => by cases h)), (by first | exact (fun _ => rfl) | exact (fun h => by cases h))⟩, ⟨_, rfl, (fun _ h => by cases h), (fun _ _ h => by cases h)⟩, (fun fs h => by cases h),
  (fun h => by cases h)⟩
theorem ty243 : TyOk1 Tryz.prog tyT 243 ⟨.arr 4 58, 4, [.v (.int .u64 0), .v (.int .u64 0), .v (.int .u64 0), .v (.int .u64 0)], false, 32⟩ := ⟨⟨_, _, rfl, rfl, rfl, rfl, rfl, (by first | exact (fun _ => ⟨_, rfl⟩) | exact (fun h => by cases h)), (by first | exact (fun _ => rfl) | exact (fun h => by cases h))⟩, rfl, (fun fs h => by cases h),
  (fun h => by cases h)⟩
theorem ty244 : TyOk1 Tryz.prog tyT 244 ⟨.other, 1, [.v (.nilFunc)], false, 8⟩ := ⟨⟨_, _, rfl, rfl, rfl, rfl, rfl, (by first | exact (fun _ => ⟨_, rfl⟩) | exact (fun h => by cases h)), (by first | exact (fun _ => rfl) | exact (fun h => by cases h))⟩, ⟨_, rfl, (fun _ h => by cases h), (fun _ _ h => by cases h)⟩, (fun fs h => by cases h),
  (fun h => by cases h)⟩
theorem ty245 : TyOk1 Tryz.prog tyT 245 ⟨.other, 1, [.v (.nilFunc)], false, 8⟩ := ⟨⟨_, _, rfl, rfl, rfl, rfl, rfl, (by first | exact (fun _ => ⟨_, rfl⟩) | exact (fun h => by cases h)), (by first | exact (fun _ => rfl) | exact (fun h => by cases h))⟩, ⟨_, rfl, (fun _ h => by cases h), (fun _ _ h => by cases h)⟩, (fun fs h => by cases h),
  (fun h => by cases h)⟩
theorem ty247 : TyOk1 Tryz.prog tyT 247 ⟨.other, 1, [.v (.nilFunc)], false, 8⟩ := ⟨⟨_, _, rfl, rfl, rfl, rfl, rfl, (by first | exact (fun _ => ⟨_, rfl⟩) | exact (fun h => by cases h)), (by first | exact (fun _ => rfl) | exact (fun h => by cases h))⟩, ⟨_, rfl, (fun _ h => by cases h), (fun _ _ h => by cases h)⟩, (fun fs h => by cases h),
  (fun h => by cases h)⟩
theorem ty248 : TyOk1 Tryz.prog tyT 248 ⟨.other, 1, [.v (.nilFunc)], false, 8⟩ := ⟨⟨_, _, rfl, rfl, rfl, rfl, rfl, (by first | exact (fun _ => ⟨_, rfl⟩) | exact (fun h => by cases h)), (by first | exact (fun _ => rfl) | exact (fun h => by cases h))⟩, ⟨_, rfl, (fun _ h => by cases h), (fun _ _ h => by cases h)⟩, (fun fs h => by cases h),
  (fun h => by cases h)⟩
theorem ty249 : TyOk1 Tryz.prog tyT 249 ⟨.int .u32, 1, [.v (.int .u32 0)], false, 4⟩ := ⟨⟨_, _, rfl, rfl, rfl, rfl, rfl, (by first | exact (fun _ => ⟨_, rfl⟩) | exact (fun h => by cases h)), (by first | exact (fun _ => rfl) | exact (fun h => by cases h))⟩, rfl, (fun fs h => by cases h),
  (fun h => by cases h)⟩
theorem ty251 : TyOk1 Tryz.prog tyT 251 ⟨.other, 1, [.v (.nilFunc)], false, 8⟩ := ⟨⟨_, _, rfl, rfl, rfl, rfl, rfl, (by first | exact (fun _ => ⟨_, rfl⟩) | exact (fun h => by cases h)), (by first | exact (fun _ => rfl) | exact (fun h => by cases h))⟩, ⟨_, rfl, (fun _ h => by cases h), (fun _ _ h => by cases h)⟩, (fun fs h => by cases h),
  (fun h => by cases h)⟩
theorem ty252 : TyOk1 Tryz.prog tyT 252 ⟨.other, 1, [.v (.nilFunc)], false, 8⟩ := ⟨⟨_, _, rfl, rfl, rfl, rfl, rfl, (by first | exact (fun _ => ⟨_, rfl⟩) | exact (fun h => by cases h)), (by first | exact (fun _ => rfl) | exact (fun h => by cases h))⟩, ⟨_, rfl, (fun _ h => by cases h), (fun _ _ h => by cases h)⟩, (fun fs h => by cases h),
  (fun h => by cases h)⟩
theorem ty253 : TyOk1 Tryz.prog tyT 253 ⟨.other, 1, [.v (.pointer none)], false, 8⟩ := ⟨⟨_, _, rfl, rfl, rfl, rfl, rfl, (by first | exact (fun _ => ⟨_, rfl⟩) | exact (fun h => by cases h)), (by first | exact (fun _ => rfl) | exact (fun h => by cases h))⟩, ⟨_, rfl, (fun _ h => by cases h), (fun _ _ h => by cases h)⟩, (fun fs h => by cases h),
  (fun h => by cases h)⟩
theorem ty254 : TyOk1 Tryz.prog tyT 254 ⟨.other, 1, [.v (.pointer none)], false, 8⟩ := ⟨⟨_, _, rfl, rfl, rfl, rfl, rfl, (by first | exact (fun _ => ⟨_, rfl⟩) | exact (fun h => by cases h)), (by first | exact (fun _ => rfl) | exact (fun h => by cases h))⟩, ⟨_, rfl, (fun _ h => by cases h), (fun _ _ h => by cases h)⟩, (fun fs h => by cases h),
  (fun h => by cases h)⟩
theorem ty255 : TyOk1 Tryz.prog tyT 255 ⟨.struct [(0, 9)], 1, [.v (.string ⟨#[]⟩)], true, 16⟩ := ⟨⟨_, _, rfl, rfl, rfl, rfl, rfl, (by first | exact (fun _ => ⟨_, rfl⟩) | exact (fun h => by cases h)), (by first | exact (fun _ => rfl) | exact (fun h => by cases h))⟩, ⟨_, rfl, rfl⟩, (fun fs h => by injection h with h; subst h; intro p hp; revert p; simp only [List.forall_mem_cons, List.not_mem_nil, false_implies, implies_true, and_true]; first | rfl | (repeat' apply And.intro) <;> rfl),
  (fun _ => ⟨(by first | exact Tryz.stoodInHeld255 | kernel_rfl), (by first | exact Tryz.eqGuardType255 | kernel_rfl), (fun fields h => by first | (injection h with h; injection h with h; subst h; simp; done) | (cases h))⟩)⟩
theorem ty256 : TyOk1 Tryz.prog tyT 256 ⟨.struct [(0, 9)], 1, [.v (.string ⟨#[]⟩)], true, 16⟩ := ⟨⟨_, _, rfl, rfl, rfl, rfl, rfl, (by first | exact (fun _ => ⟨_, rfl⟩) | exact (fun h => by cases h)), (by first | exact (fun _ => rfl) | exact (fun h => by cases h))⟩, ⟨_, rfl, rfl⟩, (fun fs h => by injection h with h; subst h; intro p hp; revert p; simp only [List.forall_mem_cons, List.not_mem_nil, false_implies, implies_true, and_true]; first | rfl | (repeat' apply And.intro) <;> rfl),
  (fun _ => ⟨(by first | exact Tryz.stoodInHeld256 | kernel_rfl), (by first | exact Tryz.eqGuardType256 | kernel_rfl), (fun fields h => by first | (injection h with h; injection h with h; subst h; simp; done) | (cases h))⟩)⟩
theorem ty257 : TyOk1 Tryz.prog tyT 257 ⟨.other, 1, [.v (.nilFunc)], false, 8⟩ := ⟨⟨_, _, rfl, rfl, rfl, rfl, rfl, (by first | exact (fun _ => ⟨_, rfl⟩) | exact (fun h => by cases h)), (by first | exact (fun _ => rfl) | exact (fun h => by cases h))⟩, ⟨_, rfl, (fun _ h => by cases h), (fun _ _ h => by cases h)⟩, (fun fs h => by cases h),
  (fun h => by cases h)⟩
theorem ty258 : TyOk1 Tryz.prog tyT 258 ⟨.other, 1, [.v (.nilFunc)], false, 8⟩ := ⟨⟨_, _, rfl, rfl, rfl, rfl, rfl, (by first | exact (fun _ => ⟨_, rfl⟩) | exact (fun h => by cases h)), (by first | exact (fun _ => rfl) | exact (fun h => by cases h))⟩, ⟨_, rfl, (fun _ h => by cases h), (fun _ _ h => by cases h)⟩, (fun fs h => by cases h),
  (fun h => by cases h)⟩
theorem ty259 : TyOk1 Tryz.prog tyT 259 ⟨.other, 1, [.v (.nilFunc)], false, 8⟩ := ⟨⟨_, _, rfl, rfl, rfl, rfl, rfl, (by first | exact (fun _ => ⟨_, rfl⟩) | exact (fun h => by cases h)), (by first | exact (fun _ => rfl) | exact (fun h => by cases h))⟩, ⟨_, rfl, (fun _ h => by cases h), (fun _ _ h => by cases h)⟩, (fun fs h => by cases h),
  (fun h => by cases h)⟩
theorem ty260 : TyOk1 Tryz.prog tyT 260 ⟨.other, 1, [.v (.nilFunc)], false, 8⟩ := ⟨⟨_, _, rfl, rfl, rfl, rfl, rfl, (by first | exact (fun _ => ⟨_, rfl⟩) | exact (fun h => by cases h)), (by first | exact (fun _ => rfl) | exact (fun h => by cases h))⟩, ⟨_, rfl, (fun _ h => by cases h), (fun _ _ h => by cases h)⟩, (fun fs h => by cases h),
  (fun h => by cases h)⟩
theorem ty261 : TyOk1 Tryz.prog tyT 261 ⟨.arr 24 5, 24, [.v (.int .u8 0), .v (.int .u8 0), .v (.int .u8 0), .v (.int .u8 0), .v (.int .u8 0), .v (.int .u8 0), .v (.int .u8 0), .v (.int .u8 0), .v (.int .u8 0), .v (.int .u8 0), .v (.int .u8 0), .v (.int .u8 0), .v (.int .u8 0), .v (.int .u8 0), .v (.int .u8 0), .v (.int .u8 0), .v (.int .u8 0), .v (.int .u8 0), .v (.int .u8 0), .v (.int .u8 0), .v (.int .u8 0), .v (.int .u8 0), .v (.int .u8 0), .v (.int .u8 0)], false, 24⟩ := ⟨⟨_, _, rfl, rfl, rfl, rfl, rfl, (by first | exact (fun _ => ⟨_, rfl⟩) | exact (fun h => by cases h)), (by first | exact (fun _ => rfl) | exact (fun h => by cases h))⟩, rfl, (fun fs h => by cases h),
  (fun h => by cases h)⟩
theorem ty262 : TyOk1 Tryz.prog tyT 262 ⟨.other, 1, [.v (.nilFunc)], false, 8⟩ := ⟨⟨_, _, rfl, rfl, rfl, rfl, rfl, (by first | exact (fun _ => ⟨_, rfl⟩) | exact (fun h => by cases h)), (by first | exact (fun _ => rfl) | exact (fun h => by cases h))⟩, ⟨_, rfl, (fun _ h => by cases h), (fun _ _ h => by cases h)⟩, (fun fs h => by cases h),
  (fun h => by cases h)⟩
theorem ty264 : TyOk1 Tryz.prog tyT 264 ⟨.other, 1, [.v (.nilFunc)], false, 8⟩ := ⟨⟨_, _, rfl, rfl, rfl, rfl, rfl, (by first | exact (fun _ => ⟨_, rfl⟩) | exact (fun h => by cases h)), (by first | exact (fun _ => rfl) | exact (fun h => by cases h))⟩, ⟨_, rfl, (fun _ h => by cases h), (fun _ _ h => by cases h)⟩, (fun fs h => by cases h),
  (fun h => by cases h)⟩
theorem ty265 : TyOk1 Tryz.prog tyT 265 ⟨.other, 1, [.v (.nilFunc)], false, 8⟩ := ⟨⟨_, _, rfl, rfl, rfl, rfl, rfl, (by first | exact (fun _ => ⟨_, rfl⟩) | exact (fun h => by cases h)), (by first | exact (fun _ => rfl) | exact (fun h => by cases h))⟩, ⟨_, rfl, (fun _ h => by cases h), (fun _ _ h => by cases h)⟩, (fun fs h => by cases h),
  (fun h => by cases h)⟩
theorem ty266 : TyOk1 Tryz.prog tyT 266 ⟨.arr 20 58, 20, [.v (.int .u64 0), .v (.int .u64 0), .v (.int .u64 0), .v (.int .u64 0), .v (.int .u64 0), .v (.int .u64 0), .v (.int .u64 0), .v (.int .u64 0), .v (.int .u64 0), .v (.int .u64 0), .v (.int .u64 0), .v (.int .u64 0), .v (.int .u64 0), .v (.int .u64 0), .v (.int .u64 0), .v (.int .u64 0), .v (.int .u64 0), .v (.int .u64 0), .v (.int .u64 0), .v (.int .u64 0)], false, 160⟩ := ⟨⟨_, _, rfl, rfl, rfl, rfl, rfl, (by first | exact (fun _ => ⟨_, rfl⟩) | exact (fun h => by cases h)), (by first | exact (fun _ => rfl) | exact (fun h => by cases h))⟩, rfl, (fun fs h => by cases h),
  (fun h => by cases h)⟩
theorem ty268 : TyOk1 Tryz.prog tyT 268 ⟨.other, 1, [.v (.nilFunc)], false, 8⟩ := ⟨⟨_, _, rfl, rfl, rfl, rfl, rfl, (by first | exact (fun _ => ⟨_, rfl⟩) | exact (fun h => by cases h)), (by first | exact (fun _ => rfl) | exact (fun h => by cases h))⟩, ⟨_, rfl, (fun _ h => by cases h), (fun _ _ h => by cases h)⟩, (fun fs h => by cases h),
  (fun h => by cases h)⟩
theorem ty269 : TyOk1 Tryz.prog tyT 269 ⟨.other, 1, [.v (.nilFunc)], false, 8⟩ := ⟨⟨_, _, rfl, rfl, rfl, rfl, rfl, (by first | exact (fun _ => ⟨_, rfl⟩) | exact (fun h => by cases h)), (by first | exact (fun _ => rfl) | exact (fun h => by cases h))⟩, ⟨_, rfl, (fun _ h => by cases h), (fun _ _ h => by cases h)⟩, (fun fs h => by cases h),
  (fun h => by cases h)⟩
theorem ty270 : TyOk1 Tryz.prog tyT 270 ⟨.arr 32 5, 32, [.v (.int .u8 0), .v (.int .u8 0), .v (.int .u8 0), .v (.int .u8 0), .v (.int .u8 0), .v (.int .u8 0), .v (.int .u8 0), .v (.int .u8 0), .v (.int .u8 0), .v (.int .u8 0), .v (.int .u8 0), .v (.int .u8 0), .v (.int .u8 0), .v (.int .u8 0), .v (.int .u8 0), .v (.int .u8 0), .v (.int .u8 0), .v (.int .u8 0), .v (.int .u8 0), .v (.int .u8 0), .v (.int .u8 0), .v (.int .u8 0), .v (.int .u8 0), .v (.int .u8 0), .v (.int .u8 0), .v (.int .u8 0), .v (.int .u8 0), .v (.int .u8 0), .v (.int .u8 0), .v (.int .u8 0), .v (.int .u8 0), .v (.int .u8 0)], false, 32⟩ := ⟨⟨_, _, rfl, rfl, rfl, rfl, rfl, (by first | exact (fun _ => ⟨_, rfl⟩) | exact (fun h => by cases h)), (by first | exact (fun _ => rfl) | exact (fun h => by cases h))⟩, rfl, (fun fs h => by cases h),
  (fun h => by cases h)⟩
theorem ty271 : TyOk1 Tryz.prog tyT 271 ⟨.arr 64 5, 64, [.v (.int .u8 0), .v (.int .u8 0), .v (.int .u8 0), .v (.int .u8 0), .v (.int .u8 0), .v (.int .u8 0), .v (.int .u8 0), .v (.int .u8 0), .v (.int .u8 0), .v (.int .u8 0), .v (.int .u8 0), .v (.int .u8 0), .v (.int .u8 0), .v (.int .u8 0), .v (.int .u8 0), .v (.int .u8 0), .v (.int .u8 0), .v (.int .u8 0), .v (.int .u8 0), .v (.int .u8 0), .v (.int .u8 0), .v (.int .u8 0), .v (.int .u8 0), .v (.int .u8 0), .v (.int .u8 0), .v (.int .u8 0), .v (.int .u8 0), .v (.int .u8 0), .v (.int .u8 0), .v (.int .u8 0), .v (.int .u8 0), .v (.int .u8 0), .v (.int .u8 0), .v (.int .u8 0), .v (.int .u8 0), .v (.int .u8 0), .v (.int .u8 0), .v (.int .u8 0), .v (.int .u8 0), .v (.int .u8 0), .v (.int .u8 0), .v (.int .u8 0), .v (.int .u8 0), .v (.int .u8 0), .v (.int .u8 0), .v (.int .u8 0), .v (.int .u8 0), .v (.int .u8 0), .v (.int .u8 0), .v (.int .u8 0), .v (.int .u8 0), .v (.int .u8 0), .v (.int .u8 0), .v (.int .u8 0), .v (.int .u8 0), .v (.int .u8 0), .v (.int .u8 0), .v (.int .u8 0), .v (.int .u8 0), .v (.int .u8 0), .v (.int .u8 0), .v (.int .u8 0), .v (.int .u8 0), .v (.int .u8 0)], false, 64⟩ := ⟨⟨_, _, rfl, rfl, rfl, rfl, rfl, (by first | exact (fun _ => ⟨_, rfl⟩) | exact (fun h => by cases h)), (by first | exact (fun _ => rfl) | exact (fun h => by cases h))⟩, rfl, (fun fs h => by cases h),
  (fun h => by cases h)⟩
theorem ty272 : TyOk1 Tryz.prog tyT 272 ⟨.other, 1, [.v (.nilFunc)], false, 8⟩ := ⟨⟨_, _, rfl, rfl, rfl, rfl, rfl, (by first | exact (fun _ => ⟨_, rfl⟩) | exact (fun h => by cases h)), (by first | exact (fun _ => rfl) | exact (fun h => by cases h))⟩, ⟨_, rfl, (fun _ h => by cases h), (fun _ _ h => by cases h)⟩, (fun fs h => by cases h),
  (fun h => by cases h)⟩
theorem ty273 : TyOk1 Tryz.prog tyT 273 ⟨.struct [(0, 17), (1, 17), (2, 17), (3, 9)], 4, [.v (.pointer none), .v (.pointer none), .v (.pointer none), .v (.string ⟨#[]⟩)], false, 40⟩ := ⟨⟨_, _, rfl, rfl, rfl, rfl, rfl, (by first | exact (fun _ => ⟨_, rfl⟩) | exact (fun h => by cases h)), (by first | exact (fun _ => rfl) | exact (fun h => by cases h))⟩, ⟨_, rfl, rfl⟩, (fun fs h => by injection h with h; subst h; intro p hp; revert p; simp only [List.forall_mem_cons, List.not_mem_nil, false_implies, implies_true, and_true]; first | rfl | (repeat' apply And.intro) <;> rfl),
  (fun h => by cases h)⟩
theorem ty274 : TyOk1 Tryz.prog tyT 274 ⟨.struct [(0, 17), (1, 17), (2, 17), (3, 9)], 4, [.v (.pointer none), .v (.pointer none), .v (.pointer none), .v (.string ⟨#[]⟩)], false, 40⟩ := ⟨⟨_, _, rfl, rfl, rfl, rfl, rfl, (by first | exact (fun _ => ⟨_, rfl⟩) | exact (fun h => by cases h)), (by first | exact (fun _ => rfl) | exact (fun h => by cases h))⟩, ⟨_, rfl, rfl⟩, (fun fs h => by injection h with h; subst h; intro p hp; revert p; simp only [List.forall_mem_cons, List.not_mem_nil, false_implies, implies_true, and_true]; first | rfl | (repeat' apply And.intro) <;> rfl),
  (fun h => by cases h)⟩
theorem ty275 : TyOk1 Tryz.prog tyT 275 ⟨.arr 0 16, 0, [], false, 0⟩ := ⟨⟨_, _, rfl, rfl, rfl, rfl, rfl, (by first | exact (fun _ => ⟨_, rfl⟩) | exact (fun h => by cases h)), (by first | exact (fun _ => rfl) | exact (fun h => by cases h))⟩, rfl, (fun fs h => by cases h),
  (fun h => by cases h)⟩
theorem ty276 : TyOk1 Tryz.prog tyT 276 ⟨.struct [(0, 275)], 0, [], false, 0⟩ := ⟨⟨_, _, rfl, rfl, rfl, rfl, rfl, (by first | exact (fun _ => ⟨_, rfl⟩) | exact (fun h => by cases h)), (by first | exact (fun _ => rfl) | exact (fun h => by cases h))⟩, ⟨_, rfl, rfl⟩, (fun fs h => by injection h with h; subst h; intro p hp; revert p; simp only [List.forall_mem_cons, List.not_mem_nil, false_implies, implies_true, and_true]; first | rfl | (repeat' apply And.intro) <;> rfl),
  (fun h => by cases h)⟩
theorem ty277 : TyOk1 Tryz.prog tyT 277 ⟨.struct [(0, 275)], 0, [], false, 0⟩ := ⟨⟨_, _, rfl, rfl, rfl, rfl, rfl, (by first | exact (fun _ => ⟨_, rfl⟩) | exact (fun h => by cases h)), (by first | exact (fun _ => rfl) | exact (fun h => by cases h))⟩, ⟨_, rfl, rfl⟩, (fun fs h => by injection h with h; subst h; intro p hp; revert p; simp only [List.forall_mem_cons, List.not_mem_nil, false_implies, implies_true, and_true]; first | rfl | (repeat' apply And.intro) <;> rfl),
  (fun h => by cases h)⟩
theorem ty278 : TyOk1 Tryz.prog tyT 278 ⟨.int .u8, 1, [.v (.int .u8 0)], false, 1⟩ := ⟨⟨_, _, rfl, rfl, rfl, rfl, rfl, (by first | exact (fun _ => ⟨_, rfl⟩) | exact (fun h => by cases h)), (by first | exact (fun _ => rfl) | exact (fun h => by cases h))⟩, rfl, (fun fs h => by cases h),
  (fun h => by cases h)⟩
theorem ty279 : TyOk1 Tryz.prog tyT 279 ⟨.int .u8, 1, [.v (.int .u8 0)], false, 1⟩ := ⟨⟨_, _, rfl, rfl, rfl, rfl, rfl, (by first | exact (fun _ => ⟨_, rfl⟩) | exact (fun h => by cases h)), (by first | exact (fun _ => rfl) | exact (fun h => by cases h))⟩, rfl, (fun fs h => by cases h),
  (fun h => by cases h)⟩
theorem ty280 : TyOk1 Tryz.prog tyT 280 ⟨.other, 1, [.v (.nilFunc)], false, 8⟩ := ⟨⟨_, _, rfl, rfl, rfl, rfl, rfl, (by first | exact (fun _ => ⟨_, rfl⟩) | exact (fun h => by cases h)), (by first | exact (fun _ => rfl) | exact (fun h => by cases h))⟩, ⟨_, rfl, (fun _ h => by cases h), (fun _ _ h => by cases h)⟩, (fun fs h => by cases h),
  (fun h => by cases h)⟩
theorem ty281 : TyOk1 Tryz.prog tyT 281 ⟨.int .i32, 1, [.v (.int .i32 0)], false, 4⟩ := ⟨⟨_, _, rfl, rfl, rfl, rfl, rfl, (by first | exact (fun _ => ⟨_, rfl⟩) | exact (fun h => by cases h)), (by first | exact (fun _ => rfl) | exact (fun h => by cases h))⟩, rfl, (fun fs h => by cases h),
  (fun h => by cases h)⟩
theorem ty282 : TyOk1 Tryz.prog tyT 282 ⟨.int .i32, 1, [.v (.int .i32 0)], false, 4⟩ := ⟨⟨_, _, rfl, rfl, rfl, rfl, rfl, (by first | exact (fun _ => ⟨_, rfl⟩) | exact (fun h => by cases h)), (by first | exact (fun _ => rfl) | exact (fun h => by cases h))⟩, rfl, (fun fs h => by cases h),
  (fun h => by cases h)⟩
theorem ty283 : TyOk1 Tryz.prog tyT 283 ⟨.struct [(0, 12), (1, 12), (2, 249), (3, 278), (4, 5), (5, 5), (6, 279), (7, 280), (8, 253), (9, 281), (10, 282)], 11, [.v (.int .u64 0), .v (.int .u64 0), .v (.int .u32 0), .v (.int .u8 0), .v (.int .u8 0), .v (.int .u8 0), .v (.int .u8 0), .v (.nilFunc), .v (.pointer none), .v (.int .i32 0), .v (.int .i32 0)], false, 48⟩ := ⟨⟨_, _, rfl, rfl, rfl, rfl, rfl, (by first | exact (fun _ => ⟨_, rfl⟩) | exact (fun h => by cases h)), (by first | exact (fun _ => rfl) | exact (fun h => by cases h))⟩, ⟨_, rfl, rfl⟩, (fun fs h => by injection h with h; subst h; intro p hp; revert p; simp only [List.forall_mem_cons, List.not_mem_nil, false_implies, implies_true, and_true]; first | rfl | (repeat' apply And.intro) <;> rfl),
  (fun h => by cases h)⟩
theorem ty284 : TyOk1 Tryz.prog tyT 284 ⟨.struct [(0, 12), (1, 12), (2, 249), (3, 278), (4, 5), (5, 5), (6, 279), (7, 280), (8, 253), (9, 281), (10, 282)], 11, [.v (.int .u64 0), .v (.int .u64 0), .v (.int .u32 0), .v (.int .u8 0), .v (.int .u8 0), .v (.int .u8 0), .v (.int .u8 0), .v (.nilFunc), .v (.pointer none), .v (.int .i32 0), .v (.int .i32 0)], false, 48⟩ := ⟨⟨_, _, rfl, rfl, rfl, rfl, rfl, (by first | exact (fun _ => ⟨_, rfl⟩) | exact (fun h => by cases h)), (by first | exact (fun _ => rfl) | exact (fun h => by cases h))⟩, ⟨_, rfl, rfl⟩, (fun fs h => by injection h with h; subst h; intro p hp; revert p; simp only [List.forall_mem_cons, List.not_mem_nil, false_implies, implies_true, and_true]; first | rfl | (repeat' apply And.intro) <;> rfl),
  (fun h => by cases h)⟩
theorem ty285 : TyOk1 Tryz.prog tyT 285 ⟨.other, 1, [.v (.pointer none)], false, 8⟩ := ⟨⟨_, _, rfl, rfl, rfl, rfl, rfl, (by first | exact (fun _ => ⟨_, rfl⟩) | exact (fun h => by cases h)), (by first | exact (fun _ => rfl) | exact (fun h => by cases h))⟩, ⟨_, rfl, (fun _ h => by cases h), (fun _ _ h => by cases h)⟩, (fun fs h => by cases h),
  (fun h => by cases h)⟩
theorem tyOk : TyOk Tryz.prog tyT := tyOk_of (by
  simp only [tyL, List.forall_mem_cons, List.not_mem_nil, false_implies, implies_true, and_true]
  exact ⟨ty1, ty2, ty3, ty4, ty5, ty6, ty7, ty8, ty9, ty10, ty11, ty12, ty13, ty14, ty15, ty16, ty17, ty18, ty19, ty20, ty21, ty22, ty23, ty24, ty25, ty26, ty27, ty28, ty29, ty30, ty31, ty32, ty33, ty34, ty35, ty36, ty37, ty38, ty39, ty40, ty41, ty42, ty43, ty44, ty45, ty46, ty48, ty49, ty50, ty51, ty52, ty53, ty54, ty55, ty56, ty57, ty58, ty59, ty60, ty61, ty62, ty64, ty65, ty66, ty67, ty68, ty70, ty71, ty73, ty74, ty75, ty76, ty77, ty78, ty80, ty82, ty83, ty84, ty85, ty86, ty88, ty89, ty90, ty91, ty93, ty94, ty95, ty97, ty98, ty99, ty100, ty102, ty103, ty104, ty105, ty106, ty107, ty108, ty109, ty111, ty112, ty116, ty117, ty118, ty119, ty121, ty122, ty123, ty124, ty126, ty127, ty128, ty129, ty131, ty132, ty133, ty134, ty136, ty137, ty138, ty139, ty140, ty144, ty145, ty146, ty148, ty150, ty151, ty152, ty153, ty154, ty156, ty157, ty158, ty159, ty160, ty161, ty162, ty163, ty164, ty165, ty166, ty167, ty168, ty169, ty171, ty172, ty174, ty175, ty176, ty177, ty178, ty180, ty182, ty183, ty184, ty186, ty188, ty189, ty190, ty191, ty193, ty194, ty195, ty196, ty197, ty198, ty200, ty201, ty203, ty204, ty206, ty207, ty209, ty210, ty211, ty212, ty213, ty214, ty215, ty216, ty218, ty219, ty220, ty221, ty223, ty224, ty225, ty226, ty227, ty229, ty230, ty233, ty234, ty236, ty237, ty238, ty239, ty240, ty241, ty242, ty243, ty244, ty245, ty247, ty248, ty249, ty251, ty252, ty253, ty254, ty255, ty256, ty257, ty258, ty259, ty260, ty261, ty262, ty264, ty265, ty266, ty268, ty269, ty270, ty271, ty272, ty273, ty274, ty275, ty276, ty277, ty278, ty279, ty280, ty281, ty282, ty283, ty284, ty285⟩)
end Go.Proofs.YtpambeengdhhmaaGreatDoor
