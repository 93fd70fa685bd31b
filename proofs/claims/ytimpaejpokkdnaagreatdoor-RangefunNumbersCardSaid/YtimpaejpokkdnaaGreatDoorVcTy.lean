/-
  The types of the program, as the reckoning asks for them: printed by wip/TyGen.lean.
-/
import Derived.Test.YtimpaejpokkdnaaGreatDoorVcV
namespace Go.Proofs.YtimpaejpokkdnaaGreatDoor
set_option linter.unusedVariables false
set_option maxRecDepth 100000
def tyL : List (Nat × TI) := [
  (1, ⟨.other, 1, [.v (.nilFunc)], false, 8⟩),
  (2, ⟨.int .i64, 1, [.v (.int .i64 0)], false, 8⟩),
  (3, ⟨.int .i64, 1, [.v (.int .i64 0)], false, 8⟩),
  (4, ⟨.bool, 1, [.v (.bool false)], false, 1⟩),
  (5, ⟨.int .u8, 1, [.v (.int .u8 0)], false, 1⟩),
  (6, ⟨.int .u8, 1, [.v (.int .u8 0)], false, 1⟩),
  (7, ⟨.struct [(0, 2), (1, 3), (2, 4), (3, 6)], 4, [.v (.int .i64 0), .v (.int .i64 0), .v (.bool false), .v (.int .u8 0)], true, 24⟩),
  (8, ⟨.struct [(0, 2), (1, 3), (2, 4), (3, 6)], 4, [.v (.int .i64 0), .v (.int .i64 0), .v (.bool false), .v (.int .u8 0)], true, 24⟩),
  (9, ⟨.str, 1, [.v (.string ⟨#[]⟩)], false, 16⟩),
  (10, ⟨.str, 1, [.v (.string ⟨#[]⟩)], false, 16⟩),
  (11, ⟨.str, 1, [.v (.string ⟨#[]⟩)], false, 16⟩),
  (12, ⟨.int .u64, 1, [.v (.int .u64 0)], false, 8⟩),
  (13, ⟨.struct [(0, 9), (1, 12)], 2, [.v (.string ⟨#[]⟩), .v (.int .u64 0)], false, 24⟩),
  (14, ⟨.struct [(0, 9), (1, 12)], 2, [.v (.string ⟨#[]⟩), .v (.int .u64 0)], false, 24⟩),
  (15, ⟨.other, 1, [.v (.pointer none)], false, 8⟩),
  (16, ⟨.other, 1, [.v (.pointer none)], false, 8⟩),
  (17, ⟨.other, 1, [.v (.pointer none)], false, 8⟩),
  (18, ⟨.struct [(0, 17)], 1, [.v (.pointer none)], false, 8⟩),
  (19, ⟨.struct [(0, 17)], 1, [.v (.pointer none)], false, 8⟩),
  (20, ⟨.other, 1, [.v (.nilIface)], false, 16⟩),
  (21, ⟨.int .i32, 1, [.v (.int .i32 0)], false, 4⟩),
  (22, ⟨.int .i16, 1, [.v (.int .i16 0)], false, 2⟩),
  (23, ⟨.arr 2 4, 2, [.v (.bool false), .v (.bool false)], false, 2⟩),
  (24, ⟨.struct [(0, 22), (1, 22), (2, 23), (4, 4)], 5, [.v (.int .i16 0), .v (.int .i16 0), .v (.bool false), .v (.bool false), .v (.bool false)], true, 8⟩),
  (25, ⟨.struct [(0, 22), (1, 22), (2, 23), (4, 4)], 5, [.v (.int .i16 0), .v (.int .i16 0), .v (.bool false), .v (.bool false), .v (.bool false)], true, 8⟩),
  (26, ⟨.other, 1, [.v (.nilFunc)], false, 8⟩),
  (27, ⟨.slice 9, 1, [.sl 0 []], false, 24⟩),
  (28, ⟨.other, 1, [.v (.nilFunc)], false, 8⟩),
  (29, ⟨.other, 1, [.v (.nilFunc)], false, 8⟩),
  (30, ⟨.other, 1, [.v (.nilFunc)], false, 8⟩),
  (31, ⟨.other, 1, [.v (.nilFunc)], false, 8⟩),
  (32, ⟨.other, 1, [.v (.nilIface)], false, 16⟩),
  (33, ⟨.other, 1, [.v (.nilIface)], false, 16⟩),
  (34, ⟨.struct [(0, 33)], 1, [.v (.nilIface)], false, 16⟩),
  (35, ⟨.struct [(0, 33)], 1, [.v (.nilIface)], false, 16⟩),
  (36, ⟨.other, 1, [.v (.nilFunc)], false, 8⟩),
  (37, ⟨.other, 1, [.v (.nilFunc)], false, 8⟩),
  (38, ⟨.other, 1, [.v (.nilFunc)], false, 8⟩),
  (39, ⟨.other, 1, [.v (.nilFunc)], false, 8⟩),
  (40, ⟨.other, 1, [.v (.nilFunc)], false, 8⟩),
  (41, ⟨.other, 1, [.v (.nilFunc)], false, 8⟩),
  (42, ⟨.other, 1, [.v (.nilFunc)], false, 8⟩),
  (44, ⟨.other, 1, [.v (.nilFunc)], false, 8⟩),
  (45, ⟨.struct [(0, 35), (1, 35), (2, 23), (4, 4)], 5, [.v (.nilIface), .v (.nilIface), .v (.bool false), .v (.bool false), .v (.bool false)], false, 40⟩),
  (46, ⟨.struct [(0, 35), (1, 35), (2, 23), (4, 4)], 5, [.v (.nilIface), .v (.nilIface), .v (.bool false), .v (.bool false), .v (.bool false)], false, 40⟩),
  (48, ⟨.other, 1, [.v (.nilFunc)], false, 8⟩),
  (49, ⟨.other, 1, [.v (.nilFunc)], false, 8⟩),
  (50, ⟨.other, 1, [.v (.nilFunc)], false, 8⟩),
  (51, ⟨.int .i64, 1, [.v (.int .i64 0)], false, 8⟩),
  (52, ⟨.other, 1, [.v (.nilFunc)], false, 8⟩),
  (53, ⟨.other, 1, [.v (.nilFunc)], false, 8⟩),
  (54, ⟨.other, 1, [.v (.nilFunc)], false, 8⟩),
  (55, ⟨.int .u64, 1, [.v (.int .u64 0)], false, 8⟩),
  (56, ⟨.struct [(0, 55), (1, 55)], 2, [.v (.int .u64 0), .v (.int .u64 0)], true, 16⟩),
  (57, ⟨.struct [(0, 55), (1, 55)], 2, [.v (.int .u64 0), .v (.int .u64 0)], true, 16⟩),
  (58, ⟨.struct [(0, 4), (1, 57), (3, 3)], 4, [.v (.bool false), .v (.int .u64 0), .v (.int .u64 0), .v (.int .i64 0)], true, 32⟩),
  (59, ⟨.struct [(0, 4), (1, 57), (3, 3)], 4, [.v (.bool false), .v (.int .u64 0), .v (.int .u64 0), .v (.int .i64 0)], true, 32⟩),
  (60, ⟨.other, 1, [.v (.nilFunc)], false, 8⟩),
  (61, ⟨.other, 1, [.v (.nilFunc)], false, 8⟩),
  (62, ⟨.str, 1, [.v (.string ⟨#[]⟩)], false, 16⟩),
  (63, ⟨.bool, 1, [.v (.bool false)], false, 1⟩),
  (65, ⟨.arr 2 35, 2, [.v (.nilIface), .v (.nilIface)], false, 32⟩),
  (67, ⟨.other, 1, [.v (.nilFunc)], false, 8⟩),
  (68, ⟨.other, 1, [.v (.nilFunc)], false, 8⟩),
  (69, ⟨.int .i64, 1, [.v (.int .i64 0)], false, 8⟩),
  (70, ⟨.other, 1, [.v (.nilFunc)], false, 8⟩),
  (71, ⟨.other, 1, [.v (.nilFunc)], false, 8⟩),
  (72, ⟨.other, 1, [.v (.nilFunc)], false, 8⟩),
  (73, ⟨.other, 1, [.v (.nilFunc)], false, 8⟩),
  (74, ⟨.other, 1, [.v (.nilFunc)], false, 8⟩),
  (75, ⟨.struct [(0, 65), (2, 23)], 4, [.v (.nilIface), .v (.nilIface), .v (.bool false), .v (.bool false)], false, 40⟩),
  (76, ⟨.struct [(0, 65), (2, 23)], 4, [.v (.nilIface), .v (.nilIface), .v (.bool false), .v (.bool false)], false, 40⟩),
  (77, ⟨.struct [(0, 4), (1, 57), (3, 3)], 4, [.v (.bool false), .v (.int .u64 0), .v (.int .u64 0), .v (.int .i64 0)], true, 32⟩),
  (78, ⟨.other, 1, [.v (.nilFunc)], false, 8⟩),
  (79, ⟨.other, 1, [.v (.nilFunc)], false, 8⟩),
  (81, ⟨.struct [(0, 5), (1, 5)], 2, [.v (.int .u8 0), .v (.int .u8 0)], true, 2⟩),
  (82, ⟨.struct [(0, 5), (1, 5)], 2, [.v (.int .u8 0), .v (.int .u8 0)], true, 2⟩),
  (83, ⟨.arr 16 82, 32, [.v (.int .u8 0), .v (.int .u8 0), .v (.int .u8 0), .v (.int .u8 0), .v (.int .u8 0), .v (.int .u8 0), .v (.int .u8 0), .v (.int .u8 0), .v (.int .u8 0), .v (.int .u8 0), .v (.int .u8 0), .v (.int .u8 0), .v (.int .u8 0), .v (.int .u8 0), .v (.int .u8 0), .v (.int .u8 0), .v (.int .u8 0), .v (.int .u8 0), .v (.int .u8 0), .v (.int .u8 0), .v (.int .u8 0), .v (.int .u8 0), .v (.int .u8 0), .v (.int .u8 0), .v (.int .u8 0), .v (.int .u8 0), .v (.int .u8 0), .v (.int .u8 0), .v (.int .u8 0), .v (.int .u8 0), .v (.int .u8 0), .v (.int .u8 0)], false, 32⟩),
  (84, ⟨.int .u64, 1, [.v (.int .u64 0)], false, 8⟩),
  (86, ⟨.other, 1, [.v (.nilFunc)], false, 8⟩),
  (87, ⟨.other, 1, [.v (.nilFunc)], false, 8⟩),
  (88, ⟨.other, 1, [.v (.nilFunc)], false, 8⟩),
  (89, ⟨.other, 1, [.v (.nilFunc)], false, 8⟩),
  (90, ⟨.other, 1, [.v (.nilFunc)], false, 8⟩),
  (92, ⟨.other, 1, [.v (.nilFunc)], false, 8⟩),
  (94, ⟨.other, 1, [.v (.nilFunc)], false, 8⟩),
  (96, ⟨.other, 1, [.v (.nilFunc)], false, 8⟩),
  (98, ⟨.other, 1, [.v (.nilFunc)], false, 8⟩),
  (99, ⟨.other, 1, [.v (.nilFunc)], false, 8⟩),
  (101, ⟨.other, 1, [.v (.nilFunc)], false, 8⟩),
  (102, ⟨.other, 1, [.v (.nilFunc)], false, 8⟩),
  (103, ⟨.struct [(0, 3), (1, 3), (2, 3)], 3, [.v (.int .i64 0), .v (.int .i64 0), .v (.int .i64 0)], true, 24⟩),
  (104, ⟨.struct [(0, 3), (1, 3), (2, 3)], 3, [.v (.int .i64 0), .v (.int .i64 0), .v (.int .i64 0)], true, 24⟩),
  (106, ⟨.other, 1, [.v (.nilFunc)], false, 8⟩),
  (107, ⟨.other, 1, [.v (.nilFunc)], false, 8⟩),
  (108, ⟨.struct [(0, 3), (1, 4), (2, 3)], 3, [.v (.int .i64 0), .v (.bool false), .v (.int .i64 0)], true, 24⟩),
  (109, ⟨.struct [(0, 3), (1, 4), (2, 3)], 3, [.v (.int .i64 0), .v (.bool false), .v (.int .i64 0)], true, 24⟩),
  (111, ⟨.other, 1, [.v (.nilFunc)], false, 8⟩),
  (112, ⟨.other, 1, [.v (.nilFunc)], false, 8⟩),
  (113, ⟨.struct [(0, 104), (3, 109)], 6, [.v (.int .i64 0), .v (.int .i64 0), .v (.int .i64 0), .v (.int .i64 0), .v (.bool false), .v (.int .i64 0)], true, 48⟩),
  (114, ⟨.struct [(0, 104), (3, 109)], 6, [.v (.int .i64 0), .v (.int .i64 0), .v (.int .i64 0), .v (.int .i64 0), .v (.bool false), .v (.int .i64 0)], true, 48⟩),
  (116, ⟨.other, 1, [.v (.nilFunc)], false, 8⟩),
  (117, ⟨.other, 1, [.v (.nilFunc)], false, 8⟩),
  (119, ⟨.other, 1, [.v (.nilFunc)], false, 8⟩),
  (120, ⟨.other, 1, [.v (.nilFunc)], false, 8⟩),
  (122, ⟨.other, 1, [.v (.nilFunc)], false, 8⟩),
  (123, ⟨.other, 1, [.v (.nilFunc)], false, 8⟩),
  (124, ⟨.other, 1, [.v (.nilFunc)], false, 8⟩),
  (125, ⟨.struct [(0, 4), (1, 57), (3, 57), (5, 3), (6, 4)], 7, [.v (.bool false), .v (.int .u64 0), .v (.int .u64 0), .v (.int .u64 0), .v (.int .u64 0), .v (.int .i64 0), .v (.bool false)], true, 56⟩),
  (126, ⟨.struct [(0, 4), (1, 57), (3, 57), (5, 3), (6, 4)], 7, [.v (.bool false), .v (.int .u64 0), .v (.int .u64 0), .v (.int .u64 0), .v (.int .u64 0), .v (.int .i64 0), .v (.bool false)], true, 56⟩),
  (127, ⟨.other, 1, [.v (.nilFunc)], false, 8⟩),
  (128, ⟨.other, 1, [.v (.nilFunc)], false, 8⟩),
  (130, ⟨.struct [(0, 3), (1, 3), (2, 3)], 3, [.v (.int .i64 0), .v (.int .i64 0), .v (.int .i64 0)], true, 24⟩),
  (132, ⟨.arr 2 3, 2, [.v (.int .i64 0), .v (.int .i64 0)], false, 16⟩),
  (133, ⟨.slice 132, 1, [.sl 0 []], false, 24⟩),
  (134, ⟨.struct [(0, 3), (1, 4), (2, 3)], 3, [.v (.int .i64 0), .v (.bool false), .v (.int .i64 0)], true, 24⟩),
  (136, ⟨.struct [(0, 104), (3, 109)], 6, [.v (.int .i64 0), .v (.int .i64 0), .v (.int .i64 0), .v (.int .i64 0), .v (.bool false), .v (.int .i64 0)], true, 48⟩),
  (138, ⟨.other, 1, [.v (.nilFunc)], false, 8⟩),
  (140, ⟨.other, 1, [.v (.nilFunc)], false, 8⟩),
  (141, ⟨.other, 1, [.v (.nilFunc)], false, 8⟩),
  (142, ⟨.int .i64, 1, [.v (.int .i64 0)], false, 8⟩),
  (144, ⟨.int .i64, 1, [.v (.int .i64 0)], false, 8⟩),
  (147, ⟨.other, 1, [.v (.nilFunc)], false, 8⟩),
  (148, ⟨.other, 1, [.v (.nilFunc)], false, 8⟩),
  (149, ⟨.arr 4 55, 4, [.v (.int .u64 0), .v (.int .u64 0), .v (.int .u64 0), .v (.int .u64 0)], false, 32⟩),
  (150, ⟨.other, 1, [.v (.nilIface)], false, 16⟩),
  (151, ⟨.other, 1, [.v (.nilIface)], false, 16⟩),
  (152, ⟨.other, 1, [.v (.nilFunc)], false, 8⟩),
  (153, ⟨.other, 1, [.v (.nilFunc)], false, 8⟩),
  (154, ⟨.other, 1, [.v (.pointer none)], false, 8⟩),
  (155, ⟨.other, 1, [.v (.nilFunc)], false, 8⟩),
  (156, ⟨.struct [(0, 17), (1, 17), (2, 17), (3, 9)], 4, [.v (.pointer none), .v (.pointer none), .v (.pointer none), .v (.string ⟨#[]⟩)], false, 40⟩),
  (157, ⟨.struct [(0, 17), (1, 17), (2, 17), (3, 9)], 4, [.v (.pointer none), .v (.pointer none), .v (.pointer none), .v (.string ⟨#[]⟩)], false, 40⟩),
  (158, ⟨.arr 0 16, 0, [], false, 0⟩),
  (159, ⟨.struct [(0, 158)], 0, [], false, 0⟩),
  (160, ⟨.struct [(0, 158)], 0, [], false, 0⟩),
  (161, ⟨.int .u32, 1, [.v (.int .u32 0)], false, 4⟩),
  (162, ⟨.int .u8, 1, [.v (.int .u8 0)], false, 1⟩),
  (163, ⟨.int .u8, 1, [.v (.int .u8 0)], false, 1⟩),
  (164, ⟨.other, 1, [.v (.nilFunc)], false, 8⟩),
  (165, ⟨.other, 1, [.v (.pointer none)], false, 8⟩),
  (166, ⟨.int .i32, 1, [.v (.int .i32 0)], false, 4⟩),
  (167, ⟨.int .i32, 1, [.v (.int .i32 0)], false, 4⟩),
  (168, ⟨.struct [(0, 12), (1, 12), (2, 161), (3, 162), (4, 5), (5, 5), (6, 163), (7, 164), (8, 165), (9, 166), (10, 167)], 11, [.v (.int .u64 0), .v (.int .u64 0), .v (.int .u32 0), .v (.int .u8 0), .v (.int .u8 0), .v (.int .u8 0), .v (.int .u8 0), .v (.nilFunc), .v (.pointer none), .v (.int .i32 0), .v (.int .i32 0)], false, 48⟩),
  (169, ⟨.struct [(0, 12), (1, 12), (2, 161), (3, 162), (4, 5), (5, 5), (6, 163), (7, 164), (8, 165), (9, 166), (10, 167)], 11, [.v (.int .u64 0), .v (.int .u64 0), .v (.int .u32 0), .v (.int .u8 0), .v (.int .u8 0), .v (.int .u8 0), .v (.int .u8 0), .v (.nilFunc), .v (.pointer none), .v (.int .i32 0), .v (.int .i32 0)], false, 48⟩),
  (170, ⟨.struct [(0, 9)], 1, [.v (.string ⟨#[]⟩)], true, 16⟩),
  (171, ⟨.struct [(0, 9)], 1, [.v (.string ⟨#[]⟩)], true, 16⟩),
  (172, ⟨.other, 1, [.v (.pointer none)], false, 8⟩)]
def tyT : TypeId → Option TI := look tyL
theorem ty1 : TyOk1 Tryz.prog tyT 1 ⟨.other, 1, [.v (.nilFunc)], false, 8⟩ := ⟨⟨_, _, rfl, rfl, rfl, rfl, rfl, (by first | exact (fun _ => ⟨_, rfl⟩) | exact (fun h => by cases h)), (by first | exact (fun _ => rfl) | exact (fun h => by cases h))⟩, ⟨_, rfl, (fun _ h => by cases h), (fun _ _ h => by cases h)⟩, (fun fs h => by cases h),
  (fun h => by cases h)⟩
theorem ty2 : TyOk1 Tryz.prog tyT 2 ⟨.int .i64, 1, [.v (.int .i64 0)], false, 8⟩ := ⟨⟨_, _, rfl, rfl, rfl, rfl, rfl, (by first | exact (fun _ => ⟨_, rfl⟩) | exact (fun h => by cases h)), (by first | exact (fun _ => rfl) | exact (fun h => by cases h))⟩, rfl, (fun fs h => by cases h),
  (fun h => by cases h)⟩
theorem ty3 : TyOk1 Tryz.prog tyT 3 ⟨.int .i64, 1, [.v (.int .i64 0)], false, 8⟩ := ⟨⟨_, _, rfl, rfl, rfl, rfl, rfl, (by first | exact (fun _ => ⟨_, rfl⟩) | exact (fun h => by cases h)), (by first | exact (fun _ => rfl) | exact (fun h => by cases h))⟩, rfl, (fun fs h => by cases h),
  (fun h => by cases h)⟩
theorem ty4 : TyOk1 Tryz.prog tyT 4 ⟨.bool, 1, [.v (.bool false)], false, 1⟩ := ⟨⟨_, _, rfl, rfl, rfl, rfl, rfl, (by first | exact (fun _ => ⟨_, rfl⟩) | exact (fun h => by cases h)), (by first | exact (fun _ => rfl) | exact (fun h => by cases h))⟩, rfl, (fun fs h => by cases h),
  (fun h => by cases h)⟩
theorem ty5 : TyOk1 Tryz.prog tyT 5 ⟨.int .u8, 1, [.v (.int .u8 0)], false, 1⟩ := ⟨⟨_, _, rfl, rfl, rfl, rfl, rfl, (by first | exact (fun _ => ⟨_, rfl⟩) | exact (fun h => by cases h)), (by first | exact (fun _ => rfl) | exact (fun h => by cases h))⟩, rfl, (fun fs h => by cases h),
  (fun h => by cases h)⟩
theorem ty6 : TyOk1 Tryz.prog tyT 6 ⟨.int .u8, 1, [.v (.int .u8 0)], false, 1⟩ := ⟨⟨_, _, rfl, rfl, rfl, rfl, rfl, (by first | exact (fun _ => ⟨_, rfl⟩) | exact (fun h => by cases h)), (by first | exact (fun _ => rfl) | exact (fun h => by cases h))⟩, rfl, (fun fs h => by cases h),
  (fun h => by cases h)⟩
theorem ty7 : TyOk1 Tryz.prog tyT 7 ⟨.struct [(0, 2), (1, 3), (2, 4), (3, 6)], 4, [.v (.int .i64 0), .v (.int .i64 0), .v (.bool false), .v (.int .u8 0)], true, 24⟩ := ⟨⟨_, _, rfl, rfl, rfl, rfl, rfl, (by first | exact (fun _ => ⟨_, rfl⟩) | exact (fun h => by cases h)), (by first | exact (fun _ => rfl) | exact (fun h => by cases h))⟩, ⟨_, rfl, rfl⟩, (fun fs h => by injection h with h; subst h; intro p hp; revert p; simp only [List.forall_mem_cons, List.not_mem_nil, false_implies, implies_true, and_true]; first | rfl | (repeat' apply And.intro) <;> rfl),
  (fun _ => ⟨(by first | exact Tryz.stoodInHeld7 | kernel_rfl), (by first | exact Tryz.eqGuardType7 | kernel_rfl), (fun fields h => by injection h with h; injection h with h; subst h; simp)⟩)⟩
theorem ty8 : TyOk1 Tryz.prog tyT 8 ⟨.struct [(0, 2), (1, 3), (2, 4), (3, 6)], 4, [.v (.int .i64 0), .v (.int .i64 0), .v (.bool false), .v (.int .u8 0)], true, 24⟩ := ⟨⟨_, _, rfl, rfl, rfl, rfl, rfl, (by first | exact (fun _ => ⟨_, rfl⟩) | exact (fun h => by cases h)), (by first | exact (fun _ => rfl) | exact (fun h => by cases h))⟩, ⟨_, rfl, rfl⟩, (fun fs h => by injection h with h; subst h; intro p hp; revert p; simp only [List.forall_mem_cons, List.not_mem_nil, false_implies, implies_true, and_true]; first | rfl | (repeat' apply And.intro) <;> rfl),
  (fun _ => ⟨(by first | exact Tryz.stoodInHeld8 | kernel_rfl), (by first | exact Tryz.eqGuardType8 | kernel_rfl), (fun fields h => by injection h with h; injection h with h; subst h; simp)⟩)⟩
theorem ty9 : TyOk1 Tryz.prog tyT 9 ⟨.str, 1, [.v (.string ⟨#[]⟩)], false, 16⟩ := ⟨⟨_, _, rfl, rfl, rfl, rfl, rfl, (by first | exact (fun _ => ⟨_, rfl⟩) | exact (fun h => by cases h)), (by first | exact (fun _ => rfl) | exact (fun h => by cases h))⟩, rfl, (fun fs h => by cases h),
  (fun h => by cases h)⟩
theorem ty10 : TyOk1 Tryz.prog tyT 10 ⟨.str, 1, [.v (.string ⟨#[]⟩)], false, 16⟩ := ⟨⟨_, _, rfl, rfl, rfl, rfl, rfl, (by first | exact (fun _ => ⟨_, rfl⟩) | exact (fun h => by cases h)), (by first | exact (fun _ => rfl) | exact (fun h => by cases h))⟩, rfl, (fun fs h => by cases h),
  (fun h => by cases h)⟩
theorem ty11 : TyOk1 Tryz.prog tyT 11 ⟨.str, 1, [.v (.string ⟨#[]⟩)], false, 16⟩ := ⟨⟨_, _, rfl, rfl, rfl, rfl, rfl, (by first | exact (fun _ => ⟨_, rfl⟩) | exact (fun h => by cases h)), (by first | exact (fun _ => rfl) | exact (fun h => by cases h))⟩, rfl, (fun fs h => by cases h),
  (fun h => by cases h)⟩
theorem ty12 : TyOk1 Tryz.prog tyT 12 ⟨.int .u64, 1, [.v (.int .u64 0)], false, 8⟩ := ⟨⟨_, _, rfl, rfl, rfl, rfl, rfl, (by first | exact (fun _ => ⟨_, rfl⟩) | exact (fun h => by cases h)), (by first | exact (fun _ => rfl) | exact (fun h => by cases h))⟩, rfl, (fun fs h => by cases h),
  (fun h => by cases h)⟩
theorem ty13 : TyOk1 Tryz.prog tyT 13 ⟨.struct [(0, 9), (1, 12)], 2, [.v (.string ⟨#[]⟩), .v (.int .u64 0)], false, 24⟩ := ⟨⟨_, _, rfl, rfl, rfl, rfl, rfl, (by first | exact (fun _ => ⟨_, rfl⟩) | exact (fun h => by cases h)), (by first | exact (fun _ => rfl) | exact (fun h => by cases h))⟩, ⟨_, rfl, rfl⟩, (fun fs h => by injection h with h; subst h; intro p hp; revert p; simp only [List.forall_mem_cons, List.not_mem_nil, false_implies, implies_true, and_true]; first | rfl | (repeat' apply And.intro) <;> rfl),
  (fun h => by cases h)⟩
theorem ty14 : TyOk1 Tryz.prog tyT 14 ⟨.struct [(0, 9), (1, 12)], 2, [.v (.string ⟨#[]⟩), .v (.int .u64 0)], false, 24⟩ := ⟨⟨_, _, rfl, rfl, rfl, rfl, rfl, (by first | exact (fun _ => ⟨_, rfl⟩) | exact (fun h => by cases h)), (by first | exact (fun _ => rfl) | exact (fun h => by cases h))⟩, ⟨_, rfl, rfl⟩, (fun fs h => by injection h with h; subst h; intro p hp; revert p; simp only [List.forall_mem_cons, List.not_mem_nil, false_implies, implies_true, and_true]; first | rfl | (repeat' apply And.intro) <;> rfl),
  (fun h => by cases h)⟩
theorem ty15 : TyOk1 Tryz.prog tyT 15 ⟨.other, 1, [.v (.pointer none)], false, 8⟩ := ⟨⟨_, _, rfl, rfl, rfl, rfl, rfl, (by first | exact (fun _ => ⟨_, rfl⟩) | exact (fun h => by cases h)), (by first | exact (fun _ => rfl) | exact (fun h => by cases h))⟩, ⟨_, rfl, (fun _ h => by cases h), (fun _ _ h => by cases h)⟩, (fun fs h => by cases h),
  (fun h => by cases h)⟩
theorem ty16 : TyOk1 Tryz.prog tyT 16 ⟨.other, 1, [.v (.pointer none)], false, 8⟩ := ⟨⟨_, _, rfl, rfl, rfl, rfl, rfl, (by first | exact (fun _ => ⟨_, rfl⟩) | exact (fun h => by cases h)), (by first | exact (fun _ => rfl) | exact (fun h => by cases h))⟩, ⟨_, rfl, (fun _ h => by cases h), (fun _ _ h => by cases h)⟩, (fun fs h => by cases h),
  (fun h => by cases h)⟩
theorem ty17 : TyOk1 Tryz.prog tyT 17 ⟨.other, 1, [.v (.pointer none)], false, 8⟩ := ⟨⟨_, _, rfl, rfl, rfl, rfl, rfl, (by first | exact (fun _ => ⟨_, rfl⟩) | exact (fun h => by cases h)), (by first | exact (fun _ => rfl) | exact (fun h => by cases h))⟩, ⟨_, rfl, (fun _ h => by cases h), (fun _ _ h => by cases h)⟩, (fun fs h => by cases h),
  (fun h => by cases h)⟩
theorem ty18 : TyOk1 Tryz.prog tyT 18 ⟨.struct [(0, 17)], 1, [.v (.pointer none)], false, 8⟩ := ⟨⟨_, _, rfl, rfl, rfl, rfl, rfl, (by first | exact (fun _ => ⟨_, rfl⟩) | exact (fun h => by cases h)), (by first | exact (fun _ => rfl) | exact (fun h => by cases h))⟩, ⟨_, rfl, rfl⟩, (fun fs h => by injection h with h; subst h; intro p hp; revert p; simp only [List.forall_mem_cons, List.not_mem_nil, false_implies, implies_true, and_true]; first | rfl | (repeat' apply And.intro) <;> rfl),
  (fun h => by cases h)⟩
theorem ty19 : TyOk1 Tryz.prog tyT 19 ⟨.struct [(0, 17)], 1, [.v (.pointer none)], false, 8⟩ := ⟨⟨_, _, rfl, rfl, rfl, rfl, rfl, (by first | exact (fun _ => ⟨_, rfl⟩) | exact (fun h => by cases h)), (by first | exact (fun _ => rfl) | exact (fun h => by cases h))⟩, ⟨_, rfl, rfl⟩, (fun fs h => by injection h with h; subst h; intro p hp; revert p; simp only [List.forall_mem_cons, List.not_mem_nil, false_implies, implies_true, and_true]; first | rfl | (repeat' apply And.intro) <;> rfl),
  (fun h => by cases h)⟩
theorem ty20 : TyOk1 Tryz.prog tyT 20 ⟨.other, 1, [.v (.nilIface)], false, 16⟩ := ⟨⟨_, _, rfl, rfl, rfl, rfl, rfl, (by first | exact (fun _ => ⟨_, rfl⟩) | exact (fun h => by cases h)), (by first | exact (fun _ => rfl) | exact (fun h => by cases h))⟩, ⟨_, rfl, (fun _ h => by cases h), (fun _ _ h => by cases h)⟩, (fun fs h => by cases h),
  (fun h => by cases h)⟩
theorem ty21 : TyOk1 Tryz.prog tyT 21 ⟨.int .i32, 1, [.v (.int .i32 0)], false, 4⟩ := ⟨⟨_, _, rfl, rfl, rfl, rfl, rfl, (by first | exact (fun _ => ⟨_, rfl⟩) | exact (fun h => by cases h)), (by first | exact (fun _ => rfl) | exact (fun h => by cases h))⟩, rfl, (fun fs h => by cases h),
  (fun h => by cases h)⟩
theorem ty22 : TyOk1 Tryz.prog tyT 22 ⟨.int .i16, 1, [.v (.int .i16 0)], false, 2⟩ := ⟨⟨_, _, rfl, rfl, rfl, rfl, rfl, (by first | exact (fun _ => ⟨_, rfl⟩) | exact (fun h => by cases h)), (by first | exact (fun _ => rfl) | exact (fun h => by cases h))⟩, rfl, (fun fs h => by cases h),
  (fun h => by cases h)⟩
theorem ty23 : TyOk1 Tryz.prog tyT 23 ⟨.arr 2 4, 2, [.v (.bool false), .v (.bool false)], false, 2⟩ := ⟨⟨_, _, rfl, rfl, rfl, rfl, rfl, (by first | exact (fun _ => ⟨_, rfl⟩) | exact (fun h => by cases h)), (by first | exact (fun _ => rfl) | exact (fun h => by cases h))⟩, rfl, (fun fs h => by cases h),
  (fun h => by cases h)⟩
theorem ty24 : TyOk1 Tryz.prog tyT 24 ⟨.struct [(0, 22), (1, 22), (2, 23), (4, 4)], 5, [.v (.int .i16 0), .v (.int .i16 0), .v (.bool false), .v (.bool false), .v (.bool false)], true, 8⟩ := ⟨⟨_, _, rfl, rfl, rfl, rfl, rfl, (by first | exact (fun _ => ⟨_, rfl⟩) | exact (fun h => by cases h)), (by first | exact (fun _ => rfl) | exact (fun h => by cases h))⟩, ⟨_, rfl, rfl⟩, (fun fs h => by injection h with h; subst h; intro p hp; revert p; simp only [List.forall_mem_cons, List.not_mem_nil, false_implies, implies_true, and_true]; first | rfl | (repeat' apply And.intro) <;> rfl),
  (fun _ => ⟨(by first | exact Tryz.stoodInHeld24 | kernel_rfl), (by first | exact Tryz.eqGuardType24 | kernel_rfl), (fun fields h => by injection h with h; injection h with h; subst h; simp)⟩)⟩
theorem ty25 : TyOk1 Tryz.prog tyT 25 ⟨.struct [(0, 22), (1, 22), (2, 23), (4, 4)], 5, [.v (.int .i16 0), .v (.int .i16 0), .v (.bool false), .v (.bool false), .v (.bool false)], true, 8⟩ := ⟨⟨_, _, rfl, rfl, rfl, rfl, rfl, (by first | exact (fun _ => ⟨_, rfl⟩) | exact (fun h => by cases h)), (by first | exact (fun _ => rfl) | exact (fun h => by cases h))⟩, ⟨_, rfl, rfl⟩, (fun fs h => by injection h with h; subst h; intro p hp; revert p; simp only [List.forall_mem_cons, List.not_mem_nil, false_implies, implies_true, and_true]; first | rfl | (repeat' apply And.intro) <;> rfl),
  (fun _ => ⟨(by first | exact Tryz.stoodInHeld25 | kernel_rfl), (by first | exact Tryz.eqGuardType25 | kernel_rfl), (fun fields h => by injection h with h; injection h with h; subst h; simp)⟩)⟩
theorem ty26 : TyOk1 Tryz.prog tyT 26 ⟨.other, 1, [.v (.nilFunc)], false, 8⟩ := ⟨⟨_, _, rfl, rfl, rfl, rfl, rfl, (by first | exact (fun _ => ⟨_, rfl⟩) | exact (fun h => by cases h)), (by first | exact (fun _ => rfl) | exact (fun h => by cases h))⟩, ⟨_, rfl, (fun _ h => by cases h), (fun _ _ h => by cases h)⟩, (fun fs h => by cases h),
  (fun h => by cases h)⟩
theorem ty27 : TyOk1 Tryz.prog tyT 27 ⟨.slice 9, 1, [.sl 0 []], false, 24⟩ := ⟨⟨_, _, rfl, rfl, rfl, rfl, rfl, (by first | exact (fun _ => ⟨_, rfl⟩) | exact (fun h => by cases h)), (by first | exact (fun _ => rfl) | exact (fun h => by cases h))⟩, rfl, (fun fs h => by cases h),
  (fun h => by cases h)⟩
theorem ty28 : TyOk1 Tryz.prog tyT 28 ⟨.other, 1, [.v (.nilFunc)], false, 8⟩ := ⟨⟨_, _, rfl, rfl, rfl, rfl, rfl, (by first | exact (fun _ => ⟨_, rfl⟩) | exact (fun h => by cases h)), (by first | exact (fun _ => rfl) | exact (fun h => by cases h))⟩, ⟨_, rfl, (fun _ h => by cases h), (fun _ _ h => by cases h)⟩, (fun fs h => by cases h),
  (fun h => by cases h)⟩
theorem ty29 : TyOk1 Tryz.prog tyT 29 ⟨.other, 1, [.v (.nilFunc)], false, 8⟩ := ⟨⟨_, _, rfl, rfl, rfl, rfl, rfl, (by first | exact (fun _ => ⟨_, rfl⟩) | exact (fun h => by cases h)), (by first | exact (fun _ => rfl) | exact (fun h => by cases h))⟩, ⟨_, rfl, (fun _ h => by cases h), (fun _ _ h => by cases h)⟩, (fun fs h => by cases h),
  (fun h => by cases h)⟩
theorem ty30 : TyOk1 Tryz.prog tyT 30 ⟨.other, 1, [.v (.nilFunc)], false, 8⟩ := ⟨⟨_, _, rfl, rfl, rfl, rfl, rfl, (by first | exact (fun _ => ⟨_, rfl⟩) | exact (fun h => by cases h)), (by first | exact (fun _ => rfl) | exact (fun h => by cases h))⟩, ⟨_, rfl, (fun _ h => by cases h), (fun _ _ h => by cases h)⟩, (fun fs h => by cases h),
  (fun h => by cases h)⟩
theorem ty31 : TyOk1 Tryz.prog tyT 31 ⟨.other, 1, [.v (.nilFunc)], false, 8⟩ := ⟨⟨_, _, rfl, rfl, rfl, rfl, rfl, (by first | exact (fun _ => ⟨_, rfl⟩) | exact (fun h => by cases h)), (by first | exact (fun _ => rfl) | exact (fun h => by cases h))⟩, ⟨_, rfl, (fun _ h => by cases h), (fun _ _ h => by cases h)⟩, (fun fs h => by cases h),
  (fun h => by cases h)⟩
theorem ty32 : TyOk1 Tryz.prog tyT 32 ⟨.other, 1, [.v (.nilIface)], false, 16⟩ := ⟨⟨_, _, rfl, rfl, rfl, rfl, rfl, (by first | exact (fun _ => ⟨_, rfl⟩) | exact (fun h => by cases h)), (by first | exact (fun _ => rfl) | exact (fun h => by cases h))⟩, ⟨_, rfl, (fun _ h => by cases h), (fun _ _ h => by cases h)⟩, (fun fs h => by cases h),
  (fun h => by cases h)⟩
theorem ty33 : TyOk1 Tryz.prog tyT 33 ⟨.other, 1, [.v (.nilIface)], false, 16⟩ := ⟨⟨_, _, rfl, rfl, rfl, rfl, rfl, (by first | exact (fun _ => ⟨_, rfl⟩) | exact (fun h => by cases h)), (by first | exact (fun _ => rfl) | exact (fun h => by cases h))⟩, ⟨_, rfl, (fun _ h => by cases h), (fun _ _ h => by cases h)⟩, (fun fs h => by cases h),
  (fun h => by cases h)⟩
theorem ty34 : TyOk1 Tryz.prog tyT 34 ⟨.struct [(0, 33)], 1, [.v (.nilIface)], false, 16⟩ := ⟨⟨_, _, rfl, rfl, rfl, rfl, rfl, (by first | exact (fun _ => ⟨_, rfl⟩) | exact (fun h => by cases h)), (by first | exact (fun _ => rfl) | exact (fun h => by cases h))⟩, ⟨_, rfl, rfl⟩, (fun fs h => by injection h with h; subst h; intro p hp; revert p; simp only [List.forall_mem_cons, List.not_mem_nil, false_implies, implies_true, and_true]; first | rfl | (repeat' apply And.intro) <;> rfl),
  (fun h => by cases h)⟩
theorem ty35 : TyOk1 Tryz.prog tyT 35 ⟨.struct [(0, 33)], 1, [.v (.nilIface)], false, 16⟩ := ⟨⟨_, _, rfl, rfl, rfl, rfl, rfl, (by first | exact (fun _ => ⟨_, rfl⟩) | exact (fun h => by cases h)), (by first | exact (fun _ => rfl) | exact (fun h => by cases h))⟩, ⟨_, rfl, rfl⟩, (fun fs h => by injection h with h; subst h; intro p hp; revert p; simp only [List.forall_mem_cons, List.not_mem_nil, false_implies, implies_true, and_true]; first | rfl | (repeat' apply And.intro) <;> rfl),
  (fun h => by cases h)⟩
theorem ty36 : TyOk1 Tryz.prog tyT 36 ⟨.other, 1, [.v (.nilFunc)], false, 8⟩ := ⟨⟨_, _, rfl, rfl, rfl, rfl, rfl, (by first | exact (fun _ => ⟨_, rfl⟩) | exact (fun h => by cases h)), (by first | exact (fun _ => rfl) | exact (fun h => by cases h))⟩, ⟨_, rfl, (fun _ h => by cases h), (fun _ _ h => by cases h)⟩, (fun fs h => by cases h),
  (fun h => by cases h)⟩
theorem ty37 : TyOk1 Tryz.prog tyT 37 ⟨.other, 1, [.v (.nilFunc)], false, 8⟩ := ⟨⟨_, _, rfl, rfl, rfl, rfl, rfl, (by first | exact (fun _ => ⟨_, rfl⟩) | exact (fun h => by cases h)), (by first | exact (fun _ => rfl) | exact (fun h => by cases h))⟩, ⟨_, rfl, (fun _ h => by cases h), (fun _ _ h => by cases h)⟩, (fun fs h => by cases h),
  (fun h => by cases h)⟩
theorem ty38 : TyOk1 Tryz.prog tyT 38 ⟨.other, 1, [.v (.nilFunc)], false, 8⟩ := ⟨⟨_, _, rfl, rfl, rfl, rfl, rfl, (by first | exact (fun _ => ⟨_, rfl⟩) | exact (fun h => by cases h)), (by first | exact (fun _ => rfl) | exact (fun h => by cases h))⟩, ⟨_, rfl, (fun _ h => by cases h), (fun _ _ h => by cases h)⟩, (fun fs h => by cases h),
  (fun h => by cases h)⟩
theorem ty39 : TyOk1 Tryz.prog tyT 39 ⟨.other, 1, [.v (.nilFunc)], false, 8⟩ := ⟨⟨_, _, rfl, rfl, rfl, rfl, rfl, (by first | exact (fun _ => ⟨_, rfl⟩) | exact (fun h => by cases h)), (by first | exact (fun _ => rfl) | exact (fun h => by cases h))⟩, ⟨_, rfl, (fun _ h => by cases h), (fun _ _ h => by cases h)⟩, (fun fs h => by cases h),
  (fun h => by cases h)⟩
theorem ty40 : TyOk1 Tryz.prog tyT 40 ⟨.other, 1, [.v (.nilFunc)], false, 8⟩ := ⟨⟨_, _, rfl, rfl, rfl, rfl, rfl, (by first | exact (fun _ => ⟨_, rfl⟩) | exact (fun h => by cases h)), (by first | exact (fun _ => rfl) | exact (fun h => by cases h))⟩, ⟨_, rfl, (fun _ h => by cases h), (fun _ _ h => by cases h)⟩, (fun fs h => by cases h),
  (fun h => by cases h)⟩
theorem ty41 : TyOk1 Tryz.prog tyT 41 ⟨.other, 1, [.v (.nilFunc)], false, 8⟩ := ⟨⟨_, _, rfl, rfl, rfl, rfl, rfl, (by first | exact (fun _ => ⟨_, rfl⟩) | exact (fun h => by cases h)), (by first | exact (fun _ => rfl) | exact (fun h => by cases h))⟩, ⟨_, rfl, (fun _ h => by cases h), (fun _ _ h => by cases h)⟩, (fun fs h => by cases h),
  (fun h => by cases h)⟩
theorem ty42 : TyOk1 Tryz.prog tyT 42 ⟨.other, 1, [.v (.nilFunc)], false, 8⟩ := ⟨⟨_, _, rfl, rfl, rfl, rfl, rfl, (by first | exact (fun _ => ⟨_, rfl⟩) | exact (fun h => by cases h)), (by first | exact (fun _ => rfl) | exact (fun h => by cases h))⟩, ⟨_, rfl, (fun _ h => by cases h), (fun _ _ h => by cases h)⟩, (fun fs h => by cases h),
  (fun h => by cases h)⟩
theorem ty44 : TyOk1 Tryz.prog tyT 44 ⟨.other, 1, [.v (.nilFunc)], false, 8⟩ := ⟨⟨_, _, rfl, rfl, rfl, rfl, rfl, (by first | exact (fun _ => ⟨_, rfl⟩) | exact (fun h => by cases h)), (by first | exact (fun _ => rfl) | exact (fun h => by cases h))⟩, ⟨_, rfl, (fun _ h => by cases h), (fun _ _ h => by cases h)⟩, (fun fs h => by cases h),
  (fun h => by cases h)⟩
theorem ty45 : TyOk1 Tryz.prog tyT 45 ⟨.struct [(0, 35), (1, 35), (2, 23), (4, 4)], 5, [.v (.nilIface), .v (.nilIface), .v (.bool false), .v (.bool false), .v (.bool false)], false, 40⟩ := ⟨⟨_, _, rfl, rfl, rfl, rfl, rfl, (by first | exact (fun _ => ⟨_, rfl⟩) | exact (fun h => by cases h)), (by first | exact (fun _ => rfl) | exact (fun h => by cases h))⟩, ⟨_, rfl, rfl⟩, (fun fs h => by injection h with h; subst h; intro p hp; revert p; simp only [List.forall_mem_cons, List.not_mem_nil, false_implies, implies_true, and_true]; first | rfl | (repeat' apply And.intro) <;> rfl),
  (fun h => by cases h)⟩
theorem ty46 : TyOk1 Tryz.prog tyT 46 ⟨.struct [(0, 35), (1, 35), (2, 23), (4, 4)], 5, [.v (.nilIface), .v (.nilIface), .v (.bool false), .v (.bool false), .v (.bool false)], false, 40⟩ := ⟨⟨_, _, rfl, rfl, rfl, rfl, rfl, (by first | exact (fun _ => ⟨_, rfl⟩) | exact (fun h => by cases h)), (by first | exact (fun _ => rfl) | exact (fun h => by cases h))⟩, ⟨_, rfl, rfl⟩, (fun fs h => by injection h with h; subst h; intro p hp; revert p; simp only [List.forall_mem_cons, List.not_mem_nil, false_implies, implies_true, and_true]; first | rfl | (repeat' apply And.intro) <;> rfl),
  (fun h => by cases h)⟩
theorem ty48 : TyOk1 Tryz.prog tyT 48 ⟨.other, 1, [.v (.nilFunc)], false, 8⟩ := ⟨⟨_, _, rfl, rfl, rfl, rfl, rfl, (by first | exact (fun _ => ⟨_, rfl⟩) | exact (fun h => by cases h)), (by first | exact (fun _ => rfl) | exact (fun h => by cases h))⟩, ⟨_, rfl, (fun _ h => by cases h), (fun _ _ h => by cases h)⟩, (fun fs h => by cases h),
  (fun h => by cases h)⟩
theorem ty49 : TyOk1 Tryz.prog tyT 49 ⟨.other, 1, [.v (.nilFunc)], false, 8⟩ := ⟨⟨_, _, rfl, rfl, rfl, rfl, rfl, (by first | exact (fun _ => ⟨_, rfl⟩) | exact (fun h => by cases h)), (by first | exact (fun _ => rfl) | exact (fun h => by cases h))⟩, ⟨_, rfl, (fun _ h => by cases h), (fun _ _ h => by cases h)⟩, (fun fs h => by cases h),
  (fun h => by cases h)⟩
theorem ty50 : TyOk1 Tryz.prog tyT 50 ⟨.other, 1, [.v (.nilFunc)], false, 8⟩ := ⟨⟨_, _, rfl, rfl, rfl, rfl, rfl, (by first | exact (fun _ => ⟨_, rfl⟩) | exact (fun h => by cases h)), (by first | exact (fun _ => rfl) | exact (fun h => by cases h))⟩, ⟨_, rfl, (fun _ h => by cases h), (fun _ _ h => by cases h)⟩, (fun fs h => by cases h),
  (fun h => by cases h)⟩
theorem ty51 : TyOk1 Tryz.prog tyT 51 ⟨.int .i64, 1, [.v (.int .i64 0)], false, 8⟩ := ⟨⟨_, _, rfl, rfl, rfl, rfl, rfl, (by first | exact (fun _ => ⟨_, rfl⟩) | exact (fun h => by cases h)), (by first | exact (fun _ => rfl) | exact (fun h => by cases h))⟩, rfl, (fun fs h => by cases h),
  (fun h => by cases h)⟩
theorem ty52 : TyOk1 Tryz.prog tyT 52 ⟨.other, 1, [.v (.nilFunc)], false, 8⟩ := ⟨⟨_, _, rfl, rfl, rfl, rfl, rfl, (by first | exact (fun _ => ⟨_, rfl⟩) | exact (fun h => by cases h)), (by first | exact (fun _ => rfl) | exact (fun h => by cases h))⟩, ⟨_, rfl, (fun _ h => by cases h), (fun _ _ h => by cases h)⟩, (fun fs h => by cases h),
  (fun h => by cases h)⟩
theorem ty53 : TyOk1 Tryz.prog tyT 53 ⟨.other, 1, [.v (.nilFunc)], false, 8⟩ := ⟨⟨_, _, rfl, rfl, rfl, rfl, rfl, (by first | exact (fun _ => ⟨_, rfl⟩) | exact (fun h => by cases h)), (by first | exact (fun _ => rfl) | exact (fun h => by cases h))⟩, ⟨_, rfl, (fun _ h => by cases h), (fun _ _ h => by cases h)⟩, (fun fs h => by cases h),
  (fun h => by cases h)⟩
theorem ty54 : TyOk1 Tryz.prog tyT 54 ⟨.other, 1, [.v (.nilFunc)], false, 8⟩ := ⟨⟨_, _, rfl, rfl, rfl, rfl, rfl, (by first | exact (fun _ => ⟨_, rfl⟩) | exact (fun h => by cases h)), (by first | exact (fun _ => rfl) | exact (fun h => by cases h))⟩, ⟨_, rfl, (fun _ h => by cases h), (fun _ _ h => by cases h)⟩, (fun fs h => by cases h),
  (fun h => by cases h)⟩
theorem ty55 : TyOk1 Tryz.prog tyT 55 ⟨.int .u64, 1, [.v (.int .u64 0)], false, 8⟩ := ⟨⟨_, _, rfl, rfl, rfl, rfl, rfl, (by first | exact (fun _ => ⟨_, rfl⟩) | exact (fun h => by cases h)), (by first | exact (fun _ => rfl) | exact (fun h => by cases h))⟩, rfl, (fun fs h => by cases h),
  (fun h => by cases h)⟩
theorem ty56 : TyOk1 Tryz.prog tyT 56 ⟨.struct [(0, 55), (1, 55)], 2, [.v (.int .u64 0), .v (.int .u64 0)], true, 16⟩ := ⟨⟨_, _, rfl, rfl, rfl, rfl, rfl, (by first | exact (fun _ => ⟨_, rfl⟩) | exact (fun h => by cases h)), (by first | exact (fun _ => rfl) | exact (fun h => by cases h))⟩, ⟨_, rfl, rfl⟩, (fun fs h => by injection h with h; subst h; intro p hp; revert p; simp only [List.forall_mem_cons, List.not_mem_nil, false_implies, implies_true, and_true]; first | rfl | (repeat' apply And.intro) <;> rfl),
  (fun _ => ⟨(by first | exact Tryz.stoodInHeld56 | kernel_rfl), (by first | exact Tryz.eqGuardType56 | kernel_rfl), (fun fields h => by injection h with h; injection h with h; subst h; simp)⟩)⟩
theorem ty57 : TyOk1 Tryz.prog tyT 57 ⟨.struct [(0, 55), (1, 55)], 2, [.v (.int .u64 0), .v (.int .u64 0)], true, 16⟩ := ⟨⟨_, _, rfl, rfl, rfl, rfl, rfl, (by first | exact (fun _ => ⟨_, rfl⟩) | exact (fun h => by cases h)), (by first | exact (fun _ => rfl) | exact (fun h => by cases h))⟩, ⟨_, rfl, rfl⟩, (fun fs h => by injection h with h; subst h; intro p hp; revert p; simp only [List.forall_mem_cons, List.not_mem_nil, false_implies, implies_true, and_true]; first | rfl | (repeat' apply And.intro) <;> rfl),
  (fun _ => ⟨(by first | exact Tryz.stoodInHeld57 | kernel_rfl), (by first | exact Tryz.eqGuardType57 | kernel_rfl), (fun fields h => by injection h with h; injection h with h; subst h; simp)⟩)⟩
theorem ty58 : TyOk1 Tryz.prog tyT 58 ⟨.struct [(0, 4), (1, 57), (3, 3)], 4, [.v (.bool false), .v (.int .u64 0), .v (.int .u64 0), .v (.int .i64 0)], true, 32⟩ := ⟨⟨_, _, rfl, rfl, rfl, rfl, rfl, (by first | exact (fun _ => ⟨_, rfl⟩) | exact (fun h => by cases h)), (by first | exact (fun _ => rfl) | exact (fun h => by cases h))⟩, ⟨_, rfl, rfl⟩, (fun fs h => by injection h with h; subst h; intro p hp; revert p; simp only [List.forall_mem_cons, List.not_mem_nil, false_implies, implies_true, and_true]; first | rfl | (repeat' apply And.intro) <;> rfl),
  (fun _ => ⟨(by first | exact Tryz.stoodInHeld58 | kernel_rfl), (by first | exact Tryz.eqGuardType58 | kernel_rfl), (fun fields h => by injection h with h; injection h with h; subst h; simp)⟩)⟩
theorem ty59 : TyOk1 Tryz.prog tyT 59 ⟨.struct [(0, 4), (1, 57), (3, 3)], 4, [.v (.bool false), .v (.int .u64 0), .v (.int .u64 0), .v (.int .i64 0)], true, 32⟩ := ⟨⟨_, _, rfl, rfl, rfl, rfl, rfl, (by first | exact (fun _ => ⟨_, rfl⟩) | exact (fun h => by cases h)), (by first | exact (fun _ => rfl) | exact (fun h => by cases h))⟩, ⟨_, rfl, rfl⟩, (fun fs h => by injection h with h; subst h; intro p hp; revert p; simp only [List.forall_mem_cons, List.not_mem_nil, false_implies, implies_true, and_true]; first | rfl | (repeat' apply And.intro) <;> rfl),
  (fun _ => ⟨(by first | exact Tryz.stoodInHeld59 | kernel_rfl), (by first | exact Tryz.eqGuardType59 | kernel_rfl), (fun fields h => by injection h with h; injection h with h; subst h; simp)⟩)⟩
theorem ty60 : TyOk1 Tryz.prog tyT 60 ⟨.other, 1, [.v (.nilFunc)], false, 8⟩ := ⟨⟨_, _, rfl, rfl, rfl, rfl, rfl, (by first | exact (fun _ => ⟨_, rfl⟩) | exact (fun h => by cases h)), (by first | exact (fun _ => rfl) | exact (fun h => by cases h))⟩, ⟨_, rfl, (fun _ h => by cases h), (fun _ _ h => by cases h)⟩, (fun fs h => by cases h),
  (fun h => by cases h)⟩
theorem ty61 : TyOk1 Tryz.prog tyT 61 ⟨.other, 1, [.v (.nilFunc)], false, 8⟩ := ⟨⟨_, _, rfl, rfl, rfl, rfl, rfl, (by first | exact (fun _ => ⟨_, rfl⟩) | exact (fun h => by cases h)), (by first | exact (fun _ => rfl) | exact (fun h => by cases h))⟩, ⟨_, rfl, (fun _ h => by cases h), (fun _ _ h => by cases h)⟩, (fun fs h => by cases h),
  (fun h => by cases h)⟩
theorem ty62 : TyOk1 Tryz.prog tyT 62 ⟨.str, 1, [.v (.string ⟨#[]⟩)], false, 16⟩ := ⟨⟨_, _, rfl, rfl, rfl, rfl, rfl, (by first | exact (fun _ => ⟨_, rfl⟩) | exact (fun h => by cases h)), (by first | exact (fun _ => rfl) | exact (fun h => by cases h))⟩, rfl, (fun fs h => by cases h),
  (fun h => by cases h)⟩
theorem ty63 : TyOk1 Tryz.prog tyT 63 ⟨.bool, 1, [.v (.bool false)], false, 1⟩ := ⟨⟨_, _, rfl, rfl, rfl, rfl, rfl, (by first | exact (fun _ => ⟨_, rfl⟩) | exact (fun h => by cases h)), (by first | exact (fun _ => rfl) | exact (fun h => by cases h))⟩, rfl, (fun fs h => by cases h),
  (fun h => by cases h)⟩
theorem ty65 : TyOk1 Tryz.prog tyT 65 ⟨.arr 2 35, 2, [.v (.nilIface), .v (.nilIface)], false, 32⟩ := ⟨⟨_, _, rfl, rfl, rfl, rfl, rfl, (by first | exact (fun _ => ⟨_, rfl⟩) | exact (fun h => by cases h)), (by first | exact (fun _ => rfl) | exact (fun h => by cases h))⟩, rfl, (fun fs h => by cases h),
  (fun h => by cases h)⟩
theorem ty67 : TyOk1 Tryz.prog tyT 67 ⟨.other, 1, [.v (.nilFunc)], false, 8⟩ := ⟨⟨_, _, rfl, rfl, rfl, rfl, rfl, (by first | exact (fun _ => ⟨_, rfl⟩) | exact (fun h => by cases h)), (by first | exact (fun _ => rfl) | exact (fun h => by cases h))⟩, ⟨_, rfl, (fun _ h => by cases h), (fun _ _ h => by cases h)⟩, (fun fs h => by cases h),
  (fun h => by cases h)⟩
theorem ty68 : TyOk1 Tryz.prog tyT 68 ⟨.other, 1, [.v (.nilFunc)], false, 8⟩ := ⟨⟨_, _, rfl, rfl, rfl, rfl, rfl, (by first | exact (fun _ => ⟨_, rfl⟩) | exact (fun h => by cases h)), (by first | exact (fun _ => rfl) | exact (fun h => by cases h))⟩, ⟨_, rfl, (fun _ h => by cases h), (fun _ _ h => by cases h)⟩, (fun fs h => by cases h),
  (fun h => by cases h)⟩
theorem ty69 : TyOk1 Tryz.prog tyT 69 ⟨.int .i64, 1, [.v (.int .i64 0)], false, 8⟩ := ⟨⟨_, _, rfl, rfl, rfl, rfl, rfl, (by first | exact (fun _ => ⟨_, rfl⟩) | exact (fun h => by cases h)), (by first | exact (fun _ => rfl) | exact (fun h => by cases h))⟩, rfl, (fun fs h => by cases h),
  (fun h => by cases h)⟩
theorem ty70 : TyOk1 Tryz.prog tyT 70 ⟨.other, 1, [.v (.nilFunc)], false, 8⟩ := ⟨⟨_, _, rfl, rfl, rfl, rfl, rfl, (by first | exact (fun _ => ⟨_, rfl⟩) | exact (fun h => by cases h)), (by first | exact (fun _ => rfl) | exact (fun h => by cases h))⟩, ⟨_, rfl, (fun _ h => by cases h), (fun _ _ h => by cases h)⟩, (fun fs h => by cases h),
  (fun h => by cases h)⟩
theorem ty71 : TyOk1 Tryz.prog tyT 71 ⟨.other, 1, [.v (.nilFunc)], false, 8⟩ := ⟨⟨_, _, rfl, rfl, rfl, rfl, rfl, (by first | exact (fun _ => ⟨_, rfl⟩) | exact (fun h => by cases h)), (by first | exact (fun _ => rfl) | exact (fun h => by cases h))⟩, ⟨_, rfl, (fun _ h => by cases h), (fun _ _ h => by cases h)⟩, (fun fs h => by cases h),
  (fun h => by cases h)⟩
theorem ty72 : TyOk1 Tryz.prog tyT 72 ⟨.other, 1, [.v (.nilFunc)], false, 8⟩ := ⟨⟨_, _, rfl, rfl, rfl, rfl, rfl, (by first | exact (fun _ => ⟨_, rfl⟩) | exact (fun h => by cases h)), (by first | exact (fun _ => rfl) | exact (fun h => by cases h))⟩, ⟨_, rfl, (fun _ h => by cases h), (fun _ _ h => by cases h)⟩, (fun fs h => by cases h),
  (fun h => by cases h)⟩
theorem ty73 : TyOk1 Tryz.prog tyT 73 ⟨.other, 1, [.v (.nilFunc)], false, 8⟩ := ⟨⟨_, _, rfl, rfl, rfl, rfl, rfl, (by first | exact (fun _ => ⟨_, rfl⟩) | exact (fun h => by cases h)), (by first | exact (fun _ => rfl) | exact (fun h => by cases h))⟩, ⟨_, rfl, (fun _ h => by cases h), (fun _ _ h => by cases h)⟩, (fun fs h => by cases h),
  (fun h => by cases h)⟩
theorem ty74 : TyOk1 Tryz.prog tyT 74 ⟨.other, 1, [.v (.nilFunc)], false, 8⟩ := ⟨⟨_, _, rfl, rfl, rfl, rfl, rfl, (by first | exact (fun _ => ⟨_, rfl⟩) | exact (fun h => by cases h)), (by first | exact (fun _ => rfl) | exact (fun h => by cases h))⟩, ⟨_, rfl, (fun _ h => by cases h), (fun _ _ h => by cases h)⟩, (fun fs h => by cases h),
  (fun h => by cases h)⟩
theorem ty75 : TyOk1 Tryz.prog tyT 75 ⟨.struct [(0, 65), (2, 23)], 4, [.v (.nilIface), .v (.nilIface), .v (.bool false), .v (.bool false)], false, 40⟩ := ⟨⟨_, _, rfl, rfl, rfl, rfl, rfl, (by first | exact (fun _ => ⟨_, rfl⟩) | exact (fun h => by cases h)), (by first | exact (fun _ => rfl) | exact (fun h => by cases h))⟩, ⟨_, rfl, rfl⟩, (fun fs h => by injection h with h; subst h; intro p hp; revert p; simp only [List.forall_mem_cons, List.not_mem_nil, false_implies, implies_true, and_true]; first | rfl | (repeat' apply And.intro) <;> rfl),
  (fun h => by cases h)⟩
theorem ty76 : TyOk1 Tryz.prog tyT 76 ⟨.struct [(0, 65), (2, 23)], 4, [.v (.nilIface), .v (.nilIface), .v (.bool false), .v (.bool false)], false, 40⟩ := ⟨⟨_, _, rfl, rfl, rfl, rfl, rfl, (by first | exact (fun _ => ⟨_, rfl⟩) | exact (fun h => by cases h)), (by first | exact (fun _ => rfl) | exact (fun h => by cases h))⟩, ⟨_, rfl, rfl⟩, (fun fs h => by injection h with h; subst h; intro p hp; revert p; simp only [List.forall_mem_cons, List.not_mem_nil, false_implies, implies_true, and_true]; first | rfl | (repeat' apply And.intro) <;> rfl),
  (fun h => by cases h)⟩
theorem ty77 : TyOk1 Tryz.prog tyT 77 ⟨.struct [(0, 4), (1, 57), (3, 3)], 4, [.v (.bool false), .v (.int .u64 0), .v (.int .u64 0), .v (.int .i64 0)], true, 32⟩ := ⟨⟨_, _, rfl, rfl, rfl, rfl, rfl, (by first | exact (fun _ => ⟨_, rfl⟩) | exact (fun h => by cases h)), (by first | exact (fun _ => rfl) | exact (fun h => by cases h))⟩, ⟨_, rfl, rfl⟩, (fun fs h => by injection h with h; subst h; intro p hp; revert p; simp only [List.forall_mem_cons, List.not_mem_nil, false_implies, implies_true, and_true]; first | rfl | (repeat' apply And.intro) <;> rfl),
  (fun _ => ⟨(by first | exact Tryz.stoodInHeld77 | kernel_rfl), (by first | exact Tryz.eqGuardType77 | kernel_rfl), (fun fields h => by injection h with h; injection h with h; subst h; simp)⟩)⟩
theorem ty78 : TyOk1 Tryz.prog tyT 78 ⟨.other, 1, [.v (.nilFunc)], false, 8⟩ := ⟨⟨_, _, rfl, rfl, rfl, rfl, rfl, (by first | exact (fun _ => ⟨_, rfl⟩) | exact (fun h => by cases h)), (by first | exact (fun _ => rfl) | exact (fun h => by cases h))⟩, ⟨_, rfl, (fun _ h => by cases h), (fun _ _ h => by cases h)⟩, (fun fs h => by cases h),
  (fun h => by cases h)⟩
theorem ty79 : TyOk1 Tryz.prog tyT 79 ⟨.other, 1, [.v (.nilFunc)], false, 8⟩ := ⟨⟨_, _, rfl, rfl, rfl, rfl, rfl, (by first | exact (fun _ => ⟨_, rfl⟩) | exact (fun h => by cases h)), (by first | exact (fun _ => rfl) | exact (fun h => by cases h))⟩, ⟨_, rfl, (fun _ h => by cases h), (fun _ _ h => by cases h)⟩, (fun fs h => by cases h),
  (fun h => by cases h)⟩
theorem ty81 : TyOk1 Tryz.prog tyT 81 ⟨.struct [(0, 5), (1, 5)], 2, [.v (.int .u8 0), .v (.int .u8 0)], true, 2⟩ := ⟨⟨_, _, rfl, rfl, rfl, rfl, rfl, (by first | exact (fun _ => ⟨_, rfl⟩) | exact (fun h => by cases h)), (by first | exact (fun _ => rfl) | exact (fun h => by cases h))⟩, ⟨_, rfl, rfl⟩, (fun fs h => by injection h with h; subst h; intro p hp; revert p; simp only [List.forall_mem_cons, List.not_mem_nil, false_implies, implies_true, and_true]; first | rfl | (repeat' apply And.intro) <;> rfl),
  (fun _ => ⟨(by first | exact Tryz.stoodInHeld81 | kernel_rfl), (by first | exact Tryz.eqGuardType81 | kernel_rfl), (fun fields h => by injection h with h; injection h with h; subst h; simp)⟩)⟩
theorem ty82 : TyOk1 Tryz.prog tyT 82 ⟨.struct [(0, 5), (1, 5)], 2, [.v (.int .u8 0), .v (.int .u8 0)], true, 2⟩ := ⟨⟨_, _, rfl, rfl, rfl, rfl, rfl, (by first | exact (fun _ => ⟨_, rfl⟩) | exact (fun h => by cases h)), (by first | exact (fun _ => rfl) | exact (fun h => by cases h))⟩, ⟨_, rfl, rfl⟩, (fun fs h => by injection h with h; subst h; intro p hp; revert p; simp only [List.forall_mem_cons, List.not_mem_nil, false_implies, implies_true, and_true]; first | rfl | (repeat' apply And.intro) <;> rfl),
  (fun _ => ⟨(by first | exact Tryz.stoodInHeld82 | kernel_rfl), (by first | exact Tryz.eqGuardType82 | kernel_rfl), (fun fields h => by injection h with h; injection h with h; subst h; simp)⟩)⟩
theorem ty83 : TyOk1 Tryz.prog tyT 83 ⟨.arr 16 82, 32, [.v (.int .u8 0), .v (.int .u8 0), .v (.int .u8 0), .v (.int .u8 0), .v (.int .u8 0), .v (.int .u8 0), .v (.int .u8 0), .v (.int .u8 0), .v (.int .u8 0), .v (.int .u8 0), .v (.int .u8 0), .v (.int .u8 0), .v (.int .u8 0), .v (.int .u8 0), .v (.int .u8 0), .v (.int .u8 0), .v (.int .u8 0), .v (.int .u8 0), .v (.int .u8 0), .v (.int .u8 0), .v (.int .u8 0), .v (.int .u8 0), .v (.int .u8 0), .v (.int .u8 0), .v (.int .u8 0), .v (.int .u8 0), .v (.int .u8 0), .v (.int .u8 0), .v (.int .u8 0), .v (.int .u8 0), .v (.int .u8 0), .v (.int .u8 0)], false, 32⟩ := ⟨⟨_, _, rfl, rfl, rfl, rfl, rfl, (by first | exact (fun _ => ⟨_, rfl⟩) | exact (fun h => by cases h)), (by first | exact (fun _ => rfl) | exact (fun h => by cases h))⟩, rfl, (fun fs h => by cases h),
  (fun h => by cases h)⟩
theorem ty84 : TyOk1 Tryz.prog tyT 84 ⟨.int .u64, 1, [.v (.int .u64 0)], false, 8⟩ := ⟨⟨_, _, rfl, rfl, rfl, rfl, rfl, (by first | exact (fun _ => ⟨_, rfl⟩) | exact (fun h => by cases h)), (by first | exact (fun _ => rfl) | exact (fun h => by cases h))⟩, rfl, (fun fs h => by cases h),
  (fun h => by cases h)⟩
theorem ty86 : TyOk1 Tryz.prog tyT 86 ⟨.other, 1, [.v (.nilFunc)], false, 8⟩ := ⟨⟨_, _, rfl, rfl, rfl, rfl, rfl, (by first | exact (fun _ => ⟨_, rfl⟩) | exact (fun h => by cases h)), (by first | exact (fun _ => rfl) | exact (fun h => by cases h))⟩, ⟨_, rfl, (fun _ h => by cases h), (fun _ _ h => by cases h)⟩, (fun fs h => by cases h),
  (fun h => by cases h)⟩
theorem ty87 : TyOk1 Tryz.prog tyT 87 ⟨.other, 1, [.v (.nilFunc)], false, 8⟩ := ⟨⟨_, _, rfl, rfl, rfl, rfl, rfl, (by first | exact (fun _ => ⟨_, rfl⟩) | exact (fun h => by cases h)), (by first | exact (fun _ => rfl) | exact (fun h => by cases h))⟩, ⟨_, rfl, (fun _ h => by cases h), (fun _ _ h => by cases h)⟩, (fun fs h => by cases h),
  (fun h => by cases h)⟩
theorem ty88 : TyOk1 Tryz.prog tyT 88 ⟨.other, 1, [.v (.nilFunc)], false, 8⟩ := ⟨⟨_, _, rfl, rfl, rfl, rfl, rfl, (by first | exact (fun _ => ⟨_, rfl⟩) | exact (fun h => by cases h)), (by first | exact (fun _ => rfl) | exact (fun h => by cases h))⟩, ⟨_, rfl, (fun _ h => by cases h), (fun _ _ h => by cases h)⟩, (fun fs h => by cases h),
  (fun h => by cases h)⟩
theorem ty89 : TyOk1 Tryz.prog tyT 89 ⟨.other, 1, [.v (.nilFunc)], false, 8⟩ := ⟨⟨_, _, rfl, rfl, rfl, rfl, rfl, (by first | exact (fun _ => ⟨_, rfl⟩) | exact (fun h => by cases h)), (by first | exact (fun _ => rfl) | exact (fun h => by cases h))⟩, ⟨_, rfl, (fun _ h => by cases h), (fun _ _ h => by cases h)⟩, (fun fs h => by cases h),
  (fun h => by cases h)⟩
theorem ty90 : TyOk1 Tryz.prog tyT 90 ⟨.other, 1, [.v (.nilFunc)], false, 8⟩ := ⟨⟨_, _, rfl, rfl, rfl, rfl, rfl, (by first | exact (fun _ => ⟨_, rfl⟩) | exact (fun h => by cases h)), (by first | exact (fun _ => rfl) | exact (fun h => by cases h))⟩, ⟨_, rfl, (fun _ h => by cases h), (fun _ _ h => by cases h)⟩, (fun fs h => by cases h),
  (fun h => by cases h)⟩
theorem ty92 : TyOk1 Tryz.prog tyT 92 ⟨.other, 1, [.v (.nilFunc)], false, 8⟩ := ⟨⟨_, _, rfl, rfl, rfl, rfl, rfl, (by first | exact (fun _ => ⟨_, rfl⟩) | exact (fun h => by cases h)), (by first | exact (fun _ => rfl) | exact (fun h => by cases h))⟩, ⟨_, rfl, (fun _ h => by cases h), (fun _ _ h => by cases h)⟩, (fun fs h => by cases h),
  (fun h => by cases h)⟩
theorem ty94 : TyOk1 Tryz.prog tyT 94 ⟨.other, 1, [.v (.nilFunc)], false, 8⟩ := ⟨⟨_, _, rfl, rfl, rfl, rfl, rfl, (by first | exact (fun _ => ⟨_, rfl⟩) | exact (fun h => by cases h)), (by first | exact (fun _ => rfl) | exact (fun h => by cases h))⟩, ⟨_, rfl, (fun _ h => by cases h), (fun _ _ h => by cases h)⟩, (fun fs h => by cases h),
  (fun h => by cases h)⟩
theorem ty96 : TyOk1 Tryz.prog tyT 96 ⟨.other, 1, [.v (.nilFunc)], false, 8⟩ := ⟨⟨_, _, rfl, rfl, rfl, rfl, rfl, (by first | exact (fun _ => ⟨_, rfl⟩) | exact (fun h => by cases h)), (by first | exact (fun _ => rfl) | exact (fun h => by cases h))⟩, ⟨_, rfl, (fun _ h => by cases h), (fun _ _ h => by cases h)⟩, (fun fs h => by cases h),
  (fun h => by cases h)⟩
theorem ty98 : TyOk1 Tryz.prog tyT 98 ⟨.other, 1, [.v (.nilFunc)], false, 8⟩ := ⟨⟨_, _, rfl, rfl, rfl, rfl, rfl, (by first | exact (fun _ => ⟨_, rfl⟩) | exact (fun h => by cases h)), (by first | exact (fun _ => rfl) | exact (fun h => by cases h))⟩, ⟨_, rfl, (fun _ h => by cases h), (fun _ _ h => by cases h)⟩, (fun fs h => by cases h),
  (fun h => by cases h)⟩
theorem ty99 : TyOk1 Tryz.prog tyT 99 ⟨.other, 1, [.v (.nilFunc)], false, 8⟩ := ⟨⟨_, _, rfl, rfl, rfl, rfl, rfl, (by first | exact (fun _ => ⟨_, rfl⟩) | exact (fun h => by cases h)), (by first | exact (fun _ => rfl) | exact (fun h => by cases h))⟩, ⟨_, rfl, (fun _ h => by cases h), (fun _ _ h => by cases h)⟩, (fun fs h => by cases h),
  (fun h => by cases h)⟩
theorem ty101 : TyOk1 Tryz.prog tyT 101 ⟨.other, 1, [.v (.nilFunc)], false, 8⟩ := ⟨⟨_, _, rfl, rfl, rfl, rfl, rfl, (by first | exact (fun _ => ⟨_, rfl⟩) | exact (fun h => by cases h)), (by first | exact (fun _ => rfl) | exact (fun h => by cases h))⟩, ⟨_, rfl, (fun _ h => by cases h), (fun _ _ h => by cases h)⟩, (fun fs h => by cases h),
  (fun h => by cases h)⟩
theorem ty102 : TyOk1 Tryz.prog tyT 102 ⟨.other, 1, [.v (.nilFunc)], false, 8⟩ := ⟨⟨_, _, rfl, rfl, rfl, rfl, rfl, (by first | exact (fun _ => ⟨_, rfl⟩) | exact (fun h => by cases h)), (by first | exact (fun _ => rfl) | exact (fun h => by cases h))⟩, ⟨_, rfl, (fun _ h => by cases h), (fun _ _ h => by cases h)⟩, (fun fs h => by cases h),
  (fun h => by cases h)⟩
theorem ty103 : TyOk1 Tryz.prog tyT 103 ⟨.struct [(0, 3), (1, 3), (2, 3)], 3, [.v (.int .i64 0), .v (.int .i64 0), .v (.int .i64 0)], true, 24⟩ := ⟨⟨_, _, rfl, rfl, rfl, rfl, rfl, (by first | exact (fun _ => ⟨_, rfl⟩) | exact (fun h => by cases h)), (by first | exact (fun _ => rfl) | exact (fun h => by cases h))⟩, ⟨_, rfl, rfl⟩, (fun fs h => by injection h with h; subst h; intro p hp; revert p; simp only [List.forall_mem_cons, List.not_mem_nil, false_implies, implies_true, and_true]; first | rfl | (repeat' apply And.intro) <;> rfl),
  (fun _ => ⟨(by first | exact Tryz.stoodInHeld103 | kernel_rfl), (by first | exact Tryz.eqGuardType103 | kernel_rfl), (fun fields h => by injection h with h; injection h with h; subst h; simp)⟩)⟩
theorem ty104 : TyOk1 Tryz.prog tyT 104 ⟨.struct [(0, 3), (1, 3), (2, 3)], 3, [.v (.int .i64 0), .v (.int .i64 0), .v (.int .i64 0)], true, 24⟩ := ⟨⟨_, _, rfl, rfl, rfl, rfl, rfl, (by first | exact (fun _ => ⟨_, rfl⟩) | exact (fun h => by cases h)), (by first | exact (fun _ => rfl) | exact (fun h => by cases h))⟩, ⟨_, rfl, rfl⟩, (fun fs h => by injection h with h; subst h; intro p hp; revert p; simp only [List.forall_mem_cons, List.not_mem_nil, false_implies, implies_true, and_true]; first | rfl | (repeat' apply And.intro) <;> rfl),
  (fun _ => ⟨(by first | exact Tryz.stoodInHeld104 | kernel_rfl), (by first | exact Tryz.eqGuardType104 | kernel_rfl), (fun fields h => by injection h with h; injection h with h; subst h; simp)⟩)⟩
theorem ty106 : TyOk1 Tryz.prog tyT 106 ⟨.other, 1, [.v (.nilFunc)], false, 8⟩ := ⟨⟨_, _, rfl, rfl, rfl, rfl, rfl, (by first | exact (fun _ => ⟨_, rfl⟩) | exact (fun h => by cases h)), (by first | exact (fun _ => rfl) | exact (fun h => by cases h))⟩, ⟨_, rfl, (fun _ h => by cases h), (fun _ _ h => by cases h)⟩, (fun fs h => by cases h),
  (fun h => by cases h)⟩
theorem ty107 : TyOk1 Tryz.prog tyT 107 ⟨.other, 1, [.v (.nilFunc)], false, 8⟩ := ⟨⟨_, _, rfl, rfl, rfl, rfl, rfl, (by first | exact (fun _ => ⟨_, rfl⟩) | exact (fun h => by cases h)), (by first | exact (fun _ => rfl) | exact (fun h => by cases h))⟩, ⟨_, rfl, (fun _ h => by cases h), (fun _ _ h => by cases h)⟩, (fun fs h => by cases h),
  (fun h => by cases h)⟩
theorem ty108 : TyOk1 Tryz.prog tyT 108 ⟨.struct [(0, 3), (1, 4), (2, 3)], 3, [.v (.int .i64 0), .v (.bool false), .v (.int .i64 0)], true, 24⟩ := ⟨⟨_, _, rfl, rfl, rfl, rfl, rfl, (by first | exact (fun _ => ⟨_, rfl⟩) | exact (fun h => by cases h)), (by first | exact (fun _ => rfl) | exact (fun h => by cases h))⟩, ⟨_, rfl, rfl⟩, (fun fs h => by injection h with h; subst h; intro p hp; revert p; simp only [List.forall_mem_cons, List.not_mem_nil, false_implies, implies_true, and_true]; first | rfl | (repeat' apply And.intro) <;> rfl),
  (fun _ => ⟨(by first | exact Tryz.stoodInHeld108 | kernel_rfl), (by first | exact Tryz.eqGuardType108 | kernel_rfl), (fun fields h => by injection h with h; injection h with h; subst h; simp)⟩)⟩
theorem ty109 : TyOk1 Tryz.prog tyT 109 ⟨.struct [(0, 3), (1, 4), (2, 3)], 3, [.v (.int .i64 0), .v (.bool false), .v (.int .i64 0)], true, 24⟩ := ⟨⟨_, _, rfl, rfl, rfl, rfl, rfl, (by first | exact (fun _ => ⟨_, rfl⟩) | exact (fun h => by cases h)), (by first | exact (fun _ => rfl) | exact (fun h => by cases h))⟩, ⟨_, rfl, rfl⟩, (fun fs h => by injection h with h; subst h; intro p hp; revert p; simp only [List.forall_mem_cons, List.not_mem_nil, false_implies, implies_true, and_true]; first | rfl | (repeat' apply And.intro) <;> rfl),
  (fun _ => ⟨(by first | exact Tryz.stoodInHeld109 | kernel_rfl), (by first | exact Tryz.eqGuardType109 | kernel_rfl), (fun fields h => by injection h with h; injection h with h; subst h; simp)⟩)⟩
theorem ty111 : TyOk1 Tryz.prog tyT 111 ⟨.other, 1, [.v (.nilFunc)], false, 8⟩ := ⟨⟨_, _, rfl, rfl, rfl, rfl, rfl, (by first | exact (fun _ => ⟨_, rfl⟩) | exact (fun h => by cases h)), (by first | exact (fun _ => rfl) | exact (fun h => by cases h))⟩, ⟨_, rfl, (fun _ h => by cases h), (fun _ _ h => by cases h)⟩, (fun fs h => by cases h),
  (fun h => by cases h)⟩
theorem ty112 : TyOk1 Tryz.prog tyT 112 ⟨.other, 1, [.v (.nilFunc)], false, 8⟩ := ⟨⟨_, _, rfl, rfl, rfl, rfl, rfl, (by first | exact (fun _ => ⟨_, rfl⟩) | exact (fun h => by cases h)), (by first | exact (fun _ => rfl) | exact (fun h => by cases h))⟩, ⟨_, rfl, (fun _ h => by cases h), (fun _ _ h => by cases h)⟩, (fun fs h => by cases h),
  (fun h => by cases h)⟩
theorem ty113 : TyOk1 Tryz.prog tyT 113 ⟨.struct [(0, 104), (3, 109)], 6, [.v (.int .i64 0), .v (.int .i64 0), .v (.int .i64 0), .v (.int .i64 0), .v (.bool false), .v (.int .i64 0)], true, 48⟩ := ⟨⟨_, _, rfl, rfl, rfl, rfl, rfl, (by first | exact (fun _ => ⟨_, rfl⟩) | exact (fun h => by cases h)), (by first | exact (fun _ => rfl) | exact (fun h => by cases h))⟩, ⟨_, rfl, rfl⟩, (fun fs h => by injection h with h; subst h; intro p hp; revert p; simp only [List.forall_mem_cons, List.not_mem_nil, false_implies, implies_true, and_true]; first | rfl | (repeat' apply And.intro) <;> rfl),
  (fun _ => ⟨(by first | exact Tryz.stoodInHeld113 | kernel_rfl), (by first | exact Tryz.eqGuardType113 | kernel_rfl), (fun fields h => by injection h with h; injection h with h; subst h; simp)⟩)⟩
theorem ty114 : TyOk1 Tryz.prog tyT 114 ⟨.struct [(0, 104), (3, 109)], 6, [.v (.int .i64 0), .v (.int .i64 0), .v (.int .i64 0), .v (.int .i64 0), .v (.bool false), .v (.int .i64 0)], true, 48⟩ := ⟨⟨_, _, rfl, rfl, rfl, rfl, rfl, (by first | exact (fun _ => ⟨_, rfl⟩) | exact (fun h => by cases h)), (by first | exact (fun _ => rfl) | exact (fun h => by cases h))⟩, ⟨_, rfl, rfl⟩, (fun fs h => by injection h with h; subst h; intro p hp; revert p; simp only [List.forall_mem_cons, List.not_mem_nil, false_implies, implies_true, and_true]; first | rfl | (repeat' apply And.intro) <;> rfl),
  (fun _ => ⟨(by first | exact Tryz.stoodInHeld114 | kernel_rfl), (by first | exact Tryz.eqGuardType114 | kernel_rfl), (fun fields h => by injection h with h; injection h with h; subst h; simp)⟩)⟩
theorem ty116 : TyOk1 Tryz.prog tyT 116 ⟨.other, 1, [.v (.nilFunc)], false, 8⟩ := ⟨⟨_, _, rfl, rfl, rfl, rfl, rfl, (by first | exact (fun _ => ⟨_, rfl⟩) | exact (fun h => by cases h)), (by first | exact (fun _ => rfl) | exact (fun h => by cases h))⟩, ⟨_, rfl, (fun _ h => by cases h), (fun _ _ h => by cases h)⟩, (fun fs h => by cases h),
  (fun h => by cases h)⟩
theorem ty117 : TyOk1 Tryz.prog tyT 117 ⟨.other, 1, [.v (.nilFunc)], false, 8⟩ := ⟨⟨_, _, rfl, rfl, rfl, rfl, rfl, (by first | exact (fun _ => ⟨_, rfl⟩) | exact (fun h => by cases h)), (by first | exact (fun _ => rfl) | exact (fun h => by cases h))⟩, ⟨_, rfl, (fun _ h => by cases h), (fun _ _ h => by cases h)⟩, (fun fs h => by cases h),
  (fun h => by cases h)⟩
theorem ty119 : TyOk1 Tryz.prog tyT 119 ⟨.other, 1, [.v (.nilFunc)], false, 8⟩ := ⟨⟨_, _, rfl, rfl, rfl, rfl, rfl, (by first | exact (fun _ => ⟨_, rfl⟩) | exact (fun h => by cases h)), (by first | exact (fun _ => rfl) | exact (fun h => by cases h))⟩, ⟨_, rfl, (fun _ h => by cases h), (fun _ _ h => by cases h)⟩, (fun fs h => by cases h),
  (fun h => by cases h)⟩
theorem ty120 : TyOk1 Tryz.prog tyT 120 ⟨.other, 1, [.v (.nilFunc)], false, 8⟩ := ⟨⟨_, _, rfl, rfl, rfl, rfl, rfl, (by first | exact (fun _ => ⟨_, rfl⟩) | exact (fun h => by cases h)), (by first | exact (fun _ => rfl) | exact (fun h => by cases h))⟩, ⟨_, rfl, (fun _ h => by cases h), (fun _ _ h => by cases h)⟩, (fun fs h => by cases h),
  (fun h => by cases h)⟩
theorem ty122 : TyOk1 Tryz.prog tyT 122 ⟨.other, 1, [.v (.nilFunc)], false, 8⟩ := ⟨⟨_, _, rfl, rfl, rfl, rfl, rfl, (by first | exact (fun _ => ⟨_, rfl⟩) | exact (fun h => by cases h)), (by first | exact (fun _ => rfl) | exact (fun h => by cases h))⟩, ⟨_, rfl, (fun _ h => by cases h), (fun _ _ h => by cases h)⟩, (fun fs h => by cases h),
  (fun h => by cases h)⟩
theorem ty123 : TyOk1 Tryz.prog tyT 123 ⟨.other, 1, [.v (.nilFunc)], false, 8⟩ := ⟨⟨_, _, rfl, rfl, rfl, rfl, rfl, (by first | exact (fun _ => ⟨_, rfl⟩) | exact (fun h => by cases h)), (by first | exact (fun _ => rfl) | exact (fun h => by cases h))⟩, ⟨_, rfl, (fun _ h => by cases h), (fun _ _ h => by cases h)⟩, (fun fs h => by cases h),
  (fun h => by cases h)⟩
theorem ty124 : TyOk1 Tryz.prog tyT 124 ⟨.other, 1, [.v (.nilFunc)], false, 8⟩ := ⟨⟨_, _, rfl, rfl, rfl, rfl, rfl, (by first | exact (fun _ => ⟨_, rfl⟩) | exact (fun h => by cases h)), (by first | exact (fun _ => rfl) | exact (fun h => by cases h))⟩, ⟨_, rfl, (fun _ h => by cases h), (fun _ _ h => by cases h)⟩, (fun fs h => by cases h),
  (fun h => by cases h)⟩
theorem ty125 : TyOk1 Tryz.prog tyT 125 ⟨.struct [(0, 4), (1, 57), (3, 57), (5, 3), (6, 4)], 7, [.v (.bool false), .v (.int .u64 0), .v (.int .u64 0), .v (.int .u64 0), .v (.int .u64 0), .v (.int .i64 0), .v (.bool false)], true, 56⟩ := ⟨⟨_, _, rfl, rfl, rfl, rfl, rfl, (by first | exact (fun _ => ⟨_, rfl⟩) | exact (fun h => by cases h)), (by first | exact (fun _ => rfl) | exact (fun h => by cases h))⟩, ⟨_, rfl, rfl⟩, (fun fs h => by injection h with h; subst h; intro p hp; revert p; simp only [List.forall_mem_cons, List.not_mem_nil, false_implies, implies_true, and_true]; first | rfl | (repeat' apply And.intro) <;> rfl),
  (fun _ => ⟨(by first | exact Tryz.stoodInHeld125 | kernel_rfl), (by first | exact Tryz.eqGuardType125 | kernel_rfl), (fun fields h => by injection h with h; injection h with h; subst h; simp)⟩)⟩
theorem ty126 : TyOk1 Tryz.prog tyT 126 ⟨.struct [(0, 4), (1, 57), (3, 57), (5, 3), (6, 4)], 7, [.v (.bool false), .v (.int .u64 0), .v (.int .u64 0), .v (.int .u64 0), .v (.int .u64 0), .v (.int .i64 0), .v (.bool false)], true, 56⟩ := ⟨⟨_, _, rfl, rfl, rfl, rfl, rfl, (by first | exact (fun _ => ⟨_, rfl⟩) | exact (fun h => by cases h)), (by first | exact (fun _ => rfl) | exact (fun h => by cases h))⟩, ⟨_, rfl, rfl⟩, (fun fs h => by injection h with h; subst h; intro p hp; revert p; simp only [List.forall_mem_cons, List.not_mem_nil, false_implies, implies_true, and_true]; first | rfl | (repeat' apply And.intro) <;> rfl),
  (fun _ => ⟨(by first | exact Tryz.stoodInHeld126 | kernel_rfl), (by first | exact Tryz.eqGuardType126 | kernel_rfl), (fun fields h => by injection h with h; injection h with h; subst h; simp)⟩)⟩
theorem ty127 : TyOk1 Tryz.prog tyT 127 ⟨.other, 1, [.v (.nilFunc)], false, 8⟩ := ⟨⟨_, _, rfl, rfl, rfl, rfl, rfl, (by first | exact (fun _ => ⟨_, rfl⟩) | exact (fun h => by cases h)), (by first | exact (fun _ => rfl) | exact (fun h => by cases h))⟩, ⟨_, rfl, (fun _ h => by cases h), (fun _ _ h => by cases h)⟩, (fun fs h => by cases h),
  (fun h => by cases h)⟩
theorem ty128 : TyOk1 Tryz.prog tyT 128 ⟨.other, 1, [.v (.nilFunc)], false, 8⟩ := ⟨⟨_, _, rfl, rfl, rfl, rfl, rfl, (by first | exact (fun _ => ⟨_, rfl⟩) | exact (fun h => by cases h)), (by first | exact (fun _ => rfl) | exact (fun h => by cases h))⟩, ⟨_, rfl, (fun _ h => by cases h), (fun _ _ h => by cases h)⟩, (fun fs h => by cases h),
  (fun h => by cases h)⟩
theorem ty130 : TyOk1 Tryz.prog tyT 130 ⟨.struct [(0, 3), (1, 3), (2, 3)], 3, [.v (.int .i64 0), .v (.int .i64 0), .v (.int .i64 0)], true, 24⟩ := ⟨⟨_, _, rfl, rfl, rfl, rfl, rfl, (by first | exact (fun _ => ⟨_, rfl⟩) | exact (fun h => by cases h)), (by first | exact (fun _ => rfl) | exact (fun h => by cases h))⟩, ⟨_, rfl, rfl⟩, (fun fs h => by injection h with h; subst h; intro p hp; revert p; simp only [List.forall_mem_cons, List.not_mem_nil, false_implies, implies_true, and_true]; first | rfl | (repeat' apply And.intro) <;> rfl),
  (fun _ => ⟨(by first | exact Tryz.stoodInHeld130 | kernel_rfl), (by first | exact Tryz.eqGuardType130 | kernel_rfl), (fun fields h => by injection h with h; injection h with h; subst h; simp)⟩)⟩
theorem ty132 : TyOk1 Tryz.prog tyT 132 ⟨.arr 2 3, 2, [.v (.int .i64 0), .v (.int .i64 0)], false, 16⟩ := ⟨⟨_, _, rfl, rfl, rfl, rfl, rfl, (by first | exact (fun _ => ⟨_, rfl⟩) | exact (fun h => by cases h)), (by first | exact (fun _ => rfl) | exact (fun h => by cases h))⟩, rfl, (fun fs h => by cases h),
  (fun h => by cases h)⟩
theorem ty133 : TyOk1 Tryz.prog tyT 133 ⟨.slice 132, 1, [.sl 0 []], false, 24⟩ := ⟨⟨_, _, rfl, rfl, rfl, rfl, rfl, (by first | exact (fun _ => ⟨_, rfl⟩) | exact (fun h => by cases h)), (by first | exact (fun _ => rfl) | exact (fun h => by cases h))⟩, rfl, (fun fs h => by cases h),
  (fun h => by cases h)⟩
theorem ty134 : TyOk1 Tryz.prog tyT 134 ⟨.struct [(0, 3), (1, 4), (2, 3)], 3, [.v (.int .i64 0), .v (.bool false), .v (.int .i64 0)], true, 24⟩ := ⟨⟨_, _, rfl, rfl, rfl, rfl, rfl, (by first | exact (fun _ => ⟨_, rfl⟩) | exact (fun h => by cases h)), (by first | exact (fun _ => rfl) | exact (fun h => by cases h))⟩, ⟨_, rfl, rfl⟩, (fun fs h => by injection h with h; subst h; intro p hp; revert p; simp only [List.forall_mem_cons, List.not_mem_nil, false_implies, implies_true, and_true]; first | rfl | (repeat' apply And.intro) <;> rfl),
  (fun _ => ⟨(by first | exact Tryz.stoodInHeld134 | kernel_rfl), (by first | exact Tryz.eqGuardType134 | kernel_rfl), (fun fields h => by injection h with h; injection h with h; subst h; simp)⟩)⟩
theorem ty136 : TyOk1 Tryz.prog tyT 136 ⟨.struct [(0, 104), (3, 109)], 6, [.v (.int .i64 0), .v (.int .i64 0), .v (.int .i64 0), .v (.int .i64 0), .v (.bool false), .v (.int .i64 0)], true, 48⟩ := ⟨⟨_, _, rfl, rfl, rfl, rfl, rfl, (by first | exact (fun _ => ⟨_, rfl⟩) | exact (fun h => by cases h)), (by first | exact (fun _ => rfl) | exact (fun h => by cases h))⟩, ⟨_, rfl, rfl⟩, (fun fs h => by injection h with h; subst h; intro p hp; revert p; simp only [List.forall_mem_cons, List.not_mem_nil, false_implies, implies_true, and_true]; first | rfl | (repeat' apply And.intro) <;> rfl),
  (fun _ => ⟨(by first | exact Tryz.stoodInHeld136 | kernel_rfl), (by first | exact Tryz.eqGuardType136 | kernel_rfl), (fun fields h => by injection h with h; injection h with h; subst h; simp)⟩)⟩
theorem ty138 : TyOk1 Tryz.prog tyT 138 ⟨.other, 1, [.v (.nilFunc)], false, 8⟩ := ⟨⟨_, _, rfl, rfl, rfl, rfl, rfl, (by first | exact (fun _ => ⟨_, rfl⟩) | exact (fun h => by cases h)), (by first | exact (fun _ => rfl) | exact (fun h => by cases h))⟩, ⟨_, rfl, (fun _ h => by cases h), (fun _ _ h => by cases h)⟩, (fun fs h => by cases h),
  (fun h => by cases h)⟩
theorem ty140 : TyOk1 Tryz.prog tyT 140 ⟨.other, 1, [.v (.nilFunc)], false, 8⟩ := ⟨⟨_, _, rfl, rfl, rfl, rfl, rfl, (by first | exact (fun _ => ⟨_, rfl⟩) | exact (fun h => by cases h)), (by first | exact (fun _ => rfl) | exact (fun h => by cases h))⟩, ⟨_, rfl, (fun _ h => by cases h), (fun _ _ h => by cases h)⟩, (fun fs h => by cases h),
  (fun h => by cases h)⟩
theorem ty141 : TyOk1 Tryz.prog tyT 141 ⟨.other, 1, [.v (.nilFunc)], false, 8⟩ := ⟨⟨_, _, rfl, rfl, rfl, rfl, rfl, (by first | exact (fun _ => ⟨_, rfl⟩) | exact (fun h => by cases h)), (by first | exact (fun _ => rfl) | exact (fun h => by cases h))⟩, ⟨_, rfl, (fun _ h => by cases h), (fun _ _ h => by cases h)⟩, (fun fs h => by cases h),
  (fun h => by cases h)⟩
theorem ty142 : TyOk1 Tryz.prog tyT 142 ⟨.int .i64, 1, [.v (.int .i64 0)], false, 8⟩ := ⟨⟨_, _, rfl, rfl, rfl, rfl, rfl, (by first | exact (fun _ => ⟨_, rfl⟩) | exact (fun h => by cases h)), (by first | exact (fun _ => rfl) | exact (fun h => by cases h))⟩, rfl, (fun fs h => by cases h),
  (fun h => by cases h)⟩
theorem ty144 : TyOk1 Tryz.prog tyT 144 ⟨.int .i64, 1, [.v (.int .i64 0)], false, 8⟩ := ⟨⟨_, _, rfl, rfl, rfl, rfl, rfl, (by first | exact (fun _ => ⟨_, rfl⟩) | exact (fun h => by cases h)), (by first | exact (fun _ => rfl) | exact (fun h => by cases h))⟩, rfl, (fun fs h => by cases h),
  (fun h => by cases h)⟩
theorem ty147 : TyOk1 Tryz.prog tyT 147 ⟨.other, 1, [.v (.nilFunc)], false, 8⟩ := ⟨⟨_, _, rfl, rfl, rfl, rfl, rfl, (by first | exact (fun _ => ⟨_, rfl⟩) | exact (fun h => by cases h)), (by first | exact (fun _ => rfl) | exact (fun h => by cases h))⟩, ⟨_, rfl, (fun _ h => by cases h), (fun _ _ h => by cases h)⟩, (fun fs h => by cases h),
  (fun h => by cases h)⟩
theorem ty148 : TyOk1 Tryz.prog tyT 148 ⟨.other, 1, [.v (.nilFunc)], false, 8⟩ := ⟨⟨_, _, rfl, rfl, rfl, rfl, rfl, (by first | exact (fun _ => ⟨_, rfl⟩) | exact (fun h => by cases h)), (by first | exact (fun _ => rfl) | exact (fun h => by cases h))⟩, ⟨_, rfl, (fun _ h => by cases h), (fun _ _ h => by cases h)⟩, (fun fs h => by cases h),
  (fun h => by cases h)⟩
theorem ty149 : TyOk1 Tryz.prog tyT 149 ⟨.arr 4 55, 4, [.v (.int .u64 0), .v (.int .u64 0), .v (.int .u64 0), .v (.int .u64 0)], false, 32⟩ := ⟨⟨_, _, rfl, rfl, rfl, rfl, rfl, (by first | exact (fun _ => ⟨_, rfl⟩) | exact (fun h => by cases h)), (by first | exact (fun _ => rfl) | exact (fun h => by cases h))⟩, rfl, (fun fs h => by cases h),
  (fun h => by cases h)⟩
theorem ty150 : TyOk1 Tryz.prog tyT 150 ⟨.other, 1, [.v (.nilIface)], false, 16⟩ := ⟨⟨_, _, rfl, rfl, rfl, rfl, rfl, (by first | exact (fun _ => ⟨_, rfl⟩) | exact (fun h => by cases h)), (by first | exact (fun _ => rfl) | exact (fun h => by cases h))⟩, ⟨_, rfl, (fun _ h => by cases h), (fun _ _ h => by cases h)⟩, (fun fs h => by cases h),
  (fun h => by cases h)⟩
theorem ty151 : TyOk1 Tryz.prog tyT 151 ⟨.other, 1, [.v (.nilIface)], false, 16⟩ := ⟨⟨_, _, rfl, rfl, rfl, rfl, rfl, (by first | exact (fun _ => ⟨_, rfl⟩) | exact (fun h => by cases h)), (by first | exact (fun _ => rfl) | exact (fun h => by cases h))⟩, ⟨_, rfl, (fun _ h => by cases h), (fun _ _ h => by cases h)⟩, (fun fs h => by cases h),
  (fun h => by cases h)⟩
theorem ty152 : TyOk1 Tryz.prog tyT 152 ⟨.other, 1, [.v (.nilFunc)], false, 8⟩ := ⟨⟨_, _, rfl, rfl, rfl, rfl, rfl, (by first | exact (fun _ => ⟨_, rfl⟩) | exact (fun h => by cases h)), (by first | exact (fun _ => rfl) | exact (fun h => by cases h))⟩, ⟨_, rfl, (fun _ h => by cases h), (fun _ _ h => by cases h)⟩, (fun fs h => by cases h),
  (fun h => by cases h)⟩
theorem ty153 : TyOk1 Tryz.prog tyT 153 ⟨.other, 1, [.v (.nilFunc)], false, 8⟩ := ⟨⟨_, _, rfl, rfl, rfl, rfl, rfl, (by first | exact (fun _ => ⟨_, rfl⟩) | exact (fun h => by cases h)), (by first | exact (fun _ => rfl) | exact (fun h => by cases h))⟩, ⟨_, rfl, (fun _ h => by cases h), (fun _ _ h => by cases h)⟩, (fun fs h => by cases h),
  (fun h => by cases h)⟩
theorem ty154 : TyOk1 Tryz.prog tyT 154 ⟨.other, 1, [.v (.pointer none)], false, 8⟩ := ⟨⟨_, _, rfl, rfl, rfl, rfl, rfl, (by first | exact (fun _ => ⟨_, rfl⟩) | exact (fun h => by cases h)), (by first | exact (fun _ => rfl) | exact (fun h => by cases h))⟩, ⟨_, rfl, (fun _ h => by cases h), (fun _ _ h => by cases h)⟩, (fun fs h => by cases h),
  (fun h => by cases h)⟩
theorem ty155 : TyOk1 Tryz.prog tyT 155 ⟨.other, 1, [.v (.nilFunc)], false, 8⟩ := ⟨⟨_, _, rfl, rfl, rfl, rfl, rfl, (by first | exact (fun _ => ⟨_, rfl⟩) | exact (fun h => by cases h)), (by first | exact (fun _ => rfl) | exact (fun h => by cases h))⟩, ⟨_, rfl, (fun _ h => by cases h), (fun _ _ h => by cases h)⟩, (fun fs h => by cases h),
  (fun h => by cases h)⟩
theorem ty156 : TyOk1 Tryz.prog tyT 156 ⟨.struct [(0, 17), (1, 17), (2, 17), (3, 9)], 4, [.v (.pointer none), .v (.pointer none), .v (.pointer none), .v (.string ⟨#[]⟩)], false, 40⟩ := ⟨⟨_, _, rfl, rfl, rfl, rfl, rfl, (by first | exact (fun _ => ⟨_, rfl⟩) | exact (fun h => by cases h)), (by first | exact (fun _ => rfl) | exact (fun h => by cases h))⟩, ⟨_, rfl, rfl⟩, (fun fs h => by injection h with h; subst h; intro p hp; revert p; simp only [List.forall_mem_cons, List.not_mem_nil, false_implies, implies_true, and_true]; first | rfl | (repeat' apply And.intro) <;> rfl),
  (fun h => by cases h)⟩
theorem ty157 : TyOk1 Tryz.prog tyT 157 ⟨.struct [(0, 17), (1, 17), (2, 17), (3, 9)], 4, [.v (.pointer none), .v (.pointer none), .v (.pointer none), .v (.string ⟨#[]⟩)], false, 40⟩ := ⟨⟨_, _, rfl, rfl, rfl, rfl, rfl, (by first | exact (fun _ => ⟨_, rfl⟩) | exact (fun h => by cases h)), (by first | exact (fun _ => rfl) | exact (fun h => by cases h))⟩, ⟨_, rfl, rfl⟩, (fun fs h => by injection h with h; subst h; intro p hp; revert p; simp only [List.forall_mem_cons, List.not_mem_nil, false_implies, implies_true, and_true]; first | rfl | (repeat' apply And.intro) <;> rfl),
  (fun h => by cases h)⟩
theorem ty158 : TyOk1 Tryz.prog tyT 158 ⟨.arr 0 16, 0, [], false, 0⟩ := ⟨⟨_, _, rfl, rfl, rfl, rfl, rfl, (by first | exact (fun _ => ⟨_, rfl⟩) | exact (fun h => by cases h)), (by first | exact (fun _ => rfl) | exact (fun h => by cases h))⟩, rfl, (fun fs h => by cases h),
  (fun h => by cases h)⟩
theorem ty159 : TyOk1 Tryz.prog tyT 159 ⟨.struct [(0, 158)], 0, [], false, 0⟩ := ⟨⟨_, _, rfl, rfl, rfl, rfl, rfl, (by first | exact (fun _ => ⟨_, rfl⟩) | exact (fun h => by cases h)), (by first | exact (fun _ => rfl) | exact (fun h => by cases h))⟩, ⟨_, rfl, rfl⟩, (fun fs h => by injection h with h; subst h; intro p hp; revert p; simp only [List.forall_mem_cons, List.not_mem_nil, false_implies, implies_true, and_true]; first | rfl | (repeat' apply And.intro) <;> rfl),
  (fun h => by cases h)⟩
theorem ty160 : TyOk1 Tryz.prog tyT 160 ⟨.struct [(0, 158)], 0, [], false, 0⟩ := ⟨⟨_, _, rfl, rfl, rfl, rfl, rfl, (by first | exact (fun _ => ⟨_, rfl⟩) | exact (fun h => by cases h)), (by first | exact (fun _ => rfl) | exact (fun h => by cases h))⟩, ⟨_, rfl, rfl⟩, (fun fs h => by injection h with h; subst h; intro p hp; revert p; simp only [List.forall_mem_cons, List.not_mem_nil, false_implies, implies_true, and_true]; first | rfl | (repeat' apply And.intro) <;> rfl),
  (fun h => by cases h)⟩
theorem ty161 : TyOk1 Tryz.prog tyT 161 ⟨.int .u32, 1, [.v (.int .u32 0)], false, 4⟩ := ⟨⟨_, _, rfl, rfl, rfl, rfl, rfl, (by first | exact (fun _ => ⟨_, rfl⟩) | exact (fun h => by cases h)), (by first | exact (fun _ => rfl) | exact (fun h => by cases h))⟩, rfl, (fun fs h => by cases h),
  (fun h => by cases h)⟩
theorem ty162 : TyOk1 Tryz.prog tyT 162 ⟨.int .u8, 1, [.v (.int .u8 0)], false, 1⟩ := ⟨⟨_, _, rfl, rfl, rfl, rfl, rfl, (by first | exact (fun _ => ⟨_, rfl⟩) | exact (fun h => by cases h)), (by first | exact (fun _ => rfl) | exact (fun h => by cases h))⟩, rfl, (fun fs h => by cases h),
  (fun h => by cases h)⟩
theorem ty163 : TyOk1 Tryz.prog tyT 163 ⟨.int .u8, 1, [.v (.int .u8 0)], false, 1⟩ := ⟨⟨_, _, rfl, rfl, rfl, rfl, rfl, (by first | exact (fun _ => ⟨_, rfl⟩) | exact (fun h => by cases h)), (by first | exact (fun _ => rfl) | exact (fun h => by cases h))⟩, rfl, (fun fs h => by cases h),
  (fun h => by cases h)⟩
theorem ty164 : TyOk1 Tryz.prog tyT 164 ⟨.other, 1, [.v (.nilFunc)], false, 8⟩ := ⟨⟨_, _, rfl, rfl, rfl, rfl, rfl, (by first | exact (fun _ => ⟨_, rfl⟩) | exact (fun h => by cases h)), (by first | exact (fun _ => rfl) | exact (fun h => by cases h))⟩, ⟨_, rfl, (fun _ h => by cases h), (fun _ _ h => by cases h)⟩, (fun fs h => by cases h),
  (fun h => by cases h)⟩
theorem ty165 : TyOk1 Tryz.prog tyT 165 ⟨.other, 1, [.v (.pointer none)], false, 8⟩ := ⟨⟨_, _, rfl, rfl, rfl, rfl, rfl, (by first | exact (fun _ => ⟨_, rfl⟩) | exact (fun h => by cases h)), (by first | exact (fun _ => rfl) | exact (fun h => by cases h))⟩, ⟨_, rfl, (fun _ h => by cases h), (fun _ _ h => by cases h)⟩, (fun fs h => by cases h),
  (fun h => by cases h)⟩
theorem ty166 : TyOk1 Tryz.prog tyT 166 ⟨.int .i32, 1, [.v (.int .i32 0)], false, 4⟩ := ⟨⟨_, _, rfl, rfl, rfl, rfl, rfl, (by first | exact (fun _ => ⟨_, rfl⟩) | exact (fun h => by cases h)), (by first | exact (fun _ => rfl) | exact (fun h => by cases h))⟩, rfl, (fun fs h => by cases h),
  (fun h => by cases h)⟩
theorem ty167 : TyOk1 Tryz.prog tyT 167 ⟨.int .i32, 1, [.v (.int .i32 0)], false, 4⟩ := ⟨⟨_, _, rfl, rfl, rfl, rfl, rfl, (by first | exact (fun _ => ⟨_, rfl⟩) | exact (fun h => by cases h)), (by first | exact (fun _ => rfl) | exact (fun h => by cases h))⟩, rfl, (fun fs h => by cases h),
  (fun h => by cases h)⟩
theorem ty168 : TyOk1 Tryz.prog tyT 168 ⟨.struct [(0, 12), (1, 12), (2, 161), (3, 162), (4, 5), (5, 5), (6, 163), (7, 164), (8, 165), (9, 166), (10, 167)], 11, [.v (.int .u64 0), .v (.int .u64 0), .v (.int .u32 0), .v (.int .u8 0), .v (.int .u8 0), .v (.int .u8 0), .v (.int .u8 0), .v (.nilFunc), .v (.pointer none), .v (.int .i32 0), .v (.int .i32 0)], false, 48⟩ := ⟨⟨_, _, rfl, rfl, rfl, rfl, rfl, (by first | exact (fun _ => ⟨_, rfl⟩) | exact (fun h => by cases h)), (by first | exact (fun _ => rfl) | exact (fun h => by cases h))⟩, ⟨_, rfl, rfl⟩, (fun fs h => by injection h with h; subst h; intro p hp; revert p; simp only [List.forall_mem_cons, List.not_mem_nil, false_implies, implies_true, and_true]; first | rfl | (repeat' apply And.intro) <;> rfl),
  (fun h => by cases h)⟩
theorem ty169 : TyOk1 Tryz.prog tyT 169 ⟨.struct [(0, 12), (1, 12), (2, 161), (3, 162), (4, 5), (5, 5), (6, 163), (7, 164), (8, 165), (9, 166), (10, 167)], 11, [.v (.int .u64 0), .v (.int .u64 0), .v (.int .u32 0), .v (.int .u8 0), .v (.int .u8 0), .v (.int .u8 0), .v (.int .u8 0), .v (.nilFunc), .v (.pointer none), .v (.int .i32 0), .v (.int .i32 0)], false, 48⟩ := ⟨⟨_, _, rfl, rfl, rfl, rfl, rfl, (by first | exact (fun _ => ⟨_, rfl⟩) | exact (fun h => by cases h)), (by first | exact (fun _ => rfl) | exact (fun h => by cases h))⟩, ⟨_, rfl, rfl⟩, (fun fs h => by injection h with h; subst h; intro p hp; revert p; simp only [List.forall_mem_cons, List.not_mem_nil, false_implies, implies_true, and_true]; first | rfl | (repeat' apply And.intro) <;> rfl),
  (fun h => by cases h)⟩
theorem ty170 : TyOk1 Tryz.prog tyT 170 ⟨.struct [(0, 9)], 1, [.v (.string ⟨#[]⟩)], true, 16⟩ := ⟨⟨_, _, rfl, rfl, rfl, rfl, rfl, (by first | exact (fun _ => ⟨_, rfl⟩) | exact (fun h => by cases h)), (by first | exact (fun _ => rfl) | exact (fun h => by cases h))⟩, ⟨_, rfl, rfl⟩, (fun fs h => by injection h with h; subst h; intro p hp; revert p; simp only [List.forall_mem_cons, List.not_mem_nil, false_implies, implies_true, and_true]; first | rfl | (repeat' apply And.intro) <;> rfl),
  (fun _ => ⟨(by first | exact Tryz.stoodInHeld170 | kernel_rfl), (by first | exact Tryz.eqGuardType170 | kernel_rfl), (fun fields h => by injection h with h; injection h with h; subst h; simp)⟩)⟩
theorem ty171 : TyOk1 Tryz.prog tyT 171 ⟨.struct [(0, 9)], 1, [.v (.string ⟨#[]⟩)], true, 16⟩ := ⟨⟨_, _, rfl, rfl, rfl, rfl, rfl, (by first | exact (fun _ => ⟨_, rfl⟩) | exact (fun h => by cases h)), (by first | exact (fun _ => rfl) | exact (fun h => by cases h))⟩, ⟨_, rfl, rfl⟩, (fun fs h => by injection h with h; subst h; intro p hp; revert p; simp only [List.forall_mem_cons, List.not_mem_nil, false_implies, implies_true, and_true]; first | rfl | (repeat' apply And.intro) <;> rfl),
  (fun _ => ⟨(by first | exact Tryz.stoodInHeld171 | kernel_rfl), (by first | exact Tryz.eqGuardType171 | kernel_rfl), (fun fields h => by injection h with h; injection h with h; subst h; simp)⟩)⟩
theorem ty172 : TyOk1 Tryz.prog tyT 172 ⟨.other, 1, [.v (.pointer none)], false, 8⟩ := ⟨⟨_, _, rfl, rfl, rfl, rfl, rfl, (by first | exact (fun _ => ⟨_, rfl⟩) | exact (fun h => by cases h)), (by first | exact (fun _ => rfl) | exact (fun h => by cases h))⟩, ⟨_, rfl, (fun _ h => by cases h), (fun _ _ h => by cases h)⟩, (fun fs h => by cases h),
  (fun h => by cases h)⟩
theorem tyOk : TyOk Tryz.prog tyT := tyOk_of (by
  simp only [tyL, List.forall_mem_cons, List.not_mem_nil, false_implies, implies_true, and_true]
  exact ⟨ty1, ty2, ty3, ty4, ty5, ty6, ty7, ty8, ty9, ty10, ty11, ty12, ty13, ty14, ty15, ty16, ty17, ty18, ty19, ty20, ty21, ty22, ty23, ty24, ty25, ty26, ty27, ty28, ty29, ty30, ty31, ty32, ty33, ty34, ty35, ty36, ty37, ty38, ty39, ty40, ty41, ty42, ty44, ty45, ty46, ty48, ty49, ty50, ty51, ty52, ty53, ty54, ty55, ty56, ty57, ty58, ty59, ty60, ty61, ty62, ty63, ty65, ty67, ty68, ty69, ty70, ty71, ty72, ty73, ty74, ty75, ty76, ty77, ty78, ty79, ty81, ty82, ty83, ty84, ty86, ty87, ty88, ty89, ty90, ty92, ty94, ty96, ty98, ty99, ty101, ty102, ty103, ty104, ty106, ty107, ty108, ty109, ty111, ty112, ty113, ty114, ty116, ty117, ty119, ty120, ty122, ty123, ty124, ty125, ty126, ty127, ty128, ty130, ty132, ty133, ty134, ty136, ty138, ty140, ty141, ty142, ty144, ty147, ty148, ty149, ty150, ty151, ty152, ty153, ty154, ty155, ty156, ty157, ty158, ty159, ty160, ty161, ty162, ty163, ty164, ty165, ty166, ty167, ty168, ty169, ty170, ty171, ty172⟩)
end Go.Proofs.YtimpaejpokkdnaaGreatDoor
