/-
  The types of the program, as the reckoning asks for them: printed by wip/TyGen.lean.
-/
import Derived.Test.YtimpaejpokkdnaaDoorVcV
namespace Go.Proofs.YtimpaejpokkdnaaDoor
set_option linter.unusedVariables false
set_option maxRecDepth 100000
def tyL : List (Nat × TI) := [
  (1, ⟨.other, 1, [.v (.nilFunc)], false, 8⟩),
  (2, ⟨.int .i64, 1, [.v (.int .i64 0)], false, 8⟩),
  (3, ⟨.int .i64, 1, [.v (.int .i64 0)], false, 8⟩),
  (4, ⟨.bool, 1, [.v (.bool false)], false, 1⟩),
  (5, ⟨.int .u8, 1, [.v (.int .u8 0)], false, 1⟩),
  (6, ⟨.int .u8, 1, [.v (.int .u8 0)], false, 1⟩),
  (7, ⟨.struct [(0, 2), (1, 3), (2, 4), (3, 6)], 4, [.v (.int .i64 0), .v (.int .i64 0), .v (.bool false), .v (.int .u8 0)], true, 24⟩),
  (8, ⟨.struct [(0, 2), (1, 3), (2, 4), (3, 6)], 4, [.v (.int .i64 0), .v (.int .i64 0), .v (.bool false), .v (.int .u8 0)], true, 24⟩),
  (9, ⟨.str, 1, [.v (.string ⟨#[]⟩)], false, 16⟩),
  (10, ⟨.str, 1, [.v (.string ⟨#[]⟩)], false, 16⟩),
  (11, ⟨.str, 1, [.v (.string ⟨#[]⟩)], false, 16⟩),
  (12, ⟨.int .u64, 1, [.v (.int .u64 0)], false, 8⟩),
  (13, ⟨.struct [(0, 9), (1, 12)], 2, [.v (.string ⟨#[]⟩), .v (.int .u64 0)], false, 24⟩),
  (14, ⟨.struct [(0, 9), (1, 12)], 2, [.v (.string ⟨#[]⟩), .v (.int .u64 0)], false, 24⟩),
  (15, ⟨.other, 1, [.v (.pointer none)], false, 8⟩),
  (16, ⟨.other, 1, [.v (.pointer none)], false, 8⟩),
  (17, ⟨.other, 1, [.v (.pointer none)], false, 8⟩),
  (18, ⟨.struct [(0, 17)], 1, [.v (.pointer none)], false, 8⟩),
  (19, ⟨.struct [(0, 17)], 1, [.v (.pointer none)], false, 8⟩),
  (20, ⟨.other, 1, [.v (.nilIface)], false, 16⟩),
  (21, ⟨.int .i32, 1, [.v (.int .i32 0)], false, 4⟩),
  (22, ⟨.int .i16, 1, [.v (.int .i16 0)], false, 2⟩),
  (23, ⟨.arr 2 4, 2, [.v (.bool false), .v (.bool false)], false, 2⟩),
  (24, ⟨.struct [(0, 22), (1, 22), (2, 23), (4, 4)], 5, [.v (.int .i16 0), .v (.int .i16 0), .v (.bool false), .v (.bool false), .v (.bool false)], true, 8⟩),
  (25, ⟨.struct [(0, 22), (1, 22), (2, 23), (4, 4)], 5, [.v (.int .i16 0), .v (.int .i16 0), .v (.bool false), .v (.bool false), .v (.bool false)], true, 8⟩),
  (26, ⟨.other, 1, [.v (.nilFunc)], false, 8⟩),
  (27, ⟨.other, 1, [.v (.nilIface)], false, 16⟩),
  (28, ⟨.other, 1, [.v (.nilIface)], false, 16⟩),
  (29, ⟨.struct [(0, 28)], 1, [.v (.nilIface)], false, 16⟩),
  (30, ⟨.struct [(0, 28)], 1, [.v (.nilIface)], false, 16⟩),
  (31, ⟨.other, 1, [.v (.nilFunc)], false, 8⟩),
  (32, ⟨.other, 1, [.v (.nilFunc)], false, 8⟩),
  (33, ⟨.other, 1, [.v (.nilFunc)], false, 8⟩),
  (34, ⟨.other, 1, [.v (.nilFunc)], false, 8⟩),
  (35, ⟨.slice 9, 1, [.sl 0 []], false, 24⟩),
  (36, ⟨.other, 1, [.v (.nilFunc)], false, 8⟩),
  (37, ⟨.other, 1, [.v (.nilFunc)], false, 8⟩),
  (38, ⟨.other, 1, [.v (.nilFunc)], false, 8⟩),
  (39, ⟨.other, 1, [.v (.nilFunc)], false, 8⟩),
  (40, ⟨.other, 1, [.v (.nilFunc)], false, 8⟩),
  (42, ⟨.other, 1, [.v (.nilFunc)], false, 8⟩),
  (43, ⟨.struct [(0, 30), (1, 30), (2, 23), (4, 4)], 5, [.v (.nilIface), .v (.nilIface), .v (.bool false), .v (.bool false), .v (.bool false)], false, 40⟩),
  (44, ⟨.struct [(0, 30), (1, 30), (2, 23), (4, 4)], 5, [.v (.nilIface), .v (.nilIface), .v (.bool false), .v (.bool false), .v (.bool false)], false, 40⟩),
  (46, ⟨.other, 1, [.v (.nilFunc)], false, 8⟩),
  (47, ⟨.other, 1, [.v (.nilFunc)], false, 8⟩),
  (48, ⟨.other, 1, [.v (.nilFunc)], false, 8⟩),
  (49, ⟨.int .i64, 1, [.v (.int .i64 0)], false, 8⟩),
  (50, ⟨.other, 1, [.v (.nilFunc)], false, 8⟩),
  (51, ⟨.other, 1, [.v (.nilFunc)], false, 8⟩),
  (52, ⟨.int .u64, 1, [.v (.int .u64 0)], false, 8⟩),
  (53, ⟨.struct [(0, 52), (1, 52)], 2, [.v (.int .u64 0), .v (.int .u64 0)], true, 16⟩),
  (54, ⟨.struct [(0, 52), (1, 52)], 2, [.v (.int .u64 0), .v (.int .u64 0)], true, 16⟩),
  (55, ⟨.struct [(0, 4), (1, 54), (3, 3)], 4, [.v (.bool false), .v (.int .u64 0), .v (.int .u64 0), .v (.int .i64 0)], true, 32⟩),
  (56, ⟨.struct [(0, 4), (1, 54), (3, 3)], 4, [.v (.bool false), .v (.int .u64 0), .v (.int .u64 0), .v (.int .i64 0)], true, 32⟩),
  (57, ⟨.other, 1, [.v (.nilFunc)], false, 8⟩),
  (58, ⟨.other, 1, [.v (.nilFunc)], false, 8⟩),
  (59, ⟨.str, 1, [.v (.string ⟨#[]⟩)], false, 16⟩),
  (60, ⟨.int .i64, 1, [.v (.int .i64 0)], false, 8⟩),
  (61, ⟨.other, 1, [.v (.nilFunc)], false, 8⟩),
  (62, ⟨.other, 1, [.v (.nilFunc)], false, 8⟩),
  (63, ⟨.arr 2 30, 2, [.v (.nilIface), .v (.nilIface)], false, 32⟩),
  (64, ⟨.struct [(0, 63), (2, 23)], 4, [.v (.nilIface), .v (.nilIface), .v (.bool false), .v (.bool false)], false, 40⟩),
  (65, ⟨.struct [(0, 63), (2, 23)], 4, [.v (.nilIface), .v (.nilIface), .v (.bool false), .v (.bool false)], false, 40⟩),
  (66, ⟨.bool, 1, [.v (.bool false)], false, 1⟩),
  (69, ⟨.other, 1, [.v (.nilFunc)], false, 8⟩),
  (70, ⟨.other, 1, [.v (.nilFunc)], false, 8⟩),
  (71, ⟨.other, 1, [.v (.nilFunc)], false, 8⟩),
  (72, ⟨.other, 1, [.v (.nilFunc)], false, 8⟩),
  (73, ⟨.other, 1, [.v (.nilFunc)], false, 8⟩),
  (74, ⟨.struct [(0, 4), (1, 54), (3, 3)], 4, [.v (.bool false), .v (.int .u64 0), .v (.int .u64 0), .v (.int .i64 0)], true, 32⟩),
  (75, ⟨.other, 1, [.v (.nilFunc)], false, 8⟩),
  (76, ⟨.other, 1, [.v (.nilFunc)], false, 8⟩),
  (78, ⟨.struct [(0, 5), (1, 5)], 2, [.v (.int .u8 0), .v (.int .u8 0)], true, 2⟩),
  (79, ⟨.struct [(0, 5), (1, 5)], 2, [.v (.int .u8 0), .v (.int .u8 0)], true, 2⟩),
  (80, ⟨.arr 16 79, 32, [.v (.int .u8 0), .v (.int .u8 0), .v (.int .u8 0), .v (.int .u8 0), .v (.int .u8 0), .v (.int .u8 0), .v (.int .u8 0), .v (.int .u8 0), .v (.int .u8 0), .v (.int .u8 0), .v (.int .u8 0), .v (.int .u8 0), .v (.int .u8 0), .v (.int .u8 0), .v (.int .u8 0), .v (.int .u8 0), .v (.int .u8 0), .v (.int .u8 0), .v (.int .u8 0), .v (.int .u8 0), .v (.int .u8 0), .v (.int .u8 0), .v (.int .u8 0), .v (.int .u8 0), .v (.int .u8 0), .v (.int .u8 0), .v (.int .u8 0), .v (.int .u8 0), .v (.int .u8 0), .v (.int .u8 0), .v (.int .u8 0), .v (.int .u8 0)], false, 32⟩),
  (81, ⟨.int .u64, 1, [.v (.int .u64 0)], false, 8⟩),
  (83, ⟨.other, 1, [.v (.nilFunc)], false, 8⟩),
  (84, ⟨.other, 1, [.v (.nilFunc)], false, 8⟩),
  (85, ⟨.other, 1, [.v (.nilFunc)], false, 8⟩),
  (86, ⟨.other, 1, [.v (.nilFunc)], false, 8⟩),
  (87, ⟨.other, 1, [.v (.nilFunc)], false, 8⟩),
  (89, ⟨.other, 1, [.v (.nilFunc)], false, 8⟩),
  (91, ⟨.other, 1, [.v (.nilFunc)], false, 8⟩),
  (93, ⟨.other, 1, [.v (.nilFunc)], false, 8⟩),
  (95, ⟨.other, 1, [.v (.nilFunc)], false, 8⟩),
  (96, ⟨.other, 1, [.v (.nilFunc)], false, 8⟩),
  (98, ⟨.other, 1, [.v (.nilFunc)], false, 8⟩),
  (99, ⟨.other, 1, [.v (.nilFunc)], false, 8⟩),
  (100, ⟨.struct [(0, 3), (1, 3), (2, 3)], 3, [.v (.int .i64 0), .v (.int .i64 0), .v (.int .i64 0)], true, 24⟩),
  (101, ⟨.struct [(0, 3), (1, 3), (2, 3)], 3, [.v (.int .i64 0), .v (.int .i64 0), .v (.int .i64 0)], true, 24⟩),
  (103, ⟨.other, 1, [.v (.nilFunc)], false, 8⟩),
  (104, ⟨.other, 1, [.v (.nilFunc)], false, 8⟩),
  (105, ⟨.struct [(0, 3), (1, 4), (2, 3)], 3, [.v (.int .i64 0), .v (.bool false), .v (.int .i64 0)], true, 24⟩),
  (106, ⟨.struct [(0, 3), (1, 4), (2, 3)], 3, [.v (.int .i64 0), .v (.bool false), .v (.int .i64 0)], true, 24⟩),
  (108, ⟨.other, 1, [.v (.nilFunc)], false, 8⟩),
  (109, ⟨.other, 1, [.v (.nilFunc)], false, 8⟩),
  (110, ⟨.struct [(0, 101), (3, 106)], 6, [.v (.int .i64 0), .v (.int .i64 0), .v (.int .i64 0), .v (.int .i64 0), .v (.bool false), .v (.int .i64 0)], true, 48⟩),
  (111, ⟨.struct [(0, 101), (3, 106)], 6, [.v (.int .i64 0), .v (.int .i64 0), .v (.int .i64 0), .v (.int .i64 0), .v (.bool false), .v (.int .i64 0)], true, 48⟩),
  (113, ⟨.other, 1, [.v (.nilFunc)], false, 8⟩),
  (114, ⟨.other, 1, [.v (.nilFunc)], false, 8⟩),
  (116, ⟨.other, 1, [.v (.nilFunc)], false, 8⟩),
  (117, ⟨.other, 1, [.v (.nilFunc)], false, 8⟩),
  (119, ⟨.other, 1, [.v (.nilFunc)], false, 8⟩),
  (120, ⟨.other, 1, [.v (.nilFunc)], false, 8⟩),
  (121, ⟨.other, 1, [.v (.nilFunc)], false, 8⟩),
  (122, ⟨.struct [(0, 4), (1, 54), (3, 54), (5, 3), (6, 4)], 7, [.v (.bool false), .v (.int .u64 0), .v (.int .u64 0), .v (.int .u64 0), .v (.int .u64 0), .v (.int .i64 0), .v (.bool false)], true, 56⟩),
  (123, ⟨.struct [(0, 4), (1, 54), (3, 54), (5, 3), (6, 4)], 7, [.v (.bool false), .v (.int .u64 0), .v (.int .u64 0), .v (.int .u64 0), .v (.int .u64 0), .v (.int .i64 0), .v (.bool false)], true, 56⟩),
  (124, ⟨.other, 1, [.v (.nilFunc)], false, 8⟩),
  (125, ⟨.other, 1, [.v (.nilFunc)], false, 8⟩),
  (127, ⟨.struct [(0, 3), (1, 3), (2, 3)], 3, [.v (.int .i64 0), .v (.int .i64 0), .v (.int .i64 0)], true, 24⟩),
  (129, ⟨.arr 2 3, 2, [.v (.int .i64 0), .v (.int .i64 0)], false, 16⟩),
  (130, ⟨.slice 129, 1, [.sl 0 []], false, 24⟩),
  (131, ⟨.struct [(0, 3), (1, 4), (2, 3)], 3, [.v (.int .i64 0), .v (.bool false), .v (.int .i64 0)], true, 24⟩),
  (133, ⟨.struct [(0, 101), (3, 106)], 6, [.v (.int .i64 0), .v (.int .i64 0), .v (.int .i64 0), .v (.int .i64 0), .v (.bool false), .v (.int .i64 0)], true, 48⟩),
  (135, ⟨.other, 1, [.v (.nilFunc)], false, 8⟩),
  (137, ⟨.other, 1, [.v (.nilFunc)], false, 8⟩),
  (138, ⟨.other, 1, [.v (.nilFunc)], false, 8⟩),
  (139, ⟨.int .i64, 1, [.v (.int .i64 0)], false, 8⟩),
  (141, ⟨.int .i64, 1, [.v (.int .i64 0)], false, 8⟩),
  (144, ⟨.other, 1, [.v (.nilFunc)], false, 8⟩),
  (145, ⟨.other, 1, [.v (.nilFunc)], false, 8⟩),
  (146, ⟨.arr 4 52, 4, [.v (.int .u64 0), .v (.int .u64 0), .v (.int .u64 0), .v (.int .u64 0)], false, 32⟩),
  (147, ⟨.other, 1, [.v (.nilIface)], false, 16⟩),
  (148, ⟨.other, 1, [.v (.nilIface)], false, 16⟩),
  (149, ⟨.other, 1, [.v (.nilFunc)], false, 8⟩),
  (150, ⟨.other, 1, [.v (.nilFunc)], false, 8⟩),
  (151, ⟨.other, 1, [.v (.pointer none)], false, 8⟩),
  (152, ⟨.other, 1, [.v (.nilFunc)], false, 8⟩),
  (153, ⟨.struct [(0, 17), (1, 17), (2, 17), (3, 9)], 4, [.v (.pointer none), .v (.pointer none), .v (.pointer none), .v (.string ⟨#[]⟩)], false, 40⟩),
  (154, ⟨.struct [(0, 17), (1, 17), (2, 17), (3, 9)], 4, [.v (.pointer none), .v (.pointer none), .v (.pointer none), .v (.string ⟨#[]⟩)], false, 40⟩),
  (155, ⟨.arr 0 16, 0, [], false, 0⟩),
  (156, ⟨.struct [(0, 155)], 0, [], false, 0⟩),
  (157, ⟨.struct [(0, 155)], 0, [], false, 0⟩),
  (158, ⟨.int .u32, 1, [.v (.int .u32 0)], false, 4⟩),
  (159, ⟨.int .u8, 1, [.v (.int .u8 0)], false, 1⟩),
  (160, ⟨.int .u8, 1, [.v (.int .u8 0)], false, 1⟩),
  (161, ⟨.other, 1, [.v (.nilFunc)], false, 8⟩),
  (162, ⟨.other, 1, [.v (.pointer none)], false, 8⟩),
  (163, ⟨.int .i32, 1, [.v (.int .i32 0)], false, 4⟩),
  (164, ⟨.int .i32, 1, [.v (.int .i32 0)], false, 4⟩),
  (165, ⟨.struct [(0, 12), (1, 12), (2, 158), (3, 159), (4, 5), (5, 5), (6, 160), (7, 161), (8, 162), (9, 163), (10, 164)], 11, [.v (.int .u64 0), .v (.int .u64 0), .v (.int .u32 0), .v (.int .u8 0), .v (.int .u8 0), .v (.int .u8 0), .v (.int .u8 0), .v (.nilFunc), .v (.pointer none), .v (.int .i32 0), .v (.int .i32 0)], false, 48⟩),
  (166, ⟨.struct [(0, 12), (1, 12), (2, 158), (3, 159), (4, 5), (5, 5), (6, 160), (7, 161), (8, 162), (9, 163), (10, 164)], 11, [.v (.int .u64 0), .v (.int .u64 0), .v (.int .u32 0), .v (.int .u8 0), .v (.int .u8 0), .v (.int .u8 0), .v (.int .u8 0), .v (.nilFunc), .v (.pointer none), .v (.int .i32 0), .v (.int .i32 0)], false, 48⟩),
  (167, ⟨.struct [(0, 9)], 1, [.v (.string ⟨#[]⟩)], true, 16⟩),
  (168, ⟨.struct [(0, 9)], 1, [.v (.string ⟨#[]⟩)], true, 16⟩),
  (169, ⟨.other, 1, [.v (.pointer none)], false, 8⟩)]
def tyT : TypeId → Option TI := look tyL
theorem ty1 : TyOk1 Tryd.prog tyT 1 ⟨.other, 1, [.v (.nilFunc)], false, 8⟩ := ⟨⟨_, _, rfl, rfl, rfl, rfl, rfl, (by first | exact (fun _ => ⟨_, rfl⟩) | exact (fun h => by cases h)), (by first | exact (fun _ => rfl) | exact (fun h => by cases h))⟩, ⟨_, rfl, (fun _ h => by cases h), (fun _ _ h => by cases h)⟩, (fun fs h => by cases h),
  (fun h => by cases h)⟩
theorem ty2 : TyOk1 Tryd.prog tyT 2 ⟨.int .i64, 1, [.v (.int .i64 0)], false, 8⟩ := ⟨⟨_, _, rfl, rfl, rfl, rfl, rfl, (by first | exact (fun _ => ⟨_, rfl⟩) | exact (fun h => by cases h)), (by first | exact (fun _ => rfl) | exact (fun h => by cases h))⟩, rfl, (fun fs h => by cases h),
  (fun h => by cases h)⟩
theorem ty3 : TyOk1 Tryd.prog tyT 3 ⟨.int .i64, 1, [.v (.int .i64 0)], false, 8⟩ := ⟨⟨_, _, rfl, rfl, rfl, rfl, rfl, (by first | exact (fun _ => ⟨_, rfl⟩) | exact (fun h => by cases h)), (by first | exact (fun _ => rfl) | exact (fun h => by cases h))⟩, rfl, (fun fs h => by cases h),
  (fun h => by cases h)⟩
theorem ty4 : TyOk1 Tryd.prog tyT 4 ⟨.bool, 1, [.v (.bool false)], false, 1⟩ := ⟨⟨_, _, rfl, rfl, rfl, rfl, rfl, (by first | exact (fun _ => ⟨_, rfl⟩) | exact (fun h => by cases h)), (by first | exact (fun _ => rfl) | exact (fun h => by cases h))⟩, rfl, (fun fs h => by cases h),
  (fun h => by cases h)⟩
theorem ty5 : TyOk1 Tryd.prog tyT 5 ⟨.int .u8, 1, [.v (.int .u8 0)], false, 1⟩ := ⟨⟨_, _, rfl, rfl, rfl, rfl, rfl, (by first | exact (fun _ => ⟨_, rfl⟩) | exact (fun h => by cases h)), (by first | exact (fun _ => rfl) | exact (fun h => by cases h))⟩, rfl, (fun fs h => by cases h),
  (fun h => by cases h)⟩
theorem ty6 : TyOk1 Tryd.prog tyT 6 ⟨.int .u8, 1, [.v (.int .u8 0)], false, 1⟩ := ⟨⟨_, _, rfl, rfl, rfl, rfl, rfl, (by first | exact (fun _ => ⟨_, rfl⟩) | exact (fun h => by cases h)), (by first | exact (fun _ => rfl) | exact (fun h => by cases h))⟩, rfl, (fun fs h => by cases h),
  (fun h => by cases h)⟩
theorem ty7 : TyOk1 Tryd.prog tyT 7 ⟨.struct [(0, 2), (1, 3), (2, 4), (3, 6)], 4, [.v (.int .i64 0), .v (.int .i64 0), .v (.bool false), .v (.int .u8 0)], true, 24⟩ := ⟨⟨_, _, rfl, rfl, rfl, rfl, rfl, (by first | exact (fun _ => ⟨_, rfl⟩) | exact (fun h => by cases h)), (by first | exact (fun _ => rfl) | exact (fun h => by cases h))⟩, ⟨_, rfl, rfl⟩, (fun fs h => by injection h with h; subst h; intro p hp; revert p; simp only [List.forall_mem_cons, List.not_mem_nil, false_implies, implies_true, and_true]; first | rfl | (repeat' apply And.intro) <;> rfl),
  (fun _ => ⟨(by first | exact Tryd.stoodInHeld7 | kernel_rfl), (by first | exact Tryd.eqGuardType7 | kernel_rfl), (fun fields h => by injection h with h; injection h with h; subst h; simp)⟩)⟩
theorem ty8 : TyOk1 Tryd.prog tyT 8 ⟨.struct [(0, 2), (1, 3), (2, 4), (3, 6)], 4, [.v (.int .i64 0), .v (.int .i64 0), .v (.bool false), .v (.int .u8 0)], true, 24⟩ := ⟨⟨_, _, rfl, rfl, rfl, rfl, rfl, (by first | exact (fun _ => ⟨_, rfl⟩) | exact (fun h => by cases h)), (by first | exact (fun _ => rfl) | exact (fun h => by cases h))⟩, ⟨_, rfl, rfl⟩, (fun fs h => by injection h with h; subst h; intro p hp; revert p; simp only [List.forall_mem_cons, List.not_mem_nil, false_implies, implies_true, and_true]; first | rfl | (repeat' apply And.intro) <;> rfl),
  (fun _ => ⟨(by first | exact Tryd.stoodInHeld8 | kernel_rfl), (by first | exact Tryd.eqGuardType8 | kernel_rfl), (fun fields h => by injection h with h; injection h with h; subst h; simp)⟩)⟩
theorem ty9 : TyOk1 Tryd.prog tyT 9 ⟨.str, 1, [.v (.string ⟨#[]⟩)], false, 16⟩ := ⟨⟨_, _, rfl, rfl, rfl, rfl, rfl, (by first | exact (fun _ => ⟨_, rfl⟩) | exact (fun h => by cases h)), (by first | exact (fun _ => rfl) | exact (fun h => by cases h))⟩, rfl, (fun fs h => by cases h),
  (fun h => by cases h)⟩
theorem ty10 : TyOk1 Tryd.prog tyT 10 ⟨.str, 1, [.v (.string ⟨#[]⟩)], false, 16⟩ := ⟨⟨_, _, rfl, rfl, rfl, rfl, rfl, (by first | exact (fun _ => ⟨_, rfl⟩) | exact (fun h => by cases h)), (by first | exact (fun _ => rfl) | exact (fun h => by cases h))⟩, rfl, (fun fs h => by cases h),
  (fun h => by cases h)⟩
theorem ty11 : TyOk1 Tryd.prog tyT 11 ⟨.str, 1, [.v (.string ⟨#[]⟩)], false, 16⟩ := ⟨⟨_, _, rfl, rfl, rfl, rfl, rfl, (by first | exact (fun _ => ⟨_, rfl⟩) | exact (fun h => by cases h)), (by first | exact (fun _ => rfl) | exact (fun h => by cases h))⟩, rfl, (fun fs h => by cases h),
  (fun h => by cases h)⟩
theorem ty12 : TyOk1 Tryd.prog tyT 12 ⟨.int .u64, 1, [.v (.int .u64 0)], false, 8⟩ := ⟨⟨_, _, rfl, rfl, rfl, rfl, rfl, (by first | exact (fun _ => ⟨_, rfl⟩) | exact (fun h => by cases h)), (by first | exact (fun _ => rfl) | exact (fun h => by cases h))⟩, rfl, (fun fs h => by cases h),
  (fun h => by cases h)⟩
theorem ty13 : TyOk1 Tryd.prog tyT 13 ⟨.struct [(0, 9), (1, 12)], 2, [.v (.string ⟨#[]⟩), .v (.int .u64 0)], false, 24⟩ := ⟨⟨_, _, rfl, rfl, rfl, rfl, rfl, (by first | exact (fun _ => ⟨_, rfl⟩) | exact (fun h => by cases h)), (by first | exact (fun _ => rfl) | exact (fun h => by cases h))⟩, ⟨_, rfl, rfl⟩, (fun fs h => by injection h with h; subst h; intro p hp; revert p; simp only [List.forall_mem_cons, List.not_mem_nil, false_implies, implies_true, and_true]; first | rfl | (repeat' apply And.intro) <;> rfl),
  (fun h => by cases h)⟩
theorem ty14 : TyOk1 Tryd.prog tyT 14 ⟨.struct [(0, 9), (1, 12)], 2, [.v (.string ⟨#[]⟩), .v (.int .u64 0)], false, 24⟩ := ⟨⟨_, _, rfl, rfl, rfl, rfl, rfl, (by first | exact (fun _ => ⟨_, rfl⟩) | exact (fun h => by cases h)), (by first | exact (fun _ => rfl) | exact (fun h => by cases h))⟩, ⟨_, rfl, rfl⟩, (fun fs h => by injection h with h; subst h; intro p hp; revert p; simp only [List.forall_mem_cons, List.not_mem_nil, false_implies, implies_true, and_true]; first | rfl | (repeat' apply And.intro) <;> rfl),
  (fun h => by cases h)⟩
theorem ty15 : TyOk1 Tryd.prog tyT 15 ⟨.other, 1, [.v (.pointer none)], false, 8⟩ := ⟨⟨_, _, rfl, rfl, rfl, rfl, rfl, (by first | exact (fun _ => ⟨_, rfl⟩) | exact (fun h => by cases h)), (by first | exact (fun _ => rfl) | exact (fun h => by cases h))⟩, ⟨_, rfl, (fun _ h => by cases h), (fun _ _ h => by cases h)⟩, (fun fs h => by cases h),
  (fun h => by cases h)⟩
theorem ty16 : TyOk1 Tryd.prog tyT 16 ⟨.other, 1, [.v (.pointer none)], false, 8⟩ := ⟨⟨_, _, rfl, rfl, rfl, rfl, rfl, (by first | exact (fun _ => ⟨_, rfl⟩) | exact (fun h => by cases h)), (by first | exact (fun _ => rfl) | exact (fun h => by cases h))⟩, ⟨_, rfl, (fun _ h => by cases h), (fun _ _ h => by cases h)⟩, (fun fs h => by cases h),
  (fun h => by cases h)⟩
theorem ty17 : TyOk1 Tryd.prog tyT 17 ⟨.other, 1, [.v (.pointer none)], false, 8⟩ := ⟨⟨_, _, rfl, rfl, rfl, rfl, rfl, (by first | exact (fun _ => ⟨_, rfl⟩) | exact (fun h => by cases h)), (by first | exact (fun _ => rfl) | exact (fun h => by cases h))⟩, ⟨_, rfl, (fun _ h => by cases h), (fun _ _ h => by cases h)⟩, (fun fs h => by cases h),
  (fun h => by cases h)⟩
theorem ty18 : TyOk1 Tryd.prog tyT 18 ⟨.struct [(0, 17)], 1, [.v (.pointer none)], false, 8⟩ := ⟨⟨_, _, rfl, rfl, rfl, rfl, rfl, (by first | exact (fun _ => ⟨_, rfl⟩) | exact (fun h => by cases h)), (by first | exact (fun _ => rfl) | exact (fun h => by cases h))⟩, ⟨_, rfl, rfl⟩, (fun fs h => by injection h with h; subst h; intro p hp; revert p; simp only [List.forall_mem_cons, List.not_mem_nil, false_implies, implies_true, and_true]; first | rfl | (repeat' apply And.intro) <;> rfl),
  (fun h => by cases h)⟩
theorem ty19 : TyOk1 Tryd.prog tyT 19 ⟨.struct [(0, 17)], 1, [.v (.pointer none)], false, 8⟩ := ⟨⟨_, _, rfl, rfl, rfl, rfl, rfl, (by first | exact (fun _ => ⟨_, rfl⟩) | exact (fun h => by cases h)), (by first | exact (fun _ => rfl) | exact (fun h => by cases h))⟩, ⟨_, rfl, rfl⟩, (fun fs h => by injection h with h; subst h; intro p hp; revert p; simp only [List.forall_mem_cons, List.not_mem_nil, false_implies, implies_true, and_true]; first | rfl | (repeat' apply And.intro) <;> rfl),
  (fun h => by cases h)⟩
theorem ty20 : TyOk1 Tryd.prog tyT 20 ⟨.other, 1, [.v (.nilIface)], false, 16⟩ := ⟨⟨_, _, rfl, rfl, rfl, rfl, rfl, (by first | exact (fun _ => ⟨_, rfl⟩) | exact (fun h => by cases h)), (by first | exact (fun _ => rfl) | exact (fun h => by cases h))⟩, ⟨_, rfl, (fun _ h => by cases h), (fun _ _ h => by cases h)⟩, (fun fs h => by cases h),
  (fun h => by cases h)⟩
theorem ty21 : TyOk1 Tryd.prog tyT 21 ⟨.int .i32, 1, [.v (.int .i32 0)], false, 4⟩ := ⟨⟨_, _, rfl, rfl, rfl, rfl, rfl, (by first | exact (fun _ => ⟨_, rfl⟩) | exact (fun h => by cases h)), (by first | exact (fun _ => rfl) | exact (fun h => by cases h))⟩, rfl, (fun fs h => by cases h),
  (fun h => by cases h)⟩
theorem ty22 : TyOk1 Tryd.prog tyT 22 ⟨.int .i16, 1, [.v (.int .i16 0)], false, 2⟩ := ⟨⟨_, _, rfl, rfl, rfl, rfl, rfl, (by first | exact (fun _ => ⟨_, rfl⟩) | exact (fun h => by cases h)), (by first | exact (fun _ => rfl) | exact (fun h => by cases h))⟩, rfl, (fun fs h => by cases h),
  (fun h => by cases h)⟩
theorem ty23 : TyOk1 Tryd.prog tyT 23 ⟨.arr 2 4, 2, [.v (.bool false), .v (.bool false)], false, 2⟩ := ⟨⟨_, _, rfl, rfl, rfl, rfl, rfl, (by first | exact (fun _ => ⟨_, rfl⟩) | exact (fun h => by cases h)), (by first | exact (fun _ => rfl) | exact (fun h => by cases h))⟩, rfl, (fun fs h => by cases h),
  (fun h => by cases h)⟩
theorem ty24 : TyOk1 Tryd.prog tyT 24 ⟨.struct [(0, 22), (1, 22), (2, 23), (4, 4)], 5, [.v (.int .i16 0), .v (.int .i16 0), .v (.bool false), .v (.bool false), .v (.bool false)], true, 8⟩ := ⟨⟨_, _, rfl, rfl, rfl, rfl, rfl, (by first | exact (fun _ => ⟨_, rfl⟩) | exact (fun h => by cases h)), (by first | exact (fun _ => rfl) | exact (fun h => by cases h))⟩, ⟨_, rfl, rfl⟩, (fun fs h => by injection h with h; subst h; intro p hp; revert p; simp only [List.forall_mem_cons, List.not_mem_nil, false_implies, implies_true, and_true]; first | rfl | (repeat' apply And.intro) <;> rfl),
  (fun _ => ⟨(by first | exact Tryd.stoodInHeld24 | kernel_rfl), (by first | exact Tryd.eqGuardType24 | kernel_rfl), (fun fields h => by injection h with h; injection h with h; subst h; simp)⟩)⟩
theorem ty25 : TyOk1 Tryd.prog tyT 25 ⟨.struct [(0, 22), (1, 22), (2, 23), (4, 4)], 5, [.v (.int .i16 0), .v (.int .i16 0), .v (.bool false), .v (.bool false), .v (.bool false)], true, 8⟩ := ⟨⟨_, _, rfl, rfl, rfl, rfl, rfl, (by first | exact (fun _ => ⟨_, rfl⟩) | exact (fun h => by cases h)), (by first | exact (fun _ => rfl) | exact (fun h => by cases h))⟩, ⟨_, rfl, rfl⟩, (fun fs h => by injection h with h; subst h; intro p hp; revert p; simp only [List.forall_mem_cons, List.not_mem_nil, false_implies, implies_true, and_true]; first | rfl | (repeat' apply And.intro) <;> rfl),
  (fun _ => ⟨(by first | exact Tryd.stoodInHeld25 | kernel_rfl), (by first | exact Tryd.eqGuardType25 | kernel_rfl), (fun fields h => by injection h with h; injection h with h; subst h; simp)⟩)⟩
theorem ty26 : TyOk1 Tryd.prog tyT 26 ⟨.other, 1, [.v (.nilFunc)], false, 8⟩ := ⟨⟨_, _, rfl, rfl, rfl, rfl, rfl, (by first | exact (fun _ => ⟨_, rfl⟩) | exact (fun h => by cases h)), (by first | exact (fun _ => rfl) | exact (fun h => by cases h))⟩, ⟨_, rfl, (fun _ h => by cases h), (fun _ _ h => by cases h)⟩, (fun fs h => by cases h),
  (fun h => by cases h)⟩
theorem ty27 : TyOk1 Tryd.prog tyT 27 ⟨.other, 1, [.v (.nilIface)], false, 16⟩ := ⟨⟨_, _, rfl, rfl, rfl, rfl, rfl, (by first | exact (fun _ => ⟨_, rfl⟩) | exact (fun h => by cases h)), (by first | exact (fun _ => rfl) | exact (fun h => by cases h))⟩, ⟨_, rfl, (fun _ h => by cases h), (fun _ _ h => by cases h)⟩, (fun fs h => by cases h),
  (fun h => by cases h)⟩
theorem ty28 : TyOk1 Tryd.prog tyT 28 ⟨.other, 1, [.v (.nilIface)], false, 16⟩ := ⟨⟨_, _, rfl, rfl, rfl, rfl, rfl, (by first | exact (fun _ => ⟨_, rfl⟩) | exact (fun h => by cases h)), (by first | exact (fun _ => rfl) | exact (fun h => by cases h))⟩, ⟨_, rfl, (fun _ h => by cases h), (fun _ _ h => by cases h)⟩, (fun fs h => by cases h),
  (fun h => by cases h)⟩
theorem ty29 : TyOk1 Tryd.prog tyT 29 ⟨.struct [(0, 28)], 1, [.v (.nilIface)], false, 16⟩ := ⟨⟨_, _, rfl, rfl, rfl, rfl, rfl, (by first | exact (fun _ => ⟨_, rfl⟩) | exact (fun h => by cases h)), (by first | exact (fun _ => rfl) | exact (fun h => by cases h))⟩, ⟨_, rfl, rfl⟩, (fun fs h => by injection h with h; subst h; intro p hp; revert p; simp only [List.forall_mem_cons, List.not_mem_nil, false_implies, implies_true, and_true]; first | rfl | (repeat' apply And.intro) <;> rfl),
  (fun h => by cases h)⟩
theorem ty30 : TyOk1 Tryd.prog tyT 30 ⟨.struct [(0, 28)], 1, [.v (.nilIface)], false, 16⟩ := ⟨⟨_, _, rfl, rfl, rfl, rfl, rfl, (by first | exact (fun _ => ⟨_, rfl⟩) | exact (fun h => by cases h)), (by first | exact (fun _ => rfl) | exact (fun h => by cases h))⟩, ⟨_, rfl, rfl⟩, (fun fs h => by injection h with h; subst h; intro p hp; revert p; simp only [List.forall_mem_cons, List.not_mem_nil, false_implies, implies_true, and_true]; first | rfl | (repeat' apply And.intro) <;> rfl),
  (fun h => by cases h)⟩
theorem ty31 : TyOk1 Tryd.prog tyT 31 ⟨.other, 1, [.v (.nilFunc)], false, 8⟩ := ⟨⟨_, _, rfl, rfl, rfl, rfl, rfl, (by first | exact (fun _ => ⟨_, rfl⟩) | exact (fun h => by cases h)), (by first | exact (fun _ => rfl) | exact (fun h => by cases h))⟩, ⟨_, rfl, (fun _ h => by cases h), (fun _ _ h => by cases h)⟩, (fun fs h => by cases h),
  (fun h => by cases h)⟩
theorem ty32 : TyOk1 Tryd.prog tyT 32 ⟨.other, 1, [.v (.nilFunc)], false, 8⟩ := ⟨⟨_, _, rfl, rfl, rfl, rfl, rfl, (by first | exact (fun _ => ⟨_, rfl⟩) | exact (fun h => by cases h)), (by first | exact (fun _ => rfl) | exact (fun h => by cases h))⟩, ⟨_, rfl, (fun _ h => by cases h), (fun _ _ h => by cases h)⟩, (fun fs h => by cases h),
  (fun h => by cases h)⟩
theorem ty33 : TyOk1 Tryd.prog tyT 33 ⟨.other, 1, [.v (.nilFunc)], false, 8⟩ := ⟨⟨_, _, rfl, rfl, rfl, rfl, rfl, (by first | exact (fun _ => ⟨_, rfl⟩) | exact (fun h => by cases h)), (by first | exact (fun _ => rfl) | exact (fun h => by cases h))⟩, ⟨_, rfl, (fun _ h => by cases h), (fun _ _ h => by cases h)⟩, (fun fs h => by cases h),
  (fun h => by cases h)⟩
theorem ty34 : TyOk1 Tryd.prog tyT 34 ⟨.other, 1, [.v (.nilFunc)], false, 8⟩ := ⟨⟨_, _, rfl, rfl, rfl, rfl, rfl, (by first | exact (fun _ => ⟨_, rfl⟩) | exact (fun h => by cases h)), (by first | exact (fun _ => rfl) | exact (fun h => by cases h))⟩, ⟨_, rfl, (fun _ h => by cases h), (fun _ _ h => by cases h)⟩, (fun fs h => by cases h),
  (fun h => by cases h)⟩
theorem ty35 : TyOk1 Tryd.prog tyT 35 ⟨.slice 9, 1, [.sl 0 []], false, 24⟩ := ⟨⟨_, _, rfl, rfl, rfl, rfl, rfl, (by first | exact (fun _ => ⟨_, rfl⟩) | exact (fun h => by cases h)), (by first | exact (fun _ => rfl) | exact (fun h => by cases h))⟩, rfl, (fun fs h => by cases h),
  (fun h => by cases h)⟩
theorem ty36 : TyOk1 Tryd.prog tyT 36 ⟨.other, 1, [.v (.nilFunc)], false, 8⟩ := ⟨⟨_, _, rfl, rfl, rfl, rfl, rfl, (by first | exact (fun _ => ⟨_, rfl⟩) | exact (fun h => by cases h)), (by first | exact (fun _ => rfl) | exact (fun h => by cases h))⟩, ⟨_, rfl, (fun _ h => by cases h), (fun _ _ h => by cases h)⟩, (fun fs h => by cases h),
  (fun h => by cases h)⟩
theorem ty37 : TyOk1 Tryd.prog tyT 37 ⟨.other, 1, [.v (.nilFunc)], false, 8⟩ := ⟨⟨_, _, rfl, rfl, rfl, rfl, rfl, (by first | exact (fun _ => ⟨_, rfl⟩) | exact (fun h => by cases h)), (by first | exact (fun _ => rfl) | exact (fun h => by cases h))⟩, ⟨_, rfl, (fun _ h => by cases h), (fun _ _ h => by cases h)⟩, (fun fs h => by cases h),
  (fun h => by cases h)⟩
theorem ty38 : TyOk1 Tryd.prog tyT 38 ⟨.other, 1, [.v (.nilFunc)], false, 8⟩ := ⟨⟨_, _, rfl, rfl, rfl, rfl, rfl, (by first | exact (fun _ => ⟨_, rfl⟩) | exact (fun h => by cases h)), (by first | exact (fun _ => rfl) | exact (fun h => by cases h))⟩, ⟨_, rfl, (fun _ h => by cases h), (fun _ _ h => by cases h)⟩, (fun fs h => by cases h),
  (fun h => by cases h)⟩
theorem ty39 : TyOk1 Tryd.prog tyT 39 ⟨.other, 1, [.v (.nilFunc)], false, 8⟩ := ⟨⟨_, _, rfl, rfl, rfl, rfl, rfl, (by first | exact (fun _ => ⟨_, rfl⟩) | exact (fun h => by cases h)), (by first | exact (fun _ => rfl) | exact (fun h => by cases h))⟩, ⟨_, rfl, (fun _ h => by cases h), (fun _ _ h => by cases h)⟩, (fun fs h => by cases h),
  (fun h => by cases h)⟩
theorem ty40 : TyOk1 Tryd.prog tyT 40 ⟨.other, 1, [.v (.nilFunc)], false, 8⟩ := ⟨⟨_, _, rfl, rfl, rfl, rfl, rfl, (by first | exact (fun _ => ⟨_, rfl⟩) | exact (fun h => by cases h)), (by first | exact (fun _ => rfl) | exact (fun h => by cases h))⟩, ⟨_, rfl, (fun _ h => by cases h), (fun _ _ h => by cases h)⟩, (fun fs h => by cases h),
  (fun h => by cases h)⟩
theorem ty42 : TyOk1 Tryd.prog tyT 42 ⟨.other, 1, [.v (.nilFunc)], false, 8⟩ := ⟨⟨_, _, rfl, rfl, rfl, rfl, rfl, (by first | exact (fun _ => ⟨_, rfl⟩) | exact (fun h => by cases h)), (by first | exact (fun _ => rfl) | exact (fun h => by cases h))⟩, ⟨_, rfl, (fun _ h => by cases h), (fun _ _ h => by cases h)⟩, (fun fs h => by cases h),
  (fun h => by cases h)⟩
theorem ty43 : TyOk1 Tryd.prog tyT 43 ⟨.struct [(0, 30), (1, 30), (2, 23), (4, 4)], 5, [.v (.nilIface), .v (.nilIface), .v (.bool false), .v (.bool false), .v (.bool false)], false, 40⟩ := ⟨⟨_, _, rfl, rfl, rfl, rfl, rfl, (by first | exact (fun _ => ⟨_, rfl⟩) | exact (fun h => by cases h)), (by first | exact (fun _ => rfl) | exact (fun h => by cases h))⟩, ⟨_, rfl, rfl⟩, (fun fs h => by injection h with h; subst h; intro p hp; revert p; simp only [List.forall_mem_cons, List.not_mem_nil, false_implies, implies_true, and_true]; first | rfl | (repeat' apply And.intro) <;> rfl),
  (fun h => by cases h)⟩
theorem ty44 : TyOk1 Tryd.prog tyT 44 ⟨.struct [(0, 30), (1, 30), (2, 23), (4, 4)], 5, [.v (.nilIface), .v (.nilIface), .v (.bool false), .v (.bool false), .v (.bool false)], false, 40⟩ := ⟨⟨_, _, rfl, rfl, rfl, rfl, rfl, (by first | exact (fun _ => ⟨_, rfl⟩) | exact (fun h => by cases h)), (by first | exact (fun _ => rfl) | exact (fun h => by cases h))⟩, ⟨_, rfl, rfl⟩, (fun fs h => by injection h with h; subst h; intro p hp; revert p; simp only [List.forall_mem_cons, List.not_mem_nil, false_implies, implies_true, and_true]; first | rfl | (repeat' apply And.intro) <;> rfl),
  (fun h => by cases h)⟩
theorem ty46 : TyOk1 Tryd.prog tyT 46 ⟨.other, 1, [.v (.nilFunc)], false, 8⟩ := ⟨⟨_, _, rfl, rfl, rfl, rfl, rfl, (by first | exact (fun _ => ⟨_, rfl⟩) | exact (fun h => by cases h)), (by first | exact (fun _ => rfl) | exact (fun h => by cases h))⟩, ⟨_, rfl, (fun _ h => by cases h), (fun _ _ h => by cases h)⟩, (fun fs h => by cases h),
  (fun h => by cases h)⟩
theorem ty47 : TyOk1 Tryd.prog tyT 47 ⟨.other, 1, [.v (.nilFunc)], false, 8⟩ := ⟨⟨_, _, rfl, rfl, rfl, rfl, rfl, (by first | exact (fun _ => ⟨_, rfl⟩) | exact (fun h => by cases h)), (by first | exact (fun _ => rfl) | exact (fun h => by cases h))⟩, ⟨_, rfl, (fun _ h => by cases h), (fun _ _ h => by cases h)⟩, (fun fs h => by cases h),
  (fun h => by cases h)⟩
theorem ty48 : TyOk1 Tryd.prog tyT 48 ⟨.other, 1, [.v (.nilFunc)], false, 8⟩ := ⟨⟨_, _, rfl, rfl, rfl, rfl, rfl, (by first | exact (fun _ => ⟨_, rfl⟩) | exact (fun h => by cases h)), (by first | exact (fun _ => rfl) | exact (fun h => by cases h))⟩, ⟨_, rfl, (fun _ h => by cases h), (fun _ _ h => by cases h)⟩, (fun fs h => by cases h),
  (fun h => by cases h)⟩
theorem ty49 : TyOk1 Tryd.prog tyT 49 ⟨.int .i64, 1, [.v (.int .i64 0)], false, 8⟩ := ⟨⟨_, _, rfl, rfl, rfl, rfl, rfl, (by first | exact (fun _ => ⟨_, rfl⟩) | exact (fun h => by cases h)), (by first | exact (fun _ => rfl) | exact (fun h => by cases h))⟩, rfl, (fun fs h => by cases h),
  (fun h => by cases h)⟩
theorem ty50 : TyOk1 Tryd.prog tyT 50 ⟨.other, 1, [.v (.nilFunc)], false, 8⟩ := ⟨⟨_, _, rfl, rfl, rfl, rfl, rfl, (by first | exact (fun _ => ⟨_, rfl⟩) | exact (fun h => by cases h)), (by first | exact (fun _ => rfl) | exact (fun h => by cases h))⟩, ⟨_, rfl, (fun _ h => by cases h), (fun _ _ h => by cases h)⟩, (fun fs h => by cases h),
  (fun h => by cases h)⟩
theorem ty51 : TyOk1 Tryd.prog tyT 51 ⟨.other, 1, [.v (.nilFunc)], false, 8⟩ := ⟨⟨_, _, rfl, rfl, rfl, rfl, rfl, (by first | exact (fun _ => ⟨_, rfl⟩) | exact (fun h => by cases h)), (by first | exact (fun _ => rfl) | exact (fun h => by cases h))⟩, ⟨_, rfl, (fun _ h => by cases h), (fun _ _ h => by cases h)⟩, (fun fs h => by cases h),
  (fun h => by cases h)⟩
theorem ty52 : TyOk1 Tryd.prog tyT 52 ⟨.int .u64, 1, [.v (.int .u64 0)], false, 8⟩ := ⟨⟨_, _, rfl, rfl, rfl, rfl, rfl, (by first | exact (fun _ => ⟨_, rfl⟩) | exact (fun h => by cases h)), (by first | exact (fun _ => rfl) | exact (fun h => by cases h))⟩, rfl, (fun fs h => by cases h),
  (fun h => by cases h)⟩
theorem ty53 : TyOk1 Tryd.prog tyT 53 ⟨.struct [(0, 52), (1, 52)], 2, [.v (.int .u64 0), .v (.int .u64 0)], true, 16⟩ := ⟨⟨_, _, rfl, rfl, rfl, rfl, rfl, (by first | exact (fun _ => ⟨_, rfl⟩) | exact (fun h => by cases h)), (by first | exact (fun _ => rfl) | exact (fun h => by cases h))⟩, ⟨_, rfl, rfl⟩, (fun fs h => by injection h with h; subst h; intro p hp; revert p; simp only [List.forall_mem_cons, List.not_mem_nil, false_implies, implies_true, and_true]; first | rfl | (repeat' apply And.intro) <;> rfl),
  (fun _ => ⟨(by first | exact Tryd.stoodInHeld53 | kernel_rfl), (by first | exact Tryd.eqGuardType53 | kernel_rfl), (fun fields h => by injection h with h; injection h with h; subst h; simp)⟩)⟩
theorem ty54 : TyOk1 Tryd.prog tyT 54 ⟨.struct [(0, 52), (1, 52)], 2, [.v (.int .u64 0), .v (.int .u64 0)], true, 16⟩ := ⟨⟨_, _, rfl, rfl, rfl, rfl, rfl, (by first | exact (fun _ => ⟨_, rfl⟩) | exact (fun h => by cases h)), (by first | exact (fun _ => rfl) | exact (fun h => by cases h))⟩, ⟨_, rfl, rfl⟩, (fun fs h => by injection h with h; subst h; intro p hp; revert p; simp only [List.forall_mem_cons, List.not_mem_nil, false_implies, implies_true, and_true]; first | rfl | (repeat' apply And.intro) <;> rfl),
  (fun _ => ⟨(by first | exact Tryd.stoodInHeld54 | kernel_rfl), (by first | exact Tryd.eqGuardType54 | kernel_rfl), (fun fields h => by injection h with h; injection h with h; subst h; simp)⟩)⟩
theorem ty55 : TyOk1 Tryd.prog tyT 55 ⟨.struct [(0, 4), (1, 54), (3, 3)], 4, [.v (.bool false), .v (.int .u64 0), .v (.int .u64 0), .v (.int .i64 0)], true, 32⟩ := ⟨⟨_, _, rfl, rfl, rfl, rfl, rfl, (by first | exact (fun _ => ⟨_, rfl⟩) | exact (fun h => by cases h)), (by first | exact (fun _ => rfl) | exact (fun h => by cases h))⟩, ⟨_, rfl, rfl⟩, (fun fs h => by injection h with h; subst h; intro p hp; revert p; simp only [List.forall_mem_cons, List.not_mem_nil, false_implies, implies_true, and_true]; first | rfl | (repeat' apply And.intro) <;> rfl),
  (fun _ => ⟨(by first | exact Tryd.stoodInHeld55 | kernel_rfl), (by first | exact Tryd.eqGuardType55 | kernel_rfl), (fun fields h => by injection h with h; injection h with h; subst h; simp)⟩)⟩
theorem ty56 : TyOk1 Tryd.prog tyT 56 ⟨.struct [(0, 4), (1, 54), (3, 3)], 4, [.v (.bool false), .v (.int .u64 0), .v (.int .u64 0), .v (.int .i64 0)], true, 32⟩ := ⟨⟨_, _, rfl, rfl, rfl, rfl, rfl, (by first | exact (fun _ => ⟨_, rfl⟩) | exact (fun h => by cases h)), (by first | exact (fun _ => rfl) | exact (fun h => by cases h))⟩, ⟨_, rfl, rfl⟩, (fun fs h => by injection h with h; subst h; intro p hp; revert p; simp only [List.forall_mem_cons, List.not_mem_nil, false_implies, implies_true, and_true]; first | rfl | (repeat' apply And.intro) <;> rfl),
  (fun _ => ⟨(by first | exact Tryd.stoodInHeld56 | kernel_rfl), (by first | exact Tryd.eqGuardType56 | kernel_rfl), (fun fields h => by injection h with h; injection h with h; subst h; simp)⟩)⟩
theorem ty57 : TyOk1 Tryd.prog tyT 57 ⟨.other, 1, [.v (.nilFunc)], false, 8⟩ := ⟨⟨_, _, rfl, rfl, rfl, rfl, rfl, (by first | exact (fun _ => ⟨_, rfl⟩) | exact (fun h => by cases h)), (by first | exact (fun _ => rfl) | exact (fun h => by cases h))⟩, ⟨_, rfl, (fun _ h => by cases h), (fun _ _ h => by cases h)⟩, (fun fs h => by cases h),
  (fun h => by cases h)⟩
theorem ty58 : TyOk1 Tryd.prog tyT 58 ⟨.other, 1, [.v (.nilFunc)], false, 8⟩ := ⟨⟨_, _, rfl, rfl, rfl, rfl, rfl, (by first | exact (fun _ => ⟨_, rfl⟩) | exact (fun h => by cases h)), (by first | exact (fun _ => rfl) | exact (fun h => by cases h))⟩, ⟨_, rfl, (fun _ h => by cases h), (fun _ _ h => by cases h)⟩, (fun fs h => by cases h),
  (fun h => by cases h)⟩
theorem ty59 : TyOk1 Tryd.prog tyT 59 ⟨.str, 1, [.v (.string ⟨#[]⟩)], false, 16⟩ := ⟨⟨_, _, rfl, rfl, rfl, rfl, rfl, (by first | exact (fun _ => ⟨_, rfl⟩) | exact (fun h => by cases h)), (by first | exact (fun _ => rfl) | exact (fun h => by cases h))⟩, rfl, (fun fs h => by cases h),
  (fun h => by cases h)⟩
theorem ty60 : TyOk1 Tryd.prog tyT 60 ⟨.int .i64, 1, [.v (.int .i64 0)], false, 8⟩ := ⟨⟨_, _, rfl, rfl, rfl, rfl, rfl, (by first | exact (fun _ => ⟨_, rfl⟩) | exact (fun h => by cases h)), (by first | exact (fun _ => rfl) | exact (fun h => by cases h))⟩, rfl, (fun fs h => by cases h),
  (fun h => by cases h)⟩
theorem ty61 : TyOk1 Tryd.prog tyT 61 ⟨.other, 1, [.v (.nilFunc)], false, 8⟩ := ⟨⟨_, _, rfl, rfl, rfl, rfl, rfl, (by first | exact (fun _ => ⟨_, rfl⟩) | exact (fun h => by cases h)), (by first | exact (fun _ => rfl) | exact (fun h => by cases h))⟩, ⟨_, rfl, (fun _ h => by cases h), (fun _ _ h => by cases h)⟩, (fun fs h => by cases h),
  (fun h => by cases h)⟩
theorem ty62 : TyOk1 Tryd.prog tyT 62 ⟨.other, 1, [.v (.nilFunc)], false, 8⟩ := ⟨⟨_, _, rfl, rfl, rfl, rfl, rfl, (by first | exact (fun _ => ⟨_, rfl⟩) | exact (fun h => by cases h)), (by first | exact (fun _ => rfl) | exact (fun h => by cases h))⟩, ⟨_, rfl, (fun _ h => by cases h), (fun _ _ h => by cases h)⟩, (fun fs h => by cases h),
  (fun h => by cases h)⟩
theorem ty63 : TyOk1 Tryd.prog tyT 63 ⟨.arr 2 30, 2, [.v (.nilIface), .v (.nilIface)], false, 32⟩ := ⟨⟨_, _, rfl, rfl, rfl, rfl, rfl, (by first | exact (fun _ => ⟨_, rfl⟩) | exact (fun h => by cases h)), (by first | exact (fun _ => rfl) | exact (fun h => by cases h))⟩, rfl, (fun fs h => by cases h),
  (fun h => by cases h)⟩
theorem ty64 : TyOk1 Tryd.prog tyT 64 ⟨.struct [(0, 63), (2, 23)], 4, [.v (.nilIface), .v (.nilIface), .v (.bool false), .v (.bool false)], false, 40⟩ := ⟨⟨_, _, rfl, rfl, rfl, rfl, rfl, (by first | exact (fun _ => ⟨_, rfl⟩) | exact (fun h => by cases h)), (by first | exact (fun _ => rfl) | exact (fun h => by cases h))⟩, ⟨_, rfl, rfl⟩, (fun fs h => by injection h with h; subst h; intro p hp; revert p; simp only [List.forall_mem_cons, List.not_mem_nil, false_implies, implies_true, and_true]; first | rfl | (repeat' apply And.intro) <;> rfl),
  (fun h => by cases h)⟩
theorem ty65 : TyOk1 Tryd.prog tyT 65 ⟨.struct [(0, 63), (2, 23)], 4, [.v (.nilIface), .v (.nilIface), .v (.bool false), .v (.bool false)], false, 40⟩ := ⟨⟨_, _, rfl, rfl, rfl, rfl, rfl, (by first | exact (fun _ => ⟨_, rfl⟩) | exact (fun h => by cases h)), (by first | exact (fun _ => rfl) | exact (fun h => by cases h))⟩, ⟨_, rfl, rfl⟩, (fun fs h => by injection h with h; subst h; intro p hp; revert p; simp only [List.forall_mem_cons, List.not_mem_nil, false_implies, implies_true, and_true]; first | rfl | (repeat' apply And.intro) <;> rfl),
  (fun h => by cases h)⟩
theorem ty66 : TyOk1 Tryd.prog tyT 66 ⟨.bool, 1, [.v (.bool false)], false, 1⟩ := ⟨⟨_, _, rfl, rfl, rfl, rfl, rfl, (by first | exact (fun _ => ⟨_, rfl⟩) | exact (fun h => by cases h)), (by first | exact (fun _ => rfl) | exact (fun h => by cases h))⟩, rfl, (fun fs h => by cases h),
  (fun h => by cases h)⟩
theorem ty69 : TyOk1 Tryd.prog tyT 69 ⟨.other, 1, [.v (.nilFunc)], false, 8⟩ := ⟨⟨_, _, rfl, rfl, rfl, rfl, rfl, (by first | exact (fun _ => ⟨_, rfl⟩) | exact (fun h => by cases h)), (by first | exact (fun _ => rfl) | exact (fun h => by cases h))⟩, ⟨_, rfl, (fun _ h => by cases h), (fun _ _ h => by cases h)⟩, (fun fs h => by cases h),
  (fun h => by cases h)⟩
theorem ty70 : TyOk1 Tryd.prog tyT 70 ⟨.other, 1, [.v (.nilFunc)], false, 8⟩ := ⟨⟨_, _, rfl, rfl, rfl, rfl, rfl, (by first | exact (fun _ => ⟨_, rfl⟩) | exact (fun h => by cases h)), (by first | exact (fun _ => rfl) | exact (fun h => by cases h))⟩, ⟨_, rfl, (fun _ h => by cases h), (fun _ _ h => by cases h)⟩, (fun fs h => by cases h),
  (fun h => by cases h)⟩
theorem ty71 : TyOk1 Tryd.prog tyT 71 ⟨.other, 1, [.v (.nilFunc)], false, 8⟩ := ⟨⟨_, _, rfl, rfl, rfl, rfl, rfl, (by first | exact (fun _ => ⟨_, rfl⟩) | exact (fun h => by cases h)), (by first | exact (fun _ => rfl) | exact (fun h => by cases h))⟩, ⟨_, rfl, (fun _ h => by cases h), (fun _ _ h => by cases h)⟩, (fun fs h => by cases h),
  (fun h => by cases h)⟩
theorem ty72 : TyOk1 Tryd.prog tyT 72 ⟨.other, 1, [.v (.nilFunc)], false, 8⟩ := ⟨⟨_, _, rfl, rfl, rfl, rfl, rfl, (by first | exact (fun _ => ⟨_, rfl⟩) | exact (fun h => by cases h)), (by first | exact (fun _ => rfl) | exact (fun h => by cases h))⟩, ⟨_, rfl, (fun _ h => by cases h), (fun _ _ h => by cases h)⟩, (fun fs h => by cases h),
  (fun h => by cases h)⟩
theorem ty73 : TyOk1 Tryd.prog tyT 73 ⟨.other, 1, [.v (.nilFunc)], false, 8⟩ := ⟨⟨_, _, rfl, rfl, rfl, rfl, rfl, (by first | exact (fun _ => ⟨_, rfl⟩) | exact (fun h => by cases h)), (by first | exact (fun _ => rfl) | exact (fun h => by cases h))⟩, ⟨_, rfl, (fun _ h => by cases h), (fun _ _ h => by cases h)⟩, (fun fs h => by cases h),
  (fun h => by cases h)⟩
theorem ty74 : TyOk1 Tryd.prog tyT 74 ⟨.struct [(0, 4), (1, 54), (3, 3)], 4, [.v (.bool false), .v (.int .u64 0), .v (.int .u64 0), .v (.int .i64 0)], true, 32⟩ := ⟨⟨_, _, rfl, rfl, rfl, rfl, rfl, (by first | exact (fun _ => ⟨_, rfl⟩) | exact (fun h => by cases h)), (by first | exact (fun _ => rfl) | exact (fun h => by cases h))⟩, ⟨_, rfl, rfl⟩, (fun fs h => by injection h with h; subst h; intro p hp; revert p; simp only [List.forall_mem_cons, List.not_mem_nil, false_implies, implies_true, and_true]; first | rfl | (repeat' apply And.intro) <;> rfl),
  (fun _ => ⟨(by first | exact Tryd.stoodInHeld74 | kernel_rfl), (by first | exact Tryd.eqGuardType74 | kernel_rfl), (fun fields h => by injection h with h; injection h with h; subst h; simp)⟩)⟩
theorem ty75 : TyOk1 Tryd.prog tyT 75 ⟨.other, 1, [.v (.nilFunc)], false, 8⟩ := ⟨⟨_, _, rfl, rfl, rfl, rfl, rfl, (by first | exact (fun _ => ⟨_, rfl⟩) | exact (fun h => by cases h)), (by first | exact (fun _ => rfl) | exact (fun h => by cases h))⟩, ⟨_, rfl, (fun _ h => by cases h), (fun _ _ h => by cases h)⟩, (fun fs h => by cases h),
  (fun h => by cases h)⟩
theorem ty76 : TyOk1 Tryd.prog tyT 76 ⟨.other, 1, [.v (.nilFunc)], false, 8⟩ := ⟨⟨_, _, rfl, rfl, rfl, rfl, rfl, (by first | exact (fun _ => ⟨_, rfl⟩) | exact (fun h => by cases h)), (by first | exact (fun _ => rfl) | exact (fun h => by cases h))⟩, ⟨_, rfl, (fun _ h => by cases h), (fun _ _ h => by cases h)⟩, (fun fs h => by cases h),
  (fun h => by cases h)⟩
theorem ty78 : TyOk1 Tryd.prog tyT 78 ⟨.struct [(0, 5), (1, 5)], 2, [.v (.int .u8 0), .v (.int .u8 0)], true, 2⟩ := ⟨⟨_, _, rfl, rfl, rfl, rfl, rfl, (by first | exact (fun _ => ⟨_, rfl⟩) | exact (fun h => by cases h)), (by first | exact (fun _ => rfl) | exact (fun h => by cases h))⟩, ⟨_, rfl, rfl⟩, (fun fs h => by injection h with h; subst h; intro p hp; revert p; simp only [List.forall_mem_cons, List.not_mem_nil, false_implies, implies_true, and_true]; first | rfl | (repeat' apply And.intro) <;> rfl),
  (fun _ => ⟨(by first | exact Tryd.stoodInHeld78 | kernel_rfl), (by first | exact Tryd.eqGuardType78 | kernel_rfl), (fun fields h => by injection h with h; injection h with h; subst h; simp)⟩)⟩
theorem ty79 : TyOk1 Tryd.prog tyT 79 ⟨.struct [(0, 5), (1, 5)], 2, [.v (.int .u8 0), .v (.int .u8 0)], true, 2⟩ := ⟨⟨_, _, rfl, rfl, rfl, rfl, rfl, (by first | exact (fun _ => ⟨_, rfl⟩) | exact (fun h => by cases h)), (by first | exact (fun _ => rfl) | exact (fun h => by cases h))⟩, ⟨_, rfl, rfl⟩, (fun fs h => by injection h with h; subst h; intro p hp; revert p; simp only [List.forall_mem_cons, List.not_mem_nil, false_implies, implies_true, and_true]; first | rfl | (repeat' apply And.intro) <;> rfl),
  (fun _ => ⟨(by first | exact Tryd.stoodInHeld79 | kernel_rfl), (by first | exact Tryd.eqGuardType79 | kernel_rfl), (fun fields h => by injection h with h; injection h with h; subst h; simp)⟩)⟩
theorem ty80 : TyOk1 Tryd.prog tyT 80 ⟨.arr 16 79, 32, [.v (.int .u8 0), .v (.int .u8 0), .v (.int .u8 0), .v (.int .u8 0), .v (.int .u8 0), .v (.int .u8 0), .v (.int .u8 0), .v (.int .u8 0), .v (.int .u8 0), .v (.int .u8 0), .v (.int .u8 0), .v (.int .u8 0), .v (.int .u8 0), .v (.int .u8 0), .v (.int .u8 0), .v (.int .u8 0), .v (.int .u8 0), .v (.int .u8 0), .v (.int .u8 0), .v (.int .u8 0), .v (.int .u8 0), .v (.int .u8 0), .v (.int .u8 0), .v (.int .u8 0), .v (.int .u8 0), .v (.int .u8 0), .v (.int .u8 0), .v (.int .u8 0), .v (.int .u8 0), .v (.int .u8 0), .v (.int .u8 0), .v (.int .u8 0)], false, 32⟩ := ⟨⟨_, _, rfl, rfl, rfl, rfl, rfl, (by first | exact (fun _ => ⟨_, rfl⟩) | exact (fun h => by cases h)), (by first | exact (fun _ => rfl) | exact (fun h => by cases h))⟩, rfl, (fun fs h => by cases h),
  (fun h => by cases h)⟩
theorem ty81 : TyOk1 Tryd.prog tyT 81 ⟨.int .u64, 1, [.v (.int .u64 0)], false, 8⟩ := ⟨⟨_, _, rfl, rfl, rfl, rfl, rfl, (by first | exact (fun _ => ⟨_, rfl⟩) | exact (fun h => by cases h)), (by first | exact (fun _ => rfl) | exact (fun h => by cases h))⟩, rfl, (fun fs h => by cases h),
  (fun h => by cases h)⟩
theorem ty83 : TyOk1 Tryd.prog tyT 83 ⟨.other, 1, [.v (.nilFunc)], false, 8⟩ := ⟨⟨_, _, rfl, rfl, rfl, rfl, rfl, (by first | exact (fun _ => ⟨_, rfl⟩) | exact (fun h => by cases h)), (by first | exact (fun _ => rfl) | exact (fun h => by cases h))⟩, ⟨_, rfl, (fun _ h => by cases h), (fun _ _ h => by cases h)⟩, (fun fs h => by cases h),
  (fun h => by cases h)⟩
theorem ty84 : TyOk1 Tryd.prog tyT 84 ⟨.other, 1, [.v (.nilFunc)], false, 8⟩ := ⟨⟨_, _, rfl, rfl, rfl, rfl, rfl, (by first | exact (fun _ => ⟨_, rfl⟩) | exact (fun h => by cases h)), (by first | exact (fun _ => rfl) | exact (fun h => by cases h))⟩, ⟨_, rfl, (fun _ h => by cases h), (fun _ _ h => by cases h)⟩, (fun fs h => by cases h),
  (fun h => by cases h)⟩
theorem ty85 : TyOk1 Tryd.prog tyT 85 ⟨.other, 1, [.v (.nilFunc)], false, 8⟩ := ⟨⟨_, _, rfl, rfl, rfl, rfl, rfl, (by first | exact (fun _ => ⟨_, rfl⟩) | exact (fun h => by cases h)), (by first | exact (fun _ => rfl) | exact (fun h => by cases h))⟩, ⟨_, rfl, (fun _ h => by cases h), (fun _ _ h => by cases h)⟩, (fun fs h => by cases h),
  (fun h => by cases h)⟩
theorem ty86 : TyOk1 Tryd.prog tyT 86 ⟨.other, 1, [.v (.nilFunc)], false, 8⟩ := ⟨⟨_, _, rfl, rfl, rfl, rfl, rfl, (by first | exact (fun _ => ⟨_, rfl⟩) | exact (fun h => by cases h)), (by first | exact (fun _ => rfl) | exact (fun h => by cases h))⟩, ⟨_, rfl, (fun _ h => by cases h), (fun _ _ h => by cases h)⟩, (fun fs h => by cases h),
  (fun h => by cases h)⟩
theorem ty87 : TyOk1 Tryd.prog tyT 87 ⟨.other, 1, [.v (.nilFunc)], false, 8⟩ := ⟨⟨_, _, rfl, rfl, rfl, rfl, rfl, (by first | exact (fun _ => ⟨_, rfl⟩) | exact (fun h => by cases h)), (by first | exact (fun _ => rfl) | exact (fun h => by cases h))⟩, ⟨_, rfl, (fun _ h => by cases h), (fun _ _ h => by cases h)⟩, (fun fs h => by cases h),
  (fun h => by cases h)⟩
theorem ty89 : TyOk1 Tryd.prog tyT 89 ⟨.other, 1, [.v (.nilFunc)], false, 8⟩ := ⟨⟨_, _, rfl, rfl, rfl, rfl, rfl, (by first | exact (fun _ => ⟨_, rfl⟩) | exact (fun h => by cases h)), (by first | exact (fun _ => rfl) | exact (fun h => by cases h))⟩, ⟨_, rfl, (fun _ h => by cases h), (fun _ _ h => by cases h)⟩, (fun fs h => by cases h),
  (fun h => by cases h)⟩
theorem ty91 : TyOk1 Tryd.prog tyT 91 ⟨.other, 1, [.v (.nilFunc)], false, 8⟩ := ⟨⟨_, _, rfl, rfl, rfl, rfl, rfl, (by first | exact (fun _ => ⟨_, rfl⟩) | exact (fun h => by cases h)), (by first | exact (fun _ => rfl) | exact (fun h => by cases h))⟩, ⟨_, rfl, (fun _ h => by cases h), (fun _ _ h => by cases h)⟩, (fun fs h => by cases h),
  (fun h => by cases h)⟩
theorem ty93 : TyOk1 Tryd.prog tyT 93 ⟨.other, 1, [.v (.nilFunc)], false, 8⟩ := ⟨⟨_, _, rfl, rfl, rfl, rfl, rfl, (by first | exact (fun _ => ⟨_, rfl⟩) | exact (fun h => by cases h)), (by first | exact (fun _ => rfl) | exact (fun h => by cases h))⟩, ⟨_, rfl, (fun _ h => by cases h), (fun _ _ h => by cases h)⟩, (fun fs h => by cases h),
  (fun h => by cases h)⟩
theorem ty95 : TyOk1 Tryd.prog tyT 95 ⟨.other, 1, [.v (.nilFunc)], false, 8⟩ := ⟨⟨_, _, rfl, rfl, rfl, rfl, rfl, (by first | exact (fun _ => ⟨_, rfl⟩) | exact (fun h => by cases h)), (by first | exact (fun _ => rfl) | exact (fun h => by cases h))⟩, ⟨_, rfl, (fun _ h => by cases h), (fun _ _ h => by cases h)⟩, (fun fs h => by cases h),
  (fun h => by cases h)⟩
theorem ty96 : TyOk1 Tryd.prog tyT 96 ⟨.other, 1, [.v (.nilFunc)], false, 8⟩ := ⟨⟨_, _, rfl, rfl, rfl, rfl, rfl, (by first | exact (fun _ => ⟨_, rfl⟩) | exact (fun h => by cases h)), (by first | exact (fun _ => rfl) | exact (fun h => by cases h))⟩, ⟨_, rfl, (fun _ h => by cases h), (fun _ _ h => by cases h)⟩, (fun fs h => by cases h),
  (fun h => by cases h)⟩
theorem ty98 : TyOk1 Tryd.prog tyT 98 ⟨.other, 1, [.v (.nilFunc)], false, 8⟩ := ⟨⟨_, _, rfl, rfl, rfl, rfl, rfl, (by first | exact (fun _ => ⟨_, rfl⟩) | exact (fun h => by cases h)), (by first | exact (fun _ => rfl) | exact (fun h => by cases h))⟩, ⟨_, rfl, (fun _ h => by cases h), (fun _ _ h => by cases h)⟩, (fun fs h => by cases h),
  (fun h => by cases h)⟩
theorem ty99 : TyOk1 Tryd.prog tyT 99 ⟨.other, 1, [.v (.nilFunc)], false, 8⟩ := ⟨⟨_, _, rfl, rfl, rfl, rfl, rfl, (by first | exact (fun _ => ⟨_, rfl⟩) | exact (fun h => by cases h)), (by first | exact (fun _ => rfl) | exact (fun h => by cases h))⟩, ⟨_, rfl, (fun _ h => by cases h), (fun _ _ h => by cases h)⟩, (fun fs h => by cases h),
  (fun h => by cases h)⟩
theorem ty100 : TyOk1 Tryd.prog tyT 100 ⟨.struct [(0, 3), (1, 3), (2, 3)], 3, [.v (.int .i64 0), .v (.int .i64 0), .v (.int .i64 0)], true, 24⟩ := ⟨⟨_, _, rfl, rfl, rfl, rfl, rfl, (by first | exact (fun _ => ⟨_, rfl⟩) | exact (fun h => by cases h)), (by first | exact (fun _ => rfl) | exact (fun h => by cases h))⟩, ⟨_, rfl, rfl⟩, (fun fs h => by injection h with h; subst h; intro p hp; revert p; simp only [List.forall_mem_cons, List.not_mem_nil, false_implies, implies_true, and_true]; first | rfl | (repeat' apply And.intro) <;> rfl),
  (fun _ => ⟨(by first | exact Tryd.stoodInHeld100 | kernel_rfl), (by first | exact Tryd.eqGuardType100 | kernel_rfl), (fun fields h => by injection h with h; injection h with h; subst h; simp)⟩)⟩
theorem ty101 : TyOk1 Tryd.prog tyT 101 ⟨.struct [(0, 3), (1, 3), (2, 3)], 3, [.v (.int .i64 0), .v (.int .i64 0), .v (.int .i64 0)], true, 24⟩ := ⟨⟨_, _, rfl, rfl, rfl, rfl, rfl, (by first | exact (fun _ => ⟨_, rfl⟩) | exact (fun h => by cases h)), (by first | exact (fun _ => rfl) | exact (fun h => by cases h))⟩, ⟨_, rfl, rfl⟩, (fun fs h => by injection h with h; subst h; intro p hp; revert p; simp only [List.forall_mem_cons, List.not_mem_nil, false_implies, implies_true, and_true]; first | rfl | (repeat' apply And.intro) <;> rfl),
  (fun _ => ⟨(by first | exact Tryd.stoodInHeld101 | kernel_rfl), (by first | exact Tryd.eqGuardType101 | kernel_rfl), (fun fields h => by injection h with h; injection h with h; subst h; simp)⟩)⟩
theorem ty103 : TyOk1 Tryd.prog tyT 103 ⟨.other, 1, [.v (.nilFunc)], false, 8⟩ := ⟨⟨_, _, rfl, rfl, rfl, rfl, rfl, (by first | exact (fun _ => ⟨_, rfl⟩) | exact (fun h => by cases h)), (by first | exact (fun _ => rfl) | exact (fun h => by cases h))⟩, ⟨_, rfl, (fun _ h => by cases h), (fun _ _ h => by cases h)⟩, (fun fs h => by cases h),
  (fun h => by cases h)⟩
theorem ty104 : TyOk1 Tryd.prog tyT 104 ⟨.other, 1, [.v (.nilFunc)], false, 8⟩ := ⟨⟨_, _, rfl, rfl, rfl, rfl, rfl, (by first | exact (fun _ => ⟨_, rfl⟩) | exact (fun h => by cases h)), (by first | exact (fun _ => rfl) | exact (fun h => by cases h))⟩, ⟨_, rfl, (fun _ h => by cases h), (fun _ _ h => by cases h)⟩, (fun fs h => by cases h),
  (fun h => by cases h)⟩
theorem ty105 : TyOk1 Tryd.prog tyT 105 ⟨.struct [(0, 3), (1, 4), (2, 3)], 3, [.v (.int .i64 0), .v (.bool false), .v (.int .i64 0)], true, 24⟩ := ⟨⟨_, _, rfl, rfl, rfl, rfl, rfl, (by first | exact (fun _ => ⟨_, rfl⟩) | exact (fun h => by cases h)), (by first | exact (fun _ => rfl) | exact (fun h => by cases h))⟩, ⟨_, rfl, rfl⟩, (fun fs h => by injection h with h; subst h; intro p hp; revert p; simp only [List.forall_mem_cons, List.not_mem_nil, false_implies, implies_true, and_true]; first | rfl | (repeat' apply And.intro) <;> rfl),
  (fun _ => ⟨(by first | exact Tryd.stoodInHeld105 | kernel_rfl), (by first | exact Tryd.eqGuardType105 | kernel_rfl), (fun fields h => by injection h with h; injection h with h; subst h; simp)⟩)⟩
theorem ty106 : TyOk1 Tryd.prog tyT 106 ⟨.struct [(0, 3), (1, 4), (2, 3)], 3, [.v (.int .i64 0), .v (.bool false), .v (.int .i64 0)], true, 24⟩ := ⟨⟨_, _, rfl, rfl, rfl, rfl, rfl, (by first | exact (fun _ => ⟨_, rfl⟩) | exact (fun h => by cases h)), (by first | exact (fun _ => rfl) | exact (fun h => by cases h))⟩, ⟨_, rfl, rfl⟩, (fun fs h => by injection h with h; subst h; intro p hp; revert p; simp only [List.forall_mem_cons, List.not_mem_nil, false_implies, implies_true, and_true]; first | rfl | (repeat' apply And.intro) <;> rfl),
  (fun _ => ⟨(by first | exact Tryd.stoodInHeld106 | kernel_rfl), (by first | exact Tryd.eqGuardType106 | kernel_rfl), (fun fields h => by injection h with h; injection h with h; subst h; simp)⟩)⟩
theorem ty108 : TyOk1 Tryd.prog tyT 108 ⟨.other, 1, [.v (.nilFunc)], false, 8⟩ := ⟨⟨_, _, rfl, rfl, rfl, rfl, rfl, (by first | exact (fun _ => ⟨_, rfl⟩) | exact (fun h => by cases h)), (by first | exact (fun _ => rfl) | exact (fun h => by cases h))⟩, ⟨_, rfl, (fun _ h => by cases h), (fun _ _ h => by cases h)⟩, (fun fs h => by cases h),
  (fun h => by cases h)⟩
theorem ty109 : TyOk1 Tryd.prog tyT 109 ⟨.other, 1, [.v (.nilFunc)], false, 8⟩ := ⟨⟨_, _, rfl, rfl, rfl, rfl, rfl, (by first | exact (fun _ => ⟨_, rfl⟩) | exact (fun h => by cases h)), (by first | exact (fun _ => rfl) | exact (fun h => by cases h))⟩, ⟨_, rfl, (fun _ h => by cases h), (fun _ _ h => by cases h)⟩, (fun fs h => by cases h),
  (fun h => by cases h)⟩
theorem ty110 : TyOk1 Tryd.prog tyT 110 ⟨.struct [(0, 101), (3, 106)], 6, [.v (.int .i64 0), .v (.int .i64 0), .v (.int .i64 0), .v (.int .i64 0), .v (.bool false), .v (.int .i64 0)], true, 48⟩ := ⟨⟨_, _, rfl, rfl, rfl, rfl, rfl, (by first | exact (fun _ => ⟨_, rfl⟩) | exact (fun h => by cases h)), (by first | exact (fun _ => rfl) | exact (fun h => by cases h))⟩, ⟨_, rfl, rfl⟩, (fun fs h => by injection h with h; subst h; intro p hp; revert p; simp only [List.forall_mem_cons, List.not_mem_nil, false_implies, implies_true, and_true]; first | rfl | (repeat' apply And.intro) <;> rfl),
  (fun _ => ⟨(by first | exact Tryd.stoodInHeld110 | kernel_rfl), (by first | exact Tryd.eqGuardType110 | kernel_rfl), (fun fields h => by injection h with h; injection h with h; subst h; simp)⟩)⟩
theorem ty111 : TyOk1 Tryd.prog tyT 111 ⟨.struct [(0, 101), (3, 106)], 6, [.v (.int .i64 0), .v (.int .i64 0), .v (.int .i64 0), .v (.int .i64 0), .v (.bool false), .v (.int .i64 0)], true, 48⟩ := ⟨⟨_, _, rfl, rfl, rfl, rfl, rfl, (by first | exact (fun _ => ⟨_, rfl⟩) | exact (fun h => by cases h)), (by first | exact (fun _ => rfl) | exact (fun h => by cases h))⟩, ⟨_, rfl, rfl⟩, (fun fs h => by injection h with h; subst h; intro p hp; revert p; simp only [List.forall_mem_cons, List.not_mem_nil, false_implies, implies_true, and_true]; first | rfl | (repeat' apply And.intro) <;> rfl),
  (fun _ => ⟨(by first | exact Tryd.stoodInHeld111 | kernel_rfl), (by first | exact Tryd.eqGuardType111 | kernel_rfl), (fun fields h => by injection h with h; injection h with h; subst h; simp)⟩)⟩
theorem ty113 : TyOk1 Tryd.prog tyT 113 ⟨.other, 1, [.v (.nilFunc)], false, 8⟩ := ⟨⟨_, _, rfl, rfl, rfl, rfl, rfl, (by first | exact (fun _ => ⟨_, rfl⟩) | exact (fun h => by cases h)), (by first | exact (fun _ => rfl) | exact (fun h => by cases h))⟩, ⟨_, rfl, (fun _ h => by cases h), (fun _ _ h => by cases h)⟩, (fun fs h => by cases h),
  (fun h => by cases h)⟩
theorem ty114 : TyOk1 Tryd.prog tyT 114 ⟨.other, 1, [.v (.nilFunc)], false, 8⟩ := ⟨⟨_, _, rfl, rfl, rfl, rfl, rfl, (by first | exact (fun _ => ⟨_, rfl⟩) | exact (fun h => by cases h)), (by first | exact (fun _ => rfl) | exact (fun h => by cases h))⟩, ⟨_, rfl, (fun _ h => by cases h), (fun _ _ h => by cases h)⟩, (fun fs h => by cases h),
  (fun h => by cases h)⟩
theorem ty116 : TyOk1 Tryd.prog tyT 116 ⟨.other, 1, [.v (.nilFunc)], false, 8⟩ := ⟨⟨_, _, rfl, rfl, rfl, rfl, rfl, (by first | exact (fun _ => ⟨_, rfl⟩) | exact (fun h => by cases h)), (by first | exact (fun _ => rfl) | exact (fun h => by cases h))⟩, ⟨_, rfl, (fun _ h => by cases h), (fun _ _ h => by cases h)⟩, (fun fs h => by cases h),
  (fun h => by cases h)⟩
theorem ty117 : TyOk1 Tryd.prog tyT 117 ⟨.other, 1, [.v (.nilFunc)], false, 8⟩ := ⟨⟨_, _, rfl, rfl, rfl, rfl, rfl, (by first | exact (fun _ => ⟨_, rfl⟩) | exact (fun h => by cases h)), (by first | exact (fun _ => rfl) | exact (fun h => by cases h))⟩, ⟨_, rfl, (fun _ h => by cases h), (fun _ _ h => by cases h)⟩, (fun fs h => by cases h),
  (fun h => by cases h)⟩
theorem ty119 : TyOk1 Tryd.prog tyT 119 ⟨.other, 1, [.v (.nilFunc)], false, 8⟩ := ⟨⟨_, _, rfl, rfl, rfl, rfl, rfl, (by first | exact (fun _ => ⟨_, rfl⟩) | exact (fun h => by cases h)), (by first | exact (fun _ => rfl) | exact (fun h => by cases h))⟩, ⟨_, rfl, (fun _ h => by cases h), (fun _ _ h => by cases h)⟩, (fun fs h => by cases h),
  (fun h => by cases h)⟩
theorem ty120 : TyOk1 Tryd.prog tyT 120 ⟨.other, 1, [.v (.nilFunc)], false, 8⟩ := ⟨⟨_, _, rfl, rfl, rfl, rfl, rfl, (by first | exact (fun _ => ⟨_, rfl⟩) | exact (fun h => by cases h)), (by first | exact (fun _ => rfl) | exact (fun h => by cases h))⟩, ⟨_, rfl, (fun _ h => by cases h), (fun _ _ h => by cases h)⟩, (fun fs h => by cases h),
  (fun h => by cases h)⟩
theorem ty121 : TyOk1 Tryd.prog tyT 121 ⟨.other, 1, [.v (.nilFunc)], false, 8⟩ := ⟨⟨_, _, rfl, rfl, rfl, rfl, rfl, (by first | exact (fun _ => ⟨_, rfl⟩) | exact (fun h => by cases h)), (by first | exact (fun _ => rfl) | exact (fun h => by cases h))⟩, ⟨_, rfl, (fun _ h => by cases h), (fun _ _ h => by cases h)⟩, (fun fs h => by cases h),
  (fun h => by cases h)⟩
theorem ty122 : TyOk1 Tryd.prog tyT 122 ⟨.struct [(0, 4), (1, 54), (3, 54), (5, 3), (6, 4)], 7, [.v (.bool false), .v (.int .u64 0), .v (.int .u64 0), .v (.int .u64 0), .v (.int .u64 0), .v (.int .i64 0), .v (.bool false)], true, 56⟩ := ⟨⟨_, _, rfl, rfl, rfl, rfl, rfl, (by first | exact (fun _ => ⟨_, rfl⟩) | exact (fun h => by cases h)), (by first | exact (fun _ => rfl) | exact (fun h => by cases h))⟩, ⟨_, rfl, rfl⟩, (fun fs h => by injection h with h; subst h; intro p hp; revert p; simp only [List.forall_mem_cons, List.not_mem_nil, false_implies, implies_true, and_true]; first | rfl | (repeat' apply And.intro) <;> rfl),
  (fun _ => ⟨(by first | exact Tryd.stoodInHeld122 | kernel_rfl), (by first | exact Tryd.eqGuardType122 | kernel_rfl), (fun fields h => by injection h with h; injection h with h; subst h; simp)⟩)⟩
theorem ty123 : TyOk1 Tryd.prog tyT 123 ⟨.struct [(0, 4), (1, 54), (3, 54), (5, 3), (6, 4)], 7, [.v (.bool false), .v (.int .u64 0), .v (.int .u64 0), .v (.int .u64 0), .v (.int .u64 0), .v (.int .i64 0), .v (.bool false)], true, 56⟩ := ⟨⟨_, _, rfl, rfl, rfl, rfl, rfl, (by first | exact (fun _ => ⟨_, rfl⟩) | exact (fun h => by cases h)), (by first | exact (fun _ => rfl) | exact (fun h => by cases h))⟩, ⟨_, rfl, rfl⟩, (fun fs h => by injection h with h; subst h; intro p hp; revert p; simp only [List.forall_mem_cons, List.not_mem_nil, false_implies, implies_true, and_true]; first | rfl | (repeat' apply And.intro) <;> rfl),
  (fun _ => ⟨(by first | exact Tryd.stoodInHeld123 | kernel_rfl), (by first | exact Tryd.eqGuardType123 | kernel_rfl), (fun fields h => by injection h with h; injection h with h; subst h; simp)⟩)⟩
theorem ty124 : TyOk1 Tryd.prog tyT 124 ⟨.other, 1, [.v (.nilFunc)], false, 8⟩ := ⟨⟨_, _, rfl, rfl, rfl, rfl, rfl, (by first | exact (fun _ => ⟨_, rfl⟩) | exact (fun h => by cases h)), (by first | exact (fun _ => rfl) | exact (fun h => by cases h))⟩, ⟨_, rfl, (fun _ h => by cases h), (fun _ _ h => by cases h)⟩, (fun fs h => by cases h),
  (fun h => by cases h)⟩
theorem ty125 : TyOk1 Tryd.prog tyT 125 ⟨.other, 1, [.v (.nilFunc)], false, 8⟩ := ⟨⟨_, _, rfl, rfl, rfl, rfl, rfl, (by first | exact (fun _ => ⟨_, rfl⟩) | exact (fun h => by cases h)), (by first | exact (fun _ => rfl) | exact (fun h => by cases h))⟩, ⟨_, rfl, (fun _ h => by cases h), (fun _ _ h => by cases h)⟩, (fun fs h => by cases h),
  (fun h => by cases h)⟩
theorem ty127 : TyOk1 Tryd.prog tyT 127 ⟨.struct [(0, 3), (1, 3), (2, 3)], 3, [.v (.int .i64 0), .v (.int .i64 0), .v (.int .i64 0)], true, 24⟩ := ⟨⟨_, _, rfl, rfl, rfl, rfl, rfl, (by first | exact (fun _ => ⟨_, rfl⟩) | exact (fun h => by cases h)), (by first | exact (fun _ => rfl) | exact (fun h => by cases h))⟩, ⟨_, rfl, rfl⟩, (fun fs h => by injection h with h; subst h; intro p hp; revert p; simp only [List.forall_mem_cons, List.not_mem_nil, false_implies, implies_true, and_true]; first | rfl | (repeat' apply And.intro) <;> rfl),
  (fun _ => ⟨(by first | exact Tryd.stoodInHeld127 | kernel_rfl), (by first | exact Tryd.eqGuardType127 | kernel_rfl), (fun fields h => by injection h with h; injection h with h; subst h; simp)⟩)⟩
theorem ty129 : TyOk1 Tryd.prog tyT 129 ⟨.arr 2 3, 2, [.v (.int .i64 0), .v (.int .i64 0)], false, 16⟩ := ⟨⟨_, _, rfl, rfl, rfl, rfl, rfl, (by first | exact (fun _ => ⟨_, rfl⟩) | exact (fun h => by cases h)), (by first | exact (fun _ => rfl) | exact (fun h => by cases h))⟩, rfl, (fun fs h => by cases h),
  (fun h => by cases h)⟩
theorem ty130 : TyOk1 Tryd.prog tyT 130 ⟨.slice 129, 1, [.sl 0 []], false, 24⟩ := ⟨⟨_, _, rfl, rfl, rfl, rfl, rfl, (by first | exact (fun _ => ⟨_, rfl⟩) | exact (fun h => by cases h)), (by first | exact (fun _ => rfl) | exact (fun h => by cases h))⟩, rfl, (fun fs h => by cases h),
  (fun h => by cases h)⟩
theorem ty131 : TyOk1 Tryd.prog tyT 131 ⟨.struct [(0, 3), (1, 4), (2, 3)], 3, [.v (.int .i64 0), .v (.bool false), .v (.int .i64 0)], true, 24⟩ := ⟨⟨_, _, rfl, rfl, rfl, rfl, rfl, (by first | exact (fun _ => ⟨_, rfl⟩) | exact (fun h => by cases h)), (by first | exact (fun _ => rfl) | exact (fun h => by cases h))⟩, ⟨_, rfl, rfl⟩, (fun fs h => by injection h with h; subst h; intro p hp; revert p; simp only [List.forall_mem_cons, List.not_mem_nil, false_implies, implies_true, and_true]; first | rfl | (repeat' apply And.intro) <;> rfl),
  (fun _ => ⟨(by first | exact Tryd.stoodInHeld131 | kernel_rfl), (by first | exact Tryd.eqGuardType131 | kernel_rfl), (fun fields h => by injection h with h; injection h with h; subst h; simp)⟩)⟩
theorem ty133 : TyOk1 Tryd.prog tyT 133 ⟨.struct [(0, 101), (3, 106)], 6, [.v (.int .i64 0), .v (.int .i64 0), .v (.int .i64 0), .v (.int .i64 0), .v (.bool false), .v (.int .i64 0)], true, 48⟩ := ⟨⟨_, _, rfl, rfl, rfl, rfl, rfl, (by first | exact (fun _ => ⟨_, rfl⟩) | exact (fun h => by cases h)), (by first | exact (fun _ => rfl) | exact (fun h => by cases h))⟩, ⟨_, rfl, rfl⟩, (fun fs h => by injection h with h; subst h; intro p hp; revert p; simp only [List.forall_mem_cons, List.not_mem_nil, false_implies, implies_true, and_true]; first | rfl | (repeat' apply And.intro) <;> rfl),
  (fun _ => ⟨(by first | exact Tryd.stoodInHeld133 | kernel_rfl), (by first | exact Tryd.eqGuardType133 | kernel_rfl), (fun fields h => by injection h with h; injection h with h; subst h; simp)⟩)⟩
theorem ty135 : TyOk1 Tryd.prog tyT 135 ⟨.other, 1, [.v (.nilFunc)], false, 8⟩ := ⟨⟨_, _, rfl, rfl, rfl, rfl, rfl, (by first | exact (fun _ => ⟨_, rfl⟩) | exact (fun h => by cases h)), (by first | exact (fun _ => rfl) | exact (fun h => by cases h))⟩, ⟨_, rfl, (fun _ h => by cases h), (fun _ _ h => by cases h)⟩, (fun fs h => by cases h),
  (fun h => by cases h)⟩
theorem ty137 : TyOk1 Tryd.prog tyT 137 ⟨.other, 1, [.v (.nilFunc)], false, 8⟩ := ⟨⟨_, _, rfl, rfl, rfl, rfl, rfl, (by first | exact (fun _ => ⟨_, rfl⟩) | exact (fun h => by cases h)), (by first | exact (fun _ => rfl) | exact (fun h => by cases h))⟩, ⟨_, rfl, (fun _ h => by cases h), (fun _ _ h => by cases h)⟩, (fun fs h => by cases h),
  (fun h => by cases h)⟩
theorem ty138 : TyOk1 Tryd.prog tyT 138 ⟨.other, 1, [.v (.nilFunc)], false, 8⟩ := ⟨⟨_, _, rfl, rfl, rfl, rfl, rfl, (by first | exact (fun _ => ⟨_, rfl⟩) | exact (fun h => by cases h)), (by first | exact (fun _ => rfl) | exact (fun h => by cases h))⟩, ⟨_, rfl, (fun _ h => by cases h), (fun _ _ h => by cases h)⟩, (fun fs h => by cases h),
  (fun h => by cases h)⟩
theorem ty139 : TyOk1 Tryd.prog tyT 139 ⟨.int .i64, 1, [.v (.int .i64 0)], false, 8⟩ := ⟨⟨_, _, rfl, rfl, rfl, rfl, rfl, (by first | exact (fun _ => ⟨_, rfl⟩) | exact (fun h => by cases h)), (by first | exact (fun _ => rfl) | exact (fun h => by cases h))⟩, rfl, (fun fs h => by cases h),
  (fun h => by cases h)⟩
theorem ty141 : TyOk1 Tryd.prog tyT 141 ⟨.int .i64, 1, [.v (.int .i64 0)], false, 8⟩ := ⟨⟨_, _, rfl, rfl, rfl, rfl, rfl, (by first | exact (fun _ => ⟨_, rfl⟩) | exact (fun h => by cases h)), (by first | exact (fun _ => rfl) | exact (fun h => by cases h))⟩, rfl, (fun fs h => by cases h),
  (fun h => by cases h)⟩
theorem ty144 : TyOk1 Tryd.prog tyT 144 ⟨.other, 1, [.v (.nilFunc)], false, 8⟩ := ⟨⟨_, _, rfl, rfl, rfl, rfl, rfl, (by first | exact (fun _ => ⟨_, rfl⟩) | exact (fun h => by cases h)), (by first | exact (fun _ => rfl) | exact (fun h => by cases h))⟩, ⟨_, rfl, (fun _ h => by cases h), (fun _ _ h => by cases h)⟩, (fun fs h => by cases h),
  (fun h => by cases h)⟩
theorem ty145 : TyOk1 Tryd.prog tyT 145 ⟨.other, 1, [.v (.nilFunc)], false, 8⟩ := ⟨⟨_, _, rfl, rfl, rfl, rfl, rfl, (by first | exact (fun _ => ⟨_, rfl⟩) | exact (fun h => by cases h)), (by first | exact (fun _ => rfl) | exact (fun h => by cases h))⟩, ⟨_, rfl, (fun _ h => by cases h), (fun _ _ h => by cases h)⟩, (fun fs h => by cases h),
  (fun h => by cases h)⟩
theorem ty146 : TyOk1 Tryd.prog tyT 146 ⟨.arr 4 52, 4, [.v (.int .u64 0), .v (.int .u64 0), .v (.int .u64 0), .v (.int .u64 0)], false, 32⟩ := ⟨⟨_, _, rfl, rfl, rfl, rfl, rfl, (by first | exact (fun _ => ⟨_, rfl⟩) | exact (fun h => by cases h)), (by first | exact (fun _ => rfl) | exact (fun h => by cases h))⟩, rfl, (fun fs h => by cases h),
  (fun h => by cases h)⟩
theorem ty147 : TyOk1 Tryd.prog tyT 147 ⟨.other, 1, [.v (.nilIface)], false, 16⟩ := ⟨⟨_, _, rfl, rfl, rfl, rfl, rfl, (by first | exact (fun _ => ⟨_, rfl⟩) | exact (fun h => by cases h)), (by first | exact (fun _ => rfl) | exact (fun h => by cases h))⟩, ⟨_, rfl, (fun _ h => by cases h), (fun _ _ h => by cases h)⟩, (fun fs h => by cases h),
  (fun h => by cases h)⟩
theorem ty148 : TyOk1 Tryd.prog tyT 148 ⟨.other, 1, [.v (.nilIface)], false, 16⟩ := ⟨⟨_, _, rfl, rfl, rfl, rfl, rfl, (by first | exact (fun _ => ⟨_, rfl⟩) | exact (fun h => by cases h)), (by first | exact (fun _ => rfl) | exact (fun h => by cases h))⟩, ⟨_, rfl, (fun _ h => by cases h), (fun _ _ h => by cases h)⟩, (fun fs h => by cases h),
  (fun h => by cases h)⟩
theorem ty149 : TyOk1 Tryd.prog tyT 149 ⟨.other, 1, [.v (.nilFunc)], false, 8⟩ := ⟨⟨_, _, rfl, rfl, rfl, rfl, rfl, (by first | exact (fun _ => ⟨_, rfl⟩) | exact (fun h => by cases h)), (by first | exact (fun _ => rfl) | exact (fun h => by cases h))⟩, ⟨_, rfl, (fun _ h => by cases h), (fun _ _ h => by cases h)⟩, (fun fs h => by cases h),
  (fun h => by cases h)⟩
theorem ty150 : TyOk1 Tryd.prog tyT 150 ⟨.other, 1, [.v (.nilFunc)], false, 8⟩ := ⟨⟨_, _, rfl, rfl, rfl, rfl, rfl, (by first | exact (fun _ => ⟨_, rfl⟩) | exact (fun h => by cases h)), (by first | exact (fun _ => rfl) | exact (fun h => by cases h))⟩, ⟨_, rfl, (fun _ h => by cases h), (fun _ _ h => by cases h)⟩, (fun fs h => by cases h),
  (fun h => by cases h)⟩
theorem ty151 : TyOk1 Tryd.prog tyT 151 ⟨.other, 1, [.v (.pointer none)], false, 8⟩ := ⟨⟨_, _, rfl, rfl, rfl, rfl, rfl, (by first | exact (fun _ => ⟨_, rfl⟩) | exact (fun h => by cases h)), (by first | exact (fun _ => rfl) | exact (fun h => by cases h))⟩, ⟨_, rfl, (fun _ h => by cases h), (fun _ _ h => by cases h)⟩, (fun fs h => by cases h),
  (fun h => by cases h)⟩
theorem ty152 : TyOk1 Tryd.prog tyT 152 ⟨.other, 1, [.v (.nilFunc)], false, 8⟩ := ⟨⟨_, _, rfl, rfl, rfl, rfl, rfl, (by first | exact (fun _ => ⟨_, rfl⟩) | exact (fun h => by cases h)), (by first | exact (fun _ => rfl) | exact (fun h => by cases h))⟩, ⟨_, rfl, (fun _ h => by cases h), (fun _ _ h => by cases h)⟩, (fun fs h => by cases h),
  (fun h => by cases h)⟩
theorem ty153 : TyOk1 Tryd.prog tyT 153 ⟨.struct [(0, 17), (1, 17), (2, 17), (3, 9)], 4, [.v (.pointer none), .v (.pointer none), .v (.pointer none), .v (.string ⟨#[]⟩)], false, 40⟩ := ⟨⟨_, _, rfl, rfl, rfl, rfl, rfl, (by first | exact (fun _ => ⟨_, rfl⟩) | exact (fun h => by cases h)), (by first | exact (fun _ => rfl) | exact (fun h => by cases h))⟩, ⟨_, rfl, rfl⟩, (fun fs h => by injection h with h; subst h; intro p hp; revert p; simp only [List.forall_mem_cons, List.not_mem_nil, false_implies, implies_true, and_true]; first | rfl | (repeat' apply And.intro) <;> rfl),
  (fun h => by cases h)⟩
theorem ty154 : TyOk1 Tryd.prog tyT 154 ⟨.struct [(0, 17), (1, 17), (2, 17), (3, 9)], 4, [.v (.pointer none), .v (.pointer none), .v (.pointer none), .v (.string ⟨#[]⟩)], false, 40⟩ := ⟨⟨_, _, rfl, rfl, rfl, rfl, rfl, (by first | exact (fun _ => ⟨_, rfl⟩) | exact (fun h => by cases h)), (by first | exact (fun _ => rfl) | exact (fun h => by cases h))⟩, ⟨_, rfl, rfl⟩, (fun fs h => by injection h with h; subst h; intro p hp; revert p; simp only [List.forall_mem_cons, List.not_mem_nil, false_implies, implies_true, and_true]; first | rfl | (repeat' apply And.intro) <;> rfl),
  (fun h => by cases h)⟩
theorem ty155 : TyOk1 Tryd.prog tyT 155 ⟨.arr 0 16, 0, [], false, 0⟩ := ⟨⟨_, _, rfl, rfl, rfl, rfl, rfl, (by first | exact (fun _ => ⟨_, rfl⟩) | exact (fun h => by cases h)), (by first | exact (fun _ => rfl) | exact (fun h => by cases h))⟩, rfl, (fun fs h => by cases h),
  (fun h => by cases h)⟩
theorem ty156 : TyOk1 Tryd.prog tyT 156 ⟨.struct [(0, 155)], 0, [], false, 0⟩ := ⟨⟨_, _, rfl, rfl, rfl, rfl, rfl, (by first | exact (fun _ => ⟨_, rfl⟩) | exact (fun h => by cases h)), (by first | exact (fun _ => rfl) | exact (fun h => by cases h))⟩, ⟨_, rfl, rfl⟩, (fun fs h => by injection h with h; subst h; intro p hp; revert p; simp only [List.forall_mem_cons, List.not_mem_nil, false_implies, implies_true, and_true]; first | rfl | (repeat' apply And.intro) <;> rfl),
  (fun h => by cases h)⟩
theorem ty157 : TyOk1 Tryd.prog tyT 157 ⟨.struct [(0, 155)], 0, [], false, 0⟩ := ⟨⟨_, _, rfl, rfl, rfl, rfl, rfl, (by first | exact (fun _ => ⟨_, rfl⟩) | exact (fun h => by cases h)), (by first | exact (fun _ => rfl) | exact (fun h => by cases h))⟩, ⟨_, rfl, rfl⟩, (fun fs h => by injection h with h; subst h; intro p hp; revert p; simp only [List.forall_mem_cons, List.not_mem_nil, false_implies, implies_true, and_true]; first | rfl | (repeat' apply And.intro) <;> rfl),
  (fun h => by cases h)⟩
theorem ty158 : TyOk1 Tryd.prog tyT 158 ⟨.int .u32, 1, [.v (.int .u32 0)], false, 4⟩ := ⟨⟨_, _, rfl, rfl, rfl, rfl, rfl, (by first | exact (fun _ => ⟨_, rfl⟩) | exact (fun h => by cases h)), (by first | exact (fun _ => rfl) | exact (fun h => by cases h))⟩, rfl, (fun fs h => by cases h),
  (fun h => by cases h)⟩
theorem ty159 : TyOk1 Tryd.prog tyT 159 ⟨.int .u8, 1, [.v (.int .u8 0)], false, 1⟩ := ⟨⟨_, _, rfl, rfl, rfl, rfl, rfl, (by first | exact (fun _ => ⟨_, rfl⟩) | exact (fun h => by cases h)), (by first | exact (fun _ => rfl) | exact (fun h => by cases h))⟩, rfl, (fun fs h => by cases h),
  (fun h => by cases h)⟩
theorem ty160 : TyOk1 Tryd.prog tyT 160 ⟨.int .u8, 1, [.v (.int .u8 0)], false, 1⟩ := ⟨⟨_, _, rfl, rfl, rfl, rfl, rfl, (by first | exact (fun _ => ⟨_, rfl⟩) | exact (fun h => by cases h)), (by first | exact (fun _ => rfl) | exact (fun h => by cases h))⟩, rfl, (fun fs h => by cases h),
  (fun h => by cases h)⟩
theorem ty161 : TyOk1 Tryd.prog tyT 161 ⟨.other, 1, [.v (.nilFunc)], false, 8⟩ := ⟨⟨_, _, rfl, rfl, rfl, rfl, rfl, (by first | exact (fun _ => ⟨_, rfl⟩) | exact (fun h => by cases h)), (by first | exact (fun _ => rfl) | exact (fun h => by cases h))⟩, ⟨_, rfl, (fun _ h => by cases h), (fun _ _ h => by cases h)⟩, (fun fs h => by cases h),
  (fun h => by cases h)⟩
theorem ty162 : TyOk1 Tryd.prog tyT 162 ⟨.other, 1, [.v (.pointer none)], false, 8⟩ := ⟨⟨_, _, rfl, rfl, rfl, rfl, rfl, (by first | exact (fun _ => ⟨_, rfl⟩) | exact (fun h => by cases h)), (by first | exact (fun _ => rfl) | exact (fun h => by cases h))⟩, ⟨_, rfl, (fun _ h => by cases h), (fun _ _ h => by cases h)⟩, (fun fs h => by cases h),
  (fun h => by cases h)⟩
theorem ty163 : TyOk1 Tryd.prog tyT 163 ⟨.int .i32, 1, [.v (.int .i32 0)], false, 4⟩ := ⟨⟨_, _, rfl, rfl, rfl, rfl, rfl, (by first | exact (fun _ => ⟨_, rfl⟩) | exact (fun h => by cases h)), (by first | exact (fun _ => rfl) | exact (fun h => by cases h))⟩, rfl, (fun fs h => by cases h),
  (fun h => by cases h)⟩
theorem ty164 : TyOk1 Tryd.prog tyT 164 ⟨.int .i32, 1, [.v (.int .i32 0)], false, 4⟩ := ⟨⟨_, _, rfl, rfl, rfl, rfl, rfl, (by first | exact (fun _ => ⟨_, rfl⟩) | exact (fun h => by cases h)), (by first | exact (fun _ => rfl) | exact (fun h => by cases h))⟩, rfl, (fun fs h => by cases h),
  (fun h => by cases h)⟩
theorem ty165 : TyOk1 Tryd.prog tyT 165 ⟨.struct [(0, 12), (1, 12), (2, 158), (3, 159), (4, 5), (5, 5), (6, 160), (7, 161), (8, 162), (9, 163), (10, 164)], 11, [.v (.int .u64 0), .v (.int .u64 0), .v (.int .u32 0), .v (.int .u8 0), .v (.int .u8 0), .v (.int .u8 0), .v (.int .u8 0), .v (.nilFunc), .v (.pointer none), .v (.int .i32 0), .v (.int .i32 0)], false, 48⟩ := ⟨⟨_, _, rfl, rfl, rfl, rfl, rfl, (by first | exact (fun _ => ⟨_, rfl⟩) | exact (fun h => by cases h)), (by first | exact (fun _ => rfl) | exact (fun h => by cases h))⟩, ⟨_, rfl, rfl⟩, (fun fs h => by injection h with h; subst h; intro p hp; revert p; simp only [List.forall_mem_cons, List.not_mem_nil, false_implies, implies_true, and_true]; first | rfl | (repeat' apply And.intro) <;> rfl),
  (fun h => by cases h)⟩
theorem ty166 : TyOk1 Tryd.prog tyT 166 ⟨.struct [(0, 12), (1, 12), (2, 158), (3, 159), (4, 5), (5, 5), (6, 160), (7, 161), (8, 162), (9, 163), (10, 164)], 11, [.v (.int .u64 0), .v (.int .u64 0), .v (.int .u32 0), .v (.int .u8 0), .v (.int .u8 0), .v (.int .u8 0), .v (.int .u8 0), .v (.nilFunc), .v (.pointer none), .v (.int .i32 0), .v (.int .i32 0)], false, 48⟩ := ⟨⟨_, _, rfl, rfl, rfl, rfl, rfl, (by first | exact (fun _ => ⟨_, rfl⟩) | exact (fun h => by cases h)), (by first | exact (fun _ => rfl) | exact (fun h => by cases h))⟩, ⟨_, rfl, rfl⟩, (fun fs h => by injection h with h; subst h; intro p hp; revert p; simp only [List.forall_mem_cons, List.not_mem_nil, false_implies, implies_true, and_true]; first | rfl | (repeat' apply And.intro) <;> rfl),
  (fun h => by cases h)⟩
theorem ty167 : TyOk1 Tryd.prog tyT 167 ⟨.struct [(0, 9)], 1, [.v (.string ⟨#[]⟩)], true, 16⟩ := ⟨⟨_, _, rfl, rfl, rfl, rfl, rfl, (by first | exact (fun _ => ⟨_, rfl⟩) | exact (fun h => by cases h)), (by first | exact (fun _ => rfl) | exact (fun h => by cases h))⟩, ⟨_, rfl, rfl⟩, (fun fs h => by injection h with h; subst h; intro p hp; revert p; simp only [List.forall_mem_cons, List.not_mem_nil, false_implies, implies_true, and_true]; first | rfl | (repeat' apply And.intro) <;> rfl),
  (fun _ => ⟨(by first | exact Tryd.stoodInHeld167 | kernel_rfl), (by first | exact Tryd.eqGuardType167 | kernel_rfl), (fun fields h => by injection h with h; injection h with h; subst h; simp)⟩)⟩
theorem ty168 : TyOk1 Tryd.prog tyT 168 ⟨.struct [(0, 9)], 1, [.v (.string ⟨#[]⟩)], true, 16⟩ := ⟨⟨_, _, rfl, rfl, rfl, rfl, rfl, (by first | exact (fun _ => ⟨_, rfl⟩) | exact (fun h => by cases h)), (by first | exact (fun _ => rfl) | exact (fun h => by cases h))⟩, ⟨_, rfl, rfl⟩, (fun fs h => by injection h with h; subst h; intro p hp; revert p; simp only [List.forall_mem_cons, List.not_mem_nil, false_implies, implies_true, and_true]; first | rfl | (repeat' apply And.intro) <;> rfl),
  (fun _ => ⟨(by first | exact Tryd.stoodInHeld168 | kernel_rfl), (by first | exact Tryd.eqGuardType168 | kernel_rfl), (fun fields h => by injection h with h; injection h with h; subst h; simp)⟩)⟩
theorem ty169 : TyOk1 Tryd.prog tyT 169 ⟨.other, 1, [.v (.pointer none)], false, 8⟩ := ⟨⟨_, _, rfl, rfl, rfl, rfl, rfl, (by first | exact (fun _ => ⟨_, rfl⟩) | exact (fun h => by cases h)), (by first | exact (fun _ => rfl) | exact (fun h => by cases h))⟩, ⟨_, rfl, (fun _ h => by cases h), (fun _ _ h => by cases h)⟩, (fun fs h => by cases h),
  (fun h => by cases h)⟩
theorem tyOk : TyOk Tryd.prog tyT := tyOk_of (by
  simp only [tyL, List.forall_mem_cons, List.not_mem_nil, false_implies, implies_true, and_true]
  exact ⟨ty1, ty2, ty3, ty4, ty5, ty6, ty7, ty8, ty9, ty10, ty11, ty12, ty13, ty14, ty15, ty16, ty17, ty18, ty19, ty20, ty21, ty22, ty23, ty24, ty25, ty26, ty27, ty28, ty29, ty30, ty31, ty32, ty33, ty34, ty35, ty36, ty37, ty38, ty39, ty40, ty42, ty43, ty44, ty46, ty47, ty48, ty49, ty50, ty51, ty52, ty53, ty54, ty55, ty56, ty57, ty58, ty59, ty60, ty61, ty62, ty63, ty64, ty65, ty66, ty69, ty70, ty71, ty72, ty73, ty74, ty75, ty76, ty78, ty79, ty80, ty81, ty83, ty84, ty85, ty86, ty87, ty89, ty91, ty93, ty95, ty96, ty98, ty99, ty100, ty101, ty103, ty104, ty105, ty106, ty108, ty109, ty110, ty111, ty113, ty114, ty116, ty117, ty119, ty120, ty121, ty122, ty123, ty124, ty125, ty127, ty129, ty130, ty131, ty133, ty135, ty137, ty138, ty139, ty141, ty144, ty145, ty146, ty147, ty148, ty149, ty150, ty151, ty152, ty153, ty154, ty155, ty156, ty157, ty158, ty159, ty160, ty161, ty162, ty163, ty164, ty165, ty166, ty167, ty168, ty169⟩)
end Go.Proofs.YtimpaejpokkdnaaDoor
