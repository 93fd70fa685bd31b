/-
  The types of the program, as the reckoning asks for them: printed by wip/TyGen.lean.
-/
import Derived.Test.YtfjcblmmfkgkoaaVcV
namespace Go.Proofs.Ytfjcblmmfkgkoaa
set_option linter.unusedVariables false
set_option maxRecDepth 100000
def tyL : List (Nat × TI) := [
  (1, ⟨.other, 1, [.v (.nilFunc)], false, 8⟩),
  (2, ⟨.int .i64, 1, [.v (.int .i64 0)], false, 8⟩),
  (3, ⟨.int .i64, 1, [.v (.int .i64 0)], false, 8⟩),
  (4, ⟨.bool, 1, [.v (.bool false)], false, 1⟩),
  (5, ⟨.int .u8, 1, [.v (.int .u8 0)], false, 1⟩),
  (6, ⟨.int .u8, 1, [.v (.int .u8 0)], false, 1⟩),
  (7, ⟨.struct [(0, 2), (1, 3), (2, 4), (3, 6)], 4, [.v (.int .i64 0), .v (.int .i64 0), .v (.bool false), .v (.int .u8 0)], true, 24⟩),
  (8, ⟨.struct [(0, 2), (1, 3), (2, 4), (3, 6)], 4, [.v (.int .i64 0), .v (.int .i64 0), .v (.bool false), .v (.int .u8 0)], true, 24⟩),
  (9, ⟨.str, 1, [.v (.string ⟨#[]⟩)], false, 16⟩),
  (10, ⟨.str, 1, [.v (.string ⟨#[]⟩)], false, 16⟩),
  (11, ⟨.str, 1, [.v (.string ⟨#[]⟩)], false, 16⟩),
  (12, ⟨.int .u64, 1, [.v (.int .u64 0)], false, 8⟩),
  (13, ⟨.struct [(0, 9), (1, 12)], 2, [.v (.string ⟨#[]⟩), .v (.int .u64 0)], false, 24⟩),
  (14, ⟨.struct [(0, 9), (1, 12)], 2, [.v (.string ⟨#[]⟩), .v (.int .u64 0)], false, 24⟩),
  (15, ⟨.other, 1, [.v (.pointer none)], false, 8⟩),
  (16, ⟨.other, 1, [.v (.pointer none)], false, 8⟩),
  (17, ⟨.other, 1, [.v (.pointer none)], false, 8⟩),
  (18, ⟨.struct [(0, 17)], 1, [.v (.pointer none)], false, 8⟩),
  (19, ⟨.struct [(0, 17)], 1, [.v (.pointer none)], false, 8⟩),
  (20, ⟨.other, 1, [.v (.nilIface)], false, 16⟩),
  (21, ⟨.int .i32, 1, [.v (.int .i32 0)], false, 4⟩),
  (22, ⟨.int .u64, 1, [.v (.int .u64 0)], false, 8⟩),
  (23, ⟨.struct [(0, 22), (1, 22)], 2, [.v (.int .u64 0), .v (.int .u64 0)], true, 16⟩),
  (24, ⟨.struct [(0, 22), (1, 22)], 2, [.v (.int .u64 0), .v (.int .u64 0)], true, 16⟩),
  (25, ⟨.struct [(0, 4), (1, 24), (3, 3)], 4, [.v (.bool false), .v (.int .u64 0), .v (.int .u64 0), .v (.int .i64 0)], true, 32⟩),
  (26, ⟨.struct [(0, 4), (1, 24), (3, 3)], 4, [.v (.bool false), .v (.int .u64 0), .v (.int .u64 0), .v (.int .i64 0)], true, 32⟩),
  (27, ⟨.other, 1, [.v (.nilFunc)], false, 8⟩),
  (28, ⟨.struct [(0, 4), (1, 24), (3, 3)], 4, [.v (.bool false), .v (.int .u64 0), .v (.int .u64 0), .v (.int .i64 0)], true, 32⟩),
  (29, ⟨.other, 1, [.v (.nilFunc)], false, 8⟩),
  (31, ⟨.other, 1, [.v (.nilFunc)], false, 8⟩),
  (32, ⟨.int .i64, 1, [.v (.int .i64 0)], false, 8⟩),
  (33, ⟨.slice 3, 1, [.sl 0 []], false, 24⟩),
  (34, ⟨.slice 3, 1, [.sl 0 []], false, 24⟩),
  (35, ⟨.struct [(0, 4), (1, 34), (2, 3)], 3, [.v (.bool false), .sl 0 [], .v (.int .i64 0)], false, 40⟩),
  (36, ⟨.struct [(0, 4), (1, 34), (2, 3)], 3, [.v (.bool false), .sl 0 [], .v (.int .i64 0)], false, 40⟩),
  (37, ⟨.other, 1, [.v (.nilFunc)], false, 8⟩),
  (38, ⟨.other, 1, [.v (.nilFunc)], false, 8⟩),
  (39, ⟨.other, 1, [.v (.nilFunc)], false, 8⟩),
  (40, ⟨.other, 1, [.v (.nilFunc)], false, 8⟩),
  (41, ⟨.other, 1, [.v (.nilFunc)], false, 8⟩),
  (42, ⟨.other, 1, [.v (.nilFunc)], false, 8⟩),
  (43, ⟨.other, 1, [.v (.nilFunc)], false, 8⟩),
  (44, ⟨.other, 1, [.v (.nilFunc)], false, 8⟩),
  (45, ⟨.other, 1, [.v (.nilFunc)], false, 8⟩),
  (46, ⟨.other, 1, [.v (.nilFunc)], false, 8⟩),
  (47, ⟨.other, 1, [.v (.nilFunc)], false, 8⟩),
  (48, ⟨.other, 1, [.v (.nilFunc)], false, 8⟩),
  (49, ⟨.other, 1, [.v (.nilFunc)], false, 8⟩),
  (50, ⟨.other, 1, [.v (.nilFunc)], false, 8⟩),
  (51, ⟨.other, 1, [.v (.nilFunc)], false, 8⟩),
  (52, ⟨.other, 1, [.v (.nilFunc)], false, 8⟩),
  (53, ⟨.other, 1, [.v (.nilFunc)], false, 8⟩),
  (55, ⟨.other, 1, [.v (.nilFunc)], false, 8⟩),
  (56, ⟨.other, 1, [.v (.nilFunc)], false, 8⟩),
  (57, ⟨.other, 1, [.v (.nilFunc)], false, 8⟩),
  (58, ⟨.other, 1, [.v (.nilFunc)], false, 8⟩),
  (59, ⟨.int .i16, 1, [.v (.int .i16 0)], false, 2⟩),
  (60, ⟨.int .u64, 1, [.v (.int .u64 0)], false, 8⟩),
  (61, ⟨.other, 1, [.v (.nilFunc)], false, 8⟩),
  (62, ⟨.other, 1, [.v (.nilFunc)], false, 8⟩),
  (63, ⟨.other, 1, [.v (.nilFunc)], false, 8⟩),
  (65, ⟨.other, 1, [.v (.nilFunc)], false, 8⟩),
  (66, ⟨.other, 1, [.v (.nilFunc)], false, 8⟩),
  (67, ⟨.struct [(0, 3), (1, 3), (2, 3)], 3, [.v (.int .i64 0), .v (.int .i64 0), .v (.int .i64 0)], true, 24⟩),
  (68, ⟨.struct [(0, 3), (1, 3), (2, 3)], 3, [.v (.int .i64 0), .v (.int .i64 0), .v (.int .i64 0)], true, 24⟩),
  (69, ⟨.other, 1, [.v (.nilFunc)], false, 8⟩),
  (71, ⟨.other, 1, [.v (.nilFunc)], false, 8⟩),
  (72, ⟨.struct [(0, 3), (1, 4), (2, 3)], 3, [.v (.int .i64 0), .v (.bool false), .v (.int .i64 0)], true, 24⟩),
  (73, ⟨.struct [(0, 3), (1, 4), (2, 3)], 3, [.v (.int .i64 0), .v (.bool false), .v (.int .i64 0)], true, 24⟩),
  (74, ⟨.struct [(0, 68), (3, 73)], 6, [.v (.int .i64 0), .v (.int .i64 0), .v (.int .i64 0), .v (.int .i64 0), .v (.bool false), .v (.int .i64 0)], true, 48⟩),
  (75, ⟨.struct [(0, 68), (3, 73)], 6, [.v (.int .i64 0), .v (.int .i64 0), .v (.int .i64 0), .v (.int .i64 0), .v (.bool false), .v (.int .i64 0)], true, 48⟩),
  (77, ⟨.other, 1, [.v (.nilFunc)], false, 8⟩),
  (78, ⟨.other, 1, [.v (.nilFunc)], false, 8⟩),
  (79, ⟨.other, 1, [.v (.nilFunc)], false, 8⟩),
  (80, ⟨.other, 1, [.v (.nilFunc)], false, 8⟩),
  (81, ⟨.other, 1, [.v (.nilFunc)], false, 8⟩),
  (82, ⟨.other, 1, [.v (.nilFunc)], false, 8⟩),
  (83, ⟨.other, 1, [.v (.nilFunc)], false, 8⟩),
  (84, ⟨.other, 1, [.v (.nilFunc)], false, 8⟩),
  (86, ⟨.other, 1, [.v (.nilFunc)], false, 8⟩),
  (88, ⟨.other, 1, [.v (.nilFunc)], false, 8⟩),
  (89, ⟨.struct [(0, 4), (1, 24), (3, 24), (5, 3), (6, 4)], 7, [.v (.bool false), .v (.int .u64 0), .v (.int .u64 0), .v (.int .u64 0), .v (.int .u64 0), .v (.int .i64 0), .v (.bool false)], true, 56⟩),
  (90, ⟨.struct [(0, 4), (1, 24), (3, 24), (5, 3), (6, 4)], 7, [.v (.bool false), .v (.int .u64 0), .v (.int .u64 0), .v (.int .u64 0), .v (.int .u64 0), .v (.int .i64 0), .v (.bool false)], true, 56⟩),
  (91, ⟨.other, 1, [.v (.nilFunc)], false, 8⟩),
  (93, ⟨.other, 1, [.v (.nilFunc)], false, 8⟩),
  (94, ⟨.other, 1, [.v (.nilFunc)], false, 8⟩),
  (95, ⟨.other, 1, [.v (.nilFunc)], false, 8⟩),
  (96, ⟨.other, 1, [.v (.nilFunc)], false, 8⟩),
  (97, ⟨.other, 1, [.v (.nilFunc)], false, 8⟩),
  (98, ⟨.other, 1, [.v (.nilFunc)], false, 8⟩),
  (99, ⟨.other, 1, [.v (.nilFunc)], false, 8⟩),
  (100, ⟨.other, 1, [.v (.nilFunc)], false, 8⟩),
  (101, ⟨.other, 1, [.v (.nilFunc)], false, 8⟩),
  (102, ⟨.other, 1, [.v (.nilFunc)], false, 8⟩),
  (103, ⟨.other, 1, [.v (.nilFunc)], false, 8⟩),
  (104, ⟨.other, 1, [.v (.nilFunc)], false, 8⟩),
  (105, ⟨.other, 1, [.v (.nilFunc)], false, 8⟩),
  (106, ⟨.other, 1, [.v (.nilFunc)], false, 8⟩),
  (107, ⟨.other, 1, [.v (.nilFunc)], false, 8⟩),
  (108, ⟨.other, 1, [.v (.nilFunc)], false, 8⟩),
  (109, ⟨.other, 1, [.v (.nilFunc)], false, 8⟩),
  (111, ⟨.other, 1, [.v (.nilFunc)], false, 8⟩),
  (112, ⟨.other, 1, [.v (.nilFunc)], false, 8⟩),
  (114, ⟨.other, 1, [.v (.nilFunc)], false, 8⟩),
  (115, ⟨.other, 1, [.v (.nilFunc)], false, 8⟩),
  (116, ⟨.other, 1, [.v (.nilFunc)], false, 8⟩),
  (117, ⟨.other, 1, [.v (.nilFunc)], false, 8⟩),
  (118, ⟨.other, 1, [.v (.nilFunc)], false, 8⟩),
  (119, ⟨.other, 1, [.v (.nilFunc)], false, 8⟩),
  (120, ⟨.arr 2 3, 2, [.v (.int .i64 0), .v (.int .i64 0)], false, 16⟩),
  (121, ⟨.slice 120, 1, [.sl 0 []], false, 24⟩),
  (123, ⟨.other, 1, [.v (.nilFunc)], false, 8⟩),
  (124, ⟨.other, 1, [.v (.nilFunc)], false, 8⟩),
  (125, ⟨.other, 1, [.v (.nilFunc)], false, 8⟩),
  (127, ⟨.other, 1, [.v (.nilFunc)], false, 8⟩),
  (128, ⟨.other, 1, [.v (.nilFunc)], false, 8⟩),
  (129, ⟨.other, 1, [.v (.nilFunc)], false, 8⟩),
  (131, ⟨.other, 1, [.v (.nilFunc)], false, 8⟩),
  (132, ⟨.other, 1, [.v (.nilFunc)], false, 8⟩),
  (133, ⟨.other, 1, [.v (.nilFunc)], false, 8⟩),
  (134, ⟨.arr 4 22, 4, [.v (.int .u64 0), .v (.int .u64 0), .v (.int .u64 0), .v (.int .u64 0)], false, 32⟩),
  (135, ⟨.other, 1, [.v (.nilFunc)], false, 8⟩),
  (136, ⟨.other, 1, [.v (.nilFunc)], false, 8⟩),
  (137, ⟨.slice 22, 1, [.sl 0 []], false, 24⟩),
  (138, ⟨.other, 1, [.v (.nilFunc)], false, 8⟩),
  (139, ⟨.other, 1, [.v (.nilIface)], false, 16⟩),
  (140, ⟨.other, 1, [.v (.nilIface)], false, 16⟩),
  (141, ⟨.other, 1, [.v (.nilFunc)], false, 8⟩),
  (142, ⟨.other, 1, [.v (.nilFunc)], false, 8⟩),
  (143, ⟨.struct [(0, 17), (1, 17), (2, 17), (3, 9)], 4, [.v (.pointer none), .v (.pointer none), .v (.pointer none), .v (.string ⟨#[]⟩)], false, 40⟩),
  (144, ⟨.struct [(0, 17), (1, 17), (2, 17), (3, 9)], 4, [.v (.pointer none), .v (.pointer none), .v (.pointer none), .v (.string ⟨#[]⟩)], false, 40⟩),
  (145, ⟨.arr 0 16, 0, [], false, 0⟩),
  (146, ⟨.struct [(0, 145)], 0, [], false, 0⟩),
  (147, ⟨.struct [(0, 145)], 0, [], false, 0⟩),
  (148, ⟨.int .u32, 1, [.v (.int .u32 0)], false, 4⟩),
  (149, ⟨.int .u8, 1, [.v (.int .u8 0)], false, 1⟩),
  (150, ⟨.int .u8, 1, [.v (.int .u8 0)], false, 1⟩),
  (151, ⟨.other, 1, [.v (.nilFunc)], false, 8⟩),
  (152, ⟨.other, 1, [.v (.pointer none)], false, 8⟩),
  (153, ⟨.int .i32, 1, [.v (.int .i32 0)], false, 4⟩),
  (154, ⟨.int .i32, 1, [.v (.int .i32 0)], false, 4⟩),
  (155, ⟨.struct [(0, 12), (1, 12), (2, 148), (3, 149), (4, 5), (5, 5), (6, 150), (7, 151), (8, 152), (9, 153), (10, 154)], 11, [.v (.int .u64 0), .v (.int .u64 0), .v (.int .u32 0), .v (.int .u8 0), .v (.int .u8 0), .v (.int .u8 0), .v (.int .u8 0), .v (.nilFunc), .v (.pointer none), .v (.int .i32 0), .v (.int .i32 0)], false, 48⟩),
  (156, ⟨.struct [(0, 12), (1, 12), (2, 148), (3, 149), (4, 5), (5, 5), (6, 150), (7, 151), (8, 152), (9, 153), (10, 154)], 11, [.v (.int .u64 0), .v (.int .u64 0), .v (.int .u32 0), .v (.int .u8 0), .v (.int .u8 0), .v (.int .u8 0), .v (.int .u8 0), .v (.nilFunc), .v (.pointer none), .v (.int .i32 0), .v (.int .i32 0)], false, 48⟩),
  (157, ⟨.other, 1, [.v (.pointer none)], false, 8⟩)]
def tyT : TypeId → Option TI := look tyL
theorem ty1 : TyOk1 Try.prog tyT 1 ⟨.other, 1, [.v (.nilFunc)], false, 8⟩ := ⟨⟨_, _, rfl, rfl, rfl, rfl, rfl⟩, ⟨_, rfl, (fun _ h => by cases h), (fun _ _ h => by cases h)⟩, (fun fs h => by cases h),
  (fun h => by cases h)⟩
theorem ty2 : TyOk1 Try.prog tyT 2 ⟨.int .i64, 1, [.v (.int .i64 0)], false, 8⟩ := ⟨⟨_, _, rfl, rfl, rfl, rfl, rfl⟩, rfl, (fun fs h => by cases h),
  (fun h => by cases h)⟩
theorem ty3 : TyOk1 Try.prog tyT 3 ⟨.int .i64, 1, [.v (.int .i64 0)], false, 8⟩ := ⟨⟨_, _, rfl, rfl, rfl, rfl, rfl⟩, rfl, (fun fs h => by cases h),
  (fun h => by cases h)⟩
theorem ty4 : TyOk1 Try.prog tyT 4 ⟨.bool, 1, [.v (.bool false)], false, 1⟩ := ⟨⟨_, _, rfl, rfl, rfl, rfl, rfl⟩, rfl, (fun fs h => by cases h),
  (fun h => by cases h)⟩
theorem ty5 : TyOk1 Try.prog tyT 5 ⟨.int .u8, 1, [.v (.int .u8 0)], false, 1⟩ := ⟨⟨_, _, rfl, rfl, rfl, rfl, rfl⟩, rfl, (fun fs h => by cases h),
  (fun h => by cases h)⟩
theorem ty6 : TyOk1 Try.prog tyT 6 ⟨.int .u8, 1, [.v (.int .u8 0)], false, 1⟩ := ⟨⟨_, _, rfl, rfl, rfl, rfl, rfl⟩, rfl, (fun fs h => by cases h),
  (fun h => by cases h)⟩
theorem ty7 : TyOk1 Try.prog tyT 7 ⟨.struct [(0, 2), (1, 3), (2, 4), (3, 6)], 4, [.v (.int .i64 0), .v (.int .i64 0), .v (.bool false), .v (.int .u8 0)], true, 24⟩ := ⟨⟨_, _, rfl, rfl, rfl, rfl, rfl⟩, ⟨_, rfl, rfl⟩, (fun fs h => by injection h with h; subst h; intro p hp; revert p; simp only [List.forall_mem_cons, List.not_mem_nil, false_implies, implies_true, and_true]; first | rfl | (repeat' apply And.intro) <;> rfl),
  (fun _ => ⟨(by first | exact Try.stoodInHeld7 | kernel_rfl), (by first | exact Try.eqGuardType7 | kernel_rfl), (fun fields h => by injection h with h; injection h with h; subst h; simp)⟩)⟩
theorem ty8 : TyOk1 Try.prog tyT 8 ⟨.struct [(0, 2), (1, 3), (2, 4), (3, 6)], 4, [.v (.int .i64 0), .v (.int .i64 0), .v (.bool false), .v (.int .u8 0)], true, 24⟩ := ⟨⟨_, _, rfl, rfl, rfl, rfl, rfl⟩, ⟨_, rfl, rfl⟩, (fun fs h => by injection h with h; subst h; intro p hp; revert p; simp only [List.forall_mem_cons, List.not_mem_nil, false_implies, implies_true, and_true]; first | rfl | (repeat' apply And.intro) <;> rfl),
  (fun _ => ⟨(by first | exact Try.stoodInHeld8 | kernel_rfl), (by first | exact Try.eqGuardType8 | kernel_rfl), (fun fields h => by injection h with h; injection h with h; subst h; simp)⟩)⟩
theorem ty9 : TyOk1 Try.prog tyT 9 ⟨.str, 1, [.v (.string ⟨#[]⟩)], false, 16⟩ := ⟨⟨_, _, rfl, rfl, rfl, rfl, rfl⟩, rfl, (fun fs h => by cases h),
  (fun h => by cases h)⟩
theorem ty10 : TyOk1 Try.prog tyT 10 ⟨.str, 1, [.v (.string ⟨#[]⟩)], false, 16⟩ := ⟨⟨_, _, rfl, rfl, rfl, rfl, rfl⟩, rfl, (fun fs h => by cases h),
  (fun h => by cases h)⟩
theorem ty11 : TyOk1 Try.prog tyT 11 ⟨.str, 1, [.v (.string ⟨#[]⟩)], false, 16⟩ := ⟨⟨_, _, rfl, rfl, rfl, rfl, rfl⟩, rfl, (fun fs h => by cases h),
  (fun h => by cases h)⟩
theorem ty12 : TyOk1 Try.prog tyT 12 ⟨.int .u64, 1, [.v (.int .u64 0)], false, 8⟩ := ⟨⟨_, _, rfl, rfl, rfl, rfl, rfl⟩, rfl, (fun fs h => by cases h),
  (fun h => by cases h)⟩
theorem ty13 : TyOk1 Try.prog tyT 13 ⟨.struct [(0, 9), (1, 12)], 2, [.v (.string ⟨#[]⟩), .v (.int .u64 0)], false, 24⟩ := ⟨⟨_, _, rfl, rfl, rfl, rfl, rfl⟩, ⟨_, rfl, rfl⟩, (fun fs h => by injection h with h; subst h; intro p hp; revert p; simp only [List.forall_mem_cons, List.not_mem_nil, false_implies, implies_true, and_true]; first | rfl | (repeat' apply And.intro) <;> rfl),
  (fun h => by cases h)⟩
theorem ty14 : TyOk1 Try.prog tyT 14 ⟨.struct [(0, 9), (1, 12)], 2, [.v (.string ⟨#[]⟩), .v (.int .u64 0)], false, 24⟩ := ⟨⟨_, _, rfl, rfl, rfl, rfl, rfl⟩, ⟨_, rfl, rfl⟩, (fun fs h => by injection h with h; subst h; intro p hp; revert p; simp only [List.forall_mem_cons, List.not_mem_nil, false_implies, implies_true, and_true]; first | rfl | (repeat' apply And.intro) <;> rfl),
  (fun h => by cases h)⟩
theorem ty15 : TyOk1 Try.prog tyT 15 ⟨.other, 1, [.v (.pointer none)], false, 8⟩ := ⟨⟨_, _, rfl, rfl, rfl, rfl, rfl⟩, ⟨_, rfl, (fun _ h => by cases h), (fun _ _ h => by cases h)⟩, (fun fs h => by cases h),
  (fun h => by cases h)⟩
theorem ty16 : TyOk1 Try.prog tyT 16 ⟨.other, 1, [.v (.pointer none)], false, 8⟩ := ⟨⟨_, _, rfl, rfl, rfl, rfl, rfl⟩, ⟨_, rfl, (fun _ h => by cases h), (fun _ _ h => by cases h)⟩, (fun fs h => by cases h),
  (fun h => by cases h)⟩
theorem ty17 : TyOk1 Try.prog tyT 17 ⟨.other, 1, [.v (.pointer none)], false, 8⟩ := ⟨⟨_, _, rfl, rfl, rfl, rfl, rfl⟩, ⟨_, rfl, (fun _ h => by cases h), (fun _ _ h => by cases h)⟩, (fun fs h => by cases h),
  (fun h => by cases h)⟩
theorem ty18 : TyOk1 Try.prog tyT 18 ⟨.struct [(0, 17)], 1, [.v (.pointer none)], false, 8⟩ := ⟨⟨_, _, rfl, rfl, rfl, rfl, rfl⟩, ⟨_, rfl, rfl⟩, (fun fs h => by injection h with h; subst h; intro p hp; revert p; simp only [List.forall_mem_cons, List.not_mem_nil, false_implies, implies_true, and_true]; first | rfl | (repeat' apply And.intro) <;> rfl),
  (fun h => by cases h)⟩
theorem ty19 : TyOk1 Try.prog tyT 19 ⟨.struct [(0, 17)], 1, [.v (.pointer none)], false, 8⟩ := ⟨⟨_, _, rfl, rfl, rfl, rfl, rfl⟩, ⟨_, rfl, rfl⟩, (fun fs h => by injection h with h; subst h; intro p hp; revert p; simp only [List.forall_mem_cons, List.not_mem_nil, false_implies, implies_true, and_true]; first | rfl | (repeat' apply And.intro) <;> rfl),
  (fun h => by cases h)⟩
theorem ty20 : TyOk1 Try.prog tyT 20 ⟨.other, 1, [.v (.nilIface)], false, 16⟩ := ⟨⟨_, _, rfl, rfl, rfl, rfl, rfl⟩, ⟨_, rfl, (fun _ h => by cases h), (fun _ _ h => by cases h)⟩, (fun fs h => by cases h),
  (fun h => by cases h)⟩
theorem ty21 : TyOk1 Try.prog tyT 21 ⟨.int .i32, 1, [.v (.int .i32 0)], false, 4⟩ := ⟨⟨_, _, rfl, rfl, rfl, rfl, rfl⟩, rfl, (fun fs h => by cases h),
  (fun h => by cases h)⟩
theorem ty22 : TyOk1 Try.prog tyT 22 ⟨.int .u64, 1, [.v (.int .u64 0)], false, 8⟩ := ⟨⟨_, _, rfl, rfl, rfl, rfl, rfl⟩, rfl, (fun fs h => by cases h),
  (fun h => by cases h)⟩
theorem ty23 : TyOk1 Try.prog tyT 23 ⟨.struct [(0, 22), (1, 22)], 2, [.v (.int .u64 0), .v (.int .u64 0)], true, 16⟩ := ⟨⟨_, _, rfl, rfl, rfl, rfl, rfl⟩, ⟨_, rfl, rfl⟩, (fun fs h => by injection h with h; subst h; intro p hp; revert p; simp only [List.forall_mem_cons, List.not_mem_nil, false_implies, implies_true, and_true]; first | rfl | (repeat' apply And.intro) <;> rfl),
  (fun _ => ⟨(by first | exact Try.stoodInHeld23 | kernel_rfl), (by first | exact Try.eqGuardType23 | kernel_rfl), (fun fields h => by injection h with h; injection h with h; subst h; simp)⟩)⟩
theorem ty24 : TyOk1 Try.prog tyT 24 ⟨.struct [(0, 22), (1, 22)], 2, [.v (.int .u64 0), .v (.int .u64 0)], true, 16⟩ := ⟨⟨_, _, rfl, rfl, rfl, rfl, rfl⟩, ⟨_, rfl, rfl⟩, (fun fs h => by injection h with h; subst h; intro p hp; revert p; simp only [List.forall_mem_cons, List.not_mem_nil, false_implies, implies_true, and_true]; first | rfl | (repeat' apply And.intro) <;> rfl),
  (fun _ => ⟨(by first | exact Try.stoodInHeld24 | kernel_rfl), (by first | exact Try.eqGuardType24 | kernel_rfl), (fun fields h => by injection h with h; injection h with h; subst h; simp)⟩)⟩
theorem ty25 : TyOk1 Try.prog tyT 25 ⟨.struct [(0, 4), (1, 24), (3, 3)], 4, [.v (.bool false), .v (.int .u64 0), .v (.int .u64 0), .v (.int .i64 0)], true, 32⟩ := ⟨⟨_, _, rfl, rfl, rfl, rfl, rfl⟩, ⟨_, rfl, rfl⟩, (fun fs h => by injection h with h; subst h; intro p hp; revert p; simp only [List.forall_mem_cons, List.not_mem_nil, false_implies, implies_true, and_true]; first | rfl | (repeat' apply And.intro) <;> rfl),
  (fun _ => ⟨(by first | exact Try.stoodInHeld25 | kernel_rfl), (by first | exact Try.eqGuardType25 | kernel_rfl), (fun fields h => by injection h with h; injection h with h; subst h; simp)⟩)⟩
theorem ty26 : TyOk1 Try.prog tyT 26 ⟨.struct [(0, 4), (1, 24), (3, 3)], 4, [.v (.bool false), .v (.int .u64 0), .v (.int .u64 0), .v (.int .i64 0)], true, 32⟩ := ⟨⟨_, _, rfl, rfl, rfl, rfl, rfl⟩, ⟨_, rfl, rfl⟩, (fun fs h => by injection h with h; subst h; intro p hp; revert p; simp only [List.forall_mem_cons, List.not_mem_nil, false_implies, implies_true, and_true]; first | rfl | (repeat' apply And.intro) <;> rfl),
  (fun _ => ⟨(by first | exact Try.stoodInHeld26 | kernel_rfl), (by first | exact Try.eqGuardType26 | kernel_rfl), (fun fields h => by injection h with h; injection h with h; subst h; simp)⟩)⟩
theorem ty27 : TyOk1 Try.prog tyT 27 ⟨.other, 1, [.v (.nilFunc)], false, 8⟩ := ⟨⟨_, _, rfl, rfl, rfl, rfl, rfl⟩, ⟨_, rfl, (fun _ h => by cases h), (fun _ _ h => by cases h)⟩, (fun fs h => by cases h),
  (fun h => by cases h)⟩
theorem ty28 : TyOk1 Try.prog tyT 28 ⟨.struct [(0, 4), (1, 24), (3, 3)], 4, [.v (.bool false), .v (.int .u64 0), .v (.int .u64 0), .v (.int .i64 0)], true, 32⟩ := ⟨⟨_, _, rfl, rfl, rfl, rfl, rfl⟩, ⟨_, rfl, rfl⟩, (fun fs h => by injection h with h; subst h; intro p hp; revert p; simp only [List.forall_mem_cons, List.not_mem_nil, false_implies, implies_true, and_true]; first | rfl | (repeat' apply And.intro) <;> rfl),
  (fun _ => ⟨(by first | exact Try.stoodInHeld28 | kernel_rfl), (by first | exact Try.eqGuardType28 | kernel_rfl), (fun fields h => by injection h with h; injection h with h; subst h; simp)⟩)⟩
theorem ty29 : TyOk1 Try.prog tyT 29 ⟨.other, 1, [.v (.nilFunc)], false, 8⟩ := ⟨⟨_, _, rfl, rfl, rfl, rfl, rfl⟩, ⟨_, rfl, (fun _ h => by cases h), (fun _ _ h => by cases h)⟩, (fun fs h => by cases h),
  (fun h => by cases h)⟩
theorem ty31 : TyOk1 Try.prog tyT 31 ⟨.other, 1, [.v (.nilFunc)], false, 8⟩ := ⟨⟨_, _, rfl, rfl, rfl, rfl, rfl⟩, ⟨_, rfl, (fun _ h => by cases h), (fun _ _ h => by cases h)⟩, (fun fs h => by cases h),
  (fun h => by cases h)⟩
theorem ty32 : TyOk1 Try.prog tyT 32 ⟨.int .i64, 1, [.v (.int .i64 0)], false, 8⟩ := ⟨⟨_, _, rfl, rfl, rfl, rfl, rfl⟩, rfl, (fun fs h => by cases h),
  (fun h => by cases h)⟩
theorem ty33 : TyOk1 Try.prog tyT 33 ⟨.slice 3, 1, [.sl 0 []], false, 24⟩ := ⟨⟨_, _, rfl, rfl, rfl, rfl, rfl⟩, rfl, (fun fs h => by cases h),
  (fun h => by cases h)⟩
theorem ty34 : TyOk1 Try.prog tyT 34 ⟨.slice 3, 1, [.sl 0 []], false, 24⟩ := ⟨⟨_, _, rfl, rfl, rfl, rfl, rfl⟩, rfl, (fun fs h => by cases h),
  (fun h => by cases h)⟩
theorem ty35 : TyOk1 Try.prog tyT 35 ⟨.struct [(0, 4), (1, 34), (2, 3)], 3, [.v (.bool false), .sl 0 [], .v (.int .i64 0)], false, 40⟩ := ⟨⟨_, _, rfl, rfl, rfl, rfl, rfl⟩, ⟨_, rfl, rfl⟩, (fun fs h => by injection h with h; subst h; intro p hp; revert p; simp only [List.forall_mem_cons, List.not_mem_nil, false_implies, implies_true, and_true]; first | rfl | (repeat' apply And.intro) <;> rfl),
  (fun h => by cases h)⟩
theorem ty36 : TyOk1 Try.prog tyT 36 ⟨.struct [(0, 4), (1, 34), (2, 3)], 3, [.v (.bool false), .sl 0 [], .v (.int .i64 0)], false, 40⟩ := ⟨⟨_, _, rfl, rfl, rfl, rfl, rfl⟩, ⟨_, rfl, rfl⟩, (fun fs h => by injection h with h; subst h; intro p hp; revert p; simp only [List.forall_mem_cons, List.not_mem_nil, false_implies, implies_true, and_true]; first | rfl | (repeat' apply And.intro) <;> rfl),
  (fun h => by cases h)⟩
theorem ty37 : TyOk1 Try.prog tyT 37 ⟨.other, 1, [.v (.nilFunc)], false, 8⟩ := ⟨⟨_, _, rfl, rfl, rfl, rfl, rfl⟩, ⟨_, rfl, (fun _ h => by cases h), (fun _ _ h => by cases h)⟩, (fun fs h => by cases h),
  (fun h => by cases h)⟩
theorem ty38 : TyOk1 Try.prog tyT 38 ⟨.other, 1, [.v (.nilFunc)], false, 8⟩ := ⟨⟨_, _, rfl, rfl, rfl, rfl, rfl⟩, ⟨_, rfl, (fun _ h => by cases h), (fun _ _ h => by cases h)⟩, (fun fs h => by cases h),
  (fun h => by cases h)⟩
theorem ty39 : TyOk1 Try.prog tyT 39 ⟨.other, 1, [.v (.nilFunc)], false, 8⟩ := ⟨⟨_, _, rfl, rfl, rfl, rfl, rfl⟩, ⟨_, rfl, (fun _ h => by cases h), (fun _ _ h => by cases h)⟩, (fun fs h => by cases h),
  (fun h => by cases h)⟩
theorem ty40 : TyOk1 Try.prog tyT 40 ⟨.other, 1, [.v (.nilFunc)], false, 8⟩ := ⟨⟨_, _, rfl, rfl, rfl, rfl, rfl⟩, ⟨_, rfl, (fun _ h => by cases h), (fun _ _ h => by cases h)⟩, (fun fs h => by cases h),
  (fun h => by cases h)⟩
theorem ty41 : TyOk1 Try.prog tyT 41 ⟨.other, 1, [.v (.nilFunc)], false, 8⟩ := ⟨⟨_, _, rfl, rfl, rfl, rfl, rfl⟩, ⟨_, rfl, (fun _ h => by cases h), (fun _ _ h => by cases h)⟩, (fun fs h => by cases h),
  (fun h => by cases h)⟩
theorem ty42 : TyOk1 Try.prog tyT 42 ⟨.other, 1, [.v (.nilFunc)], false, 8⟩ := ⟨⟨_, _, rfl, rfl, rfl, rfl, rfl⟩, ⟨_, rfl, (fun _ h => by cases h), (fun _ _ h => by cases h)⟩, (fun fs h => by cases h),
  (fun h => by cases h)⟩
theorem ty43 : TyOk1 Try.prog tyT 43 ⟨.other, 1, [.v (.nilFunc)], false, 8⟩ := ⟨⟨_, _, rfl, rfl, rfl, rfl, rfl⟩, ⟨_, rfl, (fun _ h => by cases h), (fun _ _ h => by cases h)⟩, (fun fs h => by cases h),
  (fun h => by cases h)⟩
theorem ty44 : TyOk1 Try.prog tyT 44 ⟨.other, 1, [.v (.nilFunc)], false, 8⟩ := ⟨⟨_, _, rfl, rfl, rfl, rfl, rfl⟩, ⟨_, rfl, (fun _ h => by cases h), (fun _ _ h => by cases h)⟩, (fun fs h => by cases h),
  (fun h => by cases h)⟩
theorem ty45 : TyOk1 Try.prog tyT 45 ⟨.other, 1, [.v (.nilFunc)], false, 8⟩ := ⟨⟨_, _, rfl, rfl, rfl, rfl, rfl⟩, ⟨_, rfl, (fun _ h => by cases h), (fun _ _ h => by cases h)⟩, (fun fs h => by cases h),
  (fun h => by cases h)⟩
theorem ty46 : TyOk1 Try.prog tyT 46 ⟨.other, 1, [.v (.nilFunc)], false, 8⟩ := ⟨⟨_, _, rfl, rfl, rfl, rfl, rfl⟩, ⟨_, rfl, (fun _ h => by cases h), (fun _ _ h => by cases h)⟩, (fun fs h => by cases h),
  (fun h => by cases h)⟩
theorem ty47 : TyOk1 Try.prog tyT 47 ⟨.other, 1, [.v (.nilFunc)], false, 8⟩ := ⟨⟨_, _, rfl, rfl, rfl, rfl, rfl⟩, ⟨_, rfl, (fun _ h => by cases h), (fun _ _ h => by cases h)⟩, (fun fs h => by cases h),
  (fun h => by cases h)⟩
theorem ty48 : TyOk1 Try.prog tyT 48 ⟨.other, 1, [.v (.nilFunc)], false, 8⟩ := ⟨⟨_, _, rfl, rfl, rfl, rfl, rfl⟩, ⟨_, rfl, (fun _ h => by cases h), (fun _ _ h => by cases h)⟩, (fun fs h => by cases h),
  (fun h => by cases h)⟩
theorem ty49 : TyOk1 Try.prog tyT 49 ⟨.other, 1, [.v (.nilFunc)], false, 8⟩ := ⟨⟨_, _, rfl, rfl, rfl, rfl, rfl⟩, ⟨_, rfl, (fun _ h => by cases h), (fun _ _ h => by cases h)⟩, (fun fs h => by cases h),
  (fun h => by cases h)⟩
theorem ty50 : TyOk1 Try.prog tyT 50 ⟨.other, 1, [.v (.nilFunc)], false, 8⟩ := ⟨⟨_, _, rfl, rfl, rfl, rfl, rfl⟩, ⟨_, rfl, (fun _ h => by cases h), (fun _ _ h => by cases h)⟩, (fun fs h => by cases h),
  (fun h => by cases h)⟩
theorem ty51 : TyOk1 Try.prog tyT 51 ⟨.other, 1, [.v (.nilFunc)], false, 8⟩ := ⟨⟨_, _, rfl, rfl, rfl, rfl, rfl⟩, ⟨_, rfl, (fun _ h => by cases h), (fun _ _ h => by cases h)⟩, (fun fs h => by cases h),
  (fun h => by cases h)⟩
theorem ty52 : TyOk1 Try.prog tyT 52 ⟨.other, 1, [.v (.nilFunc)], false, 8⟩ := ⟨⟨_, _, rfl, rfl, rfl, rfl, rfl⟩, ⟨_, rfl, (fun _ h => by cases h), (fun _ _ h => by cases h)⟩, (fun fs h => by cases h),
  (fun h => by cases h)⟩
theorem ty53 : TyOk1 Try.prog tyT 53 ⟨.other, 1, [.v (.nilFunc)], false, 8⟩ := ⟨⟨_, _, rfl, rfl, rfl, rfl, rfl⟩, ⟨_, rfl, (fun _ h => by cases h), (fun _ _ h => by cases h)⟩, (fun fs h => by cases h),
  (fun h => by cases h)⟩
theorem ty55 : TyOk1 Try.prog tyT 55 ⟨.other, 1, [.v (.nilFunc)], false, 8⟩ := ⟨⟨_, _, rfl, rfl, rfl, rfl, rfl⟩, ⟨_, rfl, (fun _ h => by cases h), (fun _ _ h => by cases h)⟩, (fun fs h => by cases h),
  (fun h => by cases h)⟩
theorem ty56 : TyOk1 Try.prog tyT 56 ⟨.other, 1, [.v (.nilFunc)], false, 8⟩ := ⟨⟨_, _, rfl, rfl, rfl, rfl, rfl⟩, ⟨_, rfl, (fun _ h => by cases h), (fun _ _ h => by cases h)⟩, (fun fs h => by cases h),
  (fun h => by cases h)⟩
theorem ty57 : TyOk1 Try.prog tyT 57 ⟨.other, 1, [.v (.nilFunc)], false, 8⟩ := ⟨⟨_, _, rfl, rfl, rfl, rfl, rfl⟩, ⟨_, rfl, (fun _ h => by cases h), (fun _ _ h => by cases h)⟩, (fun fs h => by cases h),
  (fun h => by cases h)⟩
theorem ty58 : TyOk1 Try.prog tyT 58 ⟨.other, 1, [.v (.nilFunc)], false, 8⟩ := ⟨⟨_, _, rfl, rfl, rfl, rfl, rfl⟩, ⟨_, rfl, (fun _ h => by cases h), (fun _ _ h => by cases h)⟩, (fun fs h => by cases h),
  (fun h => by cases h)⟩
theorem ty59 : TyOk1 Try.prog tyT 59 ⟨.int .i16, 1, [.v (.int .i16 0)], false, 2⟩ := ⟨⟨_, _, rfl, rfl, rfl, rfl, rfl⟩, rfl, (fun fs h => by cases h),
  (fun h => by cases h)⟩
theorem ty60 : TyOk1 Try.prog tyT 60 ⟨.int .u64, 1, [.v (.int .u64 0)], false, 8⟩ := ⟨⟨_, _, rfl, rfl, rfl, rfl, rfl⟩, rfl, (fun fs h => by cases h),
  (fun h => by cases h)⟩
theorem ty61 : TyOk1 Try.prog tyT 61 ⟨.other, 1, [.v (.nilFunc)], false, 8⟩ := ⟨⟨_, _, rfl, rfl, rfl, rfl, rfl⟩, ⟨_, rfl, (fun _ h => by cases h), (fun _ _ h => by cases h)⟩, (fun fs h => by cases h),
  (fun h => by cases h)⟩
theorem ty62 : TyOk1 Try.prog tyT 62 ⟨.other, 1, [.v (.nilFunc)], false, 8⟩ := ⟨⟨_, _, rfl, rfl, rfl, rfl, rfl⟩, ⟨_, rfl, (fun _ h => by cases h), (fun _ _ h => by cases h)⟩, (fun fs h => by cases h),
  (fun h => by cases h)⟩
theorem ty63 : TyOk1 Try.prog tyT 63 ⟨.other, 1, [.v (.nilFunc)], false, 8⟩ := ⟨⟨_, _, rfl, rfl, rfl, rfl, rfl⟩, ⟨_, rfl, (fun _ h => by cases h), (fun _ _ h => by cases h)⟩, (fun fs h => by cases h),
  (fun h => by cases h)⟩
theorem ty65 : TyOk1 Try.prog tyT 65 ⟨.other, 1, [.v (.nilFunc)], false, 8⟩ := ⟨⟨_, _, rfl, rfl, rfl, rfl, rfl⟩, ⟨_, rfl, (fun _ h => by cases h), (fun _ _ h => by cases h)⟩, (fun fs h => by cases h),
  (fun h => by cases h)⟩
theorem ty66 : TyOk1 Try.prog tyT 66 ⟨.other, 1, [.v (.nilFunc)], false, 8⟩ := ⟨⟨_, _, rfl, rfl, rfl, rfl, rfl⟩, ⟨_, rfl, (fun _ h => by cases h), (fun _ _ h => by cases h)⟩, (fun fs h => by cases h),
  (fun h => by cases h)⟩
theorem ty67 : TyOk1 Try.prog tyT 67 ⟨.struct [(0, 3), (1, 3), (2, 3)], 3, [.v (.int .i64 0), .v (.int .i64 0), .v (.int .i64 0)], true, 24⟩ := ⟨⟨_, _, rfl, rfl, rfl, rfl, rfl⟩, ⟨_, rfl, rfl⟩, (fun fs h => by injection h with h; subst h; intro p hp; revert p; simp only [List.forall_mem_cons, List.not_mem_nil, false_implies, implies_true, and_true]; first | rfl | (repeat' apply And.intro) <;> rfl),
  (fun _ => ⟨(by first | exact Try.stoodInHeld67 | kernel_rfl), (by first | exact Try.eqGuardType67 | kernel_rfl), (fun fields h => by injection h with h; injection h with h; subst h; simp)⟩)⟩
theorem ty68 : TyOk1 Try.prog tyT 68 ⟨.struct [(0, 3), (1, 3), (2, 3)], 3, [.v (.int .i64 0), .v (.int .i64 0), .v (.int .i64 0)], true, 24⟩ := ⟨⟨_, _, rfl, rfl, rfl, rfl, rfl⟩, ⟨_, rfl, rfl⟩, (fun fs h => by injection h with h; subst h; intro p hp; revert p; simp only [List.forall_mem_cons, List.not_mem_nil, false_implies, implies_true, and_true]; first | rfl | (repeat' apply And.intro) <;> rfl),
  (fun _ => ⟨(by first | exact Try.stoodInHeld68 | kernel_rfl), (by first | exact Try.eqGuardType68 | kernel_rfl), (fun fields h => by injection h with h; injection h with h; subst h; simp)⟩)⟩
theorem ty69 : TyOk1 Try.prog tyT 69 ⟨.other, 1, [.v (.nilFunc)], false, 8⟩ := ⟨⟨_, _, rfl, rfl, rfl, rfl, rfl⟩, ⟨_, rfl, (fun _ h => by cases h), (fun _ _ h => by cases h)⟩, (fun fs h => by cases h),
  (fun h => by cases h)⟩
theorem ty71 : TyOk1 Try.prog tyT 71 ⟨.other, 1, [.v (.nilFunc)], false, 8⟩ := ⟨⟨_, _, rfl, rfl, rfl, rfl, rfl⟩, ⟨_, rfl, (fun _ h => by cases h), (fun _ _ h => by cases h)⟩, (fun fs h => by cases h),
  (fun h => by cases h)⟩
theorem ty72 : TyOk1 Try.prog tyT 72 ⟨.struct [(0, 3), (1, 4), (2, 3)], 3, [.v (.int .i64 0), .v (.bool false), .v (.int .i64 0)], true, 24⟩ := ⟨⟨_, _, rfl, rfl, rfl, rfl, rfl⟩, ⟨_, rfl, rfl⟩, (fun fs h => by injection h with h; subst h; intro p hp; revert p; simp only [List.forall_mem_cons, List.not_mem_nil, false_implies, implies_true, and_true]; first | rfl | (repeat' apply And.intro) <;> rfl),
  (fun _ => ⟨(by first | exact Try.stoodInHeld72 | kernel_rfl), (by first | exact Try.eqGuardType72 | kernel_rfl), (fun fields h => by injection h with h; injection h with h; subst h; simp)⟩)⟩
theorem ty73 : TyOk1 Try.prog tyT 73 ⟨.struct [(0, 3), (1, 4), (2, 3)], 3, [.v (.int .i64 0), .v (.bool false), .v (.int .i64 0)], true, 24⟩ := ⟨⟨_, _, rfl, rfl, rfl, rfl, rfl⟩, ⟨_, rfl, rfl⟩, (fun fs h => by injection h with h; subst h; intro p hp; revert p; simp only [List.forall_mem_cons, List.not_mem_nil, false_implies, implies_true, and_true]; first | rfl | (repeat' apply And.intro) <;> rfl),
  (fun _ => ⟨(by first | exact Try.stoodInHeld73 | kernel_rfl), (by first | exact Try.eqGuardType73 | kernel_rfl), (fun fields h => by injection h with h; injection h with h; subst h; simp)⟩)⟩
theorem ty74 : TyOk1 Try.prog tyT 74 ⟨.struct [(0, 68), (3, 73)], 6, [.v (.int .i64 0), .v (.int .i64 0), .v (.int .i64 0), .v (.int .i64 0), .v (.bool false), .v (.int .i64 0)], true, 48⟩ := ⟨⟨_, _, rfl, rfl, rfl, rfl, rfl⟩, ⟨_, rfl, rfl⟩, (fun fs h => by injection h with h; subst h; intro p hp; revert p; simp only [List.forall_mem_cons, List.not_mem_nil, false_implies, implies_true, and_true]; first | rfl | (repeat' apply And.intro) <;> rfl),
  (fun _ => ⟨(by first | exact Try.stoodInHeld74 | kernel_rfl), (by first | exact Try.eqGuardType74 | kernel_rfl), (fun fields h => by injection h with h; injection h with h; subst h; simp)⟩)⟩
theorem ty75 : TyOk1 Try.prog tyT 75 ⟨.struct [(0, 68), (3, 73)], 6, [.v (.int .i64 0), .v (.int .i64 0), .v (.int .i64 0), .v (.int .i64 0), .v (.bool false), .v (.int .i64 0)], true, 48⟩ := ⟨⟨_, _, rfl, rfl, rfl, rfl, rfl⟩, ⟨_, rfl, rfl⟩, (fun fs h => by injection h with h; subst h; intro p hp; revert p; simp only [List.forall_mem_cons, List.not_mem_nil, false_implies, implies_true, and_true]; first | rfl | (repeat' apply And.intro) <;> rfl),
  (fun _ => ⟨(by first | exact Try.stoodInHeld75 | kernel_rfl), (by first | exact Try.eqGuardType75 | kernel_rfl), (fun fields h => by injection h with h; injection h with h; subst h; simp)⟩)⟩
theorem ty77 : TyOk1 Try.prog tyT 77 ⟨.other, 1, [.v (.nilFunc)], false, 8⟩ := ⟨⟨_, _, rfl, rfl, rfl, rfl, rfl⟩, ⟨_, rfl, (fun _ h => by cases h), (fun _ _ h => by cases h)⟩, (fun fs h => by cases h),
  (fun h => by cases h)⟩
theorem ty78 : TyOk1 Try.prog tyT 78 ⟨.other, 1, [.v (.nilFunc)], false, 8⟩ := ⟨⟨_, _, rfl, rfl, rfl, rfl, rfl⟩, ⟨_, rfl, (fun _ h => by cases h), (fun _ _ h => by cases h)⟩, (fun fs h => by cases h),
  (fun h => by cases h)⟩
theorem ty79 : TyOk1 Try.prog tyT 79 ⟨.other, 1, [.v (.nilFunc)], false, 8⟩ := ⟨⟨_, _, rfl, rfl, rfl, rfl, rfl⟩, ⟨_, rfl, (fun _ h => by cases h), (fun _ _ h => by cases h)⟩, (fun fs h => by cases h),
  (fun h => by cases h)⟩
theorem ty80 : TyOk1 Try.prog tyT 80 ⟨.other, 1, [.v (.nilFunc)], false, 8⟩ := ⟨⟨_, _, rfl, rfl, rfl, rfl, rfl⟩, ⟨_, rfl, (fun _ h => by cases h), (fun _ _ h => by cases h)⟩, (fun fs h => by cases h),
  (fun h => by cases h)⟩
theorem ty81 : TyOk1 Try.prog tyT 81 ⟨.other, 1, [.v (.nilFunc)], false, 8⟩ := ⟨⟨_, _, rfl, rfl, rfl, rfl, rfl⟩, ⟨_, rfl, (fun _ h => by cases h), (fun _ _ h => by cases h)⟩, (fun fs h => by cases h),
  (fun h => by cases h)⟩
theorem ty82 : TyOk1 Try.prog tyT 82 ⟨.other, 1, [.v (.nilFunc)], false, 8⟩ := ⟨⟨_, _, rfl, rfl, rfl, rfl, rfl⟩, ⟨_, rfl, (fun _ h => by cases h), (fun _ _ h => by cases h)⟩, (fun fs h => by cases h),
  (fun h => by cases h)⟩
theorem ty83 : TyOk1 Try.prog tyT 83 ⟨.other, 1, [.v (.nilFunc)], false, 8⟩ := ⟨⟨_, _, rfl, rfl, rfl, rfl, rfl⟩, ⟨_, rfl, (fun _ h => by cases h), (fun _ _ h => by cases h)⟩, (fun fs h => by cases h),
  (fun h => by cases h)⟩
theorem ty84 : TyOk1 Try.prog tyT 84 ⟨.other, 1, [.v (.nilFunc)], false, 8⟩ := ⟨⟨_, _, rfl, rfl, rfl, rfl, rfl⟩, ⟨_, rfl, (fun _ h => by cases h), (fun _ _ h => by cases h)⟩, (fun fs h => by cases h),
  (fun h => by cases h)⟩
theorem ty86 : TyOk1 Try.prog tyT 86 ⟨.other, 1, [.v (.nilFunc)], false, 8⟩ := ⟨⟨_, _, rfl, rfl, rfl, rfl, rfl⟩, ⟨_, rfl, (fun _ h => by cases h), (fun _ _ h => by cases h)⟩, (fun fs h => by cases h),
  (fun h => by cases h)⟩
theorem ty88 : TyOk1 Try.prog tyT 88 ⟨.other, 1, [.v (.nilFunc)], false, 8⟩ := ⟨⟨_, _, rfl, rfl, rfl, rfl, rfl⟩, ⟨_, rfl, (fun _ h => by cases h), (fun _ _ h => by cases h)⟩, (fun fs h => by cases h),
  (fun h => by cases h)⟩
theorem ty89 : TyOk1 Try.prog tyT 89 ⟨.struct [(0, 4), (1, 24), (3, 24), (5, 3), (6, 4)], 7, [.v (.bool false), .v (.int .u64 0), .v (.int .u64 0), .v (.int .u64 0), .v (.int .u64 0), .v (.int .i64 0), .v (.bool false)], true, 56⟩ := ⟨⟨_, _, rfl, rfl, rfl, rfl, rfl⟩, ⟨_, rfl, rfl⟩, (fun fs h => by injection h with h; subst h; intro p hp; revert p; simp only [List.forall_mem_cons, List.not_mem_nil, false_implies, implies_true, and_true]; first | rfl | (repeat' apply And.intro) <;> rfl),
  (fun _ => ⟨(by first | exact Try.stoodInHeld89 | kernel_rfl), (by first | exact Try.eqGuardType89 | kernel_rfl), (fun fields h => by injection h with h; injection h with h; subst h; simp)⟩)⟩
theorem ty90 : TyOk1 Try.prog tyT 90 ⟨.struct [(0, 4), (1, 24), (3, 24), (5, 3), (6, 4)], 7, [.v (.bool false), .v (.int .u64 0), .v (.int .u64 0), .v (.int .u64 0), .v (.int .u64 0), .v (.int .i64 0), .v (.bool false)], true, 56⟩ := ⟨⟨_, _, rfl, rfl, rfl, rfl, rfl⟩, ⟨_, rfl, rfl⟩, (fun fs h => by injection h with h; subst h; intro p hp; revert p; simp only [List.forall_mem_cons, List.not_mem_nil, false_implies, implies_true, and_true]; first | rfl | (repeat' apply And.intro) <;> rfl),
  (fun _ => ⟨(by first | exact Try.stoodInHeld90 | kernel_rfl), (by first | exact Try.eqGuardType90 | kernel_rfl), (fun fields h => by injection h with h; injection h with h; subst h; simp)⟩)⟩
theorem ty91 : TyOk1 Try.prog tyT 91 ⟨.other, 1, [.v (.nilFunc)], false, 8⟩ := ⟨⟨_, _, rfl, rfl, rfl, rfl, rfl⟩, ⟨_, rfl, (fun _ h => by cases h), (fun _ _ h => by cases h)⟩, (fun fs h => by cases h),
  (fun h => by cases h)⟩
theorem ty93 : TyOk1 Try.prog tyT 93 ⟨.other, 1, [.v (.nilFunc)], false, 8⟩ := ⟨⟨_, _, rfl, rfl, rfl, rfl, rfl⟩, ⟨_, rfl, (fun _ h => by cases h), (fun _ _ h => by cases h)⟩, (fun fs h => by cases h),
  (fun h => by cases h)⟩
theorem ty94 : TyOk1 Try.prog tyT 94 ⟨.other, 1, [.v (.nilFunc)], false, 8⟩ := ⟨⟨_, _, rfl, rfl, rfl, rfl, rfl⟩, ⟨_, rfl, (fun _ h => by cases h), (fun _ _ h => by cases h)⟩, (fun fs h => by cases h),
  (fun h => by cases h)⟩
theorem ty95 : TyOk1 Try.prog tyT 95 ⟨.other, 1, [.v (.nilFunc)], false, 8⟩ := ⟨⟨_, _, rfl, rfl, rfl, rfl, rfl⟩, ⟨_, rfl, (fun _ h => by cases h), (fun _ _ h => by cases h)⟩, (fun fs h => by cases h),
  (fun h => by cases h)⟩
theorem ty96 : TyOk1 Try.prog tyT 96 ⟨.other, 1, [.v (.nilFunc)], false, 8⟩ := ⟨⟨_, _, rfl, rfl, rfl, rfl, rfl⟩, ⟨_, rfl, (fun _ h => by cases h), (fun _ _ h => by cases h)⟩, (fun fs h => by cases h),
  (fun h => by cases h)⟩
theorem ty97 : TyOk1 Try.prog tyT 97 ⟨.other, 1, [.v (.nilFunc)], false, 8⟩ := ⟨⟨_, _, rfl, rfl, rfl, rfl, rfl⟩, ⟨_, rfl, (fun _ h => by cases h), (fun _ _ h => by cases h)⟩, (fun fs h => by cases h),
  (fun h => by cases h)⟩
theorem ty98 : TyOk1 Try.prog tyT 98 ⟨.other, 1, [.v (.nilFunc)], false, 8⟩ := ⟨⟨_, _, rfl, rfl, rfl, rfl, rfl⟩, ⟨_, rfl, (fun _ h => by cases h), (fun _ _ h => by cases h)⟩, (fun fs h => by cases h),
  (fun h => by cases h)⟩
theorem ty99 : TyOk1 Try.prog tyT 99 ⟨.other, 1, [.v (.nilFunc)], false, 8⟩ := ⟨⟨_, _, rfl, rfl, rfl, rfl, rfl⟩, ⟨_, rfl, (fun _ h => by cases h), (fun _ _ h => by cases h)⟩, (fun fs h => by cases h),
  (fun h => by cases h)⟩
theorem ty100 : TyOk1 Try.prog tyT 100 ⟨.other, 1, [.v (.nilFunc)], false, 8⟩ := ⟨⟨_, _, rfl, rfl, rfl, rfl, rfl⟩, ⟨_, rfl, (fun _ h => by cases h), (fun _ _ h => by cases h)⟩, (fun fs h => by cases h),
  (fun h => by cases h)⟩
theorem ty101 : TyOk1 Try.prog tyT 101 ⟨.other, 1, [.v (.nilFunc)], false, 8⟩ := ⟨⟨_, _, rfl, rfl, rfl, rfl, rfl⟩, ⟨_, rfl, (fun _ h => by cases h), (fun _ _ h => by cases h)⟩, (fun fs h => by cases h),
  (fun h => by cases h)⟩
theorem ty102 : TyOk1 Try.prog tyT 102 ⟨.other, 1, [.v (.nilFunc)], false, 8⟩ := ⟨⟨_, _, rfl, rfl, rfl, rfl, rfl⟩, ⟨_, rfl, (fun _ h => by cases h), (fun _ _ h => by cases h)⟩, (fun fs h => by cases h),
  (fun h => by cases h)⟩
theorem ty103 : TyOk1 Try.prog tyT 103 ⟨.other, 1, [.v (.nilFunc)], false, 8⟩ := ⟨⟨_, _, rfl, rfl, rfl, rfl, rfl⟩, ⟨_, rfl, (fun _ h => by cases h), (fun _ _ h => by cases h)⟩, (fun fs h => by cases h),
  (fun h => by cases h)⟩
theorem ty104 : TyOk1 Try.prog tyT 104 ⟨.other, 1, [.v (.nilFunc)], false, 8⟩ := ⟨⟨_, _, rfl, rfl, rfl, rfl, rfl⟩, ⟨_, rfl, (fun _ h => by cases h), (fun _ _ h => by cases h)⟩, (fun fs h => by cases h),
  (fun h => by cases h)⟩
theorem ty105 : TyOk1 Try.prog tyT 105 ⟨.other, 1, [.v (.nilFunc)], false, 8⟩ := ⟨⟨_, _, rfl, rfl, rfl, rfl, rfl⟩, ⟨_, rfl, (fun _ h => by cases h), (fun _ _ h => by cases h)⟩, (fun fs h => by cases h),
  (fun h => by cases h)⟩
theorem ty106 : TyOk1 Try.prog tyT 106 ⟨.other, 1, [.v (.nilFunc)], false, 8⟩ := ⟨⟨_, _, rfl, rfl, rfl, rfl, rfl⟩, ⟨_, rfl, (fun _ h => by cases h), (fun _ _ h => by cases h)⟩, (fun fs h => by cases h),
  (fun h => by cases h)⟩
theorem ty107 : TyOk1 Try.prog tyT 107 ⟨.other, 1, [.v (.nilFunc)], false, 8⟩ := ⟨⟨_, _, rfl, rfl, rfl, rfl, rfl⟩, ⟨_, rfl, (fun _ h => by cases h), (fun _ _ h => by cases h)⟩, (fun fs h => by cases h),
  (fun h => by cases h)⟩
theorem ty108 : TyOk1 Try.prog tyT 108 ⟨.other, 1, [.v (.nilFunc)], false, 8⟩ := ⟨⟨_, _, rfl, rfl, rfl, rfl, rfl⟩, ⟨_, rfl, (fun _ h => by cases h), (fun _ _ h => by cases h)⟩, (fun fs h => by cases h),
  (fun h => by cases h)⟩
theorem ty109 : TyOk1 Try.prog tyT 109 ⟨.other, 1, [.v (.nilFunc)], false, 8⟩ := ⟨⟨_, _, rfl, rfl, rfl, rfl, rfl⟩, ⟨_, rfl, (fun _ h => by cases h), (fun _ _ h => by cases h)⟩, (fun fs h => by cases h),
  (fun h => by cases h)⟩
theorem ty111 : TyOk1 Try.prog tyT 111 ⟨.other, 1, [.v (.nilFunc)], false, 8⟩ := ⟨⟨_, _, rfl, rfl, rfl, rfl, rfl⟩, ⟨_, rfl, (fun _ h => by cases h), (fun _ _ h => by cases h)⟩, (fun fs h => by cases h),
  (fun h => by cases h)⟩
theorem ty112 : TyOk1 Try.prog tyT 112 ⟨.other, 1, [.v (.nilFunc)], false, 8⟩ := ⟨⟨_, _, rfl, rfl, rfl, rfl, rfl⟩, ⟨_, rfl, (fun _ h => by cases h), (fun _ _ h => by cases h)⟩, (fun fs h => by cases h),
  (fun h => by cases h)⟩
theorem ty114 : TyOk1 Try.prog tyT 114 ⟨.other, 1, [.v (.nilFunc)], false, 8⟩ := ⟨⟨_, _, rfl, rfl, rfl, rfl, rfl⟩, ⟨_, rfl, (fun _ h => by cases h), (fun _ _ h => by cases h)⟩, (fun fs h => by cases h),
  (fun h => by cases h)⟩
theorem ty115 : TyOk1 Try.prog tyT 115 ⟨.other, 1, [.v (.nilFunc)], false, 8⟩ := ⟨⟨_, _, rfl, rfl, rfl, rfl, rfl⟩, ⟨_, rfl, (fun _ h => by cases h), (fun _ _ h => by cases h)⟩, (fun fs h => by cases h),
  (fun h => by cases h)⟩
theorem ty116 : TyOk1 Try.prog tyT 116 ⟨.other, 1, [.v (.nilFunc)], false, 8⟩ := ⟨⟨_, _, rfl, rfl, rfl, rfl, rfl⟩, ⟨_, rfl, (fun _ h => by cases h), (fun _ _ h => by cases h)⟩, (fun fs h => by cases h),
  (fun h => by cases h)⟩
theorem ty117 : TyOk1 Try.prog tyT 117 ⟨.other, 1, [.v (.nilFunc)], false, 8⟩ := ⟨⟨_, _, rfl, rfl, rfl, rfl, rfl⟩, ⟨_, rfl, (fun _ h => by cases h), (fun _ _ h => by cases h)⟩, (fun fs h => by cases h),
  (fun h => by cases h)⟩
theorem ty118 : TyOk1 Try.prog tyT 118 ⟨.other, 1, [.v (.nilFunc)], false, 8⟩ := ⟨⟨_, _, rfl, rfl, rfl, rfl, rfl⟩, ⟨_, rfl, (fun _ h => by cases h), (fun _ _ h => by cases h)⟩, (fun fs h => by cases h),
  (fun h => by cases h)⟩
theorem ty119 : TyOk1 Try.prog tyT 119 ⟨.other, 1, [.v (.nilFunc)], false, 8⟩ := ⟨⟨_, _, rfl, rfl, rfl, rfl, rfl⟩, ⟨_, rfl, (fun _ h => by cases h), (fun _ _ h => by cases h)⟩, (fun fs h => by cases h),
  (fun h => by cases h)⟩
theorem ty120 : TyOk1 Try.prog tyT 120 ⟨.arr 2 3, 2, [.v (.int .i64 0), .v (.int .i64 0)], false, 16⟩ := ⟨⟨_, _, rfl, rfl, rfl, rfl, rfl⟩, rfl, (fun fs h => by cases h),
  (fun h => by cases h)⟩
theorem ty121 : TyOk1 Try.prog tyT 121 ⟨.slice 120, 1, [.sl 0 []], false, 24⟩ := ⟨⟨_, _, rfl, rfl, rfl, rfl, rfl⟩, rfl, (fun fs h => by cases h),
  (fun h => by cases h)⟩
theorem ty123 : TyOk1 Try.prog tyT 123 ⟨.other, 1, [.v (.nilFunc)], false, 8⟩ := ⟨⟨_, _, rfl, rfl, rfl, rfl, rfl⟩, ⟨_, rfl, (fun _ h => by cases h), (fun _ _ h => by cases h)⟩, (fun fs h => by cases h),
  (fun h => by cases h)⟩
theorem ty124 : TyOk1 Try.prog tyT 124 ⟨.other, 1, [.v (.nilFunc)], false, 8⟩ := ⟨⟨_, _, rfl, rfl, rfl, rfl, rfl⟩, ⟨_, rfl, (fun _ h => by cases h), (fun _ _ h => by cases h)⟩, (fun fs h => by cases h),
  (fun h => by cases h)⟩
theorem ty125 : TyOk1 Try.prog tyT 125 ⟨.other, 1, [.v (.nilFunc)], false, 8⟩ := ⟨⟨_, _, rfl, rfl, rfl, rfl, rfl⟩, ⟨_, rfl, (fun _ h => by cases h), (fun _ _ h => by cases h)⟩, (fun fs h => by cases h),
  (fun h => by cases h)⟩
theorem ty127 : TyOk1 Try.prog tyT 127 ⟨.other, 1, [.v (.nilFunc)], false, 8⟩ := ⟨⟨_, _, rfl, rfl, rfl, rfl, rfl⟩, ⟨_, rfl, (fun _ h => by cases h), (fun _ _ h => by cases h)⟩, (fun fs h => by cases h),
  (fun h => by cases h)⟩
theorem ty128 : TyOk1 Try.prog tyT 128 ⟨.other, 1, [.v (.nilFunc)], false, 8⟩ := ⟨⟨_, _, rfl, rfl, rfl, rfl, rfl⟩, ⟨_, rfl, (fun _ h => by cases h), (fun _ _ h => by cases h)⟩, (fun fs h => by cases h),
  (fun h => by cases h)⟩
theorem ty129 : TyOk1 Try.prog tyT 129 ⟨.other, 1, [.v (.nilFunc)], false, 8⟩ := ⟨⟨_, _, rfl, rfl, rfl, rfl, rfl⟩, ⟨_, rfl, (fun _ h => by cases h), (fun _ _ h => by cases h)⟩, (fun fs h => by cases h),
  (fun h => by cases h)⟩
theorem ty131 : TyOk1 Try.prog tyT 131 ⟨.other, 1, [.v (.nilFunc)], false, 8⟩ := ⟨⟨_, _, rfl, rfl, rfl, rfl, rfl⟩, ⟨_, rfl, (fun _ h => by cases h), (fun _ _ h => by cases h)⟩, (fun fs h => by cases h),
  (fun h => by cases h)⟩
theorem ty132 : TyOk1 Try.prog tyT 132 ⟨.other, 1, [.v (.nilFunc)], false, 8⟩ := ⟨⟨_, _, rfl, rfl, rfl, rfl, rfl⟩, ⟨_, rfl, (fun _ h => by cases h), (fun _ _ h => by cases h)⟩, (fun fs h => by cases h),
  (fun h => by cases h)⟩
theorem ty133 : TyOk1 Try.prog tyT 133 ⟨.other, 1, [.v (.nilFunc)], false, 8⟩ := ⟨⟨_, _, rfl, rfl, rfl, rfl, rfl⟩, ⟨_, rfl, (fun _ h => by cases h), (fun _ _ h => by cases h)⟩, (fun fs h => by cases h),
  (fun h => by cases h)⟩
theorem ty134 : TyOk1 Try.prog tyT 134 ⟨.arr 4 22, 4, [.v (.int .u64 0), .v (.int .u64 0), .v (.int .u64 0), .v (.int .u64 0)], false, 32⟩ := ⟨⟨_, _, rfl, rfl, rfl, rfl, rfl⟩, rfl, (fun fs h => by cases h),
  (fun h => by cases h)⟩
theorem ty135 : TyOk1 Try.prog tyT 135 ⟨.other, 1, [.v (.nilFunc)], false, 8⟩ := ⟨⟨_, _, rfl, rfl, rfl, rfl, rfl⟩, ⟨_, rfl, (fun _ h => by cases h), (fun _ _ h => by cases h)⟩, (fun fs h => by cases h),
  (fun h => by cases h)⟩
theorem ty136 : TyOk1 Try.prog tyT 136 ⟨.other, 1, [.v (.nilFunc)], false, 8⟩ := ⟨⟨_, _, rfl, rfl, rfl, rfl, rfl⟩, ⟨_, rfl, (fun _ h => by cases h), (fun _ _ h => by cases h)⟩, (fun fs h => by cases h),
  (fun h => by cases h)⟩
theorem ty137 : TyOk1 Try.prog tyT 137 ⟨.slice 22, 1, [.sl 0 []], false, 24⟩ := ⟨⟨_, _, rfl, rfl, rfl, rfl, rfl⟩, rfl, (fun fs h => by cases h),
  (fun h => by cases h)⟩
theorem ty138 : TyOk1 Try.prog tyT 138 ⟨.other, 1, [.v (.nilFunc)], false, 8⟩ := ⟨⟨_, _, rfl, rfl, rfl, rfl, rfl⟩, ⟨_, rfl, (fun _ h => by cases h), (fun _ _ h => by cases h)⟩, (fun fs h => by cases h),
  (fun h => by cases h)⟩
theorem ty139 : TyOk1 Try.prog tyT 139 ⟨.other, 1, [.v (.nilIface)], false, 16⟩ := ⟨⟨_, _, rfl, rfl, rfl, rfl, rfl⟩, ⟨_, rfl, (fun _ h => by cases h), (fun _ _ h => by cases h)⟩, (fun fs h => by cases h),
  (fun h => by cases h)⟩
theorem ty140 : TyOk1 Try.prog tyT 140 ⟨.other, 1, [.v (.nilIface)], false, 16⟩ := ⟨⟨_, _, rfl, rfl, rfl, rfl, rfl⟩, ⟨_, rfl, (fun _ h => by cases h), (fun _ _ h => by cases h)⟩, (fun fs h => by cases h),
  (fun h => by cases h)⟩
theorem ty141 : TyOk1 Try.prog tyT 141 ⟨.other, 1, [.v (.nilFunc)], false, 8⟩ := ⟨⟨_, _, rfl, rfl, rfl, rfl, rfl⟩, ⟨_, rfl, (fun _ h => by cases h), (fun _ _ h => by cases h)⟩, (fun fs h => by cases h),
  (fun h => by cases h)⟩
theorem ty142 : TyOk1 Try.prog tyT 142 ⟨.other, 1, [.v (.nilFunc)], false, 8⟩ := ⟨⟨_, _, rfl, rfl, rfl, rfl, rfl⟩, ⟨_, rfl, (fun _ h => by cases h), (fun _ _ h => by cases h)⟩, (fun fs h => by cases h),
  (fun h => by cases h)⟩
theorem ty143 : TyOk1 Try.prog tyT 143 ⟨.struct [(0, 17), (1, 17), (2, 17), (3, 9)], 4, [.v (.pointer none), .v (.pointer none), .v (.pointer none), .v (.string ⟨#[]⟩)], false, 40⟩ := ⟨⟨_, _, rfl, rfl, rfl, rfl, rfl⟩, ⟨_, rfl, rfl⟩, (fun fs h => by injection h with h; subst h; intro p hp; revert p; simp only [List.forall_mem_cons, List.not_mem_nil, false_implies, implies_true, and_true]; first | rfl | (repeat' apply And.intro) <;> rfl),
  (fun h => by cases h)⟩
theorem ty144 : TyOk1 Try.prog tyT 144 ⟨.struct [(0, 17), (1, 17), (2, 17), (3, 9)], 4, [.v (.pointer none), .v (.pointer none), .v (.pointer none), .v (.string ⟨#[]⟩)], false, 40⟩ := ⟨⟨_, _, rfl, rfl, rfl, rfl, rfl⟩, ⟨_, rfl, rfl⟩, (fun fs h => by injection h with h; subst h; intro p hp; revert p; simp only [List.forall_mem_cons, List.not_mem_nil, false_implies, implies_true, and_true]; first | rfl | (repeat' apply And.intro) <;> rfl),
  (fun h => by cases h)⟩
theorem ty145 : TyOk1 Try.prog tyT 145 ⟨.arr 0 16, 0, [], false, 0⟩ := ⟨⟨_, _, rfl, rfl, rfl, rfl, rfl⟩, rfl, (fun fs h => by cases h),
  (fun h => by cases h)⟩
theorem ty146 : TyOk1 Try.prog tyT 146 ⟨.struct [(0, 145)], 0, [], false, 0⟩ := ⟨⟨_, _, rfl, rfl, rfl, rfl, rfl⟩, ⟨_, rfl, rfl⟩, (fun fs h => by injection h with h; subst h; intro p hp; revert p; simp only [List.forall_mem_cons, List.not_mem_nil, false_implies, implies_true, and_true]; first | rfl | (repeat' apply And.intro) <;> rfl),
  (fun h => by cases h)⟩
theorem ty147 : TyOk1 Try.prog tyT 147 ⟨.struct [(0, 145)], 0, [], false, 0⟩ := ⟨⟨_, _, rfl, rfl, rfl, rfl, rfl⟩, ⟨_, rfl, rfl⟩, (fun fs h => by injection h with h; subst h; intro p hp; revert p; simp only [List.forall_mem_cons, List.not_mem_nil, false_implies, implies_true, and_true]; first | rfl | (repeat' apply And.intro) <;> rfl),
  (fun h => by cases h)⟩
theorem ty148 : TyOk1 Try.prog tyT 148 ⟨.int .u32, 1, [.v (.int .u32 0)], false, 4⟩ := ⟨⟨_, _, rfl, rfl, rfl, rfl, rfl⟩, rfl, (fun fs h => by cases h),
  (fun h => by cases h)⟩
theorem ty149 : TyOk1 Try.prog tyT 149 ⟨.int .u8, 1, [.v (.int .u8 0)], false, 1⟩ := ⟨⟨_, _, rfl, rfl, rfl, rfl, rfl⟩, rfl, (fun fs h => by cases h),
  (fun h => by cases h)⟩
theorem ty150 : TyOk1 Try.prog tyT 150 ⟨.int .u8, 1, [.v (.int .u8 0)], false, 1⟩ := ⟨⟨_, _, rfl, rfl, rfl, rfl, rfl⟩, rfl, (fun fs h => by cases h),
  (fun h => by cases h)⟩
theorem ty151 : TyOk1 Try.prog tyT 151 ⟨.other, 1, [.v (.nilFunc)], false, 8⟩ := ⟨⟨_, _, rfl, rfl, rfl, rfl, rfl⟩, ⟨_, rfl, (fun _ h => by cases h), (fun _ _ h => by cases h)⟩, (fun fs h => by cases h),
  (fun h => by cases h)⟩
theorem ty152 : TyOk1 Try.prog tyT 152 ⟨.other, 1, [.v (.pointer none)], false, 8⟩ := ⟨⟨_, _, rfl, rfl, rfl, rfl, rfl⟩, ⟨_, rfl, (fun _ h => by cases h), (fun _ _ h => by cases h)⟩, (fun fs h => by cases h),
  (fun h => by cases h)⟩
theorem ty153 : TyOk1 Try.prog tyT 153 ⟨.int .i32, 1, [.v (.int .i32 0)], false, 4⟩ := ⟨⟨_, _, rfl, rfl, rfl, rfl, rfl⟩, rfl, (fun fs h => by cases h),
  (fun h => by cases h)⟩
theorem ty154 : TyOk1 Try.prog tyT 154 ⟨.int .i32, 1, [.v (.int .i32 0)], false, 4⟩ := ⟨⟨_, _, rfl, rfl, rfl, rfl, rfl⟩, rfl, (fun fs h => by cases h),
  (fun h => by cases h)⟩
theorem ty155 : TyOk1 Try.prog tyT 155 ⟨.struct [(0, 12), (1, 12), (2, 148), (3, 149), (4, 5), (5, 5), (6, 150), (7, 151), (8, 152), (9, 153), (10, 154)], 11, [.v (.int .u64 0), .v (.int .u64 0), .v (.int .u32 0), .v (.int .u8 0), .v (.int .u8 0), .v (.int .u8 0), .v (.int .u8 0), .v (.nilFunc), .v (.pointer none), .v (.int .i32 0), .v (.int .i32 0)], false, 48⟩ := ⟨⟨_, _, rfl, rfl, rfl, rfl, rfl⟩, ⟨_, rfl, rfl⟩, (fun fs h => by injection h with h; subst h; intro p hp; revert p; simp only [List.forall_mem_cons, List.not_mem_nil, false_implies, implies_true, and_true]; first | rfl | (repeat' apply And.intro) <;> rfl),
  (fun h => by cases h)⟩
theorem ty156 : TyOk1 Try.prog tyT 156 ⟨.struct [(0, 12), (1, 12), (2, 148), (3, 149), (4, 5), (5, 5), (6, 150), (7, 151), (8, 152), (9, 153), (10, 154)], 11, [.v (.int .u64 0), .v (.int .u64 0), .v (.int .u32 0), .v (.int .u8 0), .v (.int .u8 0), .v (.int .u8 0), .v (.int .u8 0), .v (.nilFunc), .v (.pointer none), .v (.int .i32 0), .v (.int .i32 0)], false, 48⟩ := ⟨⟨_, _, rfl, rfl, rfl, rfl, rfl⟩, ⟨_, rfl, rfl⟩, (fun fs h => by injection h with h; subst h; intro p hp; revert p; simp only [List.forall_mem_cons, List.not_mem_nil, false_implies, implies_true, and_true]; first | rfl | (repeat' apply And.intro) <;> rfl),
  (fun h => by cases h)⟩
theorem ty157 : TyOk1 Try.prog tyT 157 ⟨.other, 1, [.v (.pointer none)], false, 8⟩ := ⟨⟨_, _, rfl, rfl, rfl, rfl, rfl⟩, ⟨_, rfl, (fun _ h => by cases h), (fun _ _ h => by cases h)⟩, (fun fs h => by cases h),
  (fun h => by cases h)⟩
theorem tyOk : TyOk Try.prog tyT := tyOk_of (by
  simp only [tyL, List.forall_mem_cons, List.not_mem_nil, false_implies, implies_true, and_true]
  exact ⟨ty1, ty2, ty3, ty4, ty5, ty6, ty7, ty8, ty9, ty10, ty11, ty12, ty13, ty14, ty15, ty16, ty17, ty18, ty19, ty20, ty21, ty22, ty23, ty24, ty25, ty26, ty27, ty28, ty29, ty31, ty32, ty33, ty34, ty35, ty36, ty37, ty38, ty39, ty40, ty41, ty42, ty43, ty44, ty45, ty46, ty47, ty48, ty49, ty50, ty51, ty52, ty53, ty55, ty56, ty57, ty58, ty59, ty60, ty61, ty62, ty63, ty65, ty66, ty67, ty68, ty69, ty71, ty72, ty73, ty74, ty75, ty77, ty78, ty79, ty80, ty81, ty82, ty83, ty84, ty86, ty88, ty89, ty90, ty91, ty93, ty94, ty95, ty96, ty97, ty98, ty99, ty100, ty101, ty102, ty103, ty104, ty105, ty106, ty107, ty108, ty109, ty111, ty112, ty114, ty115, ty116, ty117, ty118, ty119, ty120, ty121, ty123, ty124, ty125, ty127, ty128, ty129, ty131, ty132, ty133, ty134, ty135, ty136, ty137, ty138, ty139, ty140, ty141, ty142, ty143, ty144, ty145, ty146, ty147, ty148, ty149, ty150, ty151, ty152, ty153, ty154, ty155, ty156, ty157⟩)
end Go.Proofs.Ytfjcblmmfkgkoaa
