/-
  The types of the program, as the reckoning asks for them: printed by wip/TyGen.lean.
-/
import Derived.Test.YtpambeengdhhmaaGreatDoorVcV
namespace Go.Proofs.YtpambeengdhhmaaGreatDoor
set_option linter.unusedVariables false
set_option maxRecDepth 100000
def tyL : List (Nat × TI) := [
  (2, ⟨.int .i64, 1, [.v (.int .i64 0)], false, 8⟩),
  (3, ⟨.int .i64, 1, [.v (.int .i64 0)], false, 8⟩),
  (4, ⟨.bool, 1, [.v (.bool false)], false, 1⟩),
  (5, ⟨.int .u8, 1, [.v (.int .u8 0)], false, 1⟩),
  (6, ⟨.int .u8, 1, [.v (.int .u8 0)], false, 1⟩),
  (7, ⟨.struct [(0, 2), (1, 3), (2, 4), (3, 6)], 4, [.v (.int .i64 0), .v (.int .i64 0), .v (.bool false), .v (.int .u8 0)], true, 24⟩),
  (8, ⟨.struct [(0, 2), (1, 3), (2, 4), (3, 6)], 4, [.v (.int .i64 0), .v (.int .i64 0), .v (.bool false), .v (.int .u8 0)], true, 24⟩),
  (9, ⟨.str, 1, [.v (.string ⟨#[]⟩)], false, 16⟩),
  (10, ⟨.str, 1, [.v (.string ⟨#[]⟩)], false, 16⟩),
  (11, ⟨.str, 1, [.v (.string ⟨#[]⟩)], false, 16⟩),
  (12, ⟨.int .u64, 1, [.v (.int .u64 0)], false, 8⟩),
  (13, ⟨.struct [(0, 9), (1, 12)], 2, [.v (.string ⟨#[]⟩), .v (.int .u64 0)], false, 24⟩),
  (14, ⟨.struct [(0, 9), (1, 12)], 2, [.v (.string ⟨#[]⟩), .v (.int .u64 0)], false, 24⟩),
  (15, ⟨.other, 1, [.v (.pointer none)], false, 8⟩),
  (16, ⟨.other, 1, [.v (.pointer none)], false, 8⟩),
  (17, ⟨.other, 1, [.v (.pointer none)], false, 8⟩),
  (18, ⟨.struct [(0, 17)], 1, [.v (.pointer none)], false, 8⟩),
  (19, ⟨.struct [(0, 17)], 1, [.v (.pointer none)], false, 8⟩),
  (20, ⟨.other, 1, [.v (.nilIface)], false, 16⟩),
  (21, ⟨.int .i32, 1, [.v (.int .i32 0)], false, 4⟩),
  (23, ⟨.int .i64, 1, [.v (.int .i64 0)], false, 8⟩),
  (27, ⟨.other, 1, [.v (.nilIface)], false, 16⟩),
  (28, ⟨.other, 1, [.v (.nilIface)], false, 16⟩),
  (29, ⟨.struct [(0, 28)], 1, [.v (.nilIface)], false, 16⟩),
  (30, ⟨.struct [(0, 28)], 1, [.v (.nilIface)], false, 16⟩),
  (36, ⟨.int .i64, 1, [.v (.int .i64 0)], false, 8⟩),
  (37, ⟨.slice 41, 1, [.sl 0 []], false, 24⟩),
  (38, ⟨.slice 9, 1, [.sl 0 []], false, 24⟩),
  (39, ⟨.arr 2 4, 2, [.v (.bool false), .v (.bool false)], true, 2⟩),
  (40, ⟨.struct [(0, 36), (1, 9), (2, 37), (3, 38), (4, 39)], 6, [.v (.int .i64 0), .v (.string ⟨#[]⟩), .sl 0 [], .sl 0 [], .v (.bool false), .v (.bool false)], false, 80⟩),
  (41, ⟨.struct [(0, 36), (1, 9), (2, 37), (3, 38), (4, 39)], 6, [.v (.int .i64 0), .v (.string ⟨#[]⟩), .sl 0 [], .sl 0 [], .v (.bool false), .v (.bool false)], false, 80⟩),
  (55, ⟨.slice 30, 1, [.sl 0 []], false, 24⟩),
  (58, ⟨.int .u64, 1, [.v (.int .u64 0)], false, 8⟩),
  (59, ⟨.struct [(0, 58), (1, 58)], 2, [.v (.int .u64 0), .v (.int .u64 0)], true, 16⟩),
  (60, ⟨.struct [(0, 58), (1, 58)], 2, [.v (.int .u64 0), .v (.int .u64 0)], true, 16⟩),
  (61, ⟨.struct [(0, 4), (1, 60), (3, 3)], 4, [.v (.bool false), .v (.int .u64 0), .v (.int .u64 0), .v (.int .i64 0)], true, 32⟩),
  (62, ⟨.struct [(0, 4), (1, 60), (3, 3)], 4, [.v (.bool false), .v (.int .u64 0), .v (.int .u64 0), .v (.int .i64 0)], true, 32⟩),
  (76, ⟨.arr 2 30, 2, [.v (.nilIface), .v (.nilIface)], false, 32⟩),
  (77, ⟨.struct [(0, 76), (2, 39)], 4, [.v (.nilIface), .v (.nilIface), .v (.bool false), .v (.bool false)], false, 40⟩),
  (78, ⟨.struct [(0, 76), (2, 39)], 4, [.v (.nilIface), .v (.nilIface), .v (.bool false), .v (.bool false)], false, 40⟩),
  (85, ⟨.struct [(0, 30), (1, 30), (2, 39), (4, 4)], 5, [.v (.nilIface), .v (.nilIface), .v (.bool false), .v (.bool false), .v (.bool false)], false, 40⟩),
  (86, ⟨.struct [(0, 30), (1, 30), (2, 39), (4, 4)], 5, [.v (.nilIface), .v (.nilIface), .v (.bool false), .v (.bool false), .v (.bool false)], false, 40⟩),
  (94, ⟨.other, 1, [.v (.nilIface)], false, 16⟩),
  (95, ⟨.other, 1, [.v (.nilIface)], false, 16⟩),
  (99, ⟨.struct [(0, 4), (1, 60), (3, 60), (5, 3), (6, 4)], 7, [.v (.bool false), .v (.int .u64 0), .v (.int .u64 0), .v (.int .u64 0), .v (.int .u64 0), .v (.int .i64 0), .v (.bool false)], true, 56⟩),
  (100, ⟨.struct [(0, 4), (1, 60), (3, 60), (5, 3), (6, 4)], 7, [.v (.bool false), .v (.int .u64 0), .v (.int .u64 0), .v (.int .u64 0), .v (.int .u64 0), .v (.int .i64 0), .v (.bool false)], true, 56⟩),
  (104, ⟨.int .i64, 1, [.v (.int .i64 0)], false, 8⟩),
  (105, ⟨.slice 30, 1, [.sl 0 []], false, 24⟩),
  (107, ⟨.struct [(0, 4), (1, 60), (3, 3)], 4, [.v (.bool false), .v (.int .u64 0), .v (.int .u64 0), .v (.int .i64 0)], true, 32⟩),
  (108, ⟨.str, 1, [.v (.string ⟨#[]⟩)], false, 16⟩),
  (109, ⟨.bool, 1, [.v (.bool false)], false, 1⟩),
  (123, ⟨.struct [(0, 3), (1, 3), (2, 3)], 3, [.v (.int .i64 0), .v (.int .i64 0), .v (.int .i64 0)], true, 24⟩),
  (124, ⟨.struct [(0, 3), (1, 3), (2, 3)], 3, [.v (.int .i64 0), .v (.int .i64 0), .v (.int .i64 0)], true, 24⟩),
  (128, ⟨.struct [(0, 3), (1, 4), (2, 3)], 3, [.v (.int .i64 0), .v (.bool false), .v (.int .i64 0)], true, 24⟩),
  (129, ⟨.struct [(0, 3), (1, 4), (2, 3)], 3, [.v (.int .i64 0), .v (.bool false), .v (.int .i64 0)], true, 24⟩),
  (133, ⟨.struct [(0, 124), (3, 129)], 6, [.v (.int .i64 0), .v (.int .i64 0), .v (.int .i64 0), .v (.int .i64 0), .v (.bool false), .v (.int .i64 0)], true, 48⟩),
  (134, ⟨.struct [(0, 124), (3, 129)], 6, [.v (.int .i64 0), .v (.int .i64 0), .v (.int .i64 0), .v (.int .i64 0), .v (.bool false), .v (.int .i64 0)], true, 48⟩),
  (146, ⟨.other, 1, [.v (.pointer none)], false, 8⟩),
  (156, ⟨.struct [(0, 5), (1, 5)], 2, [.v (.int .u8 0), .v (.int .u8 0)], true, 2⟩),
  (157, ⟨.struct [(0, 5), (1, 5)], 2, [.v (.int .u8 0), .v (.int .u8 0)], true, 2⟩),
  (158, ⟨.arr 16 157, 32, [.v (.int .u8 0), .v (.int .u8 0), .v (.int .u8 0), .v (.int .u8 0), .v (.int .u8 0), .v (.int .u8 0), .v (.int .u8 0), .v (.int .u8 0), .v (.int .u8 0), .v (.int .u8 0), .v (.int .u8 0), .v (.int .u8 0), .v (.int .u8 0), .v (.int .u8 0), .v (.int .u8 0), .v (.int .u8 0), .v (.int .u8 0), .v (.int .u8 0), .v (.int .u8 0), .v (.int .u8 0), .v (.int .u8 0), .v (.int .u8 0), .v (.int .u8 0), .v (.int .u8 0), .v (.int .u8 0), .v (.int .u8 0), .v (.int .u8 0), .v (.int .u8 0), .v (.int .u8 0), .v (.int .u8 0), .v (.int .u8 0), .v (.int .u8 0)], false, 32⟩),
  (159, ⟨.int .u64, 1, [.v (.int .u64 0)], false, 8⟩),
  (168, ⟨.struct [(0, 38), (1, 55)], 2, [.sl 0 [], .sl 0 []], false, 48⟩),
  (169, ⟨.struct [(0, 38), (1, 55)], 2, [.sl 0 [], .sl 0 []], false, 48⟩),
  (180, ⟨.struct [(0, 3), (1, 3), (2, 3)], 3, [.v (.int .i64 0), .v (.int .i64 0), .v (.int .i64 0)], true, 24⟩),
  (182, ⟨.arr 2 3, 2, [.v (.int .i64 0), .v (.int .i64 0)], false, 16⟩),
  (183, ⟨.slice 182, 1, [.sl 0 []], false, 24⟩),
  (184, ⟨.struct [(0, 3), (1, 4), (2, 3)], 3, [.v (.int .i64 0), .v (.bool false), .v (.int .i64 0)], true, 24⟩),
  (186, ⟨.struct [(0, 124), (3, 129)], 6, [.v (.int .i64 0), .v (.int .i64 0), .v (.int .i64 0), .v (.int .i64 0), .v (.bool false), .v (.int .i64 0)], true, 48⟩),
  (190, ⟨.int .i64, 1, [.v (.int .i64 0)], false, 8⟩),
  (191, ⟨.slice 5, 1, [.sl 0 []], false, 24⟩),
  (194, ⟨.other, 1, [.v (.pointer none)], false, 8⟩),
  (216, ⟨.slice 3, 1, [.sl 0 []], false, 24⟩),
  (226, ⟨.int .i64, 1, [.v (.int .i64 0)], false, 8⟩),
  (227, ⟨.int .i64, 1, [.v (.int .i64 0)], false, 8⟩),
  (238, ⟨.struct [(0, 9), (1, 9), (2, 95)], 3, [.v (.string ⟨#[]⟩), .v (.string ⟨#[]⟩), .v (.nilIface)], false, 48⟩),
  (239, ⟨.struct [(0, 9), (1, 9), (2, 95)], 3, [.v (.string ⟨#[]⟩), .v (.string ⟨#[]⟩), .v (.nilIface)], false, 48⟩),
  (243, ⟨.arr 4 58, 4, [.v (.int .u64 0), .v (.int .u64 0), .v (.int .u64 0), .v (.int .u64 0)], false, 32⟩),
  (249, ⟨.int .u32, 1, [.v (.int .u32 0)], false, 4⟩),
  (253, ⟨.other, 1, [.v (.pointer none)], false, 8⟩),
  (254, ⟨.other, 1, [.v (.pointer none)], false, 8⟩),
  (255, ⟨.struct [(0, 9)], 1, [.v (.string ⟨#[]⟩)], true, 16⟩),
  (256, ⟨.struct [(0, 9)], 1, [.v (.string ⟨#[]⟩)], true, 16⟩),
  (261, ⟨.arr 24 5, 24, [.v (.int .u8 0), .v (.int .u8 0), .v (.int .u8 0), .v (.int .u8 0), .v (.int .u8 0), .v (.int .u8 0), .v (.int .u8 0), .v (.int .u8 0), .v (.int .u8 0), .v (.int .u8 0), .v (.int .u8 0), .v (.int .u8 0), .v (.int .u8 0), .v (.int .u8 0), .v (.int .u8 0), .v (.int .u8 0), .v (.int .u8 0), .v (.int .u8 0), .v (.int .u8 0), .v (.int .u8 0), .v (.int .u8 0), .v (.int .u8 0), .v (.int .u8 0), .v (.int .u8 0)], false, 24⟩),
  (266, ⟨.arr 20 58, 20, [.v (.int .u64 0), .v (.int .u64 0), .v (.int .u64 0), .v (.int .u64 0), .v (.int .u64 0), .v (.int .u64 0), .v (.int .u64 0), .v (.int .u64 0), .v (.int .u64 0), .v (.int .u64 0), .v (.int .u64 0), .v (.int .u64 0), .v (.int .u64 0), .v (.int .u64 0), .v (.int .u64 0), .v (.int .u64 0), .v (.int .u64 0), .v (.int .u64 0), .v (.int .u64 0), .v (.int .u64 0)], false, 160⟩),
  (270, ⟨.arr 32 5, 32, [.v (.int .u8 0), .v (.int .u8 0), .v (.int .u8 0), .v (.int .u8 0), .v (.int .u8 0), .v (.int .u8 0), .v (.int .u8 0), .v (.int .u8 0), .v (.int .u8 0), .v (.int .u8 0), .v (.int .u8 0), .v (.int .u8 0), .v (.int .u8 0), .v (.int .u8 0), .v (.int .u8 0), .v (.int .u8 0), .v (.int .u8 0), .v (.int .u8 0), .v (.int .u8 0), .v (.int .u8 0), .v (.int .u8 0), .v (.int .u8 0), .v (.int .u8 0), .v (.int .u8 0), .v (.int .u8 0), .v (.int .u8 0), .v (.int .u8 0), .v (.int .u8 0), .v (.int .u8 0), .v (.int .u8 0), .v (.int .u8 0), .v (.int .u8 0)], false, 32⟩),
  (271, ⟨.arr 64 5, 64, [.v (.int .u8 0), .v (.int .u8 0), .v (.int .u8 0), .v (.int .u8 0), .v (.int .u8 0), .v (.int .u8 0), .v (.int .u8 0), .v (.int .u8 0), .v (.int .u8 0), .v (.int .u8 0), .v (.int .u8 0), .v (.int .u8 0), .v (.int .u8 0), .v (.int .u8 0), .v (.int .u8 0), .v (.int .u8 0), .v (.int .u8 0), .v (.int .u8 0), .v (.int .u8 0), .v (.int .u8 0), .v (.int .u8 0), .v (.int .u8 0), .v (.int .u8 0), .v (.int .u8 0), .v (.int .u8 0), .v (.int .u8 0), .v (.int .u8 0), .v (.int .u8 0), .v (.int .u8 0), .v (.int .u8 0), .v (.int .u8 0), .v (.int .u8 0), .v (.int .u8 0), .v (.int .u8 0), .v (.int .u8 0), .v (.int .u8 0), .v (.int .u8 0), .v (.int .u8 0), .v (.int .u8 0), .v (.int .u8 0), .v (.int .u8 0), .v (.int .u8 0), .v (.int .u8 0), .v (.int .u8 0), .v (.int .u8 0), .v (.int .u8 0), .v (.int .u8 0), .v (.int .u8 0), .v (.int .u8 0), .v (.int .u8 0), .v (.int .u8 0), .v (.int .u8 0), .v (.int .u8 0), .v (.int .u8 0), .v (.int .u8 0), .v (.int .u8 0), .v (.int .u8 0), .v (.int .u8 0), .v (.int .u8 0), .v (.int .u8 0), .v (.int .u8 0), .v (.int .u8 0), .v (.int .u8 0), .v (.int .u8 0)], false, 64⟩),
  (273, ⟨.struct [(0, 17), (1, 17), (2, 17), (3, 9)], 4, [.v (.pointer none), .v (.pointer none), .v (.pointer none), .v (.string ⟨#[]⟩)], false, 40⟩),
  (274, ⟨.struct [(0, 17), (1, 17), (2, 17), (3, 9)], 4, [.v (.pointer none), .v (.pointer none), .v (.pointer none), .v (.string ⟨#[]⟩)], false, 40⟩),
  (275, ⟨.arr 0 16, 0, [], false, 0⟩),
  (276, ⟨.struct [(0, 275)], 0, [], false, 0⟩),
  (277, ⟨.struct [(0, 275)], 0, [], false, 0⟩),
  (278, ⟨.int .u8, 1, [.v (.int .u8 0)], false, 1⟩),
  (279, ⟨.int .u8, 1, [.v (.int .u8 0)], false, 1⟩),
  (281, ⟨.int .i32, 1, [.v (.int .i32 0)], false, 4⟩),
  (282, ⟨.int .i32, 1, [.v (.int .i32 0)], false, 4⟩),
  (285, ⟨.other, 1, [.v (.pointer none)], false, 8⟩)]
def tyT : TypeId → Option TI := look tyL
theorem fsOk {ty : TypeId → Option TI} {l : List (Nat × TypeId)} (h : (l.all fun p => (ty p.2).isSome) = true) : ∀ fs, TD.struct l = .struct fs → ∀ p ∈ fs, (ty p.2).isSome = true := fun fs e p hp => by cases e; exact List.all_eq_true.1 h p hp
theorem ty2 : TyOk1 Tryz.prog tyT 2 ⟨.int .i64, 1, [.v (.int .i64 0)], false, 8⟩ := ⟨⟨_, _, rfl, rfl, rfl, rfl, rfl, (fun h => by cases h), (fun _ => rfl)⟩, rfl, (fun fs h => by cases h),
  (fun h => by cases h)⟩
theorem ty3 : TyOk1 Tryz.prog tyT 3 ⟨.int .i64, 1, [.v (.int .i64 0)], false, 8⟩ := ⟨⟨_, _, rfl, rfl, rfl, rfl, rfl, (fun h => by cases h), (fun _ => rfl)⟩, rfl, (fun fs h => by cases h),
  (fun h => by cases h)⟩
theorem ty4 : TyOk1 Tryz.prog tyT 4 ⟨.bool, 1, [.v (.bool false)], false, 1⟩ := ⟨⟨_, _, rfl, rfl, rfl, rfl, rfl, (fun h => by cases h), (fun _ => rfl)⟩, rfl, (fun fs h => by cases h),
  (fun h => by cases h)⟩
theorem ty5 : TyOk1 Tryz.prog tyT 5 ⟨.int .u8, 1, [.v (.int .u8 0)], false, 1⟩ := ⟨⟨_, _, rfl, rfl, rfl, rfl, rfl, (fun h => by cases h), (fun _ => rfl)⟩, rfl, (fun fs h => by cases h),
  (fun h => by cases h)⟩
theorem ty6 : TyOk1 Tryz.prog tyT 6 ⟨.int .u8, 1, [.v (.int .u8 0)], false, 1⟩ := ⟨⟨_, _, rfl, rfl, rfl, rfl, rfl, (fun h => by cases h), (fun _ => rfl)⟩, rfl, (fun fs h => by cases h),
  (fun h => by cases h)⟩
theorem ty7 : TyOk1 Tryz.prog tyT 7 ⟨.struct [(0, 2), (1, 3), (2, 4), (3, 6)], 4, [.v (.int .i64 0), .v (.int .i64 0), .v (.bool false), .v (.int .u8 0)], true, 24⟩ := ⟨⟨_, _, rfl, rfl, rfl, rfl, rfl, (fun _ => ⟨_, rfl⟩), (fun h => by cases h)⟩, ⟨_, rfl, rfl⟩, fsOk rfl,
  (fun _ => ⟨(by first | exact Tryz.stoodInHeld7 | kernel_rfl), (by first | exact Tryz.eqGuardType7 | kernel_rfl), (fun fields h => by first | (injection h with h; injection h with h; subst h; simp; done) | (cases h))⟩)⟩
theorem ty8 : TyOk1 Tryz.prog tyT 8 ⟨.struct [(0, 2), (1, 3), (2, 4), (3, 6)], 4, [.v (.int .i64 0), .v (.int .i64 0), .v (.bool false), .v (.int .u8 0)], true, 24⟩ := ⟨⟨_, _, rfl, rfl, rfl, rfl, rfl, (fun _ => ⟨_, rfl⟩), (fun h => by cases h)⟩, ⟨_, rfl, rfl⟩, fsOk rfl,
  (fun _ => ⟨(by first | exact Tryz.stoodInHeld8 | kernel_rfl), (by first | exact Tryz.eqGuardType8 | kernel_rfl), (fun fields h => by first | (injection h with h; injection h with h; subst h; simp; done) | (cases h))⟩)⟩
theorem ty9 : TyOk1 Tryz.prog tyT 9 ⟨.str, 1, [.v (.string ⟨#[]⟩)], false, 16⟩ := ⟨⟨_, _, rfl, rfl, rfl, rfl, rfl, (fun h => by cases h), (fun _ => rfl)⟩, rfl, (fun fs h => by cases h),
  (fun h => by cases h)⟩
theorem ty10 : TyOk1 Tryz.prog tyT 10 ⟨.str, 1, [.v (.string ⟨#[]⟩)], false, 16⟩ := ⟨⟨_, _, rfl, rfl, rfl, rfl, rfl, (fun h => by cases h), (fun _ => rfl)⟩, rfl, (fun fs h => by cases h),
  (fun h => by cases h)⟩
theorem ty11 : TyOk1 Tryz.prog tyT 11 ⟨.str, 1, [.v (.string ⟨#[]⟩)], false, 16⟩ := ⟨⟨_, _, rfl, rfl, rfl, rfl, rfl, (fun h => by cases h), (fun _ => rfl)⟩, rfl, (fun fs h => by cases h),
  (fun h => by cases h)⟩
theorem ty12 : TyOk1 Tryz.prog tyT 12 ⟨.int .u64, 1, [.v (.int .u64 0)], false, 8⟩ := ⟨⟨_, _, rfl, rfl, rfl, rfl, rfl, (fun h => by cases h), (fun _ => rfl)⟩, rfl, (fun fs h => by cases h),
  (fun h => by cases h)⟩
theorem ty13 : TyOk1 Tryz.prog tyT 13 ⟨.struct [(0, 9), (1, 12)], 2, [.v (.string ⟨#[]⟩), .v (.int .u64 0)], false, 24⟩ := ⟨⟨_, _, rfl, rfl, rfl, rfl, rfl, (fun _ => ⟨_, rfl⟩), (fun h => by cases h)⟩, ⟨_, rfl, rfl⟩, fsOk rfl,
  (fun h => by cases h)⟩
theorem ty14 : TyOk1 Tryz.prog tyT 14 ⟨.struct [(0, 9), (1, 12)], 2, [.v (.string ⟨#[]⟩), .v (.int .u64 0)], false, 24⟩ := ⟨⟨_, _, rfl, rfl, rfl, rfl, rfl, (fun _ => ⟨_, rfl⟩), (fun h => by cases h)⟩, ⟨_, rfl, rfl⟩, fsOk rfl,
  (fun h => by cases h)⟩
theorem ty15 : TyOk1 Tryz.prog tyT 15 ⟨.other, 1, [.v (.pointer none)], false, 8⟩ := ⟨⟨_, _, rfl, rfl, rfl, rfl, rfl, (fun h => by cases h), (fun _ => rfl)⟩, ⟨_, rfl, (fun _ h => by cases h), (fun _ _ h => by cases h)⟩, (fun fs h => by cases h),
  (fun h => by cases h)⟩
theorem ty16 : TyOk1 Tryz.prog tyT 16 ⟨.other, 1, [.v (.pointer none)], false, 8⟩ := ⟨⟨_, _, rfl, rfl, rfl, rfl, rfl, (fun h => by cases h), (fun _ => rfl)⟩, ⟨_, rfl, (fun _ h => by cases h), (fun _ _ h => by cases h)⟩, (fun fs h => by cases h),
  (fun h => by cases h)⟩
theorem ty17 : TyOk1 Tryz.prog tyT 17 ⟨.other, 1, [.v (.pointer none)], false, 8⟩ := ⟨⟨_, _, rfl, rfl, rfl, rfl, rfl, (fun h => by cases h), (fun _ => rfl)⟩, ⟨_, rfl, (fun _ h => by cases h), (fun _ _ h => by cases h)⟩, (fun fs h => by cases h),
  (fun h => by cases h)⟩
theorem ty18 : TyOk1 Tryz.prog tyT 18 ⟨.struct [(0, 17)], 1, [.v (.pointer none)], false, 8⟩ := ⟨⟨_, _, rfl, rfl, rfl, rfl, rfl, (fun _ => ⟨_, rfl⟩), (fun h => by cases h)⟩, ⟨_, rfl, rfl⟩, fsOk rfl,
  (fun h => by cases h)⟩
theorem ty19 : TyOk1 Tryz.prog tyT 19 ⟨.struct [(0, 17)], 1, [.v (.pointer none)], false, 8⟩ := ⟨⟨_, _, rfl, rfl, rfl, rfl, rfl, (fun _ => ⟨_, rfl⟩), (fun h => by cases h)⟩, ⟨_, rfl, rfl⟩, fsOk rfl,
  (fun h => by cases h)⟩
theorem ty20 : TyOk1 Tryz.prog tyT 20 ⟨.other, 1, [.v (.nilIface)], false, 16⟩ := ⟨⟨_, _, rfl, rfl, rfl, rfl, rfl, (fun h => by cases h), (fun _ => rfl)⟩, ⟨_, rfl, (fun _ h => by cases h), (fun _ _ h => by cases h)⟩, (fun fs h => by cases h),
  (fun h => by cases h)⟩
theorem ty21 : TyOk1 Tryz.prog tyT 21 ⟨.int .i32, 1, [.v (.int .i32 0)], false, 4⟩ := ⟨⟨_, _, rfl, rfl, rfl, rfl, rfl, (fun h => by cases h), (fun _ => rfl)⟩, rfl, (fun fs h => by cases h),
  (fun h => by cases h)⟩
theorem ty23 : TyOk1 Tryz.prog tyT 23 ⟨.int .i64, 1, [.v (.int .i64 0)], false, 8⟩ := ⟨⟨_, _, rfl, rfl, rfl, rfl, rfl, (fun h => by cases h), (fun _ => rfl)⟩, rfl, (fun fs h => by cases h),
  (fun h => by cases h)⟩
theorem ty27 : TyOk1 Tryz.prog tyT 27 ⟨.other, 1, [.v (.nilIface)], false, 16⟩ := ⟨⟨_, _, rfl, rfl, rfl, rfl, rfl, (fun h => by cases h), (fun _ => rfl)⟩, ⟨_, rfl, (fun _ h => by cases h), (fun _ _ h => by cases h)⟩, (fun fs h => by cases h),
  (fun h => by cases h)⟩
theorem ty28 : TyOk1 Tryz.prog tyT 28 ⟨.other, 1, [.v (.nilIface)], false, 16⟩ := ⟨⟨_, _, rfl, rfl, rfl, rfl, rfl, (fun h => by cases h), (fun _ => rfl)⟩, ⟨_, rfl, (fun _ h => by cases h), (fun _ _ h => by cases h)⟩, (fun fs h => by cases h),
  (fun h => by cases h)⟩
theorem ty29 : TyOk1 Tryz.prog tyT 29 ⟨.struct [(0, 28)], 1, [.v (.nilIface)], false, 16⟩ := ⟨⟨_, _, rfl, rfl, rfl, rfl, rfl, (fun _ => ⟨_, rfl⟩), (fun h => by cases h)⟩, ⟨_, rfl, rfl⟩, fsOk rfl,
  (fun h => by cases h)⟩
theorem ty30 : TyOk1 Tryz.prog tyT 30 ⟨.struct [(0, 28)], 1, [.v (.nilIface)], false, 16⟩ := ⟨⟨_, _, rfl, rfl, rfl, rfl, rfl, (fun _ => ⟨_, rfl⟩), (fun h => by cases h)⟩, ⟨_, rfl, rfl⟩, fsOk rfl,
  (fun h => by cases h)⟩
theorem ty36 : TyOk1 Tryz.prog tyT 36 ⟨.int .i64, 1, [.v (.int .i64 0)], false, 8⟩ := ⟨⟨_, _, rfl, rfl, rfl, rfl, rfl, (fun h => by cases h), (fun _ => rfl)⟩, rfl, (fun fs h => by cases h),
  (fun h => by cases h)⟩
theorem ty37 : TyOk1 Tryz.prog tyT 37 ⟨.slice 41, 1, [.sl 0 []], false, 24⟩ := ⟨⟨_, _, rfl, rfl, rfl, rfl, rfl, (fun h => by cases h), (fun _ => rfl)⟩, rfl, (fun fs h => by cases h),
  (fun h => by cases h)⟩
theorem ty38 : TyOk1 Tryz.prog tyT 38 ⟨.slice 9, 1, [.sl 0 []], false, 24⟩ := ⟨⟨_, _, rfl, rfl, rfl, rfl, rfl, (fun h => by cases h), (fun _ => rfl)⟩, rfl, (fun fs h => by cases h),
  (fun h => by cases h)⟩
theorem ty39 : TyOk1 Tryz.prog tyT 39 ⟨.arr 2 4, 2, [.v (.bool false), .v (.bool false)], true, 2⟩ := ⟨⟨_, _, rfl, rfl, rfl, rfl, rfl, (fun _ => ⟨_, rfl⟩), (fun h => by cases h)⟩, rfl, (fun fs h => by cases h),
  (fun _ => ⟨(by first | exact Tryz.stoodInHeld39 | kernel_rfl), (by first | exact Tryz.eqGuardType39 | kernel_rfl), (fun fields h => by first | (injection h with h; injection h with h; subst h; simp; done) | (cases h))⟩)⟩
theorem ty40 : TyOk1 Tryz.prog tyT 40 ⟨.struct [(0, 36), (1, 9), (2, 37), (3, 38), (4, 39)], 6, [.v (.int .i64 0), .v (.string ⟨#[]⟩), .sl 0 [], .sl 0 [], .v (.bool false), .v (.bool false)], false, 80⟩ := ⟨⟨_, _, rfl, rfl, rfl, rfl, rfl, (fun _ => ⟨_, rfl⟩), (fun h => by cases h)⟩, ⟨_, rfl, rfl⟩, fsOk rfl,
  (fun h => by cases h)⟩
theorem ty41 : TyOk1 Tryz.prog tyT 41 ⟨.struct [(0, 36), (1, 9), (2, 37), (3, 38), (4, 39)], 6, [.v (.int .i64 0), .v (.string ⟨#[]⟩), .sl 0 [], .sl 0 [], .v (.bool false), .v (.bool false)], false, 80⟩ := ⟨⟨_, _, rfl, rfl, rfl, rfl, rfl, (fun _ => ⟨_, rfl⟩), (fun h => by cases h)⟩, ⟨_, rfl, rfl⟩, fsOk rfl,
  (fun h => by cases h)⟩
theorem ty55 : TyOk1 Tryz.prog tyT 55 ⟨.slice 30, 1, [.sl 0 []], false, 24⟩ := ⟨⟨_, _, rfl, rfl, rfl, rfl, rfl, (fun h => by cases h), (fun _ => rfl)⟩, rfl, (fun fs h => by cases h),
  (fun h => by cases h)⟩
theorem ty58 : TyOk1 Tryz.prog tyT 58 ⟨.int .u64, 1, [.v (.int .u64 0)], false, 8⟩ := ⟨⟨_, _, rfl, rfl, rfl, rfl, rfl, (fun h => by cases h), (fun _ => rfl)⟩, rfl, (fun fs h => by cases h),
  (fun h => by cases h)⟩
theorem ty59 : TyOk1 Tryz.prog tyT 59 ⟨.struct [(0, 58), (1, 58)], 2, [.v (.int .u64 0), .v (.int .u64 0)], true, 16⟩ := ⟨⟨_, _, rfl, rfl, rfl, rfl, rfl, (fun _ => ⟨_, rfl⟩), (fun h => by cases h)⟩, ⟨_, rfl, rfl⟩, fsOk rfl,
  (fun _ => ⟨(by first | exact Tryz.stoodInHeld59 | kernel_rfl), (by first | exact Tryz.eqGuardType59 | kernel_rfl), (fun fields h => by first | (injection h with h; injection h with h; subst h; simp; done) | (cases h))⟩)⟩
theorem ty60 : TyOk1 Tryz.prog tyT 60 ⟨.struct [(0, 58), (1, 58)], 2, [.v (.int .u64 0), .v (.int .u64 0)], true, 16⟩ := ⟨⟨_, _, rfl, rfl, rfl, rfl, rfl, (fun _ => ⟨_, rfl⟩), (fun h => by cases h)⟩, ⟨_, rfl, rfl⟩, fsOk rfl,
  (fun _ => ⟨(by first | exact Tryz.stoodInHeld60 | kernel_rfl), (by first | exact Tryz.eqGuardType60 | kernel_rfl), (fun fields h => by first | (injection h with h; injection h with h; subst h; simp; done) | (cases h))⟩)⟩
theorem ty61 : TyOk1 Tryz.prog tyT 61 ⟨.struct [(0, 4), (1, 60), (3, 3)], 4, [.v (.bool false), .v (.int .u64 0), .v (.int .u64 0), .v (.int .i64 0)], true, 32⟩ := ⟨⟨_, _, rfl, rfl, rfl, rfl, rfl, (fun _ => ⟨_, rfl⟩), (fun h => by cases h)⟩, ⟨_, rfl, rfl⟩, fsOk rfl,
  (fun _ => ⟨(by first | exact Tryz.stoodInHeld61 | kernel_rfl), (by first | exact Tryz.eqGuardType61 | kernel_rfl), (fun fields h => by first | (injection h with h; injection h with h; subst h; simp; done) | (cases h))⟩)⟩
theorem ty62 : TyOk1 Tryz.prog tyT 62 ⟨.struct [(0, 4), (1, 60), (3, 3)], 4, [.v (.bool false), .v (.int .u64 0), .v (.int .u64 0), .v (.int .i64 0)], true, 32⟩ := ⟨⟨_, _, rfl, rfl, rfl, rfl, rfl, (fun _ => ⟨_, rfl⟩), (fun h => by cases h)⟩, ⟨_, rfl, rfl⟩, fsOk rfl,
  (fun _ => ⟨(by first | exact Tryz.stoodInHeld62 | kernel_rfl), (by first | exact Tryz.eqGuardType62 | kernel_rfl), (fun fields h => by first | (injection h with h; injection h with h; subst h; simp; done) | (cases h))⟩)⟩
theorem ty76 : TyOk1 Tryz.prog tyT 76 ⟨.arr 2 30, 2, [.v (.nilIface), .v (.nilIface)], false, 32⟩ := ⟨⟨_, _, rfl, rfl, rfl, rfl, rfl, (fun _ => ⟨_, rfl⟩), (fun h => by cases h)⟩, rfl, (fun fs h => by cases h),
  (fun h => by cases h)⟩
theorem ty77 : TyOk1 Tryz.prog tyT 77 ⟨.struct [(0, 76), (2, 39)], 4, [.v (.nilIface), .v (.nilIface), .v (.bool false), .v (.bool false)], false, 40⟩ := ⟨⟨_, _, rfl, rfl, rfl, rfl, rfl, (fun _ => ⟨_, rfl⟩), (fun h => by cases h)⟩, ⟨_, rfl, rfl⟩, fsOk rfl,
  (fun h => by cases h)⟩
theorem ty78 : TyOk1 Tryz.prog tyT 78 ⟨.struct [(0, 76), (2, 39)], 4, [.v (.nilIface), .v (.nilIface), .v (.bool false), .v (.bool false)], false, 40⟩ := ⟨⟨_, _, rfl, rfl, rfl, rfl, rfl, (fun _ => ⟨_, rfl⟩), (fun h => by cases h)⟩, ⟨_, rfl, rfl⟩, fsOk rfl,
  (fun h => by cases h)⟩
theorem ty85 : TyOk1 Tryz.prog tyT 85 ⟨.struct [(0, 30), (1, 30), (2, 39), (4, 4)], 5, [.v (.nilIface), .v (.nilIface), .v (.bool false), .v (.bool false), .v (.bool false)], false, 40⟩ := ⟨⟨_, _, rfl, rfl, rfl, rfl, rfl, (fun _ => ⟨_, rfl⟩), (fun h => by cases h)⟩, ⟨_, rfl, rfl⟩, fsOk rfl,
  (fun h => by cases h)⟩
theorem ty86 : TyOk1 Tryz.prog tyT 86 ⟨.struct [(0, 30), (1, 30), (2, 39), (4, 4)], 5, [.v (.nilIface), .v (.nilIface), .v (.bool false), .v (.bool false), .v (.bool false)], false, 40⟩ := ⟨⟨_, _, rfl, rfl, rfl, rfl, rfl, (fun _ => ⟨_, rfl⟩), (fun h => by cases h)⟩, ⟨_, rfl, rfl⟩, fsOk rfl,
  (fun h => by cases h)⟩
theorem ty94 : TyOk1 Tryz.prog tyT 94 ⟨.other, 1, [.v (.nilIface)], false, 16⟩ := ⟨⟨_, _, rfl, rfl, rfl, rfl, rfl, (fun h => by cases h), (fun _ => rfl)⟩, ⟨_, rfl, (fun _ h => by cases h), (fun _ _ h => by cases h)⟩, (fun fs h => by cases h),
  (fun h => by cases h)⟩
theorem ty95 : TyOk1 Tryz.prog tyT 95 ⟨.other, 1, [.v (.nilIface)], false, 16⟩ := ⟨⟨_, _, rfl, rfl, rfl, rfl, rfl, (fun h => by cases h), (fun _ => rfl)⟩, ⟨_, rfl, (fun _ h => by cases h), (fun _ _ h => by cases h)⟩, (fun fs h => by cases h),
  (fun h => by cases h)⟩
theorem ty99 : TyOk1 Tryz.prog tyT 99 ⟨.struct [(0, 4), (1, 60), (3, 60), (5, 3), (6, 4)], 7, [.v (.bool false), .v (.int .u64 0), .v (.int .u64 0), .v (.int .u64 0), .v (.int .u64 0), .v (.int .i64 0), .v (.bool false)], true, 56⟩ := ⟨⟨_, _, rfl, rfl, rfl, rfl, rfl, (fun _ => ⟨_, rfl⟩), (fun h => by cases h)⟩, ⟨_, rfl, rfl⟩, fsOk rfl,
  (fun _ => ⟨(by first | exact Tryz.stoodInHeld99 | kernel_rfl), (by first | exact Tryz.eqGuardType99 | kernel_rfl), (fun fields h => by first | (injection h with h; injection h with h; subst h; simp; done) | (cases h))⟩)⟩
theorem ty100 : TyOk1 Tryz.prog tyT 100 ⟨.struct [(0, 4), (1, 60), (3, 60), (5, 3), (6, 4)], 7, [.v (.bool false), .v (.int .u64 0), .v (.int .u64 0), .v (.int .u64 0), .v (.int .u64 0), .v (.int .i64 0), .v (.bool false)], true, 56⟩ := ⟨⟨_, _, rfl, rfl, rfl, rfl, rfl, (fun _ => ⟨_, rfl⟩), (fun h => by cases h)⟩, ⟨_, rfl, rfl⟩, fsOk rfl,
  (fun _ => ⟨(by first | exact Tryz.stoodInHeld100 | kernel_rfl), (by first | exact Tryz.eqGuardType100 | kernel_rfl), (fun fields h => by first | (injection h with h; injection h with h; subst h; simp; done) | (cases h))⟩)⟩
theorem ty104 : TyOk1 Tryz.prog tyT 104 ⟨.int .i64, 1, [.v (.int .i64 0)], false, 8⟩ := ⟨⟨_, _, rfl, rfl, rfl, rfl, rfl, (fun h => by cases h), (fun _ => rfl)⟩, rfl, (fun fs h => by cases h),
  (fun h => by cases h)⟩
theorem ty105 : TyOk1 Tryz.prog tyT 105 ⟨.slice 30, 1, [.sl 0 []], false, 24⟩ := ⟨⟨_, _, rfl, rfl, rfl, rfl, rfl, (fun h => by cases h), (fun _ => rfl)⟩, rfl, (fun fs h => by cases h),
  (fun h => by cases h)⟩
theorem ty107 : TyOk1 Tryz.prog tyT 107 ⟨.struct [(0, 4), (1, 60), (3, 3)], 4, [.v (.bool false), .v (.int .u64 0), .v (.int .u64 0), .v (.int .i64 0)], true, 32⟩ := ⟨⟨_, _, rfl, rfl, rfl, rfl, rfl, (fun _ => ⟨_, rfl⟩), (fun h => by cases h)⟩, ⟨_, rfl, rfl⟩, fsOk rfl,
  (fun _ => ⟨(by first | exact Tryz.stoodInHeld107 | kernel_rfl), (by first | exact Tryz.eqGuardType107 | kernel_rfl), (fun fields h => by first | (injection h with h; injection h with h; subst h; simp; done) | (cases h))⟩)⟩
theorem ty108 : TyOk1 Tryz.prog tyT 108 ⟨.str, 1, [.v (.string ⟨#[]⟩)], false, 16⟩ := ⟨⟨_, _, rfl, rfl, rfl, rfl, rfl, (fun h => by cases h), (fun _ => rfl)⟩, rfl, (fun fs h => by cases h),
  (fun h => by cases h)⟩
theorem ty109 : TyOk1 Tryz.prog tyT 109 ⟨.bool, 1, [.v (.bool false)], false, 1⟩ := ⟨⟨_, _, rfl, rfl, rfl, rfl, rfl, (fun h => by cases h), (fun _ => rfl)⟩, rfl, (fun fs h => by cases h),
  (fun h => by cases h)⟩
theorem ty123 : TyOk1 Tryz.prog tyT 123 ⟨.struct [(0, 3), (1, 3), (2, 3)], 3, [.v (.int .i64 0), .v (.int .i64 0), .v (.int .i64 0)], true, 24⟩ := ⟨⟨_, _, rfl, rfl, rfl, rfl, rfl, (fun _ => ⟨_, rfl⟩), (fun h => by cases h)⟩, ⟨_, rfl, rfl⟩, fsOk rfl,
  (fun _ => ⟨(by first | exact Tryz.stoodInHeld123 | kernel_rfl), (by first | exact Tryz.eqGuardType123 | kernel_rfl), (fun fields h => by first | (injection h with h; injection h with h; subst h; simp; done) | (cases h))⟩)⟩
theorem ty124 : TyOk1 Tryz.prog tyT 124 ⟨.struct [(0, 3), (1, 3), (2, 3)], 3, [.v (.int .i64 0), .v (.int .i64 0), .v (.int .i64 0)], true, 24⟩ := ⟨⟨_, _, rfl, rfl, rfl, rfl, rfl, (fun _ => ⟨_, rfl⟩), (fun h => by cases h)⟩, ⟨_, rfl, rfl⟩, fsOk rfl,
  (fun _ => ⟨(by first | exact Tryz.stoodInHeld124 | kernel_rfl), (by first | exact Tryz.eqGuardType124 | kernel_rfl), (fun fields h => by first | (injection h with h; injection h with h; subst h; simp; done) | (cases h))⟩)⟩
theorem ty128 : TyOk1 Tryz.prog tyT 128 ⟨.struct [(0, 3), (1, 4), (2, 3)], 3, [.v (.int .i64 0), .v (.bool false), .v (.int .i64 0)], true, 24⟩ := ⟨⟨_, _, rfl, rfl, rfl, rfl, rfl, (fun _ => ⟨_, rfl⟩), (fun h => by cases h)⟩, ⟨_, rfl, rfl⟩, fsOk rfl,
  (fun _ => ⟨(by first | exact Tryz.stoodInHeld128 | kernel_rfl), (by first | exact Tryz.eqGuardType128 | kernel_rfl), (fun fields h => by first | (injection h with h; injection h with h; subst h; simp; done) | (cases h))⟩)⟩
theorem ty129 : TyOk1 Tryz.prog tyT 129 ⟨.struct [(0, 3), (1, 4), (2, 3)], 3, [.v (.int .i64 0), .v (.bool false), .v (.int .i64 0)], true, 24⟩ := ⟨⟨_, _, rfl, rfl, rfl, rfl, rfl, (fun _ => ⟨_, rfl⟩), (fun h => by cases h)⟩, ⟨_, rfl, rfl⟩, fsOk rfl,
  (fun _ => ⟨(by first | exact Tryz.stoodInHeld129 | kernel_rfl), (by first | exact Tryz.eqGuardType129 | kernel_rfl), (fun fields h => by first | (injection h with h; injection h with h; subst h; simp; done) | (cases h))⟩)⟩
theorem ty133 : TyOk1 Tryz.prog tyT 133 ⟨.struct [(0, 124), (3, 129)], 6, [.v (.int .i64 0), .v (.int .i64 0), .v (.int .i64 0), .v (.int .i64 0), .v (.bool false), .v (.int .i64 0)], true, 48⟩ := ⟨⟨_, _, rfl, rfl, rfl, rfl, rfl, (fun _ => ⟨_, rfl⟩), (fun h => by cases h)⟩, ⟨_, rfl, rfl⟩, fsOk rfl,
  (fun _ => ⟨(by first | exact Tryz.stoodInHeld133 | kernel_rfl), (by first | exact Tryz.eqGuardType133 | kernel_rfl), (fun fields h => by first | (injection h with h; injection h with h; subst h; simp; done) | (cases h))⟩)⟩
theorem ty134 : TyOk1 Tryz.prog tyT 134 ⟨.struct [(0, 124), (3, 129)], 6, [.v (.int .i64 0), .v (.int .i64 0), .v (.int .i64 0), .v (.int .i64 0), .v (.bool false), .v (.int .i64 0)], true, 48⟩ := ⟨⟨_, _, rfl, rfl, rfl, rfl, rfl, (fun _ => ⟨_, rfl⟩), (fun h => by cases h)⟩, ⟨_, rfl, rfl⟩, fsOk rfl,
  (fun _ => ⟨(by first | exact Tryz.stoodInHeld134 | kernel_rfl), (by first | exact Tryz.eqGuardType134 | kernel_rfl), (fun fields h => by first | (injection h with h; injection h with h; subst h; simp; done) | (cases h))⟩)⟩
theorem ty146 : TyOk1 Tryz.prog tyT 146 ⟨.other, 1, [.v (.pointer none)], false, 8⟩ := ⟨⟨_, _, rfl, rfl, rfl, rfl, rfl, (fun h => by cases h), (fun _ => rfl)⟩, ⟨_, rfl, (fun _ h => by cases h), (fun _ _ h => by cases h)⟩, (fun fs h => by cases h),
  (fun h => by cases h)⟩
theorem ty156 : TyOk1 Tryz.prog tyT 156 ⟨.struct [(0, 5), (1, 5)], 2, [.v (.int .u8 0), .v (.int .u8 0)], true, 2⟩ := ⟨⟨_, _, rfl, rfl, rfl, rfl, rfl, (fun _ => ⟨_, rfl⟩), (fun h => by cases h)⟩, ⟨_, rfl, rfl⟩, fsOk rfl,
  (fun _ => ⟨(by first | exact Tryz.stoodInHeld156 | kernel_rfl), (by first | exact Tryz.eqGuardType156 | kernel_rfl), (fun fields h => by first | (injection h with h; injection h with h; subst h; simp; done) | (cases h))⟩)⟩
theorem ty157 : TyOk1 Tryz.prog tyT 157 ⟨.struct [(0, 5), (1, 5)], 2, [.v (.int .u8 0), .v (.int .u8 0)], true, 2⟩ := ⟨⟨_, _, rfl, rfl, rfl, rfl, rfl, (fun _ => ⟨_, rfl⟩), (fun h => by cases h)⟩, ⟨_, rfl, rfl⟩, fsOk rfl,
  (fun _ => ⟨(by first | exact Tryz.stoodInHeld157 | kernel_rfl), (by first | exact Tryz.eqGuardType157 | kernel_rfl), (fun fields h => by first | (injection h with h; injection h with h; subst h; simp; done) | (cases h))⟩)⟩
theorem ty158 : TyOk1 Tryz.prog tyT 158 ⟨.arr 16 157, 32, [.v (.int .u8 0), .v (.int .u8 0), .v (.int .u8 0), .v (.int .u8 0), .v (.int .u8 0), .v (.int .u8 0), .v (.int .u8 0), .v (.int .u8 0), .v (.int .u8 0), .v (.int .u8 0), .v (.int .u8 0), .v (.int .u8 0), .v (.int .u8 0), .v (.int .u8 0), .v (.int .u8 0), .v (.int .u8 0), .v (.int .u8 0), .v (.int .u8 0), .v (.int .u8 0), .v (.int .u8 0), .v (.int .u8 0), .v (.int .u8 0), .v (.int .u8 0), .v (.int .u8 0), .v (.int .u8 0), .v (.int .u8 0), .v (.int .u8 0), .v (.int .u8 0), .v (.int .u8 0), .v (.int .u8 0), .v (.int .u8 0), .v (.int .u8 0)], false, 32⟩ := ⟨⟨_, _, rfl, rfl, rfl, rfl, rfl, (fun _ => ⟨_, rfl⟩), (fun h => by cases h)⟩, rfl, (fun fs h => by cases h),
  (fun h => by cases h)⟩
theorem ty159 : TyOk1 Tryz.prog tyT 159 ⟨.int .u64, 1, [.v (.int .u64 0)], false, 8⟩ := ⟨⟨_, _, rfl, rfl, rfl, rfl, rfl, (fun h => by cases h), (fun _ => rfl)⟩, rfl, (fun fs h => by cases h),
  (fun h => by cases h)⟩
theorem ty168 : TyOk1 Tryz.prog tyT 168 ⟨.struct [(0, 38), (1, 55)], 2, [.sl 0 [], .sl 0 []], false, 48⟩ := ⟨⟨_, _, rfl, rfl, rfl, rfl, rfl, (fun _ => ⟨_, rfl⟩), (fun h => by cases h)⟩, ⟨_, rfl, rfl⟩, fsOk rfl,
  (fun h => by cases h)⟩
theorem ty169 : TyOk1 Tryz.prog tyT 169 ⟨.struct [(0, 38), (1, 55)], 2, [.sl 0 [], .sl 0 []], false, 48⟩ := ⟨⟨_, _, rfl, rfl, rfl, rfl, rfl, (fun _ => ⟨_, rfl⟩), (fun h => by cases h)⟩, ⟨_, rfl, rfl⟩, fsOk rfl,
  (fun h => by cases h)⟩
theorem ty180 : TyOk1 Tryz.prog tyT 180 ⟨.struct [(0, 3), (1, 3), (2, 3)], 3, [.v (.int .i64 0), .v (.int .i64 0), .v (.int .i64 0)], true, 24⟩ := ⟨⟨_, _, rfl, rfl, rfl, rfl, rfl, (fun _ => ⟨_, rfl⟩), (fun h => by cases h)⟩, ⟨_, rfl, rfl⟩, fsOk rfl,
  (fun _ => ⟨(by first | exact Tryz.stoodInHeld180 | kernel_rfl), (by first | exact Tryz.eqGuardType180 | kernel_rfl), (fun fields h => by first | (injection h with h; injection h with h; subst h; simp; done) | (cases h))⟩)⟩
theorem ty182 : TyOk1 Tryz.prog tyT 182 ⟨.arr 2 3, 2, [.v (.int .i64 0), .v (.int .i64 0)], false, 16⟩ := ⟨⟨_, _, rfl, rfl, rfl, rfl, rfl, (fun _ => ⟨_, rfl⟩), (fun h => by cases h)⟩, rfl, (fun fs h => by cases h),
  (fun h => by cases h)⟩
theorem ty183 : TyOk1 Tryz.prog tyT 183 ⟨.slice 182, 1, [.sl 0 []], false, 24⟩ := ⟨⟨_, _, rfl, rfl, rfl, rfl, rfl, (fun h => by cases h), (fun _ => rfl)⟩, rfl, (fun fs h => by cases h),
  (fun h => by cases h)⟩
theorem ty184 : TyOk1 Tryz.prog tyT 184 ⟨.struct [(0, 3), (1, 4), (2, 3)], 3, [.v (.int .i64 0), .v (.bool false), .v (.int .i64 0)], true, 24⟩ := ⟨⟨_, _, rfl, rfl, rfl, rfl, rfl, (fun _ => ⟨_, rfl⟩), (fun h => by cases h)⟩, ⟨_, rfl, rfl⟩, fsOk rfl,
  (fun _ => ⟨(by first | exact Tryz.stoodInHeld184 | kernel_rfl), (by first | exact Tryz.eqGuardType184 | kernel_rfl), (fun fields h => by first | (injection h with h; injection h with h; subst h; simp; done) | (cases h))⟩)⟩
theorem ty186 : TyOk1 Tryz.prog tyT 186 ⟨.struct [(0, 124), (3, 129)], 6, [.v (.int .i64 0), .v (.int .i64 0), .v (.int .i64 0), .v (.int .i64 0), .v (.bool false), .v (.int .i64 0)], true, 48⟩ := ⟨⟨_, _, rfl, rfl, rfl, rfl, rfl, (fun _ => ⟨_, rfl⟩), (fun h => by cases h)⟩, ⟨_, rfl, rfl⟩, fsOk rfl,
  (fun _ => ⟨(by first | exact Tryz.stoodInHeld186 | kernel_rfl), (by first | exact Tryz.eqGuardType186 | kernel_rfl), (fun fields h => by first | (injection h with h; injection h with h; subst h; simp; done) | (cases h))⟩)⟩
theorem ty190 : TyOk1 Tryz.prog tyT 190 ⟨.int .i64, 1, [.v (.int .i64 0)], false, 8⟩ := ⟨⟨_, _, rfl, rfl, rfl, rfl, rfl, (fun h => by cases h), (fun _ => rfl)⟩, rfl, (fun fs h => by cases h),
  (fun h => by cases h)⟩
theorem ty191 : TyOk1 Tryz.prog tyT 191 ⟨.slice 5, 1, [.sl 0 []], false, 24⟩ := ⟨⟨_, _, rfl, rfl, rfl, rfl, rfl, (fun h => by cases h), (fun _ => rfl)⟩, rfl, (fun fs h => by cases h),
  (fun h => by cases h)⟩
theorem ty194 : TyOk1 Tryz.prog tyT 194 ⟨.other, 1, [.v (.pointer none)], false, 8⟩ := ⟨⟨_, _, rfl, rfl, rfl, rfl, rfl, (fun h => by cases h), (fun _ => rfl)⟩, ⟨_, rfl, (fun _ h => by cases h), (fun _ _ h => by cases h)⟩, (fun fs h => by cases h),
  (fun h => by cases h)⟩
theorem ty216 : TyOk1 Tryz.prog tyT 216 ⟨.slice 3, 1, [.sl 0 []], false, 24⟩ := ⟨⟨_, _, rfl, rfl, rfl, rfl, rfl, (fun h => by cases h), (fun _ => rfl)⟩, rfl, (fun fs h => by cases h),
  (fun h => by cases h)⟩
theorem ty226 : TyOk1 Tryz.prog tyT 226 ⟨.int .i64, 1, [.v (.int .i64 0)], false, 8⟩ := ⟨⟨_, _, rfl, rfl, rfl, rfl, rfl, (fun h => by cases h), (fun _ => rfl)⟩, rfl, (fun fs h => by cases h),
  (fun h => by cases h)⟩
theorem ty227 : TyOk1 Tryz.prog tyT 227 ⟨.int .i64, 1, [.v (.int .i64 0)], false, 8⟩ := ⟨⟨_, _, rfl, rfl, rfl, rfl, rfl, (fun h => by cases h), (fun _ => rfl)⟩, rfl, (fun fs h => by cases h),
  (fun h => by cases h)⟩
theorem ty238 : TyOk1 Tryz.prog tyT 238 ⟨.struct [(0, 9), (1, 9), (2, 95)], 3, [.v (.string ⟨#[]⟩), .v (.string ⟨#[]⟩), .v (.nilIface)], false, 48⟩ := ⟨⟨_, _, rfl, rfl, rfl, rfl, rfl, (fun _ => ⟨_, rfl⟩), (fun h => by cases h)⟩, ⟨_, rfl, rfl⟩, fsOk rfl,
  (fun h => by cases h)⟩
theorem ty239 : TyOk1 Tryz.prog tyT 239 ⟨.struct [(0, 9), (1, 9), (2, 95)], 3, [.v (.string ⟨#[]⟩), .v (.string ⟨#[]⟩), .v (.nilIface)], false, 48⟩ := ⟨⟨_, _, rfl, rfl, rfl, rfl, rfl, (fun _ => ⟨_, rfl⟩), (fun h => by cases h)⟩, ⟨_, rfl, rfl⟩, fsOk rfl,
  (fun h => by cases h)⟩
theorem ty243 : TyOk1 Tryz.prog tyT 243 ⟨.arr 4 58, 4, [.v (.int .u64 0), .v (.int .u64 0), .v (.int .u64 0), .v (.int .u64 0)], false, 32⟩ := ⟨⟨_, _, rfl, rfl, rfl, rfl, rfl, (fun _ => ⟨_, rfl⟩), (fun h => by cases h)⟩, rfl, (fun fs h => by cases h),
  (fun h => by cases h)⟩
theorem ty249 : TyOk1 Tryz.prog tyT 249 ⟨.int .u32, 1, [.v (.int .u32 0)], false, 4⟩ := ⟨⟨_, _, rfl, rfl, rfl, rfl, rfl, (fun h => by cases h), (fun _ => rfl)⟩, rfl, (fun fs h => by cases h),
  (fun h => by cases h)⟩
theorem ty253 : TyOk1 Tryz.prog tyT 253 ⟨.other, 1, [.v (.pointer none)], false, 8⟩ := ⟨⟨_, _, rfl, rfl, rfl, rfl, rfl, (fun h => by cases h), (fun _ => rfl)⟩, ⟨_, rfl, (fun _ h => by cases h), (fun _ _ h => by cases h)⟩, (fun fs h => by cases h),
  (fun h => by cases h)⟩
theorem ty254 : TyOk1 Tryz.prog tyT 254 ⟨.other, 1, [.v (.pointer none)], false, 8⟩ := ⟨⟨_, _, rfl, rfl, rfl, rfl, rfl, (fun h => by cases h), (fun _ => rfl)⟩, ⟨_, rfl, (fun _ h => by cases h), (fun _ _ h => by cases h)⟩, (fun fs h => by cases h),
  (fun h => by cases h)⟩
theorem ty255 : TyOk1 Tryz.prog tyT 255 ⟨.struct [(0, 9)], 1, [.v (.string ⟨#[]⟩)], true, 16⟩ := ⟨⟨_, _, rfl, rfl, rfl, rfl, rfl, (fun _ => ⟨_, rfl⟩), (fun h => by cases h)⟩, ⟨_, rfl, rfl⟩, fsOk rfl,
  (fun _ => ⟨(by first | exact Tryz.stoodInHeld255 | kernel_rfl), (by first | exact Tryz.eqGuardType255 | kernel_rfl), (fun fields h => by first | (injection h with h; injection h with h; subst h; simp; done) | (cases h))⟩)⟩
theorem ty256 : TyOk1 Tryz.prog tyT 256 ⟨.struct [(0, 9)], 1, [.v (.string ⟨#[]⟩)], true, 16⟩ := ⟨⟨_, _, rfl, rfl, rfl, rfl, rfl, (fun _ => ⟨_, rfl⟩), (fun h => by cases h)⟩, ⟨_, rfl, rfl⟩, fsOk rfl,
  (fun _ => ⟨(by first | exact Tryz.stoodInHeld256 | kernel_rfl), (by first | exact Tryz.eqGuardType256 | kernel_rfl), (fun fields h => by first | (injection h with h; injection h with h; subst h; simp; done) | (cases h))⟩)⟩
theorem ty261 : TyOk1 Tryz.prog tyT 261 ⟨.arr 24 5, 24, [.v (.int .u8 0), .v (.int .u8 0), .v (.int .u8 0), .v (.int .u8 0), .v (.int .u8 0), .v (.int .u8 0), .v (.int .u8 0), .v (.int .u8 0), .v (.int .u8 0), .v (.int .u8 0), .v (.int .u8 0), .v (.int .u8 0), .v (.int .u8 0), .v (.int .u8 0), .v (.int .u8 0), .v (.int .u8 0), .v (.int .u8 0), .v (.int .u8 0), .v (.int .u8 0), .v (.int .u8 0), .v (.int .u8 0), .v (.int .u8 0), .v (.int .u8 0), .v (.int .u8 0)], false, 24⟩ := ⟨⟨_, _, rfl, rfl, rfl, rfl, rfl, (fun _ => ⟨_, rfl⟩), (fun h => by cases h)⟩, rfl, (fun fs h => by cases h),
  (fun h => by cases h)⟩
theorem ty266 : TyOk1 Tryz.prog tyT 266 ⟨.arr 20 58, 20, [.v (.int .u64 0), .v (.int .u64 0), .v (.int .u64 0), .v (.int .u64 0), .v (.int .u64 0), .v (.int .u64 0), .v (.int .u64 0), .v (.int .u64 0), .v (.int .u64 0), .v (.int .u64 0), .v (.int .u64 0), .v (.int .u64 0), .v (.int .u64 0), .v (.int .u64 0), .v (.int .u64 0), .v (.int .u64 0), .v (.int .u64 0), .v (.int .u64 0), .v (.int .u64 0), .v (.int .u64 0)], false, 160⟩ := ⟨⟨_, _, rfl, rfl, rfl, rfl, rfl, (fun _ => ⟨_, rfl⟩), (fun h => by cases h)⟩, rfl, (fun fs h => by cases h),
  (fun h => by cases h)⟩
theorem ty270 : TyOk1 Tryz.prog tyT 270 ⟨.arr 32 5, 32, [.v (.int .u8 0), .v (.int .u8 0), .v (.int .u8 0), .v (.int .u8 0), .v (.int .u8 0), .v (.int .u8 0), .v (.int .u8 0), .v (.int .u8 0), .v (.int .u8 0), .v (.int .u8 0), .v (.int .u8 0), .v (.int .u8 0), .v (.int .u8 0), .v (.int .u8 0), .v (.int .u8 0), .v (.int .u8 0), .v (.int .u8 0), .v (.int .u8 0), .v (.int .u8 0), .v (.int .u8 0), .v (.int .u8 0), .v (.int .u8 0), .v (.int .u8 0), .v (.int .u8 0), .v (.int .u8 0), .v (.int .u8 0), .v (.int .u8 0), .v (.int .u8 0), .v (.int .u8 0), .v (.int .u8 0), .v (.int .u8 0), .v (.int .u8 0)], false, 32⟩ := ⟨⟨_, _, rfl, rfl, rfl, rfl, rfl, (fun _ => ⟨_, rfl⟩), (fun h => by cases h)⟩, rfl, (fun fs h => by cases h),
  (fun h => by cases h)⟩
theorem ty271 : TyOk1 Tryz.prog tyT 271 ⟨.arr 64 5, 64, [.v (.int .u8 0), .v (.int .u8 0), .v (.int .u8 0), .v (.int .u8 0), .v (.int .u8 0), .v (.int .u8 0), .v (.int .u8 0), .v (.int .u8 0), .v (.int .u8 0), .v (.int .u8 0), .v (.int .u8 0), .v (.int .u8 0), .v (.int .u8 0), .v (.int .u8 0), .v (.int .u8 0), .v (.int .u8 0), .v (.int .u8 0), .v (.int .u8 0), .v (.int .u8 0), .v (.int .u8 0), .v (.int .u8 0), .v (.int .u8 0), .v (.int .u8 0), .v (.int .u8 0), .v (.int .u8 0), .v (.int .u8 0), .v (.int .u8 0), .v (.int .u8 0), .v (.int .u8 0), .v (.int .u8 0), .v (.int .u8 0), .v (.int .u8 0), .v (.int .u8 0), .v (.int .u8 0), .v (.int .u8 0), .v (.int .u8 0), .v (.int .u8 0), .v (.int .u8 0), .v (.int .u8 0), .v (.int .u8 0), .v (.int .u8 0), .v (.int .u8 0), .v (.int .u8 0), .v (.int .u8 0), .v (.int .u8 0), .v (.int .u8 0), .v (.int .u8 0), .v (.int .u8 0), .v (.int .u8 0), .v (.int .u8 0), .v (.int .u8 0), .v (.int .u8 0), .v (.int .u8 0), .v (.int .u8 0), .v (.int .u8 0), .v (.int .u8 0), .v (.int .u8 0), .v (.int .u8 0), .v (.int .u8 0), .v (.int .u8 0), .v (.int .u8 0), .v (.int .u8 0), .v (.int .u8 0), .v (.int .u8 0)], false, 64⟩ := ⟨⟨_, _, rfl, rfl, rfl, rfl, rfl, (fun _ => ⟨_, rfl⟩), (fun h => by cases h)⟩, rfl, (fun fs h => by cases h),
  (fun h => by cases h)⟩
theorem ty273 : TyOk1 Tryz.prog tyT 273 ⟨.struct [(0, 17), (1, 17), (2, 17), (3, 9)], 4, [.v (.pointer none), .v (.pointer none), .v (.pointer none), .v (.string ⟨#[]⟩)], false, 40⟩ := ⟨⟨_, _, rfl, rfl, rfl, rfl, rfl, (fun _ => ⟨_, rfl⟩), (fun h => by cases h)⟩, ⟨_, rfl, rfl⟩, fsOk rfl,
  (fun h => by cases h)⟩
theorem ty274 : TyOk1 Tryz.prog tyT 274 ⟨.struct [(0, 17), (1, 17), (2, 17), (3, 9)], 4, [.v (.pointer none), .v (.pointer none), .v (.pointer none), .v (.string ⟨#[]⟩)], false, 40⟩ := ⟨⟨_, _, rfl, rfl, rfl, rfl, rfl, (fun _ => ⟨_, rfl⟩), (fun h => by cases h)⟩, ⟨_, rfl, rfl⟩, fsOk rfl,
  (fun h => by cases h)⟩
theorem ty275 : TyOk1 Tryz.prog tyT 275 ⟨.arr 0 16, 0, [], false, 0⟩ := ⟨⟨_, _, rfl, rfl, rfl, rfl, rfl, (fun _ => ⟨_, rfl⟩), (fun h => by cases h)⟩, rfl, (fun fs h => by cases h),
  (fun h => by cases h)⟩
theorem ty276 : TyOk1 Tryz.prog tyT 276 ⟨.struct [(0, 275)], 0, [], false, 0⟩ := ⟨⟨_, _, rfl, rfl, rfl, rfl, rfl, (fun _ => ⟨_, rfl⟩), (fun h => by cases h)⟩, ⟨_, rfl, rfl⟩, fsOk rfl,
  (fun h => by cases h)⟩
theorem ty277 : TyOk1 Tryz.prog tyT 277 ⟨.struct [(0, 275)], 0, [], false, 0⟩ := ⟨⟨_, _, rfl, rfl, rfl, rfl, rfl, (fun _ => ⟨_, rfl⟩), (fun h => by cases h)⟩, ⟨_, rfl, rfl⟩, fsOk rfl,
  (fun h => by cases h)⟩
theorem ty278 : TyOk1 Tryz.prog tyT 278 ⟨.int .u8, 1, [.v (.int .u8 0)], false, 1⟩ := ⟨⟨_, _, rfl, rfl, rfl, rfl, rfl, (fun h => by cases h), (fun _ => rfl)⟩, rfl, (fun fs h => by cases h),
  (fun h => by cases h)⟩
theorem ty279 : TyOk1 Tryz.prog tyT 279 ⟨.int .u8, 1, [.v (.int .u8 0)], false, 1⟩ := ⟨⟨_, _, rfl, rfl, rfl, rfl, rfl, (fun h => by cases h), (fun _ => rfl)⟩, rfl, (fun fs h => by cases h),
  (fun h => by cases h)⟩
theorem ty281 : TyOk1 Tryz.prog tyT 281 ⟨.int .i32, 1, [.v (.int .i32 0)], false, 4⟩ := ⟨⟨_, _, rfl, rfl, rfl, rfl, rfl, (fun h => by cases h), (fun _ => rfl)⟩, rfl, (fun fs h => by cases h),
  (fun h => by cases h)⟩
theorem ty282 : TyOk1 Tryz.prog tyT 282 ⟨.int .i32, 1, [.v (.int .i32 0)], false, 4⟩ := ⟨⟨_, _, rfl, rfl, rfl, rfl, rfl, (fun h => by cases h), (fun _ => rfl)⟩, rfl, (fun fs h => by cases h),
  (fun h => by cases h)⟩
theorem ty285 : TyOk1 Tryz.prog tyT 285 ⟨.other, 1, [.v (.pointer none)], false, 8⟩ := ⟨⟨_, _, rfl, rfl, rfl, rfl, rfl, (fun h => by cases h), (fun _ => rfl)⟩, ⟨_, rfl, (fun _ h => by cases h), (fun _ _ h => by cases h)⟩, (fun fs h => by cases h),
  (fun h => by cases h)⟩
theorem tyOk : TyOk Tryz.prog tyT := tyOk_of (by
  simp only [tyL, List.forall_mem_cons, List.not_mem_nil, false_implies, implies_true, and_true]
  exact ⟨ty2, ty3, ty4, ty5, ty6, ty7, ty8, ty9, ty10, ty11, ty12, ty13, ty14, ty15, ty16, ty17, ty18, ty19, ty20, ty21, ty23, ty27, ty28, ty29, ty30, ty36, ty37, ty38, ty39, ty40, ty41, ty55, ty58, ty59, ty60, ty61, ty62, ty76, ty77, ty78, ty85, ty86, ty94, ty95, ty99, ty100, ty104, ty105, ty107, ty108, ty109, ty123, ty124, ty128, ty129, ty133, ty134, ty146, ty156, ty157, ty158, ty159, ty168, ty169, ty180, ty182, ty183, ty184, ty186, ty190, ty191, ty194, ty216, ty226, ty227, ty238, ty239, ty243, ty249, ty253, ty254, ty255, ty256, ty261, ty266, ty270, ty271, ty273, ty274, ty275, ty276, ty277, ty278, ty279, ty281, ty282, ty285⟩)
end Go.Proofs.YtpambeengdhhmaaGreatDoor
