/-
  The types of the program, as the reckoning asks for them: printed by wip/TyGen.lean.
-/
import Derived.Test.YtiafmdfegmimdaaVcV
namespace Go.Proofs.Ytiafmdfegmimdaa
set_option linter.unusedVariables false
set_option maxRecDepth 100000
def tyL : List (Nat × TI) := [
  (1, ⟨.other, 1, [.v (.nilFunc)], false, 8⟩),
  (2, ⟨.int .i64, 1, [.v (.int .i64 0)], false, 8⟩),
  (3, ⟨.int .i64, 1, [.v (.int .i64 0)], false, 8⟩),
  (4, ⟨.bool, 1, [.v (.bool false)], false, 1⟩),
  (5, ⟨.int .u8, 1, [.v (.int .u8 0)], false, 1⟩),
  (6, ⟨.int .u8, 1, [.v (.int .u8 0)], false, 1⟩),
  (7, ⟨.struct [(0, 2), (1, 3), (2, 4), (3, 6)], 4, [.v (.int .i64 0), .v (.int .i64 0), .v (.bool false), .v (.int .u8 0)], true, 24⟩),
  (8, ⟨.struct [(0, 2), (1, 3), (2, 4), (3, 6)], 4, [.v (.int .i64 0), .v (.int .i64 0), .v (.bool false), .v (.int .u8 0)], true, 24⟩),
  (9, ⟨.str, 1, [.v (.string ⟨#[]⟩)], false, 16⟩),
  (10, ⟨.str, 1, [.v (.string ⟨#[]⟩)], false, 16⟩),
  (11, ⟨.str, 1, [.v (.string ⟨#[]⟩)], false, 16⟩),
  (12, ⟨.int .u64, 1, [.v (.int .u64 0)], false, 8⟩),
  (13, ⟨.struct [(0, 9), (1, 12)], 2, [.v (.string ⟨#[]⟩), .v (.int .u64 0)], false, 24⟩),
  (14, ⟨.struct [(0, 9), (1, 12)], 2, [.v (.string ⟨#[]⟩), .v (.int .u64 0)], false, 24⟩),
  (15, ⟨.other, 1, [.v (.pointer none)], false, 8⟩),
  (16, ⟨.other, 1, [.v (.pointer none)], false, 8⟩),
  (17, ⟨.other, 1, [.v (.pointer none)], false, 8⟩),
  (18, ⟨.struct [(0, 17)], 1, [.v (.pointer none)], false, 8⟩),
  (19, ⟨.struct [(0, 17)], 1, [.v (.pointer none)], false, 8⟩),
  (20, ⟨.other, 1, [.v (.nilIface)], false, 16⟩),
  (21, ⟨.int .i32, 1, [.v (.int .i32 0)], false, 4⟩),
  (22, ⟨.int .u64, 1, [.v (.int .u64 0)], false, 8⟩),
  (23, ⟨.struct [(0, 22), (1, 22)], 2, [.v (.int .u64 0), .v (.int .u64 0)], true, 16⟩),
  (24, ⟨.struct [(0, 22), (1, 22)], 2, [.v (.int .u64 0), .v (.int .u64 0)], true, 16⟩),
  (25, ⟨.other, 1, [.v (.nilFunc)], false, 8⟩),
  (27, ⟨.other, 1, [.v (.nilFunc)], false, 8⟩),
  (28, ⟨.other, 1, [.v (.nilFunc)], false, 8⟩),
  (29, ⟨.slice 3, 1, [.sl 0 []], false, 24⟩),
  (30, ⟨.slice 3, 1, [.sl 0 []], false, 24⟩),
  (31, ⟨.other, 1, [.v (.nilFunc)], false, 8⟩),
  (32, ⟨.other, 1, [.v (.nilFunc)], false, 8⟩),
  (34, ⟨.other, 1, [.v (.nilFunc)], false, 8⟩),
  (35, ⟨.other, 1, [.v (.nilFunc)], false, 8⟩),
  (36, ⟨.other, 1, [.v (.nilFunc)], false, 8⟩),
  (37, ⟨.other, 1, [.v (.nilFunc)], false, 8⟩),
  (38, ⟨.other, 1, [.v (.nilFunc)], false, 8⟩),
  (39, ⟨.other, 1, [.v (.nilFunc)], false, 8⟩),
  (40, ⟨.other, 1, [.v (.nilFunc)], false, 8⟩),
  (41, ⟨.other, 1, [.v (.nilFunc)], false, 8⟩),
  (42, ⟨.other, 1, [.v (.nilFunc)], false, 8⟩),
  (44, ⟨.other, 1, [.v (.nilFunc)], false, 8⟩),
  (46, ⟨.other, 1, [.v (.nilFunc)], false, 8⟩),
  (47, ⟨.other, 1, [.v (.nilFunc)], false, 8⟩),
  (48, ⟨.other, 1, [.v (.nilFunc)], false, 8⟩),
  (50, ⟨.other, 1, [.v (.nilFunc)], false, 8⟩),
  (51, ⟨.other, 1, [.v (.nilFunc)], false, 8⟩),
  (52, ⟨.other, 1, [.v (.nilFunc)], false, 8⟩),
  (53, ⟨.other, 1, [.v (.nilFunc)], false, 8⟩),
  (55, ⟨.other, 1, [.v (.nilFunc)], false, 8⟩),
  (56, ⟨.arr 40 5, 40, [.v (.int .u8 0), .v (.int .u8 0), .v (.int .u8 0), .v (.int .u8 0), .v (.int .u8 0), .v (.int .u8 0), .v (.int .u8 0), .v (.int .u8 0), .v (.int .u8 0), .v (.int .u8 0), .v (.int .u8 0), .v (.int .u8 0), .v (.int .u8 0), .v (.int .u8 0), .v (.int .u8 0), .v (.int .u8 0), .v (.int .u8 0), .v (.int .u8 0), .v (.int .u8 0), .v (.int .u8 0), .v (.int .u8 0), .v (.int .u8 0), .v (.int .u8 0), .v (.int .u8 0), .v (.int .u8 0), .v (.int .u8 0), .v (.int .u8 0), .v (.int .u8 0), .v (.int .u8 0), .v (.int .u8 0), .v (.int .u8 0), .v (.int .u8 0), .v (.int .u8 0), .v (.int .u8 0), .v (.int .u8 0), .v (.int .u8 0), .v (.int .u8 0), .v (.int .u8 0), .v (.int .u8 0), .v (.int .u8 0)], false, 40⟩),
  (58, ⟨.other, 1, [.v (.nilFunc)], false, 8⟩),
  (59, ⟨.slice 5, 1, [.sl 0 []], false, 24⟩),
  (61, ⟨.other, 1, [.v (.nilFunc)], false, 8⟩),
  (62, ⟨.int .u64, 1, [.v (.int .u64 0)], false, 8⟩),
  (63, ⟨.other, 1, [.v (.nilFunc)], false, 8⟩),
  (64, ⟨.other, 1, [.v (.nilFunc)], false, 8⟩),
  (65, ⟨.other, 1, [.v (.nilFunc)], false, 8⟩),
  (66, ⟨.slice 22, 1, [.sl 0 []], false, 24⟩),
  (67, ⟨.other, 1, [.v (.nilFunc)], false, 8⟩),
  (68, ⟨.arr 4 22, 4, [.v (.int .u64 0), .v (.int .u64 0), .v (.int .u64 0), .v (.int .u64 0)], false, 32⟩),
  (69, ⟨.other, 1, [.v (.nilIface)], false, 16⟩),
  (70, ⟨.other, 1, [.v (.nilIface)], false, 16⟩),
  (71, ⟨.other, 1, [.v (.nilFunc)], false, 8⟩),
  (72, ⟨.struct [(0, 17), (1, 17), (2, 17), (3, 9)], 4, [.v (.pointer none), .v (.pointer none), .v (.pointer none), .v (.string ⟨#[]⟩)], false, 40⟩),
  (73, ⟨.struct [(0, 17), (1, 17), (2, 17), (3, 9)], 4, [.v (.pointer none), .v (.pointer none), .v (.pointer none), .v (.string ⟨#[]⟩)], false, 40⟩),
  (74, ⟨.arr 0 16, 0, [], false, 0⟩),
  (75, ⟨.struct [(0, 74)], 0, [], false, 0⟩),
  (76, ⟨.struct [(0, 74)], 0, [], false, 0⟩),
  (77, ⟨.other, 1, [.v (.nilFunc)], false, 8⟩),
  (78, ⟨.int .u32, 1, [.v (.int .u32 0)], false, 4⟩),
  (79, ⟨.int .u8, 1, [.v (.int .u8 0)], false, 1⟩),
  (80, ⟨.int .u8, 1, [.v (.int .u8 0)], false, 1⟩),
  (81, ⟨.other, 1, [.v (.nilFunc)], false, 8⟩),
  (82, ⟨.other, 1, [.v (.pointer none)], false, 8⟩),
  (83, ⟨.int .i32, 1, [.v (.int .i32 0)], false, 4⟩),
  (84, ⟨.int .i32, 1, [.v (.int .i32 0)], false, 4⟩),
  (85, ⟨.struct [(0, 12), (1, 12), (2, 78), (3, 79), (4, 5), (5, 5), (6, 80), (7, 81), (8, 82), (9, 83), (10, 84)], 11, [.v (.int .u64 0), .v (.int .u64 0), .v (.int .u32 0), .v (.int .u8 0), .v (.int .u8 0), .v (.int .u8 0), .v (.int .u8 0), .v (.nilFunc), .v (.pointer none), .v (.int .i32 0), .v (.int .i32 0)], false, 48⟩),
  (86, ⟨.struct [(0, 12), (1, 12), (2, 78), (3, 79), (4, 5), (5, 5), (6, 80), (7, 81), (8, 82), (9, 83), (10, 84)], 11, [.v (.int .u64 0), .v (.int .u64 0), .v (.int .u32 0), .v (.int .u8 0), .v (.int .u8 0), .v (.int .u8 0), .v (.int .u8 0), .v (.nilFunc), .v (.pointer none), .v (.int .i32 0), .v (.int .i32 0)], false, 48⟩),
  (87, ⟨.other, 1, [.v (.pointer none)], false, 8⟩)]
def tyT : TypeId → Option TI := look tyL
theorem ty1 : TyOk1 Try.prog tyT 1 ⟨.other, 1, [.v (.nilFunc)], false, 8⟩ := ⟨⟨_, _, rfl, rfl, rfl, rfl, rfl, (by first | exact (fun _ => ⟨_, rfl⟩) | exact (fun h => by cases h)), (by first | exact (fun _ => rfl) | exact (fun h => by cases h))⟩, ⟨_, rfl, (fun _ h => by cases h), (fun _ _ h => by cases h)⟩, (fun fs h => by cases h),
  (fun h => by cases h)⟩
theorem ty2 : TyOk1 Try.prog tyT 2 ⟨.int .i64, 1, [.v (.int .i64 0)], false, 8⟩ := ⟨⟨_, _, rfl, rfl, rfl, rfl, rfl, (by first | exact (fun _ => ⟨_, rfl⟩) | exact (fun h => by cases h)), (by first | exact (fun _ => rfl) | exact (fun h => by cases h))⟩, rfl, (fun fs h => by cases h),
  (fun h => by cases h)⟩
theorem ty3 : TyOk1 Try.prog tyT 3 ⟨.int .i64, 1, [.v (.int .i64 0)], false, 8⟩ := ⟨⟨_, _, rfl, rfl, rfl, rfl, rfl, (by first | exact (fun _ => ⟨_, rfl⟩) | exact (fun h => by cases h)), (by first | exact (fun _ => rfl) | exact (fun h => by cases h))⟩, rfl, (fun fs h => by cases h),
  (fun h => by cases h)⟩
theorem ty4 : TyOk1 Try.prog tyT 4 ⟨.bool, 1, [.v (.bool false)], false, 1⟩ := ⟨⟨_, _, rfl, rfl, rfl, rfl, rfl, (by first | exact (fun _ => ⟨_, rfl⟩) | exact (fun h => by cases h)), (by first | exact (fun _ => rfl) | exact (fun h => by cases h))⟩, rfl, (fun fs h => by cases h),
  (fun h => by cases h)⟩
theorem ty5 : TyOk1 Try.prog tyT 5 ⟨.int .u8, 1, [.v (.int .u8 0)], false, 1⟩ := ⟨⟨_, _, rfl, rfl, rfl, rfl, rfl, (by first | exact (fun _ => ⟨_, rfl⟩) | exact (fun h => by cases h)), (by first | exact (fun _ => rfl) | exact (fun h => by cases h))⟩, rfl, (fun fs h => by cases h),
  (fun h => by cases h)⟩
theorem ty6 : TyOk1 Try.prog tyT 6 ⟨.int .u8, 1, [.v (.int .u8 0)], false, 1⟩ := ⟨⟨_, _, rfl, rfl, rfl, rfl, rfl, (by first | exact (fun _ => ⟨_, rfl⟩) | exact (fun h => by cases h)), (by first | exact (fun _ => rfl) | exact (fun h => by cases h))⟩, rfl, (fun fs h => by cases h),
  (fun h => by cases h)⟩
theorem ty7 : TyOk1 Try.prog tyT 7 ⟨.struct [(0, 2), (1, 3), (2, 4), (3, 6)], 4, [.v (.int .i64 0), .v (.int .i64 0), .v (.bool false), .v (.int .u8 0)], true, 24⟩ := ⟨⟨_, _, rfl, rfl, rfl, rfl, rfl, (by first | exact (fun _ => ⟨_, rfl⟩) | exact (fun h => by cases h)), (by first | exact (fun _ => rfl) | exact (fun h => by cases h))⟩, ⟨_, rfl, rfl⟩, (fun fs h => by injection h with h; subst h; intro p hp; revert p; simp only [List.forall_mem_cons, List.not_mem_nil, false_implies, implies_true, and_true]; first | rfl | (repeat' apply And.intro) <;> rfl),
  (fun _ => ⟨(by first | exact Try.stoodInHeld7 | kernel_rfl), (by first | exact Try.eqGuardType7 | kernel_rfl), (fun fields h => by injection h with h; injection h with h; subst h; simp)⟩)⟩
theorem ty8 : TyOk1 Try.prog tyT 8 ⟨.struct [(0, 2), (1, 3), (2, 4), (3, 6)], 4, [.v (.int .i64 0), .v (.int .i64 0), .v (.bool false), .v (.int .u8 0)], true, 24⟩ := ⟨⟨_, _, rfl, rfl, rfl, rfl, rfl, (by first | exact (fun _ => ⟨_, rfl⟩) | exact (fun h => by cases h)), (by first | exact (fun _ => rfl) | exact (fun h => by cases h))⟩, ⟨_, rfl, rfl⟩, (fun fs h => by injection h with h; subst h; intro p hp; revert p; simp only [List.forall_mem_cons, List.not_mem_nil, false_implies, implies_true, and_true]; first | rfl | (repeat' apply And.intro) <;> rfl),
  (fun _ => ⟨(by first | exact Try.stoodInHeld8 | kernel_rfl), (by first | exact Try.eqGuardType8 | kernel_rfl), (fun fields h => by injection h with h; injection h with h; subst h; simp)⟩)⟩
theorem ty9 : TyOk1 Try.prog tyT 9 ⟨.str, 1, [.v (.string ⟨#[]⟩)], false, 16⟩ := ⟨⟨_, _, rfl, rfl, rfl, rfl, rfl, (by first | exact (fun _ => ⟨_, rfl⟩) | exact (fun h => by cases h)), (by first | exact (fun _ => rfl) | exact (fun h => by cases h))⟩, rfl, (fun fs h => by cases h),
  (fun h => by cases h)⟩
theorem ty10 : TyOk1 Try.prog tyT 10 ⟨.str, 1, [.v (.string ⟨#[]⟩)], false, 16⟩ := ⟨⟨_, _, rfl, rfl, rfl, rfl, rfl, (by first | exact (fun _ => ⟨_, rfl⟩) | exact (fun h => by cases h)), (by first | exact (fun _ => rfl) | exact (fun h => by cases h))⟩, rfl, (fun fs h => by cases h),
  (fun h => by cases h)⟩
theorem ty11 : TyOk1 Try.prog tyT 11 ⟨.str, 1, [.v (.string ⟨#[]⟩)], false, 16⟩ := ⟨⟨_, _, rfl, rfl, rfl, rfl, rfl, (by first | exact (fun _ => ⟨_, rfl⟩) | exact (fun h => by cases h)), (by first | exact (fun _ => rfl) | exact (fun h => by cases h))⟩, rfl, (fun fs h => by cases h),
  (fun h => by cases h)⟩
theorem ty12 : TyOk1 Try.prog tyT 12 ⟨.int .u64, 1, [.v (.int .u64 0)], false, 8⟩ := ⟨⟨_, _, rfl, rfl, rfl, rfl, rfl, (by first | exact (fun _ => ⟨_, rfl⟩) | exact (fun h => by cases h)), (by first | exact (fun _ => rfl) | exact (fun h => by cases h))⟩, rfl, (fun fs h => by cases h),
  (fun h => by cases h)⟩
theorem ty13 : TyOk1 Try.prog tyT 13 ⟨.struct [(0, 9), (1, 12)], 2, [.v (.string ⟨#[]⟩), .v (.int .u64 0)], false, 24⟩ := ⟨⟨_, _, rfl, rfl, rfl, rfl, rfl, (by first | exact (fun _ => ⟨_, rfl⟩) | exact (fun h => by cases h)), (by first | exact (fun _ => rfl) | exact (fun h => by cases h))⟩, ⟨_, rfl, rfl⟩, (fun fs h => by injection h with h; subst h; intro p hp; revert p; simp only [List.forall_mem_cons, List.not_mem_nil, false_implies, implies_true, and_true]; first | rfl | (repeat' apply And.intro) <;> rfl),
  (fun h => by cases h)⟩
theorem ty14 : TyOk1 Try.prog tyT 14 ⟨.struct [(0, 9), (1, 12)], 2, [.v (.string ⟨#[]⟩), .v (.int .u64 0)], false, 24⟩ := ⟨⟨_, _, rfl, rfl, rfl, rfl, rfl, (by first | exact (fun _ => ⟨_, rfl⟩) | exact (fun h => by cases h)), (by first | exact (fun _ => rfl) | exact (fun h => by cases h))⟩, ⟨_, rfl, rfl⟩, (fun fs h => by injection h with h; subst h; intro p hp; revert p; simp only [List.forall_mem_cons, List.not_mem_nil, false_implies, implies_true, and_true]; first | rfl | (repeat' apply And.intro) <;> rfl),
  (fun h => by cases h)⟩
theorem ty15 : TyOk1 Try.prog tyT 15 ⟨.other, 1, [.v (.pointer none)], false, 8⟩ := ⟨⟨_, _, rfl, rfl, rfl, rfl, rfl, (by first | exact (fun _ => ⟨_, rfl⟩) | exact (fun h => by cases h)), (by first | exact (fun _ => rfl) | exact (fun h => by cases h))⟩, ⟨_, rfl, (fun _ h => by cases h), (fun _ _ h => by cases h)⟩, (fun fs h => by cases h),
  (fun h => by cases h)⟩
theorem ty16 : TyOk1 Try.prog tyT 16 ⟨.other, 1, [.v (.pointer none)], false, 8⟩ := ⟨⟨_, _, rfl, rfl, rfl, rfl, rfl, (by first | exact (fun _ => ⟨_, rfl⟩) | exact (fun h => by cases h)), (by first | exact (fun _ => rfl) | exact (fun h => by cases h))⟩, ⟨_, rfl, (fun _ h => by cases h), (fun _ _ h => by cases h)⟩, (fun fs h => by cases h),
  (fun h => by cases h)⟩
theorem ty17 : TyOk1 Try.prog tyT 17 ⟨.other, 1, [.v (.pointer none)], false, 8⟩ := ⟨⟨_, _, rfl, rfl, rfl, rfl, rfl, (by first | exact (fun _ => ⟨_, rfl⟩) | exact (fun h => by cases h)), (by first | exact (fun _ => rfl) | exact (fun h => by cases h))⟩, ⟨_, rfl, (fun _ h => by cases h), (fun _ _ h => by cases h)⟩, (fun fs h => by cases h),
  (fun h => by cases h)⟩
theorem ty18 : TyOk1 Try.prog tyT 18 ⟨.struct [(0, 17)], 1, [.v (.pointer none)], false, 8⟩ := ⟨⟨_, _, rfl, rfl, rfl, rfl, rfl, (by first | exact (fun _ => ⟨_, rfl⟩) | exact (fun h => by cases h)), (by first | exact (fun _ => rfl) | exact (fun h => by cases h))⟩, ⟨_, rfl, rfl⟩, (fun fs h => by injection h with h; subst h; intro p hp; revert p; simp only [List.forall_mem_cons, List.not_mem_nil, false_implies, implies_true, and_true]; first | rfl | (repeat' apply And.intro) <;> rfl),
  (fun h => by cases h)⟩
theorem ty19 : TyOk1 Try.prog tyT 19 ⟨.struct [(0, 17)], 1, [.v (.pointer none)], false, 8⟩ := ⟨⟨_, _, rfl, rfl, rfl, rfl, rfl, (by first | exact (fun _ => ⟨_, rfl⟩) | exact (fun h => by cases h)), (by first | exact (fun _ => rfl) | exact (fun h => by cases h))⟩, ⟨_, rfl, rfl⟩, (fun fs h => by injection h with h; subst h; intro p hp; revert p; simp only [List.forall_mem_cons, List.not_mem_nil, false_implies, implies_true, and_true]; first | rfl | (repeat' apply And.intro) <;> rfl),
  (fun h => by cases h)⟩
theorem ty20 : TyOk1 Try.prog tyT 20 ⟨.other, 1, [.v (.nilIface)], false, 16⟩ := ⟨⟨_, _, rfl, rfl, rfl, rfl, rfl, (by first | exact (fun _ => ⟨_, rfl⟩) | exact (fun h => by cases h)), (by first | exact (fun _ => rfl) | exact (fun h => by cases h))⟩, ⟨_, rfl, (fun _ h => by cases h), (fun _ _ h => by cases h)⟩, (fun fs h => by cases h),
  (fun h => by cases h)⟩
theorem ty21 : TyOk1 Try.prog tyT 21 ⟨.int .i32, 1, [.v (.int .i32 0)], false, 4⟩ := ⟨⟨_, _, rfl, rfl, rfl, rfl, rfl, (by first | exact (fun _ => ⟨_, rfl⟩) | exact (fun h => by cases h)), (by first | exact (fun _ => rfl) | exact (fun h => by cases h))⟩, rfl, (fun fs h => by cases h),
  (fun h => by cases h)⟩
theorem ty22 : TyOk1 Try.prog tyT 22 ⟨.int .u64, 1, [.v (.int .u64 0)], false, 8⟩ := ⟨⟨_, _, rfl, rfl, rfl, rfl, rfl, (by first | exact (fun _ => ⟨_, rfl⟩) | exact (fun h => by cases h)), (by first | exact (fun _ => rfl) | exact (fun h => by cases h))⟩, rfl, (fun fs h => by cases h),
  (fun h => by cases h)⟩
theorem ty23 : TyOk1 Try.prog tyT 23 ⟨.struct [(0, 22), (1, 22)], 2, [.v (.int .u64 0), .v (.int .u64 0)], true, 16⟩ := ⟨⟨_, _, rfl, rfl, rfl, rfl, rfl, (by first | exact (fun _ => ⟨_, rfl⟩) | exact (fun h => by cases h)), (by first | exact (fun _ => rfl) | exact (fun h => by cases h))⟩, ⟨_, rfl, rfl⟩, (fun fs h => by injection h with h; subst h; intro p hp; revert p; simp only [List.forall_mem_cons, List.not_mem_nil, false_implies, implies_true, and_true]; first | rfl | (repeat' apply And.intro) <;> rfl),
  (fun _ => ⟨(by first | exact Try.stoodInHeld23 | kernel_rfl), (by first | exact Try.eqGuardType23 | kernel_rfl), (fun fields h => by injection h with h; injection h with h; subst h; simp)⟩)⟩
theorem ty24 : TyOk1 Try.prog tyT 24 ⟨.struct [(0, 22), (1, 22)], 2, [.v (.int .u64 0), .v (.int .u64 0)], true, 16⟩ := ⟨⟨_, _, rfl, rfl, rfl, rfl, rfl, (by first | exact (fun _ => ⟨_, rfl⟩) | exact (fun h => by cases h)), (by first | exact (fun _ => rfl) | exact (fun h => by cases h))⟩, ⟨_, rfl, rfl⟩, (fun fs h => by injection h with h; subst h; intro p hp; revert p; simp only [List.forall_mem_cons, List.not_mem_nil, false_implies, implies_true, and_true]; first | rfl | (repeat' apply And.intro) <;> rfl),
  (fun _ => ⟨(by first | exact Try.stoodInHeld24 | kernel_rfl), (by first | exact Try.eqGuardType24 | kernel_rfl), (fun fields h => by injection h with h; injection h with h; subst h; simp)⟩)⟩
theorem ty25 : TyOk1 Try.prog tyT 25 ⟨.other, 1, [.v (.nilFunc)], false, 8⟩ := ⟨⟨_, _, rfl, rfl, rfl, rfl, rfl, (by first | exact (fun _ => ⟨_, rfl⟩) | exact (fun h => by cases h)), (by first | exact (fun _ => rfl) | exact (fun h => by cases h))⟩, ⟨_, rfl, (fun _ h => by cases h), (fun _ _ h => by cases h)⟩, (fun fs h => by cases h),
  (fun h => by cases h)⟩
theorem ty27 : TyOk1 Try.prog tyT 27 ⟨.other, 1, [.v (.nilFunc)], false, 8⟩ := ⟨⟨_, _, rfl, rfl, rfl, rfl, rfl, (by first | exact (fun _ => ⟨_, rfl⟩) | exact (fun h => by cases h)), (by first | exact (fun _ => rfl) | exact (fun h => by cases h))⟩, ⟨_, rfl, (fun _ h => by cases h), (fun _ _ h => by cases h)⟩, (fun fs h => by cases h),
  (fun h => by cases h)⟩
theorem ty28 : TyOk1 Try.prog tyT 28 ⟨.other, 1, [.v (.nilFunc)], false, 8⟩ := ⟨⟨_, _, rfl, rfl, rfl, rfl, rfl, (by first | exact (fun _ => ⟨_, rfl⟩) | exact (fun h => by cases h)), (by first | exact (fun _ => rfl) | exact (fun h => by cases h))⟩, ⟨_, rfl, (fun _ h => by cases h), (fun _ _ h => by cases h)⟩, (fun fs h => by cases h),
  (fun h => by cases h)⟩
theorem ty29 : TyOk1 Try.prog tyT 29 ⟨.slice 3, 1, [.sl 0 []], false, 24⟩ := ⟨⟨_, _, rfl, rfl, rfl, rfl, rfl, (by first | exact (fun _ => ⟨_, rfl⟩) | exact (fun h => by cases h)), (by first | exact (fun _ => rfl) | exact (fun h => by cases h))⟩, rfl, (fun fs h => by cases h),
  (fun h => by cases h)⟩
theorem ty30 : TyOk1 Try.prog tyT 30 ⟨.slice 3, 1, [.sl 0 []], false, 24⟩ := ⟨⟨_, _, rfl, rfl, rfl, rfl, rfl, (by first | exact (fun _ => ⟨_, rfl⟩) | exact (fun h => by cases h)), (by first | exact (fun _ => rfl) | exact (fun h => by cases h))⟩, rfl, (fun fs h => by cases h),
  (fun h => by cases h)⟩
theorem ty31 : TyOk1 Try.prog tyT 31 ⟨.other, 1, [.v (.nilFunc)], false, 8⟩ := ⟨⟨_, _, rfl, rfl, rfl, rfl, rfl, (by first | exact (fun _ => ⟨_, rfl⟩) | exact (fun h => by cases h)), (by first | exact (fun _ => rfl) | exact (fun h => by cases h))⟩, ⟨_, rfl, (fun _ h => by cases h), (fun _ _ h => by cases h)⟩, (fun fs h => by cases h),
  (fun h => by cases h)⟩
theorem ty32 : TyOk1 Try.prog tyT 32 ⟨.other, 1, [.v (.nilFunc)], false, 8⟩ := ⟨⟨_, _, rfl, rfl, rfl, rfl, rfl, (by first | exact (fun _ => ⟨_, rfl⟩) | exact (fun h => by cases h)), (by first | exact (fun _ => rfl) | exact (fun h => by cases h))⟩, ⟨_, rfl, (fun _ h => by cases h), (fun _ _ h => by cases h)⟩, (fun fs h => by cases h),
  (fun h => by cases h)⟩
theorem ty34 : TyOk1 Try.prog tyT 34 ⟨.other, 1, [.v (.nilFunc)], false, 8⟩ := ⟨⟨_, _, rfl, rfl, rfl, rfl, rfl, (by first | exact (fun _ => ⟨_, rfl⟩) | exact (fun h => by cases h)), (by first | exact (fun _ => rfl) | exact (fun h => by cases h))⟩, ⟨_, rfl, (fun _ h => by cases h), (fun _ _ h => by cases h)⟩, (fun fs h => by cases h),
  (fun h => by cases h)⟩
theorem ty35 : TyOk1 Try.prog tyT 35 ⟨.other, 1, [.v (.nilFunc)], false, 8⟩ := ⟨⟨_, _, rfl, rfl, rfl, rfl, rfl, (by first | exact (fun _ => ⟨_, rfl⟩) | exact (fun h => by cases h)), (by first | exact (fun _ => rfl) | exact (fun h => by cases h))⟩, ⟨_, rfl, (fun _ h => by cases h), (fun _ _ h => by cases h)⟩, (fun fs h => by cases h),
  (fun h => by cases h)⟩
theorem ty36 : TyOk1 Try.prog tyT 36 ⟨.other, 1, [.v (.nilFunc)], false, 8⟩ := ⟨⟨_, _, rfl, rfl, rfl, rfl, rfl, (by first | exact (fun _ => ⟨_, rfl⟩) | exact (fun h => by cases h)), (by first | exact (fun _ => rfl) | exact (fun h => by cases h))⟩, ⟨_, rfl, (fun _ h => by cases h), (fun _ _ h => by cases h)⟩, (fun fs h => by cases h),
  (fun h => by cases h)⟩
theorem ty37 : TyOk1 Try.prog tyT 37 ⟨.other, 1, [.v (.nilFunc)], false, 8⟩ := ⟨⟨_, _, rfl, rfl, rfl, rfl, rfl, (by first | exact (fun _ => ⟨_, rfl⟩) | exact (fun h => by cases h)), (by first | exact (fun _ => rfl) | exact (fun h => by cases h))⟩, ⟨_, rfl, (fun _ h => by cases h), (fun _ _ h => by cases h)⟩, (fun fs h => by cases h),
  (fun h => by cases h)⟩
theorem ty38 : TyOk1 Try.prog tyT 38 ⟨.other, 1, [.v (.nilFunc)], false, 8⟩ := ⟨⟨_, _, rfl, rfl, rfl, rfl, rfl, (by first | exact (fun _ => ⟨_, rfl⟩) | exact (fun h => by cases h)), (by first | exact (fun _ => rfl) | exact (fun h => by cases h))⟩, ⟨_, rfl, (fun _ h => by cases h), (fun _ _ h => by cases h)⟩, (fun fs h => by cases h),
  (fun h => by cases h)⟩
theorem ty39 : TyOk1 Try.prog tyT 39 ⟨.other, 1, [.v (.nilFunc)], false, 8⟩ := ⟨⟨_, _, rfl, rfl, rfl, rfl, rfl, (by first | exact (fun _ => ⟨_, rfl⟩) | exact (fun h => by cases h)), (by first | exact (fun _ => rfl) | exact (fun h => by cases h))⟩, ⟨_, rfl, (fun _ h => by cases h), (fun _ _ h => by cases h)⟩, (fun fs h => by cases h),
  (fun h => by cases h)⟩
theorem ty40 : TyOk1 Try.prog tyT 40 ⟨.other, 1, [.v (.nilFunc)], false, 8⟩ := ⟨⟨_, _, rfl, rfl, rfl, rfl, rfl, (by first | exact (fun _ => ⟨_, rfl⟩) | exact (fun h => by cases h)), (by first | exact (fun _ => rfl) | exact (fun h => by cases h))⟩, ⟨_, rfl, (fun _ h => by cases h), (fun _ _ h => by cases h)⟩, (fun fs h => by cases h),
  (fun h => by cases h)⟩
theorem ty41 : TyOk1 Try.prog tyT 41 ⟨.other, 1, [.v (.nilFunc)], false, 8⟩ := ⟨⟨_, _, rfl, rfl, rfl, rfl, rfl, (by first | exact (fun _ => ⟨_, rfl⟩) | exact (fun h => by cases h)), (by first | exact (fun _ => rfl) | exact (fun h => by cases h))⟩, ⟨_, rfl, (fun _ h => by cases h), (fun _ _ h => by cases h)⟩, (fun fs h => by cases h),
  (fun h => by cases h)⟩
theorem ty42 : TyOk1 Try.prog tyT 42 ⟨.other, 1, [.v (.nilFunc)], false, 8⟩ := ⟨⟨_, _, rfl, rfl, rfl, rfl, rfl, (by first | exact (fun _ => ⟨_, rfl⟩) | exact (fun h => by cases h)), (by first | exact (fun _ => rfl) | exact (fun h => by cases h))⟩, ⟨_, rfl, (fun _ h => by cases h), (fun _ _ h => by cases h)⟩, (fun fs h => by cases h),
  (fun h => by cases h)⟩
theorem ty44 : TyOk1 Try.prog tyT 44 ⟨.other, 1, [.v (.nilFunc)], false, 8⟩ := ⟨⟨_, _, rfl, rfl, rfl, rfl, rfl, (by first | exact (fun _ => ⟨_, rfl⟩) | exact (fun h => by cases h)), (by first | exact (fun _ => rfl) | exact (fun h => by cases h))⟩, ⟨_, rfl, (fun _ h => by cases h), (fun _ _ h => by cases h)⟩, (fun fs h => by cases h),
  (fun h => by cases h)⟩
theorem ty46 : TyOk1 Try.prog tyT 46 ⟨.other, 1, [.v (.nilFunc)], false, 8⟩ := ⟨⟨_, _, rfl, rfl, rfl, rfl, rfl, (by first | exact (fun _ => ⟨_, rfl⟩) | exact (fun h => by cases h)), (by first | exact (fun _ => rfl) | exact (fun h => by cases h))⟩, ⟨_, rfl, (fun _ h => by cases h), (fun _ _ h => by cases h)⟩, (fun fs h => by cases h),
  (fun h => by cases h)⟩
theorem ty47 : TyOk1 Try.prog tyT 47 ⟨.other, 1, [.v (.nilFunc)], false, 8⟩ := ⟨⟨_, _, rfl, rfl, rfl, rfl, rfl, (by first | exact (fun _ => ⟨_, rfl⟩) | exact (fun h => by cases h)), (by first | exact (fun _ => rfl) | exact (fun h => by cases h))⟩, ⟨_, rfl, (fun _ h => by cases h), (fun _ _ h => by cases h)⟩, (fun fs h => by cases h),
  (fun h => by cases h)⟩
theorem ty48 : TyOk1 Try.prog tyT 48 ⟨.other, 1, [.v (.nilFunc)], false, 8⟩ := ⟨⟨_, _, rfl, rfl, rfl, rfl, rfl, (by first | exact (fun _ => ⟨_, rfl⟩) | exact (fun h => by cases h)), (by first | exact (fun _ => rfl) | exact (fun h => by cases h))⟩, ⟨_, rfl, (fun _ h => by cases h), (fun _ _ h => by cases h)⟩, (fun fs h => by cases h),
  (fun h => by cases h)⟩
theorem ty50 : TyOk1 Try.prog tyT 50 ⟨.other, 1, [.v (.nilFunc)], false, 8⟩ := ⟨⟨_, _, rfl, rfl, rfl, rfl, rfl, (by first | exact (fun _ => ⟨_, rfl⟩) | exact (fun h => by cases h)), (by first | exact (fun _ => rfl) | exact (fun h => by cases h))⟩, ⟨_, rfl, (fun _ h => by cases h), (fun _ _ h => by cases h)⟩, (fun fs h => by cases h),
  (fun h => by cases h)⟩
theorem ty51 : TyOk1 Try.prog tyT 51 ⟨.other, 1, [.v (.nilFunc)], false, 8⟩ := ⟨⟨_, _, rfl, rfl, rfl, rfl, rfl, (by first | exact (fun _ => ⟨_, rfl⟩) | exact (fun h => by cases h)), (by first | exact (fun _ => rfl) | exact (fun h => by cases h))⟩, ⟨_, rfl, (fun _ h => by cases h), (fun _ _ h => by cases h)⟩, (fun fs h => by cases h),
  (fun h => by cases h)⟩
theorem ty52 : TyOk1 Try.prog tyT 52 ⟨.other, 1, [.v (.nilFunc)], false, 8⟩ := ⟨⟨_, _, rfl, rfl, rfl, rfl, rfl, (by first | exact (fun _ => ⟨_, rfl⟩) | exact (fun h => by cases h)), (by first | exact (fun _ => rfl) | exact (fun h => by cases h))⟩, ⟨_, rfl, (fun _ h => by cases h), (fun _ _ h => by cases h)⟩, (fun fs h => by cases h),
  (fun h => by cases h)⟩
theorem ty53 : TyOk1 Try.prog tyT 53 ⟨.other, 1, [.v (.nilFunc)], false, 8⟩ := ⟨⟨_, _, rfl, rfl, rfl, rfl, rfl, (by first | exact (fun _ => ⟨_, rfl⟩) | exact (fun h => by cases h)), (by first | exact (fun _ => rfl) | exact (fun h => by cases h))⟩, ⟨_, rfl, (fun _ h => by cases h), (fun _ _ h => by cases h)⟩, (fun fs h => by cases h),
  (fun h => by cases h)⟩
theorem ty55 : TyOk1 Try.prog tyT 55 ⟨.other, 1, [.v (.nilFunc)], false, 8⟩ := ⟨⟨_, _, rfl, rfl, rfl, rfl, rfl, (by first | exact (fun _ => ⟨_, rfl⟩) | exact (fun h => by cases h)), (by first | exact (fun _ => rfl) | exact (fun h => by cases h))⟩, ⟨_, rfl, (fun _ h => by cases h), (fun _ _ h => by cases h)⟩, (fun fs h => by cases h),
  (fun h => by cases h)⟩
theorem ty56 : TyOk1 Try.prog tyT 56 ⟨.arr 40 5, 40, [.v (.int .u8 0), .v (.int .u8 0), .v (.int .u8 0), .v (.int .u8 0), .v (.int .u8 0), .v (.int .u8 0), .v (.int .u8 0), .v (.int .u8 0), .v (.int .u8 0), .v (.int .u8 0), .v (.int .u8 0), .v (.int .u8 0), .v (.int .u8 0), .v (.int .u8 0), .v (.int .u8 0), .v (.int .u8 0), .v (.int .u8 0), .v (.int .u8 0), .v (.int .u8 0), .v (.int .u8 0), .v (.int .u8 0), .v (.int .u8 0), .v (.int .u8 0), .v (.int .u8 0), .v (.int .u8 0), .v (.int .u8 0), .v (.int .u8 0), .v (.int .u8 0), .v (.int .u8 0), .v (.int .u8 0), .v (.int .u8 0), .v (.int .u8 0), .v (.int .u8 0), .v (.int .u8 0), .v (.int .u8 0), .v (.int .u8 0), .v (.int .u8 0), .v (.int .u8 0), .v (.int .u8 0), .v (.int .u8 0)], false, 40⟩ := ⟨⟨_, _, rfl, rfl, rfl, rfl, rfl, (by first | exact (fun _ => ⟨_, rfl⟩) | exact (fun h => by cases h)), (by first | exact (fun _ => rfl) | exact (fun h => by cases h))⟩, rfl, (fun fs h => by cases h),
  (fun h => by cases h)⟩
theorem ty58 : TyOk1 Try.prog tyT 58 ⟨.other, 1, [.v (.nilFunc)], false, 8⟩ := ⟨⟨_, _, rfl, rfl, rfl, rfl, rfl, (by first | exact (fun _ => ⟨_, rfl⟩) | exact (fun h => by cases h)), (by first | exact (fun _ => rfl) | exact (fun h => by cases h))⟩, ⟨_, rfl, (fun _ h => by cases h), (fun _ _ h => by cases h)⟩, (fun fs h => by cases h),
  (fun h => by cases h)⟩
theorem ty59 : TyOk1 Try.prog tyT 59 ⟨.slice 5, 1, [.sl 0 []], false, 24⟩ := ⟨⟨_, _, rfl, rfl, rfl, rfl, rfl, (by first | exact (fun _ => ⟨_, rfl⟩) | exact (fun h => by cases h)), (by first | exact (fun _ => rfl) | exact (fun h => by cases h))⟩, rfl, (fun fs h => by cases h),
  (fun h => by cases h)⟩
theorem ty61 : TyOk1 Try.prog tyT 61 ⟨.other, 1, [.v (.nilFunc)], false, 8⟩ := ⟨⟨_, _, rfl, rfl, rfl, rfl, rfl, (by first | exact (fun _ => ⟨_, rfl⟩) | exact (fun h => by cases h)), (by first | exact (fun _ => rfl) | exact (fun h => by cases h))⟩, ⟨_, rfl, (fun _ h => by cases h), (fun _ _ h => by cases h)⟩, (fun fs h => by cases h),
  (fun h => by cases h)⟩
theorem ty62 : TyOk1 Try.prog tyT 62 ⟨.int .u64, 1, [.v (.int .u64 0)], false, 8⟩ := ⟨⟨_, _, rfl, rfl, rfl, rfl, rfl, (by first | exact (fun _ => ⟨_, rfl⟩) | exact (fun h => by cases h)), (by first | exact (fun _ => rfl) | exact (fun h => by cases h))⟩, rfl, (fun fs h => by cases h),
  (fun h => by cases h)⟩
theorem ty63 : TyOk1 Try.prog tyT 63 ⟨.other, 1, [.v (.nilFunc)], false, 8⟩ := ⟨⟨_, _, rfl, rfl, rfl, rfl, rfl, (by first | exact (fun _ => ⟨_, rfl⟩) | exact (fun h => by cases h)), (by first | exact (fun _ => rfl) | exact (fun h => by cases h))⟩, ⟨_, rfl, (fun _ h => by cases h), (fun _ _ h => by cases h)⟩, (fun fs h => by cases h),
  (fun h => by cases h)⟩
theorem ty64 : TyOk1 Try.prog tyT 64 ⟨.other, 1, [.v (.nilFunc)], false, 8⟩ := ⟨⟨_, _, rfl, rfl, rfl, rfl, rfl, (by first | exact (fun _ => ⟨_, rfl⟩) | exact (fun h => by cases h)), (by first | exact (fun _ => rfl) | exact (fun h => by cases h))⟩, ⟨_, rfl, (fun _ h => by cases h), (fun _ _ h => by cases h)⟩, (fun fs h => by cases h),
  (fun h => by cases h)⟩
theorem ty65 : TyOk1 Try.prog tyT 65 ⟨.other, 1, [.v (.nilFunc)], false, 8⟩ := ⟨⟨_, _, rfl, rfl, rfl, rfl, rfl, (by first | exact (fun _ => ⟨_, rfl⟩) | exact (fun h => by cases h)), (by first | exact (fun _ => rfl) | exact (fun h => by cases h))⟩, ⟨_, rfl, (fun _ h => by cases h), (fun _ _ h => by cases h)⟩, (fun fs h => by cases h),
  (fun h => by cases h)⟩
theorem ty66 : TyOk1 Try.prog tyT 66 ⟨.slice 22, 1, [.sl 0 []], false, 24⟩ := ⟨⟨_, _, rfl, rfl, rfl, rfl, rfl, (by first | exact (fun _ => ⟨_, rfl⟩) | exact (fun h => by cases h)), (by first | exact (fun _ => rfl) | exact (fun h => by cases h))⟩, rfl, (fun fs h => by cases h),
  (fun h => by cases h)⟩
theorem ty67 : TyOk1 Try.prog tyT 67 ⟨.other, 1, [.v (.nilFunc)], false, 8⟩ := ⟨⟨_, _, rfl, rfl, rfl, rfl, rfl, (by first | exact (fun _ => ⟨_, rfl⟩) | exact (fun h => by cases h)), (by first | exact (fun _ => rfl) | exact (fun h => by cases h))⟩, ⟨_, rfl, (fun _ h => by cases h), (fun _ _ h => by cases h)⟩, (fun fs h => by cases h),
  (fun h => by cases h)⟩
theorem ty68 : TyOk1 Try.prog tyT 68 ⟨.arr 4 22, 4, [.v (.int .u64 0), .v (.int .u64 0), .v (.int .u64 0), .v (.int .u64 0)], false, 32⟩ := ⟨⟨_, _, rfl, rfl, rfl, rfl, rfl, (by first | exact (fun _ => ⟨_, rfl⟩) | exact (fun h => by cases h)), (by first | exact (fun _ => rfl) | exact (fun h => by cases h))⟩, rfl, (fun fs h => by cases h),
  (fun h => by cases h)⟩
theorem ty69 : TyOk1 Try.prog tyT 69 ⟨.other, 1, [.v (.nilIface)], false, 16⟩ := ⟨⟨_, _, rfl, rfl, rfl, rfl, rfl, (by first | exact (fun _ => ⟨_, rfl⟩) | exact (fun h => by cases h)), (by first | exact (fun _ => rfl) | exact (fun h => by cases h))⟩, ⟨_, rfl, (fun _ h => by cases h), (fun _ _ h => by cases h)⟩, (fun fs h => by cases h),
  (fun h => by cases h)⟩
theorem ty70 : TyOk1 Try.prog tyT 70 ⟨.other, 1, [.v (.nilIface)], false, 16⟩ := ⟨⟨_, _, rfl, rfl, rfl, rfl, rfl, (by first | exact (fun _ => ⟨_, rfl⟩) | exact (fun h => by cases h)), (by first | exact (fun _ => rfl) | exact (fun h => by cases h))⟩, ⟨_, rfl, (fun _ h => by cases h), (fun _ _ h => by cases h)⟩, (fun fs h => by cases h),
  (fun h => by cases h)⟩
theorem ty71 : TyOk1 Try.prog tyT 71 ⟨.other, 1, [.v (.nilFunc)], false, 8⟩ := ⟨⟨_, _, rfl, rfl, rfl, rfl, rfl, (by first | exact (fun _ => ⟨_, rfl⟩) | exact (fun h => by cases h)), (by first | exact (fun _ => rfl) | exact (fun h => by cases h))⟩, ⟨_, rfl, (fun _ h => by cases h), (fun _ _ h => by cases h)⟩, (fun fs h => by cases h),
  (fun h => by cases h)⟩
theorem ty72 : TyOk1 Try.prog tyT 72 ⟨.struct [(0, 17), (1, 17), (2, 17), (3, 9)], 4, [.v (.pointer none), .v (.pointer none), .v (.pointer none), .v (.string ⟨#[]⟩)], false, 40⟩ := ⟨⟨_, _, rfl, rfl, rfl, rfl, rfl, (by first | exact (fun _ => ⟨_, rfl⟩) | exact (fun h => by cases h)), (by first | exact (fun _ => rfl) | exact (fun h => by cases h))⟩, ⟨_, rfl, rfl⟩, (fun fs h => by injection h with h; subst h; intro p hp; revert p; simp only [List.forall_mem_cons, List.not_mem_nil, false_implies, implies_true, and_true]; first | rfl | (repeat' apply And.intro) <;> rfl),
  (fun h => by cases h)⟩
theorem ty73 : TyOk1 Try.prog tyT 73 ⟨.struct [(0, 17), (1, 17), (2, 17), (3, 9)], 4, [.v (.pointer none), .v (.pointer none), .v (.pointer none), .v (.string ⟨#[]⟩)], false, 40⟩ := ⟨⟨_, _, rfl, rfl, rfl, rfl, rfl, (by first | exact (fun _ => ⟨_, rfl⟩) | exact (fun h => by cases h)), (by first | exact (fun _ => rfl) | exact (fun h => by cases h))⟩, ⟨_, rfl, rfl⟩, (fun fs h => by injection h with h; subst h; intro p hp; revert p; simp only [List.forall_mem_cons, List.not_mem_nil, false_implies, implies_true, and_true]; first | rfl | (repeat' apply And.intro) <;> rfl),
  (fun h => by cases h)⟩
theorem ty74 : TyOk1 Try.prog tyT 74 ⟨.arr 0 16, 0, [], false, 0⟩ := ⟨⟨_, _, rfl, rfl, rfl, rfl, rfl, (by first | exact (fun _ => ⟨_, rfl⟩) | exact (fun h => by cases h)), (by first | exact (fun _ => rfl) | exact (fun h => by cases h))⟩, rfl, (fun fs h => by cases h),
  (fun h => by cases h)⟩
theorem ty75 : TyOk1 Try.prog tyT 75 ⟨.struct [(0, 74)], 0, [], false, 0⟩ := ⟨⟨_, _, rfl, rfl, rfl, rfl, rfl, (by first | exact (fun _ => ⟨_, rfl⟩) | exact (fun h => by cases h)), (by first | exact (fun _ => rfl) | exact (fun h => by cases h))⟩, ⟨_, rfl, rfl⟩, (fun fs h => by injection h with h; subst h; intro p hp; revert p; simp only [List.forall_mem_cons, List.not_mem_nil, false_implies, implies_true, and_true]; first | rfl | (repeat' apply And.intro) <;> rfl),
  (fun h => by cases h)⟩
theorem ty76 : TyOk1 Try.prog tyT 76 ⟨.struct [(0, 74)], 0, [], false, 0⟩ := ⟨⟨_, _, rfl, rfl, rfl, rfl, rfl, (by first | exact (fun _ => ⟨_, rfl⟩) | exact (fun h => by cases h)), (by first | exact (fun _ => rfl) | exact (fun h => by cases h))⟩, ⟨_, rfl, rfl⟩, (fun fs h => by injection h with h; subst h; intro p hp; revert p; simp only [List.forall_mem_cons, List.not_mem_nil, false_implies, implies_true, and_true]; first | rfl | (repeat' apply And.intro) <;> rfl),
  (fun h => by cases h)⟩
theorem ty77 : TyOk1 Try.prog tyT 77 ⟨.other, 1, [.v (.nilFunc)], false, 8⟩ := ⟨⟨_, _, rfl, rfl, rfl, rfl, rfl, (by first | exact (fun _ => ⟨_, rfl⟩) | exact (fun h => by cases h)), (by first | exact (fun _ => rfl) | exact (fun h => by cases h))⟩, ⟨_, rfl, (fun _ h => by cases h), (fun _ _ h => by cases h)⟩, (fun fs h => by cases h),
  (fun h => by cases h)⟩
theorem ty78 : TyOk1 Try.prog tyT 78 ⟨.int .u32, 1, [.v (.int .u32 0)], false, 4⟩ := ⟨⟨_, _, rfl, rfl, rfl, rfl, rfl, (by first | exact (fun _ => ⟨_, rfl⟩) | exact (fun h => by cases h)), (by first | exact (fun _ => rfl) | exact (fun h => by cases h))⟩, rfl, (fun fs h => by cases h),
  (fun h => by cases h)⟩
theorem ty79 : TyOk1 Try.prog tyT 79 ⟨.int .u8, 1, [.v (.int .u8 0)], false, 1⟩ := ⟨⟨_, _, rfl, rfl, rfl, rfl, rfl, (by first | exact (fun _ => ⟨_, rfl⟩) | exact (fun h => by cases h)), (by first | exact (fun _ => rfl) | exact (fun h => by cases h))⟩, rfl, (fun fs h => by cases h),
  (fun h => by cases h)⟩
theorem ty80 : TyOk1 Try.prog tyT 80 ⟨.int .u8, 1, [.v (.int .u8 0)], false, 1⟩ := ⟨⟨_, _, rfl, rfl, rfl, rfl, rfl, (by first | exact (fun _ => ⟨_, rfl⟩) | exact (fun h => by cases h)), (by first | exact (fun _ => rfl) | exact (fun h => by cases h))⟩, rfl, (fun fs h => by cases h),
  (fun h => by cases h)⟩
theorem ty81 : TyOk1 Try.prog tyT 81 ⟨.other, 1, [.v (.nilFunc)], false, 8⟩ := ⟨⟨_, _, rfl, rfl, rfl, rfl, rfl, (by first | exact (fun _ => ⟨_, rfl⟩) | exact (fun h => by cases h)), (by first | exact (fun _ => rfl) | exact (fun h => by cases h))⟩, ⟨_, rfl, (fun _ h => by cases h), (fun _ _ h => by cases h)⟩, (fun fs h => by cases h),
  (fun h => by cases h)⟩
theorem ty82 : TyOk1 Try.prog tyT 82 ⟨.other, 1, [.v (.pointer none)], false, 8⟩ := ⟨⟨_, _, rfl, rfl, rfl, rfl, rfl, (by first | exact (fun _ => ⟨_, rfl⟩) | exact (fun h => by cases h)), (by first | exact (fun _ => rfl) | exact (fun h => by cases h))⟩, ⟨_, rfl, (fun _ h => by cases h), (fun _ _ h => by cases h)⟩, (fun fs h => by cases h),
  (fun h => by cases h)⟩
theorem ty83 : TyOk1 Try.prog tyT 83 ⟨.int .i32, 1, [.v (.int .i32 0)], false, 4⟩ := ⟨⟨_, _, rfl, rfl, rfl, rfl, rfl, (by first | exact (fun _ => ⟨_, rfl⟩) | exact (fun h => by cases h)), (by first | exact (fun _ => rfl) | exact (fun h => by cases h))⟩, rfl, (fun fs h => by cases h),
  (fun h => by cases h)⟩
theorem ty84 : TyOk1 Try.prog tyT 84 ⟨.int .i32, 1, [.v (.int .i32 0)], false, 4⟩ := ⟨⟨_, _, rfl, rfl, rfl, rfl, rfl, (by first | exact (fun _ => ⟨_, rfl⟩) | exact (fun h => by cases h)), (by first | exact (fun _ => rfl) | exact (fun h => by cases h))⟩, rfl, (fun fs h => by cases h),
  (fun h => by cases h)⟩
theorem ty85 : TyOk1 Try.prog tyT 85 ⟨.struct [(0, 12), (1, 12), (2, 78), (3, 79), (4, 5), (5, 5), (6, 80), (7, 81), (8, 82), (9, 83), (10, 84)], 11, [.v (.int .u64 0), .v (.int .u64 0), .v (.int .u32 0), .v (.int .u8 0), .v (.int .u8 0), .v (.int .u8 0), .v (.int .u8 0), .v (.nilFunc), .v (.pointer none), .v (.int .i32 0), .v (.int .i32 0)], false, 48⟩ := ⟨⟨_, _, rfl, rfl, rfl, rfl, rfl, (by first | exact (fun _ => ⟨_, rfl⟩) | exact (fun h => by cases h)), (by first | exact (fun _ => rfl) | exact (fun h => by cases h))⟩, ⟨_, rfl, rfl⟩, (fun fs h => by injection h with h; subst h; intro p hp; revert p; simp only [List.forall_mem_cons, List.not_mem_nil, false_implies, implies_true, and_true]; first | rfl | (repeat' apply And.intro) <;> rfl),
  (fun h => by cases h)⟩
theorem ty86 : TyOk1 Try.prog tyT 86 ⟨.struct [(0, 12), (1, 12), (2, 78), (3, 79), (4, 5), (5, 5), (6, 80), (7, 81), (8, 82), (9, 83), (10, 84)], 11, [.v (.int .u64 0), .v (.int .u64 0), .v (.int .u32 0), .v (.int .u8 0), .v (.int .u8 0), .v (.int .u8 0), .v (.int .u8 0), .v (.nilFunc), .v (.pointer none), .v (.int .i32 0), .v (.int .i32 0)], false, 48⟩ := ⟨⟨_, _, rfl, rfl, rfl, rfl, rfl, (by first | exact (fun _ => ⟨_, rfl⟩) | exact (fun h => by cases h)), (by first | exact (fun _ => rfl) | exact (fun h => by cases h))⟩, ⟨_, rfl, rfl⟩, (fun fs h => by injection h with h; subst h; intro p hp; revert p; simp only [List.forall_mem_cons, List.not_mem_nil, false_implies, implies_true, and_true]; first | rfl | (repeat' apply And.intro) <;> rfl),
  (fun h => by cases h)⟩
theorem ty87 : TyOk1 Try.prog tyT 87 ⟨.other, 1, [.v (.pointer none)], false, 8⟩ := ⟨⟨_, _, rfl, rfl, rfl, rfl, rfl, (by first | exact (fun _ => ⟨_, rfl⟩) | exact (fun h => by cases h)), (by first | exact (fun _ => rfl) | exact (fun h => by cases h))⟩, ⟨_, rfl, (fun _ h => by cases h), (fun _ _ h => by cases h)⟩, (fun fs h => by cases h),
  (fun h => by cases h)⟩
theorem tyOk : TyOk Try.prog tyT := tyOk_of (by
  simp only [tyL, List.forall_mem_cons, List.not_mem_nil, false_implies, implies_true, and_true]
  exact ⟨ty1, ty2, ty3, ty4, ty5, ty6, ty7, ty8, ty9, ty10, ty11, ty12, ty13, ty14, ty15, ty16, ty17, ty18, ty19, ty20, ty21, ty22, ty23, ty24, ty25, ty27, ty28, ty29, ty30, ty31, ty32, ty34, ty35, ty36, ty37, ty38, ty39, ty40, ty41, ty42, ty44, ty46, ty47, ty48, ty50, ty51, ty52, ty53, ty55, ty56, ty58, ty59, ty61, ty62, ty63, ty64, ty65, ty66, ty67, ty68, ty69, ty70, ty71, ty72, ty73, ty74, ty75, ty76, ty77, ty78, ty79, ty80, ty81, ty82, ty83, ty84, ty85, ty86, ty87⟩)
end Go.Proofs.Ytiafmdfegmimdaa
