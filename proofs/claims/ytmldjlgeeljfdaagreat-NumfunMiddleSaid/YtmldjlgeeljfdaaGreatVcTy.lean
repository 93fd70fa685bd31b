/-
  The types of the program, as the reckoning asks for them: printed by wip/TyGen.lean.
-/
import Derived.Test.YtmldjlgeeljfdaaGreatVcV
namespace Go.Proofs.YtmldjlgeeljfdaaGreat
set_option linter.unusedVariables false
set_option maxRecDepth 100000
def tyL : List (Nat × TI) := [
  (2, ⟨.int .i64, 1, [.v (.int .i64 0)], false, 8⟩),
  (3, ⟨.int .i64, 1, [.v (.int .i64 0)], false, 8⟩),
  (4, ⟨.bool, 1, [.v (.bool false)], false, 1⟩),
  (5, ⟨.int .u8, 1, [.v (.int .u8 0)], false, 1⟩),
  (6, ⟨.int .u8, 1, [.v (.int .u8 0)], false, 1⟩),
  (7, ⟨.struct [(0, 2), (1, 3), (2, 4), (3, 6)], 4, [.v (.int .i64 0), .v (.int .i64 0), .v (.bool false), .v (.int .u8 0)], true, 24⟩),
  (8, ⟨.struct [(0, 2), (1, 3), (2, 4), (3, 6)], 4, [.v (.int .i64 0), .v (.int .i64 0), .v (.bool false), .v (.int .u8 0)], true, 24⟩),
  (9, ⟨.str, 1, [.v (.string ⟨#[]⟩)], false, 16⟩),
  (10, ⟨.str, 1, [.v (.string ⟨#[]⟩)], false, 16⟩),
  (11, ⟨.str, 1, [.v (.string ⟨#[]⟩)], false, 16⟩),
  (12, ⟨.int .u64, 1, [.v (.int .u64 0)], false, 8⟩),
  (13, ⟨.struct [(0, 9), (1, 12)], 2, [.v (.string ⟨#[]⟩), .v (.int .u64 0)], false, 24⟩),
  (14, ⟨.struct [(0, 9), (1, 12)], 2, [.v (.string ⟨#[]⟩), .v (.int .u64 0)], false, 24⟩),
  (15, ⟨.other, 1, [.v (.pointer none)], false, 8⟩),
  (16, ⟨.other, 1, [.v (.pointer none)], false, 8⟩),
  (17, ⟨.other, 1, [.v (.pointer none)], false, 8⟩),
  (18, ⟨.struct [(0, 17)], 1, [.v (.pointer none)], false, 8⟩),
  (19, ⟨.struct [(0, 17)], 1, [.v (.pointer none)], false, 8⟩),
  (20, ⟨.other, 1, [.v (.nilIface)], false, 16⟩),
  (21, ⟨.int .i32, 1, [.v (.int .i32 0)], false, 4⟩),
  (22, ⟨.slice 51, 1, [.sl 0 []], false, 24⟩),
  (24, ⟨.slice 29, 1, [.sl 0 []], false, 24⟩),
  (26, ⟨.other, 1, [.v (.nilIface)], false, 16⟩),
  (27, ⟨.other, 1, [.v (.nilIface)], false, 16⟩),
  (28, ⟨.struct [(0, 27)], 1, [.v (.nilIface)], false, 16⟩),
  (29, ⟨.struct [(0, 27)], 1, [.v (.nilIface)], false, 16⟩),
  (36, ⟨.int .i64, 1, [.v (.int .i64 0)], false, 8⟩),
  (41, ⟨.int .u64, 1, [.v (.int .u64 0)], false, 8⟩),
  (42, ⟨.struct [(0, 41), (1, 41)], 2, [.v (.int .u64 0), .v (.int .u64 0)], true, 16⟩),
  (43, ⟨.struct [(0, 41), (1, 41)], 2, [.v (.int .u64 0), .v (.int .u64 0)], true, 16⟩),
  (44, ⟨.struct [(0, 4), (1, 43), (3, 3)], 4, [.v (.bool false), .v (.int .u64 0), .v (.int .u64 0), .v (.int .i64 0)], true, 32⟩),
  (45, ⟨.struct [(0, 4), (1, 43), (3, 3)], 4, [.v (.bool false), .v (.int .u64 0), .v (.int .u64 0), .v (.int .i64 0)], true, 32⟩),
  (51, ⟨.struct [(0, 4), (1, 43), (3, 3)], 4, [.v (.bool false), .v (.int .u64 0), .v (.int .u64 0), .v (.int .i64 0)], true, 32⟩),
  (52, ⟨.slice 45, 1, [.sl 0 []], false, 24⟩),
  (59, ⟨.slice 29, 1, [.sl 0 []], false, 24⟩),
  (70, ⟨.struct [(0, 4), (1, 43), (3, 43), (5, 3), (6, 4)], 7, [.v (.bool false), .v (.int .u64 0), .v (.int .u64 0), .v (.int .u64 0), .v (.int .u64 0), .v (.int .i64 0), .v (.bool false)], true, 56⟩),
  (71, ⟨.struct [(0, 4), (1, 43), (3, 43), (5, 3), (6, 4)], 7, [.v (.bool false), .v (.int .u64 0), .v (.int .u64 0), .v (.int .u64 0), .v (.int .u64 0), .v (.int .i64 0), .v (.bool false)], true, 56⟩),
  (72, ⟨.int .i64, 1, [.v (.int .i64 0)], false, 8⟩),
  (88, ⟨.struct [(0, 4), (1, 43), (3, 3)], 4, [.v (.bool false), .v (.int .u64 0), .v (.int .u64 0), .v (.int .i64 0)], true, 32⟩),
  (89, ⟨.int .i64, 1, [.v (.int .i64 0)], false, 8⟩),
  (95, ⟨.struct [(0, 3), (1, 3), (2, 3)], 3, [.v (.int .i64 0), .v (.int .i64 0), .v (.int .i64 0)], true, 24⟩),
  (96, ⟨.struct [(0, 3), (1, 3), (2, 3)], 3, [.v (.int .i64 0), .v (.int .i64 0), .v (.int .i64 0)], true, 24⟩),
  (100, ⟨.struct [(0, 3), (1, 4), (2, 3)], 3, [.v (.int .i64 0), .v (.bool false), .v (.int .i64 0)], true, 24⟩),
  (101, ⟨.struct [(0, 3), (1, 4), (2, 3)], 3, [.v (.int .i64 0), .v (.bool false), .v (.int .i64 0)], true, 24⟩),
  (105, ⟨.struct [(0, 96), (3, 101)], 6, [.v (.int .i64 0), .v (.int .i64 0), .v (.int .i64 0), .v (.int .i64 0), .v (.bool false), .v (.int .i64 0)], true, 48⟩),
  (106, ⟨.struct [(0, 96), (3, 101)], 6, [.v (.int .i64 0), .v (.int .i64 0), .v (.int .i64 0), .v (.int .i64 0), .v (.bool false), .v (.int .i64 0)], true, 48⟩),
  (127, ⟨.int .u64, 1, [.v (.int .u64 0)], false, 8⟩),
  (129, ⟨.arr 4 41, 4, [.v (.int .u64 0), .v (.int .u64 0), .v (.int .u64 0), .v (.int .u64 0)], false, 32⟩),
  (135, ⟨.str, 1, [.v (.string ⟨#[]⟩)], false, 16⟩),
  (137, ⟨.struct [(0, 3), (1, 3), (2, 3)], 3, [.v (.int .i64 0), .v (.int .i64 0), .v (.int .i64 0)], true, 24⟩),
  (139, ⟨.arr 2 3, 2, [.v (.int .i64 0), .v (.int .i64 0)], false, 16⟩),
  (140, ⟨.slice 139, 1, [.sl 0 []], false, 24⟩),
  (141, ⟨.struct [(0, 3), (1, 4), (2, 3)], 3, [.v (.int .i64 0), .v (.bool false), .v (.int .i64 0)], true, 24⟩),
  (143, ⟨.struct [(0, 96), (3, 101)], 6, [.v (.int .i64 0), .v (.int .i64 0), .v (.int .i64 0), .v (.int .i64 0), .v (.bool false), .v (.int .i64 0)], true, 48⟩),
  (147, ⟨.other, 1, [.v (.nilIface)], false, 16⟩),
  (148, ⟨.other, 1, [.v (.nilIface)], false, 16⟩),
  (151, ⟨.int .i64, 1, [.v (.int .i64 0)], false, 8⟩),
  (153, ⟨.int .i64, 1, [.v (.int .i64 0)], false, 8⟩),
  (157, ⟨.other, 1, [.v (.pointer none)], false, 8⟩),
  (159, ⟨.struct [(0, 17), (1, 17), (2, 17), (3, 9)], 4, [.v (.pointer none), .v (.pointer none), .v (.pointer none), .v (.string ⟨#[]⟩)], false, 40⟩),
  (160, ⟨.struct [(0, 17), (1, 17), (2, 17), (3, 9)], 4, [.v (.pointer none), .v (.pointer none), .v (.pointer none), .v (.string ⟨#[]⟩)], false, 40⟩),
  (161, ⟨.arr 0 16, 0, [], false, 0⟩),
  (162, ⟨.struct [(0, 161)], 0, [], false, 0⟩),
  (163, ⟨.struct [(0, 161)], 0, [], false, 0⟩),
  (164, ⟨.int .u32, 1, [.v (.int .u32 0)], false, 4⟩),
  (165, ⟨.int .u8, 1, [.v (.int .u8 0)], false, 1⟩),
  (166, ⟨.int .u8, 1, [.v (.int .u8 0)], false, 1⟩),
  (168, ⟨.other, 1, [.v (.pointer none)], false, 8⟩),
  (169, ⟨.int .i32, 1, [.v (.int .i32 0)], false, 4⟩),
  (170, ⟨.int .i32, 1, [.v (.int .i32 0)], false, 4⟩),
  (173, ⟨.struct [(0, 9)], 1, [.v (.string ⟨#[]⟩)], true, 16⟩),
  (174, ⟨.struct [(0, 9)], 1, [.v (.string ⟨#[]⟩)], true, 16⟩),
  (175, ⟨.other, 1, [.v (.pointer none)], false, 8⟩)]
def tyT : TypeId → Option TI := look tyL
theorem fsOk {ty : TypeId → Option TI} {l : List (Nat × TypeId)} (h : (l.all fun p => (ty p.2).isSome) = true) : ∀ fs, TD.struct l = .struct fs → ∀ p ∈ fs, (ty p.2).isSome = true := fun fs e p hp => by cases e; exact List.all_eq_true.1 h p hp
theorem ty2 : TyOk1 Tryz.prog tyT 2 ⟨.int .i64, 1, [.v (.int .i64 0)], false, 8⟩ := ⟨⟨_, _, rfl, rfl, rfl, rfl, rfl, (fun h => by cases h), (fun _ => rfl)⟩, rfl, (fun fs h => by cases h),
  (fun h => by cases h)⟩
theorem ty3 : TyOk1 Tryz.prog tyT 3 ⟨.int .i64, 1, [.v (.int .i64 0)], false, 8⟩ := ⟨⟨_, _, rfl, rfl, rfl, rfl, rfl, (fun h => by cases h), (fun _ => rfl)⟩, rfl, (fun fs h => by cases h),
  (fun h => by cases h)⟩
theorem ty4 : TyOk1 Tryz.prog tyT 4 ⟨.bool, 1, [.v (.bool false)], false, 1⟩ := ⟨⟨_, _, rfl, rfl, rfl, rfl, rfl, (fun h => by cases h), (fun _ => rfl)⟩, rfl, (fun fs h => by cases h),
  (fun h => by cases h)⟩
theorem ty5 : TyOk1 Tryz.prog tyT 5 ⟨.int .u8, 1, [.v (.int .u8 0)], false, 1⟩ := ⟨⟨_, _, rfl, rfl, rfl, rfl, rfl, (fun h => by cases h), (fun _ => rfl)⟩, rfl, (fun fs h => by cases h),
  (fun h => by cases h)⟩
theorem ty6 : TyOk1 Tryz.prog tyT 6 ⟨.int .u8, 1, [.v (.int .u8 0)], false, 1⟩ := ⟨⟨_, _, rfl, rfl, rfl, rfl, rfl, (fun h => by cases h), (fun _ => rfl)⟩, rfl, (fun fs h => by cases h),
  (fun h => by cases h)⟩
theorem ty7 : TyOk1 Tryz.prog tyT 7 ⟨.struct [(0, 2), (1, 3), (2, 4), (3, 6)], 4, [.v (.int .i64 0), .v (.int .i64 0), .v (.bool false), .v (.int .u8 0)], true, 24⟩ := ⟨⟨_, _, rfl, rfl, rfl, rfl, rfl, (fun _ => ⟨_, rfl⟩), (fun h => by cases h)⟩, ⟨_, rfl, rfl⟩, fsOk rfl,
  (fun _ => ⟨(by first | exact Tryz.stoodInHeld7 | kernel_rfl), (by first | exact Tryz.eqGuardType7 | kernel_rfl), (fun fields h => by first | (injection h with h; injection h with h; subst h; simp; done) | (cases h))⟩)⟩
theorem ty8 : TyOk1 Tryz.prog tyT 8 ⟨.struct [(0, 2), (1, 3), (2, 4), (3, 6)], 4, [.v (.int .i64 0), .v (.int .i64 0), .v (.bool false), .v (.int .u8 0)], true, 24⟩ := ⟨⟨_, _, rfl, rfl, rfl, rfl, rfl, (fun _ => ⟨_, rfl⟩), (fun h => by cases h)⟩, ⟨_, rfl, rfl⟩, fsOk rfl,
  (fun _ => ⟨(by first | exact Tryz.stoodInHeld8 | kernel_rfl), (by first | exact Tryz.eqGuardType8 | kernel_rfl), (fun fields h => by first | (injection h with h; injection h with h; subst h; simp; done) | (cases h))⟩)⟩
theorem ty9 : TyOk1 Tryz.prog tyT 9 ⟨.str, 1, [.v (.string ⟨#[]⟩)], false, 16⟩ := ⟨⟨_, _, rfl, rfl, rfl, rfl, rfl, (fun h => by cases h), (fun _ => rfl)⟩, rfl, (fun fs h => by cases h),
  (fun h => by cases h)⟩
theorem ty10 : TyOk1 Tryz.prog tyT 10 ⟨.str, 1, [.v (.string ⟨#[]⟩)], false, 16⟩ := ⟨⟨_, _, rfl, rfl, rfl, rfl, rfl, (fun h => by cases h), (fun _ => rfl)⟩, rfl, (fun fs h => by cases h),
  (fun h => by cases h)⟩
theorem ty11 : TyOk1 Tryz.prog tyT 11 ⟨.str, 1, [.v (.string ⟨#[]⟩)], false, 16⟩ := ⟨⟨_, _, rfl, rfl, rfl, rfl, rfl, (fun h => by cases h), (fun _ => rfl)⟩, rfl, (fun fs h => by cases h),
  (fun h => by cases h)⟩
theorem ty12 : TyOk1 Tryz.prog tyT 12 ⟨.int .u64, 1, [.v (.int .u64 0)], false, 8⟩ := ⟨⟨_, _, rfl, rfl, rfl, rfl, rfl, (fun h => by cases h), (fun _ => rfl)⟩, rfl, (fun fs h => by cases h),
  (fun h => by cases h)⟩
theorem ty13 : TyOk1 Tryz.prog tyT 13 ⟨.struct [(0, 9), (1, 12)], 2, [.v (.string ⟨#[]⟩), .v (.int .u64 0)], false, 24⟩ := ⟨⟨_, _, rfl, rfl, rfl, rfl, rfl, (fun _ => ⟨_, rfl⟩), (fun h => by cases h)⟩, ⟨_, rfl, rfl⟩, fsOk rfl,
  (fun h => by cases h)⟩
theorem ty14 : TyOk1 Tryz.prog tyT 14 ⟨.struct [(0, 9), (1, 12)], 2, [.v (.string ⟨#[]⟩), .v (.int .u64 0)], false, 24⟩ := ⟨⟨_, _, rfl, rfl, rfl, rfl, rfl, (fun _ => ⟨_, rfl⟩), (fun h => by cases h)⟩, ⟨_, rfl, rfl⟩, fsOk rfl,
  (fun h => by cases h)⟩
theorem ty15 : TyOk1 Tryz.prog tyT 15 ⟨.other, 1, [.v (.pointer none)], false, 8⟩ := ⟨⟨_, _, rfl, rfl, rfl, rfl, rfl, (fun h => by cases h), (fun _ => rfl)⟩, ⟨_, rfl, (fun _ h => by cases h), (fun _ _ h => by cases h)⟩, (fun fs h => by cases h),
  (fun h => by cases h)⟩
theorem ty16 : TyOk1 Tryz.prog tyT 16 ⟨.other, 1, [.v (.pointer none)], false, 8⟩ := ⟨⟨_, _, rfl, rfl, rfl, rfl, rfl, (fun h => by cases h), (fun _ => rfl)⟩, ⟨_, rfl, (fun _ h => by cases h), (fun _ _ h => by cases h)⟩, (fun fs h => by cases h),
  (fun h => by cases h)⟩
theorem ty17 : TyOk1 Tryz.prog tyT 17 ⟨.other, 1, [.v (.pointer none)], false, 8⟩ := ⟨⟨_, _, rfl, rfl, rfl, rfl, rfl, (fun h => by cases h), (fun _ => rfl)⟩, ⟨_, rfl, (fun _ h => by cases h), (fun _ _ h => by cases h)⟩, (fun fs h => by cases h),
  (fun h => by cases h)⟩
theorem ty18 : TyOk1 Tryz.prog tyT 18 ⟨.struct [(0, 17)], 1, [.v (.pointer none)], false, 8⟩ := ⟨⟨_, _, rfl, rfl, rfl, rfl, rfl, (fun _ => ⟨_, rfl⟩), (fun h => by cases h)⟩, ⟨_, rfl, rfl⟩, fsOk rfl,
  (fun h => by cases h)⟩
theorem ty19 : TyOk1 Tryz.prog tyT 19 ⟨.struct [(0, 17)], 1, [.v (.pointer none)], false, 8⟩ := ⟨⟨_, _, rfl, rfl, rfl, rfl, rfl, (fun _ => ⟨_, rfl⟩), (fun h => by cases h)⟩, ⟨_, rfl, rfl⟩, fsOk rfl,
  (fun h => by cases h)⟩
theorem ty20 : TyOk1 Tryz.prog tyT 20 ⟨.other, 1, [.v (.nilIface)], false, 16⟩ := ⟨⟨_, _, rfl, rfl, rfl, rfl, rfl, (fun h => by cases h), (fun _ => rfl)⟩, ⟨_, rfl, (fun _ h => by cases h), (fun _ _ h => by cases h)⟩, (fun fs h => by cases h),
  (fun h => by cases h)⟩
theorem ty21 : TyOk1 Tryz.prog tyT 21 ⟨.int .i32, 1, [.v (.int .i32 0)], false, 4⟩ := ⟨⟨_, _, rfl, rfl, rfl, rfl, rfl, (fun h => by cases h), (fun _ => rfl)⟩, rfl, (fun fs h => by cases h),
  (fun h => by cases h)⟩
theorem ty22 : TyOk1 Tryz.prog tyT 22 ⟨.slice 51, 1, [.sl 0 []], false, 24⟩ := ⟨⟨_, _, rfl, rfl, rfl, rfl, rfl, (fun h => by cases h), (fun _ => rfl)⟩, rfl, (fun fs h => by cases h),
  (fun h => by cases h)⟩
theorem ty24 : TyOk1 Tryz.prog tyT 24 ⟨.slice 29, 1, [.sl 0 []], false, 24⟩ := ⟨⟨_, _, rfl, rfl, rfl, rfl, rfl, (fun h => by cases h), (fun _ => rfl)⟩, rfl, (fun fs h => by cases h),
  (fun h => by cases h)⟩
theorem ty26 : TyOk1 Tryz.prog tyT 26 ⟨.other, 1, [.v (.nilIface)], false, 16⟩ := ⟨⟨_, _, rfl, rfl, rfl, rfl, rfl, (fun h => by cases h), (fun _ => rfl)⟩, ⟨_, rfl, (fun _ h => by cases h), (fun _ _ h => by cases h)⟩, (fun fs h => by cases h),
  (fun h => by cases h)⟩
theorem ty27 : TyOk1 Tryz.prog tyT 27 ⟨.other, 1, [.v (.nilIface)], false, 16⟩ := ⟨⟨_, _, rfl, rfl, rfl, rfl, rfl, (fun h => by cases h), (fun _ => rfl)⟩, ⟨_, rfl, (fun _ h => by cases h), (fun _ _ h => by cases h)⟩, (fun fs h => by cases h),
  (fun h => by cases h)⟩
theorem ty28 : TyOk1 Tryz.prog tyT 28 ⟨.struct [(0, 27)], 1, [.v (.nilIface)], false, 16⟩ := ⟨⟨_, _, rfl, rfl, rfl, rfl, rfl, (fun _ => ⟨_, rfl⟩), (fun h => by cases h)⟩, ⟨_, rfl, rfl⟩, fsOk rfl,
  (fun h => by cases h)⟩
theorem ty29 : TyOk1 Tryz.prog tyT 29 ⟨.struct [(0, 27)], 1, [.v (.nilIface)], false, 16⟩ := ⟨⟨_, _, rfl, rfl, rfl, rfl, rfl, (fun _ => ⟨_, rfl⟩), (fun h => by cases h)⟩, ⟨_, rfl, rfl⟩, fsOk rfl,
  (fun h => by cases h)⟩
theorem ty36 : TyOk1 Tryz.prog tyT 36 ⟨.int .i64, 1, [.v (.int .i64 0)], false, 8⟩ := ⟨⟨_, _, rfl, rfl, rfl, rfl, rfl, (fun h => by cases h), (fun _ => rfl)⟩, rfl, (fun fs h => by cases h),
  (fun h => by cases h)⟩
theorem ty41 : TyOk1 Tryz.prog tyT 41 ⟨.int .u64, 1, [.v (.int .u64 0)], false, 8⟩ := ⟨⟨_, _, rfl, rfl, rfl, rfl, rfl, (fun h => by cases h), (fun _ => rfl)⟩, rfl, (fun fs h => by cases h),
  (fun h => by cases h)⟩
theorem ty42 : TyOk1 Tryz.prog tyT 42 ⟨.struct [(0, 41), (1, 41)], 2, [.v (.int .u64 0), .v (.int .u64 0)], true, 16⟩ := ⟨⟨_, _, rfl, rfl, rfl, rfl, rfl, (fun _ => ⟨_, rfl⟩), (fun h => by cases h)⟩, ⟨_, rfl, rfl⟩, fsOk rfl,
  (fun _ => ⟨(by first | exact Tryz.stoodInHeld42 | kernel_rfl), (by first | exact Tryz.eqGuardType42 | kernel_rfl), (fun fields h => by first | (injection h with h; injection h with h; subst h; simp; done) | (cases h))⟩)⟩
theorem ty43 : TyOk1 Tryz.prog tyT 43 ⟨.struct [(0, 41), (1, 41)], 2, [.v (.int .u64 0), .v (.int .u64 0)], true, 16⟩ := ⟨⟨_, _, rfl, rfl, rfl, rfl, rfl, (fun _ => ⟨_, rfl⟩), (fun h => by cases h)⟩, ⟨_, rfl, rfl⟩, fsOk rfl,
  (fun _ => ⟨(by first | exact Tryz.stoodInHeld43 | kernel_rfl), (by first | exact Tryz.eqGuardType43 | kernel_rfl), (fun fields h => by first | (injection h with h; injection h with h; subst h; simp; done) | (cases h))⟩)⟩
theorem ty44 : TyOk1 Tryz.prog tyT 44 ⟨.struct [(0, 4), (1, 43), (3, 3)], 4, [.v (.bool false), .v (.int .u64 0), .v (.int .u64 0), .v (.int .i64 0)], true, 32⟩ := ⟨⟨_, _, rfl, rfl, rfl, rfl, rfl, (fun _ => ⟨_, rfl⟩), (fun h => by cases h)⟩, ⟨_, rfl, rfl⟩, fsOk rfl,
  (fun _ => ⟨(by first | exact Tryz.stoodInHeld44 | kernel_rfl), (by first | exact Tryz.eqGuardType44 | kernel_rfl), (fun fields h => by first | (injection h with h; injection h with h; subst h; simp; done) | (cases h))⟩)⟩
theorem ty45 : TyOk1 Tryz.prog tyT 45 ⟨.struct [(0, 4), (1, 43), (3, 3)], 4, [.v (.bool false), .v (.int .u64 0), .v (.int .u64 0), .v (.int .i64 0)], true, 32⟩ := ⟨⟨_, _, rfl, rfl, rfl, rfl, rfl, (fun _ => ⟨_, rfl⟩), (fun h => by cases h)⟩, ⟨_, rfl, rfl⟩, fsOk rfl,
  (fun _ => ⟨(by first | exact Tryz.stoodInHeld45 | kernel_rfl), (by first | exact Tryz.eqGuardType45 | kernel_rfl), (fun fields h => by first | (injection h with h; injection h with h; subst h; simp; done) | (cases h))⟩)⟩
theorem ty51 : TyOk1 Tryz.prog tyT 51 ⟨.struct [(0, 4), (1, 43), (3, 3)], 4, [.v (.bool false), .v (.int .u64 0), .v (.int .u64 0), .v (.int .i64 0)], true, 32⟩ := ⟨⟨_, _, rfl, rfl, rfl, rfl, rfl, (fun _ => ⟨_, rfl⟩), (fun h => by cases h)⟩, ⟨_, rfl, rfl⟩, fsOk rfl,
  (fun _ => ⟨(by first | exact Tryz.stoodInHeld51 | kernel_rfl), (by first | exact Tryz.eqGuardType51 | kernel_rfl), (fun fields h => by first | (injection h with h; injection h with h; subst h; simp; done) | (cases h))⟩)⟩
theorem ty52 : TyOk1 Tryz.prog tyT 52 ⟨.slice 45, 1, [.sl 0 []], false, 24⟩ := ⟨⟨_, _, rfl, rfl, rfl, rfl, rfl, (fun h => by cases h), (fun _ => rfl)⟩, rfl, (fun fs h => by cases h),
  (fun h => by cases h)⟩
theorem ty59 : TyOk1 Tryz.prog tyT 59 ⟨.slice 29, 1, [.sl 0 []], false, 24⟩ := ⟨⟨_, _, rfl, rfl, rfl, rfl, rfl, (fun h => by cases h), (fun _ => rfl)⟩, rfl, (fun fs h => by cases h),
  (fun h => by cases h)⟩
theorem ty70 : TyOk1 Tryz.prog tyT 70 ⟨.struct [(0, 4), (1, 43), (3, 43), (5, 3), (6, 4)], 7, [.v (.bool false), .v (.int .u64 0), .v (.int .u64 0), .v (.int .u64 0), .v (.int .u64 0), .v (.int .i64 0), .v (.bool false)], true, 56⟩ := ⟨⟨_, _, rfl, rfl, rfl, rfl, rfl, (fun _ => ⟨_, rfl⟩), (fun h => by cases h)⟩, ⟨_, rfl, rfl⟩, fsOk rfl,
  (fun _ => ⟨(by first | exact Tryz.stoodInHeld70 | kernel_rfl), (by first | exact Tryz.eqGuardType70 | kernel_rfl), (fun fields h => by first | (injection h with h; injection h with h; subst h; simp; done) | (cases h))⟩)⟩
theorem ty71 : TyOk1 Tryz.prog tyT 71 ⟨.struct [(0, 4), (1, 43), (3, 43), (5, 3), (6, 4)], 7, [.v (.bool false), .v (.int .u64 0), .v (.int .u64 0), .v (.int .u64 0), .v (.int .u64 0), .v (.int .i64 0), .v (.bool false)], true, 56⟩ := ⟨⟨_, _, rfl, rfl, rfl, rfl, rfl, (fun _ => ⟨_, rfl⟩), (fun h => by cases h)⟩, ⟨_, rfl, rfl⟩, fsOk rfl,
  (fun _ => ⟨(by first | exact Tryz.stoodInHeld71 | kernel_rfl), (by first | exact Tryz.eqGuardType71 | kernel_rfl), (fun fields h => by first | (injection h with h; injection h with h; subst h; simp; done) | (cases h))⟩)⟩
theorem ty72 : TyOk1 Tryz.prog tyT 72 ⟨.int .i64, 1, [.v (.int .i64 0)], false, 8⟩ := ⟨⟨_, _, rfl, rfl, rfl, rfl, rfl, (fun h => by cases h), (fun _ => rfl)⟩, rfl, (fun fs h => by cases h),
  (fun h => by cases h)⟩
theorem ty88 : TyOk1 Tryz.prog tyT 88 ⟨.struct [(0, 4), (1, 43), (3, 3)], 4, [.v (.bool false), .v (.int .u64 0), .v (.int .u64 0), .v (.int .i64 0)], true, 32⟩ := ⟨⟨_, _, rfl, rfl, rfl, rfl, rfl, (fun _ => ⟨_, rfl⟩), (fun h => by cases h)⟩, ⟨_, rfl, rfl⟩, fsOk rfl,
  (fun _ => ⟨(by first | exact Tryz.stoodInHeld88 | kernel_rfl), (by first | exact Tryz.eqGuardType88 | kernel_rfl), (fun fields h => by first | (injection h with h; injection h with h; subst h; simp; done) | (cases h))⟩)⟩
theorem ty89 : TyOk1 Tryz.prog tyT 89 ⟨.int .i64, 1, [.v (.int .i64 0)], false, 8⟩ := ⟨⟨_, _, rfl, rfl, rfl, rfl, rfl, (fun h => by cases h), (fun _ => rfl)⟩, rfl, (fun fs h => by cases h),
  (fun h => by cases h)⟩
theorem ty95 : TyOk1 Tryz.prog tyT 95 ⟨.struct [(0, 3), (1, 3), (2, 3)], 3, [.v (.int .i64 0), .v (.int .i64 0), .v (.int .i64 0)], true, 24⟩ := ⟨⟨_, _, rfl, rfl, rfl, rfl, rfl, (fun _ => ⟨_, rfl⟩), (fun h => by cases h)⟩, ⟨_, rfl, rfl⟩, fsOk rfl,
  (fun _ => ⟨(by first | exact Tryz.stoodInHeld95 | kernel_rfl), (by first | exact Tryz.eqGuardType95 | kernel_rfl), (fun fields h => by first | (injection h with h; injection h with h; subst h; simp; done) | (cases h))⟩)⟩
theorem ty96 : TyOk1 Tryz.prog tyT 96 ⟨.struct [(0, 3), (1, 3), (2, 3)], 3, [.v (.int .i64 0), .v (.int .i64 0), .v (.int .i64 0)], true, 24⟩ := ⟨⟨_, _, rfl, rfl, rfl, rfl, rfl, (fun _ => ⟨_, rfl⟩), (fun h => by cases h)⟩, ⟨_, rfl, rfl⟩, fsOk rfl,
  (fun _ => ⟨(by first | exact Tryz.stoodInHeld96 | kernel_rfl), (by first | exact Tryz.eqGuardType96 | kernel_rfl), (fun fields h => by first | (injection h with h; injection h with h; subst h; simp; done) | (cases h))⟩)⟩
theorem ty100 : TyOk1 Tryz.prog tyT 100 ⟨.struct [(0, 3), (1, 4), (2, 3)], 3, [.v (.int .i64 0), .v (.bool false), .v (.int .i64 0)], true, 24⟩ := ⟨⟨_, _, rfl, rfl, rfl, rfl, rfl, (fun _ => ⟨_, rfl⟩), (fun h => by cases h)⟩, ⟨_, rfl, rfl⟩, fsOk rfl,
  (fun _ => ⟨(by first | exact Tryz.stoodInHeld100 | kernel_rfl), (by first | exact Tryz.eqGuardType100 | kernel_rfl), (fun fields h => by first | (injection h with h; injection h with h; subst h; simp; done) | (cases h))⟩)⟩
theorem ty101 : TyOk1 Tryz.prog tyT 101 ⟨.struct [(0, 3), (1, 4), (2, 3)], 3, [.v (.int .i64 0), .v (.bool false), .v (.int .i64 0)], true, 24⟩ := ⟨⟨_, _, rfl, rfl, rfl, rfl, rfl, (fun _ => ⟨_, rfl⟩), (fun h => by cases h)⟩, ⟨_, rfl, rfl⟩, fsOk rfl,
  (fun _ => ⟨(by first | exact Tryz.stoodInHeld101 | kernel_rfl), (by first | exact Tryz.eqGuardType101 | kernel_rfl), (fun fields h => by first | (injection h with h; injection h with h; subst h; simp; done) | (cases h))⟩)⟩
theorem ty105 : TyOk1 Tryz.prog tyT 105 ⟨.struct [(0, 96), (3, 101)], 6, [.v (.int .i64 0), .v (.int .i64 0), .v (.int .i64 0), .v (.int .i64 0), .v (.bool false), .v (.int .i64 0)], true, 48⟩ := ⟨⟨_, _, rfl, rfl, rfl, rfl, rfl, (fun _ => ⟨_, rfl⟩), (fun h => by cases h)⟩, ⟨_, rfl, rfl⟩, fsOk rfl,
  (fun _ => ⟨(by first | exact Tryz.stoodInHeld105 | kernel_rfl), (by first | exact Tryz.eqGuardType105 | kernel_rfl), (fun fields h => by first | (injection h with h; injection h with h; subst h; simp; done) | (cases h))⟩)⟩
theorem ty106 : TyOk1 Tryz.prog tyT 106 ⟨.struct [(0, 96), (3, 101)], 6, [.v (.int .i64 0), .v (.int .i64 0), .v (.int .i64 0), .v (.int .i64 0), .v (.bool false), .v (.int .i64 0)], true, 48⟩ := ⟨⟨_, _, rfl, rfl, rfl, rfl, rfl, (fun _ => ⟨_, rfl⟩), (fun h => by cases h)⟩, ⟨_, rfl, rfl⟩, fsOk rfl,
  (fun _ => ⟨(by first | exact Tryz.stoodInHeld106 | kernel_rfl), (by first | exact Tryz.eqGuardType106 | kernel_rfl), (fun fields h => by first | (injection h with h; injection h with h; subst h; simp; done) | (cases h))⟩)⟩
theorem ty127 : TyOk1 Tryz.prog tyT 127 ⟨.int .u64, 1, [.v (.int .u64 0)], false, 8⟩ := ⟨⟨_, _, rfl, rfl, rfl, rfl, rfl, (fun h => by cases h), (fun _ => rfl)⟩, rfl, (fun fs h => by cases h),
  (fun h => by cases h)⟩
theorem ty129 : TyOk1 Tryz.prog tyT 129 ⟨.arr 4 41, 4, [.v (.int .u64 0), .v (.int .u64 0), .v (.int .u64 0), .v (.int .u64 0)], false, 32⟩ := ⟨⟨_, _, rfl, rfl, rfl, rfl, rfl, (fun _ => ⟨_, rfl⟩), (fun h => by cases h)⟩, rfl, (fun fs h => by cases h),
  (fun h => by cases h)⟩
theorem ty135 : TyOk1 Tryz.prog tyT 135 ⟨.str, 1, [.v (.string ⟨#[]⟩)], false, 16⟩ := ⟨⟨_, _, rfl, rfl, rfl, rfl, rfl, (fun h => by cases h), (fun _ => rfl)⟩, rfl, (fun fs h => by cases h),
  (fun h => by cases h)⟩
theorem ty137 : TyOk1 Tryz.prog tyT 137 ⟨.struct [(0, 3), (1, 3), (2, 3)], 3, [.v (.int .i64 0), .v (.int .i64 0), .v (.int .i64 0)], true, 24⟩ := ⟨⟨_, _, rfl, rfl, rfl, rfl, rfl, (fun _ => ⟨_, rfl⟩), (fun h => by cases h)⟩, ⟨_, rfl, rfl⟩, fsOk rfl,
  (fun _ => ⟨(by first | exact Tryz.stoodInHeld137 | kernel_rfl), (by first | exact Tryz.eqGuardType137 | kernel_rfl), (fun fields h => by first | (injection h with h; injection h with h; subst h; simp; done) | (cases h))⟩)⟩
theorem ty139 : TyOk1 Tryz.prog tyT 139 ⟨.arr 2 3, 2, [.v (.int .i64 0), .v (.int .i64 0)], false, 16⟩ := ⟨⟨_, _, rfl, rfl, rfl, rfl, rfl, (fun _ => ⟨_, rfl⟩), (fun h => by cases h)⟩, rfl, (fun fs h => by cases h),
  (fun h => by cases h)⟩
theorem ty140 : TyOk1 Tryz.prog tyT 140 ⟨.slice 139, 1, [.sl 0 []], false, 24⟩ := ⟨⟨_, _, rfl, rfl, rfl, rfl, rfl, (fun h => by cases h), (fun _ => rfl)⟩, rfl, (fun fs h => by cases h),
  (fun h => by cases h)⟩
theorem ty141 : TyOk1 Tryz.prog tyT 141 ⟨.struct [(0, 3), (1, 4), (2, 3)], 3, [.v (.int .i64 0), .v (.bool false), .v (.int .i64 0)], true, 24⟩ := ⟨⟨_, _, rfl, rfl, rfl, rfl, rfl, (fun _ => ⟨_, rfl⟩), (fun h => by cases h)⟩, ⟨_, rfl, rfl⟩, fsOk rfl,
  (fun _ => ⟨(by first | exact Tryz.stoodInHeld141 | kernel_rfl), (by first | exact Tryz.eqGuardType141 | kernel_rfl), (fun fields h => by first | (injection h with h; injection h with h; subst h; simp; done) | (cases h))⟩)⟩
theorem ty143 : TyOk1 Tryz.prog tyT 143 ⟨.struct [(0, 96), (3, 101)], 6, [.v (.int .i64 0), .v (.int .i64 0), .v (.int .i64 0), .v (.int .i64 0), .v (.bool false), .v (.int .i64 0)], true, 48⟩ := ⟨⟨_, _, rfl, rfl, rfl, rfl, rfl, (fun _ => ⟨_, rfl⟩), (fun h => by cases h)⟩, ⟨_, rfl, rfl⟩, fsOk rfl,
  (fun _ => ⟨(by first | exact Tryz.stoodInHeld143 | kernel_rfl), (by first | exact Tryz.eqGuardType143 | kernel_rfl), (fun fields h => by first | (injection h with h; injection h with h; subst h; simp; done) | (cases h))⟩)⟩
theorem ty147 : TyOk1 Tryz.prog tyT 147 ⟨.other, 1, [.v (.nilIface)], false, 16⟩ := ⟨⟨_, _, rfl, rfl, rfl, rfl, rfl, (fun h => by cases h), (fun _ => rfl)⟩, ⟨_, rfl, (fun _ h => by cases h), (fun _ _ h => by cases h)⟩, (fun fs h => by cases h),
  (fun h => by cases h)⟩
theorem ty148 : TyOk1 Tryz.prog tyT 148 ⟨.other, 1, [.v (.nilIface)], false, 16⟩ := ⟨⟨_, _, rfl, rfl, rfl, rfl, rfl, (fun h => by cases h), (fun _ => rfl)⟩, ⟨_, rfl, (fun _ h => by cases h), (fun _ _ h => by cases h)⟩, (fun fs h => by cases h),
  (fun h => by cases h)⟩
theorem ty151 : TyOk1 Tryz.prog tyT 151 ⟨.int .i64, 1, [.v (.int .i64 0)], false, 8⟩ := ⟨⟨_, _, rfl, rfl, rfl, rfl, rfl, (fun h => by cases h), (fun _ => rfl)⟩, rfl, (fun fs h => by cases h),
  (fun h => by cases h)⟩
theorem ty153 : TyOk1 Tryz.prog tyT 153 ⟨.int .i64, 1, [.v (.int .i64 0)], false, 8⟩ := ⟨⟨_, _, rfl, rfl, rfl, rfl, rfl, (fun h => by cases h), (fun _ => rfl)⟩, rfl, (fun fs h => by cases h),
  (fun h => by cases h)⟩
theorem ty157 : TyOk1 Tryz.prog tyT 157 ⟨.other, 1, [.v (.pointer none)], false, 8⟩ := ⟨⟨_, _, rfl, rfl, rfl, rfl, rfl, (fun h => by cases h), (fun _ => rfl)⟩, ⟨_, rfl, (fun _ h => by cases h), (fun _ _ h => by cases h)⟩, (fun fs h => by cases h),
  (fun h => by cases h)⟩
theorem ty159 : TyOk1 Tryz.prog tyT 159 ⟨.struct [(0, 17), (1, 17), (2, 17), (3, 9)], 4, [.v (.pointer none), .v (.pointer none), .v (.pointer none), .v (.string ⟨#[]⟩)], false, 40⟩ := ⟨⟨_, _, rfl, rfl, rfl, rfl, rfl, (fun _ => ⟨_, rfl⟩), (fun h => by cases h)⟩, ⟨_, rfl, rfl⟩, fsOk rfl,
  (fun h => by cases h)⟩
theorem ty160 : TyOk1 Tryz.prog tyT 160 ⟨.struct [(0, 17), (1, 17), (2, 17), (3, 9)], 4, [.v (.pointer none), .v (.pointer none), .v (.pointer none), .v (.string ⟨#[]⟩)], false, 40⟩ := ⟨⟨_, _, rfl, rfl, rfl, rfl, rfl, (fun _ => ⟨_, rfl⟩), (fun h => by cases h)⟩, ⟨_, rfl, rfl⟩, fsOk rfl,
  (fun h => by cases h)⟩
theorem ty161 : TyOk1 Tryz.prog tyT 161 ⟨.arr 0 16, 0, [], false, 0⟩ := ⟨⟨_, _, rfl, rfl, rfl, rfl, rfl, (fun _ => ⟨_, rfl⟩), (fun h => by cases h)⟩, rfl, (fun fs h => by cases h),
  (fun h => by cases h)⟩
theorem ty162 : TyOk1 Tryz.prog tyT 162 ⟨.struct [(0, 161)], 0, [], false, 0⟩ := ⟨⟨_, _, rfl, rfl, rfl, rfl, rfl, (fun _ => ⟨_, rfl⟩), (fun h => by cases h)⟩, ⟨_, rfl, rfl⟩, fsOk rfl,
  (fun h => by cases h)⟩
theorem ty163 : TyOk1 Tryz.prog tyT 163 ⟨.struct [(0, 161)], 0, [], false, 0⟩ := ⟨⟨_, _, rfl, rfl, rfl, rfl, rfl, (fun _ => ⟨_, rfl⟩), (fun h => by cases h)⟩, ⟨_, rfl, rfl⟩, fsOk rfl,
  (fun h => by cases h)⟩
theorem ty164 : TyOk1 Tryz.prog tyT 164 ⟨.int .u32, 1, [.v (.int .u32 0)], false, 4⟩ := ⟨⟨_, _, rfl, rfl, rfl, rfl, rfl, (fun h => by cases h), (fun _ => rfl)⟩, rfl, (fun fs h => by cases h),
  (fun h => by cases h)⟩
theorem ty165 : TyOk1 Tryz.prog tyT 165 ⟨.int .u8, 1, [.v (.int .u8 0)], false, 1⟩ := ⟨⟨_, _, rfl, rfl, rfl, rfl, rfl, (fun h => by cases h), (fun _ => rfl)⟩, rfl, (fun fs h => by cases h),
  (fun h => by cases h)⟩
theorem ty166 : TyOk1 Tryz.prog tyT 166 ⟨.int .u8, 1, [.v (.int .u8 0)], false, 1⟩ := ⟨⟨_, _, rfl, rfl, rfl, rfl, rfl, (fun h => by cases h), (fun _ => rfl)⟩, rfl, (fun fs h => by cases h),
  (fun h => by cases h)⟩
theorem ty168 : TyOk1 Tryz.prog tyT 168 ⟨.other, 1, [.v (.pointer none)], false, 8⟩ := ⟨⟨_, _, rfl, rfl, rfl, rfl, rfl, (fun h => by cases h), (fun _ => rfl)⟩, ⟨_, rfl, (fun _ h => by cases h), (fun _ _ h => by cases h)⟩, (fun fs h => by cases h),
  (fun h => by cases h)⟩
theorem ty169 : TyOk1 Tryz.prog tyT 169 ⟨.int .i32, 1, [.v (.int .i32 0)], false, 4⟩ := ⟨⟨_, _, rfl, rfl, rfl, rfl, rfl, (fun h => by cases h), (fun _ => rfl)⟩, rfl, (fun fs h => by cases h),
  (fun h => by cases h)⟩
theorem ty170 : TyOk1 Tryz.prog tyT 170 ⟨.int .i32, 1, [.v (.int .i32 0)], false, 4⟩ := ⟨⟨_, _, rfl, rfl, rfl, rfl, rfl, (fun h => by cases h), (fun _ => rfl)⟩, rfl, (fun fs h => by cases h),
  (fun h => by cases h)⟩
theorem ty173 : TyOk1 Tryz.prog tyT 173 ⟨.struct [(0, 9)], 1, [.v (.string ⟨#[]⟩)], true, 16⟩ := ⟨⟨_, _, rfl, rfl, rfl, rfl, rfl, (fun _ => ⟨_, rfl⟩), (fun h => by cases h)⟩, ⟨_, rfl, rfl⟩, fsOk rfl,
  (fun _ => ⟨(by first | exact Tryz.stoodInHeld173 | kernel_rfl), (by first | exact Tryz.eqGuardType173 | kernel_rfl), (fun fields h => by first | (injection h with h; injection h with h; subst h; simp; done) | (cases h))⟩)⟩
theorem ty174 : TyOk1 Tryz.prog tyT 174 ⟨.struct [(0, 9)], 1, [.v (.string ⟨#[]⟩)], true, 16⟩ := ⟨⟨_, _, rfl, rfl, rfl, rfl, rfl, (fun _ => ⟨_, rfl⟩), (fun h => by cases h)⟩, ⟨_, rfl, rfl⟩, fsOk rfl,
  (fun _ => ⟨(by first | exact Tryz.stoodInHeld174 | kernel_rfl), (by first | exact Tryz.eqGuardType174 | kernel_rfl), (fun fields h => by first | (injection h with h; injection h with h; subst h; simp; done) | (cases h))⟩)⟩
theorem ty175 : TyOk1 Tryz.prog tyT 175 ⟨.other, 1, [.v (.pointer none)], false, 8⟩ := ⟨⟨_, _, rfl, rfl, rfl, rfl, rfl, (fun h => by cases h), (fun _ => rfl)⟩, ⟨_, rfl, (fun _ h => by cases h), (fun _ _ h => by cases h)⟩, (fun fs h => by cases h),
  (fun h => by cases h)⟩
theorem tyOk : TyOk Tryz.prog tyT := tyOk_of (by
  simp only [tyL, List.forall_mem_cons, List.not_mem_nil, false_implies, implies_true, and_true]
  exact ⟨ty2, ty3, ty4, ty5, ty6, ty7, ty8, ty9, ty10, ty11, ty12, ty13, ty14, ty15, ty16, ty17, ty18, ty19, ty20, ty21, ty22, ty24, ty26, ty27, ty28, ty29, ty36, ty41, ty42, ty43, ty44, ty45, ty51, ty52, ty59, ty70, ty71, ty72, ty88, ty89, ty95, ty96, ty100, ty101, ty105, ty106, ty127, ty129, ty135, ty137, ty139, ty140, ty141, ty143, ty147, ty148, ty151, ty153, ty157, ty159, ty160, ty161, ty162, ty163, ty164, ty165, ty166, ty168, ty169, ty170, ty173, ty174, ty175⟩)
end Go.Proofs.YtmldjlgeeljfdaaGreat
