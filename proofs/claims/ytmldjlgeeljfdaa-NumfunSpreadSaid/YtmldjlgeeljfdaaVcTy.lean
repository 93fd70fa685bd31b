/-
  The types of the program, as the reckoning asks for them: printed by wip/TyGen.lean.
-/
import Derived.Test.YtmldjlgeeljfdaaVcV
namespace Go.Proofs.Ytmldjlgeeljfdaa
set_option linter.unusedVariables false
set_option maxRecDepth 100000
def tyL : List (Nat × TI) := [
  (2, ⟨.int .i64, 1, [.v (.int .i64 0)], false, 8⟩),
  (3, ⟨.int .i64, 1, [.v (.int .i64 0)], false, 8⟩),
  (4, ⟨.bool, 1, [.v (.bool false)], false, 1⟩),
  (5, ⟨.int .u8, 1, [.v (.int .u8 0)], false, 1⟩),
  (6, ⟨.int .u8, 1, [.v (.int .u8 0)], false, 1⟩),
  (7, ⟨.struct [(0, 2), (1, 3), (2, 4), (3, 6)], 4, [.v (.int .i64 0), .v (.int .i64 0), .v (.bool false), .v (.int .u8 0)], true, 24⟩),
  (8, ⟨.struct [(0, 2), (1, 3), (2, 4), (3, 6)], 4, [.v (.int .i64 0), .v (.int .i64 0), .v (.bool false), .v (.int .u8 0)], true, 24⟩),
  (9, ⟨.str, 1, [.v (.string ⟨#[]⟩)], false, 16⟩),
  (10, ⟨.str, 1, [.v (.string ⟨#[]⟩)], false, 16⟩),
  (11, ⟨.str, 1, [.v (.string ⟨#[]⟩)], false, 16⟩),
  (12, ⟨.int .u64, 1, [.v (.int .u64 0)], false, 8⟩),
  (13, ⟨.struct [(0, 9), (1, 12)], 2, [.v (.string ⟨#[]⟩), .v (.int .u64 0)], false, 24⟩),
  (14, ⟨.struct [(0, 9), (1, 12)], 2, [.v (.string ⟨#[]⟩), .v (.int .u64 0)], false, 24⟩),
  (15, ⟨.other, 1, [.v (.pointer none)], false, 8⟩),
  (16, ⟨.other, 1, [.v (.pointer none)], false, 8⟩),
  (17, ⟨.other, 1, [.v (.pointer none)], false, 8⟩),
  (18, ⟨.struct [(0, 17)], 1, [.v (.pointer none)], false, 8⟩),
  (19, ⟨.struct [(0, 17)], 1, [.v (.pointer none)], false, 8⟩),
  (20, ⟨.other, 1, [.v (.nilIface)], false, 16⟩),
  (21, ⟨.int .i32, 1, [.v (.int .i32 0)], false, 4⟩),
  (22, ⟨.slice 21, 1, [.sl 0 []], false, 24⟩),
  (24, ⟨.slice 28, 1, [.sl 0 []], false, 24⟩),
  (25, ⟨.other, 1, [.v (.nilIface)], false, 16⟩),
  (26, ⟨.other, 1, [.v (.nilIface)], false, 16⟩),
  (27, ⟨.struct [(0, 26)], 1, [.v (.nilIface)], false, 16⟩),
  (28, ⟨.struct [(0, 26)], 1, [.v (.nilIface)], false, 16⟩),
  (32, ⟨.int .u64, 1, [.v (.int .u64 0)], false, 8⟩),
  (33, ⟨.struct [(0, 32), (1, 32)], 2, [.v (.int .u64 0), .v (.int .u64 0)], true, 16⟩),
  (34, ⟨.struct [(0, 32), (1, 32)], 2, [.v (.int .u64 0), .v (.int .u64 0)], true, 16⟩),
  (35, ⟨.struct [(0, 4), (1, 34), (3, 3)], 4, [.v (.bool false), .v (.int .u64 0), .v (.int .u64 0), .v (.int .i64 0)], true, 32⟩),
  (36, ⟨.struct [(0, 4), (1, 34), (3, 3)], 4, [.v (.bool false), .v (.int .u64 0), .v (.int .u64 0), .v (.int .i64 0)], true, 32⟩),
  (50, ⟨.struct [(0, 4), (1, 34), (3, 3)], 4, [.v (.bool false), .v (.int .u64 0), .v (.int .u64 0), .v (.int .i64 0)], true, 32⟩),
  (56, ⟨.slice 36, 1, [.sl 0 []], false, 24⟩),
  (62, ⟨.struct [(0, 4), (1, 34), (3, 34), (5, 3), (6, 4)], 7, [.v (.bool false), .v (.int .u64 0), .v (.int .u64 0), .v (.int .u64 0), .v (.int .u64 0), .v (.int .i64 0), .v (.bool false)], true, 56⟩),
  (63, ⟨.struct [(0, 4), (1, 34), (3, 34), (5, 3), (6, 4)], 7, [.v (.bool false), .v (.int .u64 0), .v (.int .u64 0), .v (.int .u64 0), .v (.int .u64 0), .v (.int .i64 0), .v (.bool false)], true, 56⟩),
  (64, ⟨.int .i64, 1, [.v (.int .i64 0)], false, 8⟩),
  (74, ⟨.slice 28, 1, [.sl 0 []], false, 24⟩),
  (100, ⟨.int .u64, 1, [.v (.int .u64 0)], false, 8⟩),
  (102, ⟨.arr 4 32, 4, [.v (.int .u64 0), .v (.int .u64 0), .v (.int .u64 0), .v (.int .u64 0)], false, 32⟩),
  (110, ⟨.other, 1, [.v (.nilIface)], false, 16⟩),
  (111, ⟨.other, 1, [.v (.nilIface)], false, 16⟩),
  (113, ⟨.other, 1, [.v (.pointer none)], false, 8⟩),
  (115, ⟨.struct [(0, 17), (1, 17), (2, 17), (3, 9)], 4, [.v (.pointer none), .v (.pointer none), .v (.pointer none), .v (.string ⟨#[]⟩)], false, 40⟩),
  (116, ⟨.struct [(0, 17), (1, 17), (2, 17), (3, 9)], 4, [.v (.pointer none), .v (.pointer none), .v (.pointer none), .v (.string ⟨#[]⟩)], false, 40⟩),
  (117, ⟨.arr 0 16, 0, [], false, 0⟩),
  (118, ⟨.struct [(0, 117)], 0, [], false, 0⟩),
  (119, ⟨.struct [(0, 117)], 0, [], false, 0⟩),
  (120, ⟨.int .u32, 1, [.v (.int .u32 0)], false, 4⟩),
  (121, ⟨.int .u8, 1, [.v (.int .u8 0)], false, 1⟩),
  (122, ⟨.int .u8, 1, [.v (.int .u8 0)], false, 1⟩),
  (124, ⟨.other, 1, [.v (.pointer none)], false, 8⟩),
  (125, ⟨.int .i32, 1, [.v (.int .i32 0)], false, 4⟩),
  (126, ⟨.int .i32, 1, [.v (.int .i32 0)], false, 4⟩),
  (130, ⟨.struct [(0, 9)], 1, [.v (.string ⟨#[]⟩)], true, 16⟩),
  (131, ⟨.struct [(0, 9)], 1, [.v (.string ⟨#[]⟩)], true, 16⟩),
  (132, ⟨.other, 1, [.v (.pointer none)], false, 8⟩),
  (133, ⟨.int .i64, 1, [.v (.int .i64 0)], false, 8⟩)]
def tyT : TypeId → Option TI := look tyL
theorem fsOk {ty : TypeId → Option TI} {l : List (Nat × TypeId)} (h : (l.all fun p => (ty p.2).isSome) = true) : ∀ fs, TD.struct l = .struct fs → ∀ p ∈ fs, (ty p.2).isSome = true := fun fs e p hp => by cases e; exact List.all_eq_true.1 h p hp
theorem ty2 : TyOk1 Try.prog tyT 2 ⟨.int .i64, 1, [.v (.int .i64 0)], false, 8⟩ := ⟨⟨_, _, rfl, rfl, rfl, rfl, rfl, (fun h => by cases h), (fun _ => rfl)⟩, rfl, (fun fs h => by cases h),
  (fun h => by cases h)⟩
theorem ty3 : TyOk1 Try.prog tyT 3 ⟨.int .i64, 1, [.v (.int .i64 0)], false, 8⟩ := ⟨⟨_, _, rfl, rfl, rfl, rfl, rfl, (fun h => by cases h), (fun _ => rfl)⟩, rfl, (fun fs h => by cases h),
  (fun h => by cases h)⟩
theorem ty4 : TyOk1 Try.prog tyT 4 ⟨.bool, 1, [.v (.bool false)], false, 1⟩ := ⟨⟨_, _, rfl, rfl, rfl, rfl, rfl, (fun h => by cases h), (fun _ => rfl)⟩, rfl, (fun fs h => by cases h),
  (fun h => by cases h)⟩
theorem ty5 : TyOk1 Try.prog tyT 5 ⟨.int .u8, 1, [.v (.int .u8 0)], false, 1⟩ := ⟨⟨_, _, rfl, rfl, rfl, rfl, rfl, (fun h => by cases h), (fun _ => rfl)⟩, rfl, (fun fs h => by cases h),
  (fun h => by cases h)⟩
theorem ty6 : TyOk1 Try.prog tyT 6 ⟨.int .u8, 1, [.v (.int .u8 0)], false, 1⟩ := ⟨⟨_, _, rfl, rfl, rfl, rfl, rfl, (fun h => by cases h), (fun _ => rfl)⟩, rfl, (fun fs h => by cases h),
  (fun h => by cases h)⟩
theorem ty7 : TyOk1 Try.prog tyT 7 ⟨.struct [(0, 2), (1, 3), (2, 4), (3, 6)], 4, [.v (.int .i64 0), .v (.int .i64 0), .v (.bool false), .v (.int .u8 0)], true, 24⟩ := ⟨⟨_, _, rfl, rfl, rfl, rfl, rfl, (fun _ => ⟨_, rfl⟩), (fun h => by cases h)⟩, ⟨_, rfl, rfl⟩, fsOk rfl,
  (fun _ => ⟨(by first | exact Try.stoodInHeld7 | kernel_rfl), (by first | exact Try.eqGuardType7 | kernel_rfl), (fun fields h => by first | (injection h with h; injection h with h; subst h; simp; done) | (cases h))⟩)⟩
theorem ty8 : TyOk1 Try.prog tyT 8 ⟨.struct [(0, 2), (1, 3), (2, 4), (3, 6)], 4, [.v (.int .i64 0), .v (.int .i64 0), .v (.bool false), .v (.int .u8 0)], true, 24⟩ := ⟨⟨_, _, rfl, rfl, rfl, rfl, rfl, (fun _ => ⟨_, rfl⟩), (fun h => by cases h)⟩, ⟨_, rfl, rfl⟩, fsOk rfl,
  (fun _ => ⟨(by first | exact Try.stoodInHeld8 | kernel_rfl), (by first | exact Try.eqGuardType8 | kernel_rfl), (fun fields h => by first | (injection h with h; injection h with h; subst h; simp; done) | (cases h))⟩)⟩
theorem ty9 : TyOk1 Try.prog tyT 9 ⟨.str, 1, [.v (.string ⟨#[]⟩)], false, 16⟩ := ⟨⟨_, _, rfl, rfl, rfl, rfl, rfl, (fun h => by cases h), (fun _ => rfl)⟩, rfl, (fun fs h => by cases h),
  (fun h => by cases h)⟩
theorem ty10 : TyOk1 Try.prog tyT 10 ⟨.str, 1, [.v (.string ⟨#[]⟩)], false, 16⟩ := ⟨⟨_, _, rfl, rfl, rfl, rfl, rfl, (fun h => by cases h), (fun _ => rfl)⟩, rfl, (fun fs h => by cases h),
  (fun h => by cases h)⟩
theorem ty11 : TyOk1 Try.prog tyT 11 ⟨.str, 1, [.v (.string ⟨#[]⟩)], false, 16⟩ := ⟨⟨_, _, rfl, rfl, rfl, rfl, rfl, (fun h => by cases h), (fun _ => rfl)⟩, rfl, (fun fs h => by cases h),
  (fun h => by cases h)⟩
theorem ty12 : TyOk1 Try.prog tyT 12 ⟨.int .u64, 1, [.v (.int .u64 0)], false, 8⟩ := ⟨⟨_, _, rfl, rfl, rfl, rfl, rfl, (fun h => by cases h), (fun _ => rfl)⟩, rfl, (fun fs h => by cases h),
  (fun h => by cases h)⟩
theorem ty13 : TyOk1 Try.prog tyT 13 ⟨.struct [(0, 9), (1, 12)], 2, [.v (.string ⟨#[]⟩), .v (.int .u64 0)], false, 24⟩ := ⟨⟨_, _, rfl, rfl, rfl, rfl, rfl, (fun _ => ⟨_, rfl⟩), (fun h => by cases h)⟩, ⟨_, rfl, rfl⟩, fsOk rfl,
  (fun h => by cases h)⟩
theorem ty14 : TyOk1 Try.prog tyT 14 ⟨.struct [(0, 9), (1, 12)], 2, [.v (.string ⟨#[]⟩), .v (.int .u64 0)], false, 24⟩ := ⟨⟨_, _, rfl, rfl, rfl, rfl, rfl, (fun _ => ⟨_, rfl⟩), (fun h => by cases h)⟩, ⟨_, rfl, rfl⟩, fsOk rfl,
  (fun h => by cases h)⟩
theorem ty15 : TyOk1 Try.prog tyT 15 ⟨.other, 1, [.v (.pointer none)], false, 8⟩ := ⟨⟨_, _, rfl, rfl, rfl, rfl, rfl, (fun h => by cases h), (fun _ => rfl)⟩, ⟨_, rfl, (fun _ h => by cases h), (fun _ _ h => by cases h)⟩, (fun fs h => by cases h),
  (fun h => by cases h)⟩
theorem ty16 : TyOk1 Try.prog tyT 16 ⟨.other, 1, [.v (.pointer none)], false, 8⟩ := ⟨⟨_, _, rfl, rfl, rfl, rfl, rfl, (fun h => by cases h), (fun _ => rfl)⟩, ⟨_, rfl, (fun _ h => by cases h), (fun _ _ h => by cases h)⟩, (fun fs h => by cases h),
  (fun h => by cases h)⟩
theorem ty17 : TyOk1 Try.prog tyT 17 ⟨.other, 1, [.v (.pointer none)], false, 8⟩ := ⟨⟨_, _, rfl, rfl, rfl, rfl, rfl, (fun h => by cases h), (fun _ => rfl)⟩, ⟨_, rfl, (fun _ h => by cases h), (fun _ _ h => by cases h)⟩, (fun fs h => by cases h),
  (fun h => by cases h)⟩
theorem ty18 : TyOk1 Try.prog tyT 18 ⟨.struct [(0, 17)], 1, [.v (.pointer none)], false, 8⟩ := ⟨⟨_, _, rfl, rfl, rfl, rfl, rfl, (fun _ => ⟨_, rfl⟩), (fun h => by cases h)⟩, ⟨_, rfl, rfl⟩, fsOk rfl,
  (fun h => by cases h)⟩
theorem ty19 : TyOk1 Try.prog tyT 19 ⟨.struct [(0, 17)], 1, [.v (.pointer none)], false, 8⟩ := ⟨⟨_, _, rfl, rfl, rfl, rfl, rfl, (fun _ => ⟨_, rfl⟩), (fun h => by cases h)⟩, ⟨_, rfl, rfl⟩, fsOk rfl,
  (fun h => by cases h)⟩
theorem ty20 : TyOk1 Try.prog tyT 20 ⟨.other, 1, [.v (.nilIface)], false, 16⟩ := ⟨⟨_, _, rfl, rfl, rfl, rfl, rfl, (fun h => by cases h), (fun _ => rfl)⟩, ⟨_, rfl, (fun _ h => by cases h), (fun _ _ h => by cases h)⟩, (fun fs h => by cases h),
  (fun h => by cases h)⟩
theorem ty21 : TyOk1 Try.prog tyT 21 ⟨.int .i32, 1, [.v (.int .i32 0)], false, 4⟩ := ⟨⟨_, _, rfl, rfl, rfl, rfl, rfl, (fun h => by cases h), (fun _ => rfl)⟩, rfl, (fun fs h => by cases h),
  (fun h => by cases h)⟩
theorem ty22 : TyOk1 Try.prog tyT 22 ⟨.slice 21, 1, [.sl 0 []], false, 24⟩ := ⟨⟨_, _, rfl, rfl, rfl, rfl, rfl, (fun h => by cases h), (fun _ => rfl)⟩, rfl, (fun fs h => by cases h),
  (fun h => by cases h)⟩
theorem ty24 : TyOk1 Try.prog tyT 24 ⟨.slice 28, 1, [.sl 0 []], false, 24⟩ := ⟨⟨_, _, rfl, rfl, rfl, rfl, rfl, (fun h => by cases h), (fun _ => rfl)⟩, rfl, (fun fs h => by cases h),
  (fun h => by cases h)⟩
theorem ty25 : TyOk1 Try.prog tyT 25 ⟨.other, 1, [.v (.nilIface)], false, 16⟩ := ⟨⟨_, _, rfl, rfl, rfl, rfl, rfl, (fun h => by cases h), (fun _ => rfl)⟩, ⟨_, rfl, (fun _ h => by cases h), (fun _ _ h => by cases h)⟩, (fun fs h => by cases h),
  (fun h => by cases h)⟩
theorem ty26 : TyOk1 Try.prog tyT 26 ⟨.other, 1, [.v (.nilIface)], false, 16⟩ := ⟨⟨_, _, rfl, rfl, rfl, rfl, rfl, (fun h => by cases h), (fun _ => rfl)⟩, ⟨_, rfl, (fun _ h => by cases h), (fun _ _ h => by cases h)⟩, (fun fs h => by cases h),
  (fun h => by cases h)⟩
theorem ty27 : TyOk1 Try.prog tyT 27 ⟨.struct [(0, 26)], 1, [.v (.nilIface)], false, 16⟩ := ⟨⟨_, _, rfl, rfl, rfl, rfl, rfl, (fun _ => ⟨_, rfl⟩), (fun h => by cases h)⟩, ⟨_, rfl, rfl⟩, fsOk rfl,
  (fun h => by cases h)⟩
theorem ty28 : TyOk1 Try.prog tyT 28 ⟨.struct [(0, 26)], 1, [.v (.nilIface)], false, 16⟩ := ⟨⟨_, _, rfl, rfl, rfl, rfl, rfl, (fun _ => ⟨_, rfl⟩), (fun h => by cases h)⟩, ⟨_, rfl, rfl⟩, fsOk rfl,
  (fun h => by cases h)⟩
theorem ty32 : TyOk1 Try.prog tyT 32 ⟨.int .u64, 1, [.v (.int .u64 0)], false, 8⟩ := ⟨⟨_, _, rfl, rfl, rfl, rfl, rfl, (fun h => by cases h), (fun _ => rfl)⟩, rfl, (fun fs h => by cases h),
  (fun h => by cases h)⟩
theorem ty33 : TyOk1 Try.prog tyT 33 ⟨.struct [(0, 32), (1, 32)], 2, [.v (.int .u64 0), .v (.int .u64 0)], true, 16⟩ := ⟨⟨_, _, rfl, rfl, rfl, rfl, rfl, (fun _ => ⟨_, rfl⟩), (fun h => by cases h)⟩, ⟨_, rfl, rfl⟩, fsOk rfl,
  (fun _ => ⟨(by first | exact Try.stoodInHeld33 | kernel_rfl), (by first | exact Try.eqGuardType33 | kernel_rfl), (fun fields h => by first | (injection h with h; injection h with h; subst h; simp; done) | (cases h))⟩)⟩
theorem ty34 : TyOk1 Try.prog tyT 34 ⟨.struct [(0, 32), (1, 32)], 2, [.v (.int .u64 0), .v (.int .u64 0)], true, 16⟩ := ⟨⟨_, _, rfl, rfl, rfl, rfl, rfl, (fun _ => ⟨_, rfl⟩), (fun h => by cases h)⟩, ⟨_, rfl, rfl⟩, fsOk rfl,
  (fun _ => ⟨(by first | exact Try.stoodInHeld34 | kernel_rfl), (by first | exact Try.eqGuardType34 | kernel_rfl), (fun fields h => by first | (injection h with h; injection h with h; subst h; simp; done) | (cases h))⟩)⟩
theorem ty35 : TyOk1 Try.prog tyT 35 ⟨.struct [(0, 4), (1, 34), (3, 3)], 4, [.v (.bool false), .v (.int .u64 0), .v (.int .u64 0), .v (.int .i64 0)], true, 32⟩ := ⟨⟨_, _, rfl, rfl, rfl, rfl, rfl, (fun _ => ⟨_, rfl⟩), (fun h => by cases h)⟩, ⟨_, rfl, rfl⟩, fsOk rfl,
  (fun _ => ⟨(by first | exact Try.stoodInHeld35 | kernel_rfl), (by first | exact Try.eqGuardType35 | kernel_rfl), (fun fields h => by first | (injection h with h; injection h with h; subst h; simp; done) | (cases h))⟩)⟩
theorem ty36 : TyOk1 Try.prog tyT 36 ⟨.struct [(0, 4), (1, 34), (3, 3)], 4, [.v (.bool false), .v (.int .u64 0), .v (.int .u64 0), .v (.int .i64 0)], true, 32⟩ := ⟨⟨_, _, rfl, rfl, rfl, rfl, rfl, (fun _ => ⟨_, rfl⟩), (fun h => by cases h)⟩, ⟨_, rfl, rfl⟩, fsOk rfl,
  (fun _ => ⟨(by first | exact Try.stoodInHeld36 | kernel_rfl), (by first | exact Try.eqGuardType36 | kernel_rfl), (fun fields h => by first | (injection h with h; injection h with h; subst h; simp; done) | (cases h))⟩)⟩
theorem ty50 : TyOk1 Try.prog tyT 50 ⟨.struct [(0, 4), (1, 34), (3, 3)], 4, [.v (.bool false), .v (.int .u64 0), .v (.int .u64 0), .v (.int .i64 0)], true, 32⟩ := ⟨⟨_, _, rfl, rfl, rfl, rfl, rfl, (fun _ => ⟨_, rfl⟩), (fun h => by cases h)⟩, ⟨_, rfl, rfl⟩, fsOk rfl,
  (fun _ => ⟨(by first | exact Try.stoodInHeld50 | kernel_rfl), (by first | exact Try.eqGuardType50 | kernel_rfl), (fun fields h => by first | (injection h with h; injection h with h; subst h; simp; done) | (cases h))⟩)⟩
theorem ty56 : TyOk1 Try.prog tyT 56 ⟨.slice 36, 1, [.sl 0 []], false, 24⟩ := ⟨⟨_, _, rfl, rfl, rfl, rfl, rfl, (fun h => by cases h), (fun _ => rfl)⟩, rfl, (fun fs h => by cases h),
  (fun h => by cases h)⟩
theorem ty62 : TyOk1 Try.prog tyT 62 ⟨.struct [(0, 4), (1, 34), (3, 34), (5, 3), (6, 4)], 7, [.v (.bool false), .v (.int .u64 0), .v (.int .u64 0), .v (.int .u64 0), .v (.int .u64 0), .v (.int .i64 0), .v (.bool false)], true, 56⟩ := ⟨⟨_, _, rfl, rfl, rfl, rfl, rfl, (fun _ => ⟨_, rfl⟩), (fun h => by cases h)⟩, ⟨_, rfl, rfl⟩, fsOk rfl,
  (fun _ => ⟨(by first | exact Try.stoodInHeld62 | kernel_rfl), (by first | exact Try.eqGuardType62 | kernel_rfl), (fun fields h => by first | (injection h with h; injection h with h; subst h; simp; done) | (cases h))⟩)⟩
theorem ty63 : TyOk1 Try.prog tyT 63 ⟨.struct [(0, 4), (1, 34), (3, 34), (5, 3), (6, 4)], 7, [.v (.bool false), .v (.int .u64 0), .v (.int .u64 0), .v (.int .u64 0), .v (.int .u64 0), .v (.int .i64 0), .v (.bool false)], true, 56⟩ := ⟨⟨_, _, rfl, rfl, rfl, rfl, rfl, (fun _ => ⟨_, rfl⟩), (fun h => by cases h)⟩, ⟨_, rfl, rfl⟩, fsOk rfl,
  (fun _ => ⟨(by first | exact Try.stoodInHeld63 | kernel_rfl), (by first | exact Try.eqGuardType63 | kernel_rfl), (fun fields h => by first | (injection h with h; injection h with h; subst h; simp; done) | (cases h))⟩)⟩
theorem ty64 : TyOk1 Try.prog tyT 64 ⟨.int .i64, 1, [.v (.int .i64 0)], false, 8⟩ := ⟨⟨_, _, rfl, rfl, rfl, rfl, rfl, (fun h => by cases h), (fun _ => rfl)⟩, rfl, (fun fs h => by cases h),
  (fun h => by cases h)⟩
theorem ty74 : TyOk1 Try.prog tyT 74 ⟨.slice 28, 1, [.sl 0 []], false, 24⟩ := ⟨⟨_, _, rfl, rfl, rfl, rfl, rfl, (fun h => by cases h), (fun _ => rfl)⟩, rfl, (fun fs h => by cases h),
  (fun h => by cases h)⟩
theorem ty100 : TyOk1 Try.prog tyT 100 ⟨.int .u64, 1, [.v (.int .u64 0)], false, 8⟩ := ⟨⟨_, _, rfl, rfl, rfl, rfl, rfl, (fun h => by cases h), (fun _ => rfl)⟩, rfl, (fun fs h => by cases h),
  (fun h => by cases h)⟩
theorem ty102 : TyOk1 Try.prog tyT 102 ⟨.arr 4 32, 4, [.v (.int .u64 0), .v (.int .u64 0), .v (.int .u64 0), .v (.int .u64 0)], false, 32⟩ := ⟨⟨_, _, rfl, rfl, rfl, rfl, rfl, (fun _ => ⟨_, rfl⟩), (fun h => by cases h)⟩, rfl, (fun fs h => by cases h),
  (fun h => by cases h)⟩
theorem ty110 : TyOk1 Try.prog tyT 110 ⟨.other, 1, [.v (.nilIface)], false, 16⟩ := ⟨⟨_, _, rfl, rfl, rfl, rfl, rfl, (fun h => by cases h), (fun _ => rfl)⟩, ⟨_, rfl, (fun _ h => by cases h), (fun _ _ h => by cases h)⟩, (fun fs h => by cases h),
  (fun h => by cases h)⟩
theorem ty111 : TyOk1 Try.prog tyT 111 ⟨.other, 1, [.v (.nilIface)], false, 16⟩ := ⟨⟨_, _, rfl, rfl, rfl, rfl, rfl, (fun h => by cases h), (fun _ => rfl)⟩, ⟨_, rfl, (fun _ h => by cases h), (fun _ _ h => by cases h)⟩, (fun fs h => by cases h),
  (fun h => by cases h)⟩
theorem ty113 : TyOk1 Try.prog tyT 113 ⟨.other, 1, [.v (.pointer none)], false, 8⟩ := ⟨⟨_, _, rfl, rfl, rfl, rfl, rfl, (fun h => by cases h), (fun _ => rfl)⟩, ⟨_, rfl, (fun _ h => by cases h), (fun _ _ h => by cases h)⟩, (fun fs h => by cases h),
  (fun h => by cases h)⟩
theorem ty115 : TyOk1 Try.prog tyT 115 ⟨.struct [(0, 17), (1, 17), (2, 17), (3, 9)], 4, [.v (.pointer none), .v (.pointer none), .v (.pointer none), .v (.string ⟨#[]⟩)], false, 40⟩ := ⟨⟨_, _, rfl, rfl, rfl, rfl, rfl, (fun _ => ⟨_, rfl⟩), (fun h => by cases h)⟩, ⟨_, rfl, rfl⟩, fsOk rfl,
  (fun h => by cases h)⟩
theorem ty116 : TyOk1 Try.prog tyT 116 ⟨.struct [(0, 17), (1, 17), (2, 17), (3, 9)], 4, [.v (.pointer none), .v (.pointer none), .v (.pointer none), .v (.string ⟨#[]⟩)], false, 40⟩ := ⟨⟨_, _, rfl, rfl, rfl, rfl, rfl, (fun _ => ⟨_, rfl⟩), (fun h => by cases h)⟩, ⟨_, rfl, rfl⟩, fsOk rfl,
  (fun h => by cases h)⟩
theorem ty117 : TyOk1 Try.prog tyT 117 ⟨.arr 0 16, 0, [], false, 0⟩ := ⟨⟨_, _, rfl, rfl, rfl, rfl, rfl, (fun _ => ⟨_, rfl⟩), (fun h => by cases h)⟩, rfl, (fun fs h => by cases h),
  (fun h => by cases h)⟩
theorem ty118 : TyOk1 Try.prog tyT 118 ⟨.struct [(0, 117)], 0, [], false, 0⟩ := ⟨⟨_, _, rfl, rfl, rfl, rfl, rfl, (fun _ => ⟨_, rfl⟩), (fun h => by cases h)⟩, ⟨_, rfl, rfl⟩, fsOk rfl,
  (fun h => by cases h)⟩
theorem ty119 : TyOk1 Try.prog tyT 119 ⟨.struct [(0, 117)], 0, [], false, 0⟩ := ⟨⟨_, _, rfl, rfl, rfl, rfl, rfl, (fun _ => ⟨_, rfl⟩), (fun h => by cases h)⟩, ⟨_, rfl, rfl⟩, fsOk rfl,
  (fun h => by cases h)⟩
theorem ty120 : TyOk1 Try.prog tyT 120 ⟨.int .u32, 1, [.v (.int .u32 0)], false, 4⟩ := ⟨⟨_, _, rfl, rfl, rfl, rfl, rfl, (fun h => by cases h), (fun _ => rfl)⟩, rfl, (fun fs h => by cases h),
  (fun h => by cases h)⟩
theorem ty121 : TyOk1 Try.prog tyT 121 ⟨.int .u8, 1, [.v (.int .u8 0)], false, 1⟩ := ⟨⟨_, _, rfl, rfl, rfl, rfl, rfl, (fun h => by cases h), (fun _ => rfl)⟩, rfl, (fun fs h => by cases h),
  (fun h => by cases h)⟩
theorem ty122 : TyOk1 Try.prog tyT 122 ⟨.int .u8, 1, [.v (.int .u8 0)], false, 1⟩ := ⟨⟨_, _, rfl, rfl, rfl, rfl, rfl, (fun h => by cases h), (fun _ => rfl)⟩, rfl, (fun fs h => by cases h),
  (fun h => by cases h)⟩
theorem ty124 : TyOk1 Try.prog tyT 124 ⟨.other, 1, [.v (.pointer none)], false, 8⟩ := ⟨⟨_, _, rfl, rfl, rfl, rfl, rfl, (fun h => by cases h), (fun _ => rfl)⟩, ⟨_, rfl, (fun _ h => by cases h), (fun _ _ h => by cases h)⟩, (fun fs h => by cases h),
  (fun h => by cases h)⟩
theorem ty125 : TyOk1 Try.prog tyT 125 ⟨.int .i32, 1, [.v (.int .i32 0)], false, 4⟩ := ⟨⟨_, _, rfl, rfl, rfl, rfl, rfl, (fun h => by cases h), (fun _ => rfl)⟩, rfl, (fun fs h => by cases h),
  (fun h => by cases h)⟩
theorem ty126 : TyOk1 Try.prog tyT 126 ⟨.int .i32, 1, [.v (.int .i32 0)], false, 4⟩ := ⟨⟨_, _, rfl, rfl, rfl, rfl, rfl, (fun h => by cases h), (fun _ => rfl)⟩, rfl, (fun fs h => by cases h),
  (fun h => by cases h)⟩
theorem ty130 : TyOk1 Try.prog tyT 130 ⟨.struct [(0, 9)], 1, [.v (.string ⟨#[]⟩)], true, 16⟩ := ⟨⟨_, _, rfl, rfl, rfl, rfl, rfl, (fun _ => ⟨_, rfl⟩), (fun h => by cases h)⟩, ⟨_, rfl, rfl⟩, fsOk rfl,
  (fun _ => ⟨(by first | exact Try.stoodInHeld130 | kernel_rfl), (by first | exact Try.eqGuardType130 | kernel_rfl), (fun fields h => by first | (injection h with h; injection h with h; subst h; simp; done) | (cases h))⟩)⟩
theorem ty131 : TyOk1 Try.prog tyT 131 ⟨.struct [(0, 9)], 1, [.v (.string ⟨#[]⟩)], true, 16⟩ := ⟨⟨_, _, rfl, rfl, rfl, rfl, rfl, (fun _ => ⟨_, rfl⟩), (fun h => by cases h)⟩, ⟨_, rfl, rfl⟩, fsOk rfl,
  (fun _ => ⟨(by first | exact Try.stoodInHeld131 | kernel_rfl), (by first | exact Try.eqGuardType131 | kernel_rfl), (fun fields h => by first | (injection h with h; injection h with h; subst h; simp; done) | (cases h))⟩)⟩
theorem ty132 : TyOk1 Try.prog tyT 132 ⟨.other, 1, [.v (.pointer none)], false, 8⟩ := ⟨⟨_, _, rfl, rfl, rfl, rfl, rfl, (fun h => by cases h), (fun _ => rfl)⟩, ⟨_, rfl, (fun _ h => by cases h), (fun _ _ h => by cases h)⟩, (fun fs h => by cases h),
  (fun h => by cases h)⟩
theorem ty133 : TyOk1 Try.prog tyT 133 ⟨.int .i64, 1, [.v (.int .i64 0)], false, 8⟩ := ⟨⟨_, _, rfl, rfl, rfl, rfl, rfl, (fun h => by cases h), (fun _ => rfl)⟩, rfl, (fun fs h => by cases h),
  (fun h => by cases h)⟩
theorem tyOk : TyOk Try.prog tyT := tyOk_of (by
  simp only [tyL, List.forall_mem_cons, List.not_mem_nil, false_implies, implies_true, and_true]
  exact ⟨ty2, ty3, ty4, ty5, ty6, ty7, ty8, ty9, ty10, ty11, ty12, ty13, ty14, ty15, ty16, ty17, ty18, ty19, ty20, ty21, ty22, ty24, ty25, ty26, ty27, ty28, ty32, ty33, ty34, ty35, ty36, ty50, ty56, ty62, ty63, ty64, ty74, ty100, ty102, ty110, ty111, ty113, ty115, ty116, ty117, ty118, ty119, ty120, ty121, ty122, ty124, ty125, ty126, ty130, ty131, ty132, ty133⟩)
end Go.Proofs.Ytmldjlgeeljfdaa
