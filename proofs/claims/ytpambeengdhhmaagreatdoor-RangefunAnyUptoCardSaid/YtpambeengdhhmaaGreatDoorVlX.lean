/-
  Values: what is in them, without memory; how they read. value.Value's Kind, Null. value's As.. of any value: AsRange, AsBool; of the value that it is: the others. value's own: lists and texts cloned; a text's place among some; numbers, texts, days and so on as values. value's List, Range, Context: of any values.
-/
import Derived.Test.YtpambeengdhhmaaGreatDoorTxS
import Derived.Test.YtpambeengdhhmaaGreatDoorDecs
import Derived.Test.YtpambeengdhhmaaGreatDoorCivZ
import Derived.Handy
import Derived.Test.YtpambeengdhhmaaGreatDoorVcG
import Derived.Test.YtpambeengdhhmaaGreatDoorLayZ
namespace Go.Proofs.YtpambeengdhhmaaGreatDoor

open Go.RowKit
set_option linter.unusedVariables false
set_option linter.unusedSimpArgs false
set_option maxRecDepth 100000

theorem HasC.args {P : Program} {f : FuncId} {ds ds' : List DV} {post : DV → Prop} (h : HasC P f ds' post) (k : ∀ Im W vs, DV.relL Im W ds vs → DV.relL Im W ds' vs) : HasC P f ds post :=
  ⟨h.1, h.2.1, fun W vs Im hK hIm hr => h.2.2 W vs Im hK hIm (k _ _ _ hr)⟩
theorem HasC.weak {P : Program} {f : FuncId} {ds : List DV} {post post' : DV → Prop} (h : HasC P f ds post) (k : ∀ y, post y → ∃ y', post' y' ∧ ∀ Im W r, y.rel Im W r → y'.rel Im W r) : HasC P f ds post' :=
  ⟨h.1, h.2.1.elim fun y hy => (k y hy).elim fun y' h' => ⟨y', h'.1⟩, fun W vs Im hK hIm hr => (h.2.2 W vs Im hK hIm hr).mono fun e W' ⟨r, y, h1, h2, h3, h4⟩ => (k y h2).elim fun y' h' => ⟨r, y', h1, h'.1, h'.2 _ _ _ h3, h4⟩⟩
theorem rel_bx {Im : Nat → Nat → Prop} {W : World} {x : DV} {y : Value} (h1 : x.one = true) (h : x.rel Im W y) : (DV.bx x).rel Im W y := by
  rw [DV.rel]
  exact ⟨DV.one_rel h h1, h⟩
theorem rel_agg1 {Im : Nat → Nat → Prop} {W : World} {x x' : DV} {y : Value} (h : ∀ z, x.rel Im W z → x'.rel Im W z) (k : (DV.agg [x]).rel Im W y) : (DV.agg [x']).rel Im W y := by
  rw [DV.rel] at k ⊢
  obtain ⟨vs, e, k2⟩ := k
  refine ⟨vs, e, ?_⟩
  rw [DV.relL] at k2 ⊢
  obtain ⟨u, us, e1, k3, k4⟩ := k2
  exact ⟨u, us, e1, h _ k3, k4⟩
/-- The box around an argument's cell is laid off. -/
theorem HasC.ub {P : Program} {f : FuncId} {x : DV} {r : List DV} {post : DV → Prop} (h : HasC P f (.agg [x] :: r) post) : HasC P f (.agg [.bx x] :: r) post := h.args fun Im W vs k => by
  rw [DV.relL] at k ⊢
  obtain ⟨u, us, e, k1, k2⟩ := k
  exact ⟨u, us, e, rel_agg1 (fun z hz => by rw [DV.rel] at hz; exact hz.2) k1, k2⟩
inductive Vl where
  | null
  | bool (b : Bool)
  | num (g : Bool) (n : Nat) (e : Int)
  | text (l : L8)
  | day (y m d : Int)
  | time (s : Int) (z : Bool) (o : Int)
  | mom (y m d s : Int) (z : Bool) (o : Int)
  | days (n : Int)
  | months (n : Int)
  | list (vs : List Vl)
  | ctx (ns : List L8) (vs : List Vl)
  | rng (lo hi : Vl) (p q : Bool)

def txsD (ns : List L8) : List DV := ns.map fun l => .v (.string (tx l))
mutual
def Vl.enc : Vl → DV
  | .null => .v .nilIface
  | .bool b => .ifc 109 (.v (.bool b))
  | .num g n e => .ifc 107 (dDec g n e)
  | .text l => .ifc 108 (.v (.string (tx l)))
  | .day y m d => .ifc 180 (.agg [.v (.int .i64 y), .v (.int .i64 m), .v (.int .i64 d)])
  | .time s z o => .ifc 184 (.agg [.v (.int .i64 s), .v (.bool z), .v (.int .i64 o)])
  | .mom y m d s z o => .ifc 186 (.agg [.v (.int .i64 y), .v (.int .i64 m), .v (.int .i64 d), .v (.int .i64 s), .v (.bool z), .v (.int .i64 o)])
  | .days n => .ifc 226 (.v (.int .i64 n))
  | .months n => .ifc 227 (.v (.int .i64 n))
  | .list vs => .ifc 105 (.sl vs.length (encL vs))
  | .ctx ns vs => .ifc 169 (.agg [.sl ns.length (txsD ns), .sl vs.length (encL vs)])
  | .rng lo hi p q => .ifc 78 (.agg [.bx lo.enc, .bx hi.enc, .v (.bool p), .v (.bool q)])
def encL : List Vl → List DV
  | [] => []
  | v :: vs => .bx v.enc :: encL vs
end
/-- A value's cell, whatever it is; a value. -/
abbrev BV (v : Vl) : DV := .bx v.enc
abbrev VV (v : Vl) : DV := .agg [.bx v.enc]
def Vl.nullB : Vl → Bool
  | .null => true
  | _ => false
def Vl.kindI : Vl → Int
  | .null => 1
  | .bool _ => 2
  | .num _ _ _ => 3
  | .text _ => 4
  | .day _ _ _ => 5
  | .time _ _ _ => 6
  | .mom _ _ _ _ _ _ => 7
  | .days _ => 8
  | .months _ => 9
  | .list _ => 10
  | .ctx _ _ => 11
  | .rng _ _ _ _ => 12
theorem kind_null {v : Vl} : v.kindI = 1 ↔ v = .null := by cases v <;> simp [Vl.kindI]
theorem kind_rng {v : Vl} : 1 ≤ v.kindI ∧ v.kindI ≤ 12 := by cases v <;> simp [Vl.kindI]
theorem enc_one (v : Vl) : v.enc.one = true := by cases v <;> simp [Vl.enc, DV.one, Value.oneCell']
theorem encL_map : ∀ vs, encL vs = vs.map BV
  | [] => by simp [encL]
  | v :: vs => by rw [encL, encL_map vs]; rfl
@[simp] theorem encL_len (vs : List Vl) : (encL vs).length = vs.length := by rw [encL_map, List.length_map]
@[simp] theorem txsD_len (ns : List L8) : (txsD ns).length = ns.length := by simp [txsD]
theorem encL_allOne : ∀ vs, allOne (encL vs) = true
  | [] => by simp [encL, allOne]
  | v :: vs => by rw [encL]; simp only [allOne, DV.one, Bool.true_and]; exact encL_allOne vs
theorem txsD_allOne : ∀ ns, allOne (txsD ns) = true
  | [] => rfl
  | l :: ns => by
    have := txsD_allOne ns
    simp only [txsD, List.map_cons, allOne, DV.one, Value.oneCell', Bool.true_and] at this ⊢
    exact this
/-- A result, its cell boxed. -/
theorem HasC.bxR {P : Program} {f : FuncId} {ds : List DV} {v : Vl} (h : HasC P f ds (fun y => y = .agg [v.enc])) : HasC P f ds (fun y => y = VV v) :=
  h.weak fun y hy => ⟨_, rfl, fun Im W r k => by subst hy; exact rel_agg1 (fun z hz => rel_bx (enc_one v) hz) k⟩

-- what may be
def spanOk (n : Int) : Prop := -9007199254740992 ≤ n ∧ n ≤ 9007199254740992
def ordK (k : Int) : Bool := decide (3 ≤ k ∧ k ≤ 9)
mutual
def Vl.ok : Vl → Prop
  | .null => True
  | .bool _ => True
  | .num g n e => May g n e
  | .text l => l.length ≤ 1048576
  | .day y m d => mayD y m d
  | .time s z o => mayT s z o
  | .mom y m d s z o => mayD y m d ∧ mayT s z o
  | .days n => spanOk n
  | .months n => spanOk n
  | .list vs => vs.length ≤ 1073741824 ∧ okL vs
  | .ctx ns vs => ns.length = vs.length ∧ ns.Nodup ∧ vs.length ≤ 1073741824 ∧ okL vs
  | .rng lo hi p q => lo.ok ∧ hi.ok ∧ (lo = .null ∨ ordK lo.kindI = true) ∧ (hi = .null ∨ ordK hi.kindI = true) ∧ (lo ≠ .null → hi ≠ .null → lo.kindI = hi.kindI) ∧ (p = true → lo ≠ .null) ∧ (q = true → hi ≠ .null)
def okL : List Vl → Prop
  | [] => True
  | v :: vs => v.ok ∧ okL vs
end
theorem okL_iff : ∀ {vs : List Vl}, okL vs ↔ ∀ v ∈ vs, v.ok
  | [] => by simp [okL]
  | v :: vs => by rw [okL, okL_iff]; simp


open Go.RowKit
set_option linter.unusedVariables false
set_option linter.unusedSimpArgs false
set_option maxRecDepth 100000

theorem one_arg {Im : Nat → Nat → Prop} {W : World} {t : TypeId} {d : DV} {vs : Array Value} (hr : DV.relL Im W [.agg [.ifc t d]] vs.toList) : ∃ u, vs = #[.agg #[.iface t u]] := by
  rw [DV.relL] at hr
  obtain ⟨a, r0, e1, h1, h2⟩ := hr
  rw [DV.relL] at h2
  subst h2
  rw [DV.rel] at h1
  obtain ⟨xs, rfl, h3⟩ := h1
  rw [DV.relL] at h3
  obtain ⟨b, bs, e2, h4, h5⟩ := h3
  rw [DV.relL] at h5
  subst h5
  rw [DV.rel] at h4
  obtain ⟨u, rfl, h6⟩ := h4
  have ex : xs = #[.iface t u] := Array.ext' e2
  exact ⟨u, Array.ext' (by rw [e1, ex])⟩
theorem nil_arg {Im : Nat → Nat → Prop} {W : World} {vs : Array Value} (hr : DV.relL Im W [.agg [.v .nilIface]] vs.toList) : vs = #[.agg #[.nilIface]] := by
  rw [DV.relL] at hr
  obtain ⟨a, r0, e1, h1, h2⟩ := hr
  rw [DV.relL] at h2
  subst h2
  rw [DV.rel] at h1
  obtain ⟨xs, rfl, h3⟩ := h1
  rw [DV.relL] at h3
  obtain ⟨b, bs, e2, h4, h5⟩ := h3
  rw [DV.relL] at h5
  subst h5
  rw [DV.rel] at h4
  subst h4
  have ex : xs = #[.nilIface] := Array.ext' e2
  exact Array.ext' (by rw [e1, ex])
/-- A function of one value behind an interface, of which it asks the type alone. -/
theorem HasC.ofIfc {f : FuncId} {t : TypeId} {r : Value} {d : DV} (hent : Enters Tryz.prog f) (h : ∀ u w, Calls Tryz.prog f #[.agg #[.iface t u]] w fun e w' => e = .returned r ∧ Below w.heap.size w w') : HasC Tryz.prog f [.agg [.ifc t d]] (fun y => y = .v r) := by
  refine ⟨hent, ⟨_, rfl⟩, fun W vs Im _ hIm hr => ?_⟩
  obtain ⟨u, rfl⟩ := one_arg hr
  exact (h u W).mono fun e w' ⟨he, hb⟩ => ⟨r, _, he, rfl, v_rel r, hb⟩
theorem HasC.ofNil {f : FuncId} {r : Value} (hent : Enters Tryz.prog f) (h : ∀ w, Calls Tryz.prog f #[.agg #[.nilIface]] w fun e w' => e = .returned r ∧ Below w.heap.size w w') : HasC Tryz.prog f [.agg [.v .nilIface]] (fun y => y = .v r) := by
  refine ⟨hent, ⟨_, rfl⟩, fun W vs Im _ hIm hr => ?_⟩
  obtain rfl := nil_arg hr
  exact (h W).mono fun e w' ⟨he, hb⟩ => ⟨r, _, he, rfl, v_rel r, hb⟩

theorem c_NullI {t : TypeId} {d : DV} : HasC Tryz.prog 14 [.agg [.ifc t d]] (fun y => y = .v (.bool false)) :=
  HasC.ofIfc (fun args w => Tryz.call14 args w) fun u w => by
    go_enter Tryz.func14, Tryz.ntmps14
    go_wp2_with fail
    go_returns
    exact ⟨rfl, by go_grown⟩
theorem c_Null0 : HasC Tryz.prog 14 [.agg [.v .nilIface]] (fun y => y = .v (.bool true)) :=
  HasC.ofNil (fun args w => Tryz.call14 args w) fun w => by
    go_enter Tryz.func14, Tryz.ntmps14
    go_wp2_with fail
    go_returns
    exact ⟨rfl, by go_grown⟩
theorem c_Null (v : Vl) : HasC Tryz.prog 14 [VV v] (fun y => y = .v (.bool v.nullB)) := by
  cases v
  case null => exact HasC.ub c_Null0
  all_goals exact HasC.ub c_NullI
theorem c_Kind0 : HasC Tryz.prog 40 [.agg [.v .nilIface]] (fun y => y = .v (.int .i64 1)) :=
  HasC.ofNil (fun args w => Tryz.call40 args w) fun w => by
    go_enter Tryz.func40, Tryz.ntmps40
    go_wp2_with fail
    go_returns
    exact ⟨rfl, by go_grown⟩
theorem kind_boolean (u : Value) (w : World) : Calls Tryz.prog 235 #[u] w fun e w' => e = .returned (.int .i64 2) ∧ Below w.heap.size w w' := by
  go_enter Tryz.func235, Tryz.ntmps235
  go_wp2_with fail
  all_goals (go_returns; exact ⟨rfl, by go_grown⟩)
theorem c_Kind_boolean {d : DV} : HasC Tryz.prog 40 [.agg [.ifc 109 d]] (fun y => y = .v (.int .i64 2)) :=
  HasC.ofIfc (fun args w => Tryz.call40 args w) fun u w => by
    go_enter Tryz.func40, Tryz.ntmps40
    go_wp2_with fail
    go_call (kind_boolean u) as e w1 ⟨he, hb⟩
    subst he
    go_wp2_with fail
    go_returns
    exact ⟨rfl, Below.trans (by go_grown) (hb.mono (by go_size))⟩
theorem kind_number (u : Value) (w : World) : Calls Tryz.prog 233 #[u] w fun e w' => e = .returned (.int .i64 3) ∧ Below w.heap.size w w' := by
  go_enter Tryz.func233, Tryz.ntmps233
  go_wp2_with fail
  all_goals (go_returns; exact ⟨rfl, by go_grown⟩)
theorem c_Kind_number {d : DV} : HasC Tryz.prog 40 [.agg [.ifc 107 d]] (fun y => y = .v (.int .i64 3)) :=
  HasC.ofIfc (fun args w => Tryz.call40 args w) fun u w => by
    go_enter Tryz.func40, Tryz.ntmps40
    go_wp2_with fail
    go_call (kind_number u) as e w1 ⟨he, hb⟩
    subst he
    go_wp2_with fail
    go_returns
    exact ⟨rfl, Below.trans (by go_grown) (hb.mono (by go_size))⟩
theorem kind_text (u : Value) (w : World) : Calls Tryz.prog 234 #[u] w fun e w' => e = .returned (.int .i64 4) ∧ Below w.heap.size w w' := by
  go_enter Tryz.func234, Tryz.ntmps234
  go_wp2_with fail
  all_goals (go_returns; exact ⟨rfl, by go_grown⟩)
theorem c_Kind_text {d : DV} : HasC Tryz.prog 40 [.agg [.ifc 108 d]] (fun y => y = .v (.int .i64 4)) :=
  HasC.ofIfc (fun args w => Tryz.call40 args w) fun u w => by
    go_enter Tryz.func40, Tryz.ntmps40
    go_wp2_with fail
    go_call (kind_text u) as e w1 ⟨he, hb⟩
    subst he
    go_wp2_with fail
    go_returns
    exact ⟨rfl, Below.trans (by go_grown) (hb.mono (by go_size))⟩
theorem kind_day (u : Value) (w : World) : Calls Tryz.prog 237 #[u] w fun e w' => e = .returned (.int .i64 5) ∧ Below w.heap.size w w' := by
  go_enter Tryz.func237, Tryz.ntmps237
  go_wp2_with fail
  all_goals (go_returns; exact ⟨rfl, by go_grown⟩)
theorem c_Kind_day {d : DV} : HasC Tryz.prog 40 [.agg [.ifc 180 d]] (fun y => y = .v (.int .i64 5)) :=
  HasC.ofIfc (fun args w => Tryz.call40 args w) fun u w => by
    go_enter Tryz.func40, Tryz.ntmps40
    go_wp2_with fail
    go_call (kind_day u) as e w1 ⟨he, hb⟩
    subst he
    go_wp2_with fail
    go_returns
    exact ⟨rfl, Below.trans (by go_grown) (hb.mono (by go_size))⟩
theorem kind_time (u : Value) (w : World) : Calls Tryz.prog 238 #[u] w fun e w' => e = .returned (.int .i64 6) ∧ Below w.heap.size w w' := by
  go_enter Tryz.func238, Tryz.ntmps238
  go_wp2_with fail
  all_goals (go_returns; exact ⟨rfl, by go_grown⟩)
theorem c_Kind_time {d : DV} : HasC Tryz.prog 40 [.agg [.ifc 184 d]] (fun y => y = .v (.int .i64 6)) :=
  HasC.ofIfc (fun args w => Tryz.call40 args w) fun u w => by
    go_enter Tryz.func40, Tryz.ntmps40
    go_wp2_with fail
    go_call (kind_time u) as e w1 ⟨he, hb⟩
    subst he
    go_wp2_with fail
    go_returns
    exact ⟨rfl, Below.trans (by go_grown) (hb.mono (by go_size))⟩
theorem kind_instant (u : Value) (w : World) : Calls Tryz.prog 239 #[u] w fun e w' => e = .returned (.int .i64 7) ∧ Below w.heap.size w w' := by
  go_enter Tryz.func239, Tryz.ntmps239
  go_wp2_with fail
  all_goals (go_returns; exact ⟨rfl, by go_grown⟩)
theorem c_Kind_instant {d : DV} : HasC Tryz.prog 40 [.agg [.ifc 186 d]] (fun y => y = .v (.int .i64 7)) :=
  HasC.ofIfc (fun args w => Tryz.call40 args w) fun u w => by
    go_enter Tryz.func40, Tryz.ntmps40
    go_wp2_with fail
    go_call (kind_instant u) as e w1 ⟨he, hb⟩
    subst he
    go_wp2_with fail
    go_returns
    exact ⟨rfl, Below.trans (by go_grown) (hb.mono (by go_size))⟩
theorem kind_days (u : Value) (w : World) : Calls Tryz.prog 242 #[u] w fun e w' => e = .returned (.int .i64 8) ∧ Below w.heap.size w w' := by
  go_enter Tryz.func242, Tryz.ntmps242
  go_wp2_with fail
  all_goals (go_returns; exact ⟨rfl, by go_grown⟩)
theorem c_Kind_days {d : DV} : HasC Tryz.prog 40 [.agg [.ifc 226 d]] (fun y => y = .v (.int .i64 8)) :=
  HasC.ofIfc (fun args w => Tryz.call40 args w) fun u w => by
    go_enter Tryz.func40, Tryz.ntmps40
    go_wp2_with fail
    go_call (kind_days u) as e w1 ⟨he, hb⟩
    subst he
    go_wp2_with fail
    go_returns
    exact ⟨rfl, Below.trans (by go_grown) (hb.mono (by go_size))⟩
theorem kind_months (u : Value) (w : World) : Calls Tryz.prog 243 #[u] w fun e w' => e = .returned (.int .i64 9) ∧ Below w.heap.size w w' := by
  go_enter Tryz.func243, Tryz.ntmps243
  go_wp2_with fail
  all_goals (go_returns; exact ⟨rfl, by go_grown⟩)
theorem c_Kind_months {d : DV} : HasC Tryz.prog 40 [.agg [.ifc 227 d]] (fun y => y = .v (.int .i64 9)) :=
  HasC.ofIfc (fun args w => Tryz.call40 args w) fun u w => by
    go_enter Tryz.func40, Tryz.ntmps40
    go_wp2_with fail
    go_call (kind_months u) as e w1 ⟨he, hb⟩
    subst he
    go_wp2_with fail
    go_returns
    exact ⟨rfl, Below.trans (by go_grown) (hb.mono (by go_size))⟩
theorem kind_list (u : Value) (w : World) : Calls Tryz.prog 232 #[u] w fun e w' => e = .returned (.int .i64 10) ∧ Below w.heap.size w w' := by
  go_enter Tryz.func232, Tryz.ntmps232
  go_wp2_with fail
  all_goals (go_returns; exact ⟨rfl, by go_grown⟩)
theorem c_Kind_list {d : DV} : HasC Tryz.prog 40 [.agg [.ifc 105 d]] (fun y => y = .v (.int .i64 10)) :=
  HasC.ofIfc (fun args w => Tryz.call40 args w) fun u w => by
    go_enter Tryz.func40, Tryz.ntmps40
    go_wp2_with fail
    go_call (kind_list u) as e w1 ⟨he, hb⟩
    subst he
    go_wp2_with fail
    go_returns
    exact ⟨rfl, Below.trans (by go_grown) (hb.mono (by go_size))⟩
theorem kind_context (u : Value) (w : World) : Calls Tryz.prog 236 #[u] w fun e w' => e = .returned (.int .i64 11) ∧ Below w.heap.size w w' := by
  go_enter Tryz.func236, Tryz.ntmps236
  go_wp2_with fail
  all_goals (go_returns; exact ⟨rfl, by go_grown⟩)
theorem c_Kind_context {d : DV} : HasC Tryz.prog 40 [.agg [.ifc 169 d]] (fun y => y = .v (.int .i64 11)) :=
  HasC.ofIfc (fun args w => Tryz.call40 args w) fun u w => by
    go_enter Tryz.func40, Tryz.ntmps40
    go_wp2_with fail
    go_call (kind_context u) as e w1 ⟨he, hb⟩
    subst he
    go_wp2_with fail
    go_returns
    exact ⟨rfl, Below.trans (by go_grown) (hb.mono (by go_size))⟩
theorem kind_interval (u : Value) (w : World) : Calls Tryz.prog 231 #[u] w fun e w' => e = .returned (.int .i64 12) ∧ Below w.heap.size w w' := by
  go_enter Tryz.func231, Tryz.ntmps231
  go_wp2_with fail
  all_goals (go_returns; exact ⟨rfl, by go_grown⟩)
theorem c_Kind_interval {d : DV} : HasC Tryz.prog 40 [.agg [.ifc 78 d]] (fun y => y = .v (.int .i64 12)) :=
  HasC.ofIfc (fun args w => Tryz.call40 args w) fun u w => by
    go_enter Tryz.func40, Tryz.ntmps40
    go_wp2_with fail
    go_call (kind_interval u) as e w1 ⟨he, hb⟩
    subst he
    go_wp2_with fail
    go_returns
    exact ⟨rfl, Below.trans (by go_grown) (hb.mono (by go_size))⟩
theorem c_Kind (v : Vl) : HasC Tryz.prog 40 [VV v] (fun y => y = .v (.int .i64 v.kindI)) := by
  cases v
  case null => exact HasC.ub c_Kind0
  case bool => exact HasC.ub c_Kind_boolean
  case num => exact HasC.ub c_Kind_number
  case text => exact HasC.ub c_Kind_text
  case day => exact HasC.ub c_Kind_day
  case time => exact HasC.ub c_Kind_time
  case mom => exact HasC.ub c_Kind_instant
  case days => exact HasC.ub c_Kind_days
  case months => exact HasC.ub c_Kind_months
  case list => exact HasC.ub c_Kind_list
  case ctx => exact HasC.ub c_Kind_context
  case rng => exact HasC.ub c_Kind_interval


open Go.RowKit
set_option linter.unusedVariables false
set_option linter.unusedSimpArgs false
set_option maxRecDepth 100000
theorem v_AsRange_bool {d : DV} : HasC Tryz.prog 42 [.agg [.ifc 109 (d)]] (fun r => r = .tup [.agg [.v .nilIface, .v .nilIface], .agg [.v (.bool false), .v (.bool false)], .v (.bool false)]) := by
 refine HasC.of [2] (fn := Tryz.f42) tyOk mixed (fun args w => Tryz.call42 args w) Tryz.func42 rfl (by kernel_rfl) (Nat.le_of_ble_eq_true rfl) (⟨_, rfl⟩) ?_
 refine vc_seqr rfl (iQ 4 (iE 18 [(1, .p 1 0), (2, .p 2 0), (3, .p 3 0), (4, Ba false)] [(1, [.ifc 109 (d)]), (2, [.v (.nilIface), .v (.nilIface)]), (3, [Bv false, Bv false])] ?_))
 refine vc_seqr rfl (iQ 9 (iE 18 [(2, .p 2 0), (3, .p 3 0), (4, Ba false), (5, .p 5 0), (6, Ba false)] [(2, [.v (.nilIface), .v (.nilIface)]), (3, [Bv false, Bv false]), (5, [.v (.nilIface), .v (.nilIface), Bv false, Bv false])] ?_))
 refine vc_seqrx rfl (by kernel_rfl) ?_
 refine iQ 8 (iE 18 [(2, .p 2 0), (3, .p 3 0), (4, Ba false), (5, .p 5 0)] [(2, [.v (.nilIface), .v (.nilIface)]), (3, [Bv false, Bv false]), (5, [.v (.nilIface), .v (.nilIface), Bv false, Bv false])] ?_)
 refine vc_ret (iS (.agg [.v (.nilIface), .v (.nilIface)]) (.agg [Bv false, Bv false]) [Bv false] ?_)
 rfl
theorem v_AsRange_num {d : DV} : HasC Tryz.prog 42 [.agg [.ifc 107 (d)]] (fun r => r = .tup [.agg [.v .nilIface, .v .nilIface], .agg [.v (.bool false), .v (.bool false)], .v (.bool false)]) := by
 refine HasC.of [2] (fn := Tryz.f42) tyOk mixed (fun args w => Tryz.call42 args w) Tryz.func42 rfl (by kernel_rfl) (Nat.le_of_ble_eq_true rfl) (⟨_, rfl⟩) ?_
 refine vc_seqr rfl (iQ 4 (iE 18 [(1, .p 1 0), (2, .p 2 0), (3, .p 3 0), (4, Ba false)] [(1, [.ifc 107 (d)]), (2, [.v (.nilIface), .v (.nilIface)]), (3, [Bv false, Bv false])] ?_))
 refine vc_seqr rfl (iQ 9 (iE 18 [(2, .p 2 0), (3, .p 3 0), (4, Ba false), (5, .p 5 0), (6, Ba false)] [(2, [.v (.nilIface), .v (.nilIface)]), (3, [Bv false, Bv false]), (5, [.v (.nilIface), .v (.nilIface), Bv false, Bv false])] ?_))
 refine vc_seqrx rfl (by kernel_rfl) ?_
 refine iQ 8 (iE 18 [(2, .p 2 0), (3, .p 3 0), (4, Ba false), (5, .p 5 0)] [(2, [.v (.nilIface), .v (.nilIface)]), (3, [Bv false, Bv false]), (5, [.v (.nilIface), .v (.nilIface), Bv false, Bv false])] ?_)
 refine vc_ret (iS (.agg [.v (.nilIface), .v (.nilIface)]) (.agg [Bv false, Bv false]) [Bv false] ?_)
 rfl
theorem v_AsRange_text {d : DV} : HasC Tryz.prog 42 [.agg [.ifc 108 (d)]] (fun r => r = .tup [.agg [.v .nilIface, .v .nilIface], .agg [.v (.bool false), .v (.bool false)], .v (.bool false)]) := by
 refine HasC.of [2] (fn := Tryz.f42) tyOk mixed (fun args w => Tryz.call42 args w) Tryz.func42 rfl (by kernel_rfl) (Nat.le_of_ble_eq_true rfl) (⟨_, rfl⟩) ?_
 refine vc_seqr rfl (iQ 4 (iE 18 [(1, .p 1 0), (2, .p 2 0), (3, .p 3 0), (4, Ba false)] [(1, [.ifc 108 (d)]), (2, [.v (.nilIface), .v (.nilIface)]), (3, [Bv false, Bv false])] ?_))
 refine vc_seqr rfl (iQ 9 (iE 18 [(2, .p 2 0), (3, .p 3 0), (4, Ba false), (5, .p 5 0), (6, Ba false)] [(2, [.v (.nilIface), .v (.nilIface)]), (3, [Bv false, Bv false]), (5, [.v (.nilIface), .v (.nilIface), Bv false, Bv false])] ?_))
 refine vc_seqrx rfl (by kernel_rfl) ?_
 refine iQ 8 (iE 18 [(2, .p 2 0), (3, .p 3 0), (4, Ba false), (5, .p 5 0)] [(2, [.v (.nilIface), .v (.nilIface)]), (3, [Bv false, Bv false]), (5, [.v (.nilIface), .v (.nilIface), Bv false, Bv false])] ?_)
 refine vc_ret (iS (.agg [.v (.nilIface), .v (.nilIface)]) (.agg [Bv false, Bv false]) [Bv false] ?_)
 rfl
theorem v_AsRange_day {d : DV} : HasC Tryz.prog 42 [.agg [.ifc 180 (d)]] (fun r => r = .tup [.agg [.v .nilIface, .v .nilIface], .agg [.v (.bool false), .v (.bool false)], .v (.bool false)]) := by
 refine HasC.of [2] (fn := Tryz.f42) tyOk mixed (fun args w => Tryz.call42 args w) Tryz.func42 rfl (by kernel_rfl) (Nat.le_of_ble_eq_true rfl) (⟨_, rfl⟩) ?_
 refine vc_seqr rfl (iQ 4 (iE 18 [(1, .p 1 0), (2, .p 2 0), (3, .p 3 0), (4, Ba false)] [(1, [.ifc 180 (d)]), (2, [.v (.nilIface), .v (.nilIface)]), (3, [Bv false, Bv false])] ?_))
 refine vc_seqr rfl (iQ 9 (iE 18 [(2, .p 2 0), (3, .p 3 0), (4, Ba false), (5, .p 5 0), (6, Ba false)] [(2, [.v (.nilIface), .v (.nilIface)]), (3, [Bv false, Bv false]), (5, [.v (.nilIface), .v (.nilIface), Bv false, Bv false])] ?_))
 refine vc_seqrx rfl (by kernel_rfl) ?_
 refine iQ 8 (iE 18 [(2, .p 2 0), (3, .p 3 0), (4, Ba false), (5, .p 5 0)] [(2, [.v (.nilIface), .v (.nilIface)]), (3, [Bv false, Bv false]), (5, [.v (.nilIface), .v (.nilIface), Bv false, Bv false])] ?_)
 refine vc_ret (iS (.agg [.v (.nilIface), .v (.nilIface)]) (.agg [Bv false, Bv false]) [Bv false] ?_)
 rfl
theorem v_AsRange_time {d : DV} : HasC Tryz.prog 42 [.agg [.ifc 184 (d)]] (fun r => r = .tup [.agg [.v .nilIface, .v .nilIface], .agg [.v (.bool false), .v (.bool false)], .v (.bool false)]) := by
 refine HasC.of [2] (fn := Tryz.f42) tyOk mixed (fun args w => Tryz.call42 args w) Tryz.func42 rfl (by kernel_rfl) (Nat.le_of_ble_eq_true rfl) (⟨_, rfl⟩) ?_
 refine vc_seqr rfl (iQ 4 (iE 18 [(1, .p 1 0), (2, .p 2 0), (3, .p 3 0), (4, Ba false)] [(1, [.ifc 184 (d)]), (2, [.v (.nilIface), .v (.nilIface)]), (3, [Bv false, Bv false])] ?_))
 refine vc_seqr rfl (iQ 9 (iE 18 [(2, .p 2 0), (3, .p 3 0), (4, Ba false), (5, .p 5 0), (6, Ba false)] [(2, [.v (.nilIface), .v (.nilIface)]), (3, [Bv false, Bv false]), (5, [.v (.nilIface), .v (.nilIface), Bv false, Bv false])] ?_))
 refine vc_seqrx rfl (by kernel_rfl) ?_
 refine iQ 8 (iE 18 [(2, .p 2 0), (3, .p 3 0), (4, Ba false), (5, .p 5 0)] [(2, [.v (.nilIface), .v (.nilIface)]), (3, [Bv false, Bv false]), (5, [.v (.nilIface), .v (.nilIface), Bv false, Bv false])] ?_)
 refine vc_ret (iS (.agg [.v (.nilIface), .v (.nilIface)]) (.agg [Bv false, Bv false]) [Bv false] ?_)
 rfl
theorem v_AsRange_mom {d : DV} : HasC Tryz.prog 42 [.agg [.ifc 186 (d)]] (fun r => r = .tup [.agg [.v .nilIface, .v .nilIface], .agg [.v (.bool false), .v (.bool false)], .v (.bool false)]) := by
 refine HasC.of [2] (fn := Tryz.f42) tyOk mixed (fun args w => Tryz.call42 args w) Tryz.func42 rfl (by kernel_rfl) (Nat.le_of_ble_eq_true rfl) (⟨_, rfl⟩) ?_
 refine vc_seqr rfl (iQ 4 (iE 18 [(1, .p 1 0), (2, .p 2 0), (3, .p 3 0), (4, Ba false)] [(1, [.ifc 186 (d)]), (2, [.v (.nilIface), .v (.nilIface)]), (3, [Bv false, Bv false])] ?_))
 refine vc_seqr rfl (iQ 9 (iE 18 [(2, .p 2 0), (3, .p 3 0), (4, Ba false), (5, .p 5 0), (6, Ba false)] [(2, [.v (.nilIface), .v (.nilIface)]), (3, [Bv false, Bv false]), (5, [.v (.nilIface), .v (.nilIface), Bv false, Bv false])] ?_))
 refine vc_seqrx rfl (by kernel_rfl) ?_
 refine iQ 8 (iE 18 [(2, .p 2 0), (3, .p 3 0), (4, Ba false), (5, .p 5 0)] [(2, [.v (.nilIface), .v (.nilIface)]), (3, [Bv false, Bv false]), (5, [.v (.nilIface), .v (.nilIface), Bv false, Bv false])] ?_)
 refine vc_ret (iS (.agg [.v (.nilIface), .v (.nilIface)]) (.agg [Bv false, Bv false]) [Bv false] ?_)
 rfl
theorem v_AsRange_days {d : DV} : HasC Tryz.prog 42 [.agg [.ifc 226 (d)]] (fun r => r = .tup [.agg [.v .nilIface, .v .nilIface], .agg [.v (.bool false), .v (.bool false)], .v (.bool false)]) := by
 refine HasC.of [2] (fn := Tryz.f42) tyOk mixed (fun args w => Tryz.call42 args w) Tryz.func42 rfl (by kernel_rfl) (Nat.le_of_ble_eq_true rfl) (⟨_, rfl⟩) ?_
 refine vc_seqr rfl (iQ 4 (iE 18 [(1, .p 1 0), (2, .p 2 0), (3, .p 3 0), (4, Ba false)] [(1, [.ifc 226 (d)]), (2, [.v (.nilIface), .v (.nilIface)]), (3, [Bv false, Bv false])] ?_))
 refine vc_seqr rfl (iQ 9 (iE 18 [(2, .p 2 0), (3, .p 3 0), (4, Ba false), (5, .p 5 0), (6, Ba false)] [(2, [.v (.nilIface), .v (.nilIface)]), (3, [Bv false, Bv false]), (5, [.v (.nilIface), .v (.nilIface), Bv false, Bv false])] ?_))
 refine vc_seqrx rfl (by kernel_rfl) ?_
 refine iQ 8 (iE 18 [(2, .p 2 0), (3, .p 3 0), (4, Ba false), (5, .p 5 0)] [(2, [.v (.nilIface), .v (.nilIface)]), (3, [Bv false, Bv false]), (5, [.v (.nilIface), .v (.nilIface), Bv false, Bv false])] ?_)
 refine vc_ret (iS (.agg [.v (.nilIface), .v (.nilIface)]) (.agg [Bv false, Bv false]) [Bv false] ?_)
 rfl
theorem v_AsRange_months {d : DV} : HasC Tryz.prog 42 [.agg [.ifc 227 (d)]] (fun r => r = .tup [.agg [.v .nilIface, .v .nilIface], .agg [.v (.bool false), .v (.bool false)], .v (.bool false)]) := by
 refine HasC.of [2] (fn := Tryz.f42) tyOk mixed (fun args w => Tryz.call42 args w) Tryz.func42 rfl (by kernel_rfl) (Nat.le_of_ble_eq_true rfl) (⟨_, rfl⟩) ?_
 refine vc_seqr rfl (iQ 4 (iE 18 [(1, .p 1 0), (2, .p 2 0), (3, .p 3 0), (4, Ba false)] [(1, [.ifc 227 (d)]), (2, [.v (.nilIface), .v (.nilIface)]), (3, [Bv false, Bv false])] ?_))
 refine vc_seqr rfl (iQ 9 (iE 18 [(2, .p 2 0), (3, .p 3 0), (4, Ba false), (5, .p 5 0), (6, Ba false)] [(2, [.v (.nilIface), .v (.nilIface)]), (3, [Bv false, Bv false]), (5, [.v (.nilIface), .v (.nilIface), Bv false, Bv false])] ?_))
 refine vc_seqrx rfl (by kernel_rfl) ?_
 refine iQ 8 (iE 18 [(2, .p 2 0), (3, .p 3 0), (4, Ba false), (5, .p 5 0)] [(2, [.v (.nilIface), .v (.nilIface)]), (3, [Bv false, Bv false]), (5, [.v (.nilIface), .v (.nilIface), Bv false, Bv false])] ?_)
 refine vc_ret (iS (.agg [.v (.nilIface), .v (.nilIface)]) (.agg [Bv false, Bv false]) [Bv false] ?_)
 rfl
theorem v_AsRange_list {d : DV} : HasC Tryz.prog 42 [.agg [.ifc 105 (d)]] (fun r => r = .tup [.agg [.v .nilIface, .v .nilIface], .agg [.v (.bool false), .v (.bool false)], .v (.bool false)]) := by
 refine HasC.of [2] (fn := Tryz.f42) tyOk mixed (fun args w => Tryz.call42 args w) Tryz.func42 rfl (by kernel_rfl) (Nat.le_of_ble_eq_true rfl) (⟨_, rfl⟩) ?_
 refine vc_seqr rfl (iQ 4 (iE 18 [(1, .p 1 0), (2, .p 2 0), (3, .p 3 0), (4, Ba false)] [(1, [.ifc 105 (d)]), (2, [.v (.nilIface), .v (.nilIface)]), (3, [Bv false, Bv false])] ?_))
 refine vc_seqr rfl (iQ 9 (iE 18 [(2, .p 2 0), (3, .p 3 0), (4, Ba false), (5, .p 5 0), (6, Ba false)] [(2, [.v (.nilIface), .v (.nilIface)]), (3, [Bv false, Bv false]), (5, [.v (.nilIface), .v (.nilIface), Bv false, Bv false])] ?_))
 refine vc_seqrx rfl (by kernel_rfl) ?_
 refine iQ 8 (iE 18 [(2, .p 2 0), (3, .p 3 0), (4, Ba false), (5, .p 5 0)] [(2, [.v (.nilIface), .v (.nilIface)]), (3, [Bv false, Bv false]), (5, [.v (.nilIface), .v (.nilIface), Bv false, Bv false])] ?_)
 refine vc_ret (iS (.agg [.v (.nilIface), .v (.nilIface)]) (.agg [Bv false, Bv false]) [Bv false] ?_)
 rfl
theorem v_AsRange_ctx {d : DV} : HasC Tryz.prog 42 [.agg [.ifc 169 (d)]] (fun r => r = .tup [.agg [.v .nilIface, .v .nilIface], .agg [.v (.bool false), .v (.bool false)], .v (.bool false)]) := by
 refine HasC.of [2] (fn := Tryz.f42) tyOk mixed (fun args w => Tryz.call42 args w) Tryz.func42 rfl (by kernel_rfl) (Nat.le_of_ble_eq_true rfl) (⟨_, rfl⟩) ?_
 refine vc_seqr rfl (iQ 4 (iE 18 [(1, .p 1 0), (2, .p 2 0), (3, .p 3 0), (4, Ba false)] [(1, [.ifc 169 (d)]), (2, [.v (.nilIface), .v (.nilIface)]), (3, [Bv false, Bv false])] ?_))
 refine vc_seqr rfl (iQ 9 (iE 18 [(2, .p 2 0), (3, .p 3 0), (4, Ba false), (5, .p 5 0), (6, Ba false)] [(2, [.v (.nilIface), .v (.nilIface)]), (3, [Bv false, Bv false]), (5, [.v (.nilIface), .v (.nilIface), Bv false, Bv false])] ?_))
 refine vc_seqrx rfl (by kernel_rfl) ?_
 refine iQ 8 (iE 18 [(2, .p 2 0), (3, .p 3 0), (4, Ba false), (5, .p 5 0)] [(2, [.v (.nilIface), .v (.nilIface)]), (3, [Bv false, Bv false]), (5, [.v (.nilIface), .v (.nilIface), Bv false, Bv false])] ?_)
 refine vc_ret (iS (.agg [.v (.nilIface), .v (.nilIface)]) (.agg [Bv false, Bv false]) [Bv false] ?_)
 rfl
theorem v_AsRange_null  : HasC Tryz.prog 42 [.agg [.v (.nilIface)]] (fun r => r = .tup [.agg [.v .nilIface, .v .nilIface], .agg [.v (.bool false), .v (.bool false)], .v (.bool false)]) := by
 refine HasC.of [2] (fn := Tryz.f42) tyOk mixed (fun args w => Tryz.call42 args w) Tryz.func42 rfl (by kernel_rfl) (Nat.le_of_ble_eq_true rfl) (⟨_, rfl⟩) ?_
 refine vc_seqr rfl (iQ 4 (iE 18 [(1, .p 1 0), (2, .p 2 0), (3, .p 3 0), (4, Ba false)] [(1, [.v (.nilIface)]), (2, [.v (.nilIface), .v (.nilIface)]), (3, [Bv false, Bv false])] ?_))
 refine vc_seqr rfl (iQ 9 (iE 18 [(2, .p 2 0), (3, .p 3 0), (4, Ba false), (5, .p 5 0), (6, Ba false)] [(2, [.v (.nilIface), .v (.nilIface)]), (3, [Bv false, Bv false]), (5, [.v (.nilIface), .v (.nilIface), Bv false, Bv false])] ?_))
 refine vc_seqrx rfl (by kernel_rfl) ?_
 refine iQ 8 (iE 18 [(2, .p 2 0), (3, .p 3 0), (4, Ba false), (5, .p 5 0)] [(2, [.v (.nilIface), .v (.nilIface)]), (3, [Bv false, Bv false]), (5, [.v (.nilIface), .v (.nilIface), Bv false, Bv false])] ?_)
 refine vc_ret (iS (.agg [.v (.nilIface), .v (.nilIface)]) (.agg [Bv false, Bv false]) [Bv false] ?_)
 rfl
theorem v_AsRange_rng {lo hi : DV} {p q : Bool} : HasC Tryz.prog 42 [.agg [.ifc 78 (.agg [.bx lo, .bx hi, .v (.bool p), .v (.bool q)])]] (fun r => r = .tup [.agg [.bx lo, .bx hi], .agg [.v (.bool p), .v (.bool q)], .v (.bool true)]) := by
 refine HasC.of [2] (fn := Tryz.f42) tyOk mixed (fun args w => Tryz.call42 args w) Tryz.func42 rfl (by kernel_rfl) (Nat.le_of_ble_eq_true rfl) (⟨_, rfl⟩) ?_
 refine vc_seqr rfl (iQ 4 (iE 18 [(1, .p 1 0), (2, .p 2 0), (3, .p 3 0), (4, Ba false)] [(1, [.ifc 78 (.agg [.bx lo, .bx hi, Bv p, Bv q])]), (2, [.v (.nilIface), .v (.nilIface)]), (3, [Bv false, Bv false])] ?_))
 refine vc_seqr rfl (iQ 9 (iE 18 [(2, .p 2 0), (3, .p 3 0), (4, Ba false), (5, .p 5 0), (6, Ba true)] [(2, [.v (.nilIface), .v (.nilIface)]), (3, [Bv false, Bv false]), (5, [.bx lo, .bx hi, Bv p, Bv q])] ?_))
 refine vc_seqrx rfl (by kernel_rfl) ?_
 refine iQ 8 (iE 18 [(2, .p 2 0), (3, .p 3 0), (4, Ba true), (5, .p 5 0)] [(2, [.bx lo, .bx hi]), (3, [Bv p, Bv q]), (5, [.bx lo, .bx hi, Bv p, Bv q])] ?_)
 refine vc_ret (iS (.agg [.bx lo, .bx hi]) (.agg [Bv p, Bv q]) [Bv true] ?_)
 rfl
theorem rel_ends {Im : Nat → Nat → Prop} {W : World} {x x' : DV} {r : List DV} {y : Value} (hx : x.one = true) (hx' : x'.one = true) (k : (DV.tup (.agg [x, x'] :: r)).rel Im W y) : (DV.tup (.agg [.bx x, .bx x'] :: r)).rel Im W y := by
  rw [DV.rel] at k ⊢
  obtain ⟨vs, e, k2⟩ := k
  refine ⟨vs, e, ?_⟩
  rw [DV.relL] at k2 ⊢
  obtain ⟨u, us, e1, k3, k4⟩ := k2
  refine ⟨u, us, e1, ?_, k4⟩
  rw [DV.rel] at k3 ⊢
  obtain ⟨xs, e2, k5⟩ := k3
  refine ⟨xs, e2, ?_⟩
  rw [DV.relL] at k5 ⊢
  obtain ⟨u1, us1, e3, k6, k7⟩ := k5
  refine ⟨u1, us1, e3, rel_bx hx k6, ?_⟩
  rw [DV.relL] at k7 ⊢
  obtain ⟨u2, us2, e4, k8, k9⟩ := k7
  exact ⟨u2, us2, e4, rel_bx hx' k8, k9⟩
structure Ends where
  lo : Vl
  hi : Vl
  p : Bool
  q : Bool
  is : Bool
def rngOf : Vl → Ends
  | .rng lo hi p q => ⟨lo, hi, p, q, true⟩
  | _ => ⟨.null, .null, false, false, false⟩
def dEnds (r : Ends) : DV := .tup [.agg [BV r.lo, BV r.hi], .agg [.v (.bool r.p), .v (.bool r.q)], .v (.bool r.is)]
theorem ends_no {P : Program} {f : FuncId} {ds : List DV} (h : HasC P f ds (fun r => r = .tup [.agg [.v .nilIface, .v .nilIface], .agg [.v (.bool false), .v (.bool false)], .v (.bool false)])) : HasC P f ds (fun r => r = dEnds ⟨.null, .null, false, false, false⟩) :=
  h.weak fun y hy => ⟨_, rfl, fun Im W r k => by subst hy; exact rel_ends rfl rfl k⟩
theorem c_AsRange (v : Vl) : HasC Tryz.prog 42 [VV v] (fun r => r = dEnds (rngOf v)) := by
  cases v
  case bool => exact HasC.ub (ends_no v_AsRange_bool)
  case num => exact HasC.ub (ends_no v_AsRange_num)
  case text => exact HasC.ub (ends_no v_AsRange_text)
  case day => exact HasC.ub (ends_no v_AsRange_day)
  case time => exact HasC.ub (ends_no v_AsRange_time)
  case mom => exact HasC.ub (ends_no v_AsRange_mom)
  case days => exact HasC.ub (ends_no v_AsRange_days)
  case months => exact HasC.ub (ends_no v_AsRange_months)
  case list => exact HasC.ub (ends_no v_AsRange_list)
  case ctx => exact HasC.ub (ends_no v_AsRange_ctx)
  case null => exact HasC.ub (ends_no v_AsRange_null)
  case rng lo hi p q => exact HasC.ub v_AsRange_rng
theorem v_AsBool_num {d : DV} : HasC Tryz.prog 37 [.agg [.ifc 107 (d)]] (fun r => r = .tup [.v (.bool false), .v (.bool false)]) := by
 refine HasC.of [] (fn := Tryz.f37) tyOk mixed (fun args w => Tryz.call37 args w) Tryz.func37 rfl (by kernel_rfl) (Nat.le_of_ble_eq_true rfl) (⟨_, rfl⟩) ?_
 refine vc_seqr rfl (iQ 3 (iE 14 [(1, .p 1 0), (2, Ba false), (3, Ba false)] [(1, [.ifc 107 (d)])] ?_))
 refine vc_seqr rfl (iQ 8 (iE 14 [(2, Ba false), (3, Ba false), (4, Ba false), (5, Ba false)] [] ?_))
 refine vc_seqr rfl (iQ 4 (iE 14 [(2, Ba false), (3, Ba false)] [] ?_))
 refine vc_ret (iS (Bv false) (Bv false) [] ?_)
 rfl
theorem v_AsBool_text {d : DV} : HasC Tryz.prog 37 [.agg [.ifc 108 (d)]] (fun r => r = .tup [.v (.bool false), .v (.bool false)]) := by
 refine HasC.of [] (fn := Tryz.f37) tyOk mixed (fun args w => Tryz.call37 args w) Tryz.func37 rfl (by kernel_rfl) (Nat.le_of_ble_eq_true rfl) (⟨_, rfl⟩) ?_
 refine vc_seqr rfl (iQ 3 (iE 14 [(1, .p 1 0), (2, Ba false), (3, Ba false)] [(1, [.ifc 108 (d)])] ?_))
 refine vc_seqr rfl (iQ 8 (iE 14 [(2, Ba false), (3, Ba false), (4, Ba false), (5, Ba false)] [] ?_))
 refine vc_seqr rfl (iQ 4 (iE 14 [(2, Ba false), (3, Ba false)] [] ?_))
 refine vc_ret (iS (Bv false) (Bv false) [] ?_)
 rfl
theorem v_AsBool_day {d : DV} : HasC Tryz.prog 37 [.agg [.ifc 180 (d)]] (fun r => r = .tup [.v (.bool false), .v (.bool false)]) := by
 refine HasC.of [] (fn := Tryz.f37) tyOk mixed (fun args w => Tryz.call37 args w) Tryz.func37 rfl (by kernel_rfl) (Nat.le_of_ble_eq_true rfl) (⟨_, rfl⟩) ?_
 refine vc_seqr rfl (iQ 3 (iE 14 [(1, .p 1 0), (2, Ba false), (3, Ba false)] [(1, [.ifc 180 (d)])] ?_))
 refine vc_seqr rfl (iQ 8 (iE 14 [(2, Ba false), (3, Ba false), (4, Ba false), (5, Ba false)] [] ?_))
 refine vc_seqr rfl (iQ 4 (iE 14 [(2, Ba false), (3, Ba false)] [] ?_))
 refine vc_ret (iS (Bv false) (Bv false) [] ?_)
 rfl
theorem v_AsBool_time {d : DV} : HasC Tryz.prog 37 [.agg [.ifc 184 (d)]] (fun r => r = .tup [.v (.bool false), .v (.bool false)]) := by
 refine HasC.of [] (fn := Tryz.f37) tyOk mixed (fun args w => Tryz.call37 args w) Tryz.func37 rfl (by kernel_rfl) (Nat.le_of_ble_eq_true rfl) (⟨_, rfl⟩) ?_
 refine vc_seqr rfl (iQ 3 (iE 14 [(1, .p 1 0), (2, Ba false), (3, Ba false)] [(1, [.ifc 184 (d)])] ?_))
 refine vc_seqr rfl (iQ 8 (iE 14 [(2, Ba false), (3, Ba false), (4, Ba false), (5, Ba false)] [] ?_))
 refine vc_seqr rfl (iQ 4 (iE 14 [(2, Ba false), (3, Ba false)] [] ?_))
 refine vc_ret (iS (Bv false) (Bv false) [] ?_)
 rfl
theorem v_AsBool_mom {d : DV} : HasC Tryz.prog 37 [.agg [.ifc 186 (d)]] (fun r => r = .tup [.v (.bool false), .v (.bool false)]) := by
 refine HasC.of [] (fn := Tryz.f37) tyOk mixed (fun args w => Tryz.call37 args w) Tryz.func37 rfl (by kernel_rfl) (Nat.le_of_ble_eq_true rfl) (⟨_, rfl⟩) ?_
 refine vc_seqr rfl (iQ 3 (iE 14 [(1, .p 1 0), (2, Ba false), (3, Ba false)] [(1, [.ifc 186 (d)])] ?_))
 refine vc_seqr rfl (iQ 8 (iE 14 [(2, Ba false), (3, Ba false), (4, Ba false), (5, Ba false)] [] ?_))
 refine vc_seqr rfl (iQ 4 (iE 14 [(2, Ba false), (3, Ba false)] [] ?_))
 refine vc_ret (iS (Bv false) (Bv false) [] ?_)
 rfl
theorem v_AsBool_days {d : DV} : HasC Tryz.prog 37 [.agg [.ifc 226 (d)]] (fun r => r = .tup [.v (.bool false), .v (.bool false)]) := by
 refine HasC.of [] (fn := Tryz.f37) tyOk mixed (fun args w => Tryz.call37 args w) Tryz.func37 rfl (by kernel_rfl) (Nat.le_of_ble_eq_true rfl) (⟨_, rfl⟩) ?_
 refine vc_seqr rfl (iQ 3 (iE 14 [(1, .p 1 0), (2, Ba false), (3, Ba false)] [(1, [.ifc 226 (d)])] ?_))
 refine vc_seqr rfl (iQ 8 (iE 14 [(2, Ba false), (3, Ba false), (4, Ba false), (5, Ba false)] [] ?_))
 refine vc_seqr rfl (iQ 4 (iE 14 [(2, Ba false), (3, Ba false)] [] ?_))
 refine vc_ret (iS (Bv false) (Bv false) [] ?_)
 rfl
theorem v_AsBool_months {d : DV} : HasC Tryz.prog 37 [.agg [.ifc 227 (d)]] (fun r => r = .tup [.v (.bool false), .v (.bool false)]) := by
 refine HasC.of [] (fn := Tryz.f37) tyOk mixed (fun args w => Tryz.call37 args w) Tryz.func37 rfl (by kernel_rfl) (Nat.le_of_ble_eq_true rfl) (⟨_, rfl⟩) ?_
 refine vc_seqr rfl (iQ 3 (iE 14 [(1, .p 1 0), (2, Ba false), (3, Ba false)] [(1, [.ifc 227 (d)])] ?_))
 refine vc_seqr rfl (iQ 8 (iE 14 [(2, Ba false), (3, Ba false), (4, Ba false), (5, Ba false)] [] ?_))
 refine vc_seqr rfl (iQ 4 (iE 14 [(2, Ba false), (3, Ba false)] [] ?_))
 refine vc_ret (iS (Bv false) (Bv false) [] ?_)
 rfl
theorem v_AsBool_list {d : DV} : HasC Tryz.prog 37 [.agg [.ifc 105 (d)]] (fun r => r = .tup [.v (.bool false), .v (.bool false)]) := by
 refine HasC.of [] (fn := Tryz.f37) tyOk mixed (fun args w => Tryz.call37 args w) Tryz.func37 rfl (by kernel_rfl) (Nat.le_of_ble_eq_true rfl) (⟨_, rfl⟩) ?_
 refine vc_seqr rfl (iQ 3 (iE 14 [(1, .p 1 0), (2, Ba false), (3, Ba false)] [(1, [.ifc 105 (d)])] ?_))
 refine vc_seqr rfl (iQ 8 (iE 14 [(2, Ba false), (3, Ba false), (4, Ba false), (5, Ba false)] [] ?_))
 refine vc_seqr rfl (iQ 4 (iE 14 [(2, Ba false), (3, Ba false)] [] ?_))
 refine vc_ret (iS (Bv false) (Bv false) [] ?_)
 rfl
theorem v_AsBool_ctx {d : DV} : HasC Tryz.prog 37 [.agg [.ifc 169 (d)]] (fun r => r = .tup [.v (.bool false), .v (.bool false)]) := by
 refine HasC.of [] (fn := Tryz.f37) tyOk mixed (fun args w => Tryz.call37 args w) Tryz.func37 rfl (by kernel_rfl) (Nat.le_of_ble_eq_true rfl) (⟨_, rfl⟩) ?_
 refine vc_seqr rfl (iQ 3 (iE 14 [(1, .p 1 0), (2, Ba false), (3, Ba false)] [(1, [.ifc 169 (d)])] ?_))
 refine vc_seqr rfl (iQ 8 (iE 14 [(2, Ba false), (3, Ba false), (4, Ba false), (5, Ba false)] [] ?_))
 refine vc_seqr rfl (iQ 4 (iE 14 [(2, Ba false), (3, Ba false)] [] ?_))
 refine vc_ret (iS (Bv false) (Bv false) [] ?_)
 rfl
theorem v_AsBool_rng {d : DV} : HasC Tryz.prog 37 [.agg [.ifc 78 (d)]] (fun r => r = .tup [.v (.bool false), .v (.bool false)]) := by
 refine HasC.of [] (fn := Tryz.f37) tyOk mixed (fun args w => Tryz.call37 args w) Tryz.func37 rfl (by kernel_rfl) (Nat.le_of_ble_eq_true rfl) (⟨_, rfl⟩) ?_
 refine vc_seqr rfl (iQ 3 (iE 14 [(1, .p 1 0), (2, Ba false), (3, Ba false)] [(1, [.ifc 78 (d)])] ?_))
 refine vc_seqr rfl (iQ 8 (iE 14 [(2, Ba false), (3, Ba false), (4, Ba false), (5, Ba false)] [] ?_))
 refine vc_seqr rfl (iQ 4 (iE 14 [(2, Ba false), (3, Ba false)] [] ?_))
 refine vc_ret (iS (Bv false) (Bv false) [] ?_)
 rfl
theorem v_AsBool_null  : HasC Tryz.prog 37 [.agg [.v (.nilIface)]] (fun r => r = .tup [.v (.bool false), .v (.bool false)]) := by
 refine HasC.of [] (fn := Tryz.f37) tyOk mixed (fun args w => Tryz.call37 args w) Tryz.func37 rfl (by kernel_rfl) (Nat.le_of_ble_eq_true rfl) (⟨_, rfl⟩) ?_
 refine vc_seqr rfl (iQ 3 (iE 14 [(1, .p 1 0), (2, Ba false), (3, Ba false)] [(1, [.v (.nilIface)])] ?_))
 refine vc_seqr rfl (iQ 8 (iE 14 [(2, Ba false), (3, Ba false), (4, Ba false), (5, Ba false)] [] ?_))
 refine vc_seqr rfl (iQ 4 (iE 14 [(2, Ba false), (3, Ba false)] [] ?_))
 refine vc_ret (iS (Bv false) (Bv false) [] ?_)
 rfl
theorem v_AsBool_bool {p : Bool} : HasC Tryz.prog 37 [.agg [.ifc 109 (.v (.bool p))]] (fun r => r = .tup [.v (.bool p), .v (.bool true)]) := by
 refine HasC.of [] (fn := Tryz.f37) tyOk mixed (fun args w => Tryz.call37 args w) Tryz.func37 rfl (by kernel_rfl) (Nat.le_of_ble_eq_true rfl) (⟨_, rfl⟩) ?_
 refine vc_seqr rfl (iQ 3 (iE 14 [(1, .p 1 0), (2, Ba false), (3, Ba false)] [(1, [.ifc 109 (Bv p)])] ?_))
 refine vc_seqr rfl (iQ 8 (iE 14 [(2, Ba false), (3, Ba false), (4, Ba p), (5, Ba true)] [] ?_))
 refine vc_seqr rfl (iQ 4 (iE 14 [(2, Ba p), (3, Ba true)] [] ?_))
 refine vc_ret (iS (Bv p) (Bv true) [] ?_)
 rfl
def boolOf : Vl → Bool × Bool
  | .bool b => (b, true)
  | _ => (false, false)
theorem c_AsBool (v : Vl) : HasC Tryz.prog 37 [VV v] (fun r => r = .tup [.v (.bool (boolOf v).1), .v (.bool (boolOf v).2)]) := by
  cases v
  case bool => exact HasC.ub v_AsBool_bool
  case num => exact HasC.ub v_AsBool_num
  case text => exact HasC.ub v_AsBool_text
  case day => exact HasC.ub v_AsBool_day
  case time => exact HasC.ub v_AsBool_time
  case mom => exact HasC.ub v_AsBool_mom
  case days => exact HasC.ub v_AsBool_days
  case months => exact HasC.ub v_AsBool_months
  case list => exact HasC.ub v_AsBool_list
  case ctx => exact HasC.ub v_AsBool_ctx
  case rng => exact HasC.ub v_AsBool_rng
  case null => exact HasC.ub v_AsBool_null

theorem w_AsNumN {g : Bool} {n : Nat} {e : Int} : HasC Tryz.prog 68 [.agg [.ifc 107 (.agg [.v (.bool g), .v (.int .u64 (hiW (n))), .v (.int .u64 (loW (n))), .v (.int .i64 e)])]] (fun r => r = .tup [dDec g n e, .v (.bool true)]) := by
 refine HasC.of [] (fn := Tryz.f68) tyOk mixed (fun args w => Tryz.call68 args w) Tryz.func68 rfl (by kernel_rfl) (Nat.le_of_ble_eq_true rfl) (⟨_, rfl⟩) ?_
 refine vc_seqr rfl (iQ 3 (iE 14 [(1, .p 1 0), (2, .p 2 0), (3, Ba false)] [(1, [.ifc 107 (.agg [Bv g, Hw n, Lw n, Iv e])]), (2, [Bv false, Uv 0, Uv 0, Iv 0])] ?_))
 refine vc_seqr rfl (iQ 9 (iE 14 [(2, .p 2 0), (3, Ba false), (4, .p 4 0), (5, Ba true)] [(2, [Bv false, Uv 0, Uv 0, Iv 0]), (4, [Bv g, Hw n, Lw n, Iv e])] ?_))
 refine vc_seqr rfl (iQ 4 (iE 14 [(2, .p 2 0), (3, Ba true), (4, .p 4 0)] [(2, [Bv g, Hw n, Lw n, Iv e]), (4, [Bv g, Hw n, Lw n, Iv e])] ?_))
 refine vc_ret (iS (.agg [Bv g, Hw n, Lw n, Iv e]) (Bv true) [] ?_)
 rfl
theorem c_AsNumN {g : Bool} {n : Nat} {e : Int} : HasC Tryz.prog 68 [VV (.num g n e)] (fun r => r = .tup [dDec g n e, .v (.bool true)]) := HasC.ub w_AsNumN
theorem w_AsTextT {l : L8} : HasC Tryz.prog 70 [.agg [.ifc 108 (.v (.string (tx l)))]] (fun r => r = .tup [.v (.string (tx l)), .v (.bool true)]) := by
 refine HasC.of [] (fn := Tryz.f70) tyOk mixed (fun args w => Tryz.call70 args w) Tryz.func70 rfl (by kernel_rfl) (Nat.le_of_ble_eq_true rfl) (⟨_, rfl⟩) ?_
 refine vc_seqr rfl (iQ 3 (iE 14 [(1, .p 1 0), (2, .d (Sv (⟨#[]⟩))), (3, Ba false)] [(1, [.ifc 108 (Sv (tx l))])] ?_))
 refine vc_seqr rfl (iQ 8 (iE 14 [(2, .d (Sv (⟨#[]⟩))), (3, Ba false), (4, .d (Sv (tx l))), (5, Ba true)] [] ?_))
 refine vc_seqr rfl (iQ 4 (iE 14 [(2, .d (Sv (tx l))), (3, Ba true)] [] ?_))
 refine vc_ret (iS (Sv (tx l)) (Bv true) [] ?_)
 rfl
theorem c_AsTextT {l : L8} : HasC Tryz.prog 70 [VV (.text l)] (fun r => r = .tup [.v (.string (tx l)), .v (.bool true)]) := HasC.ub w_AsTextT
theorem w_AsDateD {y m d : Int} : HasC Tryz.prog 72 [.agg [.ifc 180 (.agg [.v (.int .i64 y), .v (.int .i64 m), .v (.int .i64 d)])]] (fun r => r = .tup [.agg [.v (.int .i64 y), .v (.int .i64 m), .v (.int .i64 d)], .v (.bool true)]) := by
 refine HasC.of [] (fn := Tryz.f72) tyOk mixed (fun args w => Tryz.call72 args w) Tryz.func72 rfl (by kernel_rfl) (Nat.le_of_ble_eq_true rfl) (⟨_, rfl⟩) ?_
 refine vc_seqr rfl (iQ 3 (iE 14 [(1, .p 1 0), (2, .p 2 0), (3, Ba false)] [(1, [.ifc 180 (.agg [Iv y, Iv m, Iv d])]), (2, [Iv 0, Iv 0, Iv 0])] ?_))
 refine vc_seqr rfl (iQ 9 (iE 14 [(2, .p 2 0), (3, Ba false), (4, .p 4 0), (5, Ba true)] [(2, [Iv 0, Iv 0, Iv 0]), (4, [Iv y, Iv m, Iv d])] ?_))
 refine vc_seqr rfl (iQ 4 (iE 14 [(2, .p 2 0), (3, Ba true), (4, .p 4 0)] [(2, [Iv y, Iv m, Iv d]), (4, [Iv y, Iv m, Iv d])] ?_))
 refine vc_ret (iS (.agg [Iv y, Iv m, Iv d]) (Bv true) [] ?_)
 rfl
theorem c_AsDateD {y m d : Int} : HasC Tryz.prog 72 [VV (.day y m d)] (fun r => r = .tup [.agg [.v (.int .i64 y), .v (.int .i64 m), .v (.int .i64 d)], .v (.bool true)]) := HasC.ub w_AsDateD
theorem w_AsTimeT {s o : Int} {z : Bool} : HasC Tryz.prog 74 [.agg [.ifc 184 (.agg [.v (.int .i64 s), .v (.bool z), .v (.int .i64 o)])]] (fun r => r = .tup [.agg [.v (.int .i64 s), .v (.bool z), .v (.int .i64 o)], .v (.bool true)]) := by
 refine HasC.of [] (fn := Tryz.f74) tyOk mixed (fun args w => Tryz.call74 args w) Tryz.func74 rfl (by kernel_rfl) (Nat.le_of_ble_eq_true rfl) (⟨_, rfl⟩) ?_
 refine vc_seqr rfl (iQ 3 (iE 14 [(1, .p 1 0), (2, .p 2 0), (3, Ba false)] [(1, [.ifc 184 (.agg [Iv s, Bv z, Iv o])]), (2, [Iv 0, Bv false, Iv 0])] ?_))
 refine vc_seqr rfl (iQ 9 (iE 14 [(2, .p 2 0), (3, Ba false), (4, .p 4 0), (5, Ba true)] [(2, [Iv 0, Bv false, Iv 0]), (4, [Iv s, Bv z, Iv o])] ?_))
 refine vc_seqr rfl (iQ 4 (iE 14 [(2, .p 2 0), (3, Ba true), (4, .p 4 0)] [(2, [Iv s, Bv z, Iv o]), (4, [Iv s, Bv z, Iv o])] ?_))
 refine vc_ret (iS (.agg [Iv s, Bv z, Iv o]) (Bv true) [] ?_)
 rfl
theorem c_AsTimeT {s o : Int} {z : Bool} : HasC Tryz.prog 74 [VV (.time s z o)] (fun r => r = .tup [.agg [.v (.int .i64 s), .v (.bool z), .v (.int .i64 o)], .v (.bool true)]) := HasC.ub w_AsTimeT
theorem w_AsMomM {y m d s o : Int} {z : Bool} : HasC Tryz.prog 76 [.agg [.ifc 186 (.agg [.v (.int .i64 y), .v (.int .i64 m), .v (.int .i64 d), .v (.int .i64 s), .v (.bool z), .v (.int .i64 o)])]] (fun r => r = .tup [.agg [.v (.int .i64 y), .v (.int .i64 m), .v (.int .i64 d), .v (.int .i64 s), .v (.bool z), .v (.int .i64 o)], .v (.bool true)]) := by
 refine HasC.of [] (fn := Tryz.f76) tyOk mixed (fun args w => Tryz.call76 args w) Tryz.func76 rfl (by kernel_rfl) (Nat.le_of_ble_eq_true rfl) (⟨_, rfl⟩) ?_
 refine vc_seqr rfl (iQ 3 (iE 14 [(1, .p 1 0), (2, .p 2 0), (3, Ba false)] [(1, [.ifc 186 (.agg [Iv y, Iv m, Iv d, Iv s, Bv z, Iv o])]), (2, [Iv 0, Iv 0, Iv 0, Iv 0, Bv false, Iv 0])] ?_))
 refine vc_seqr rfl (iQ 9 (iE 14 [(2, .p 2 0), (3, Ba false), (4, .p 4 0), (5, Ba true)] [(2, [Iv 0, Iv 0, Iv 0, Iv 0, Bv false, Iv 0]), (4, [Iv y, Iv m, Iv d, Iv s, Bv z, Iv o])] ?_))
 refine vc_seqr rfl (iQ 4 (iE 14 [(2, .p 2 0), (3, Ba true), (4, .p 4 0)] [(2, [Iv y, Iv m, Iv d, Iv s, Bv z, Iv o]), (4, [Iv y, Iv m, Iv d, Iv s, Bv z, Iv o])] ?_))
 refine vc_ret (iS (.agg [Iv y, Iv m, Iv d, Iv s, Bv z, Iv o]) (Bv true) [] ?_)
 rfl
theorem c_AsMomM {y m d s o : Int} {z : Bool} : HasC Tryz.prog 76 [VV (.mom y m d s z o)] (fun r => r = .tup [.agg [.v (.int .i64 y), .v (.int .i64 m), .v (.int .i64 d), .v (.int .i64 s), .v (.bool z), .v (.int .i64 o)], .v (.bool true)]) := HasC.ub w_AsMomM
theorem w_AsDaysD {n : Int} : HasC Tryz.prog 128 [.agg [.ifc 226 (.v (.int .i64 n))]] (fun r => r = .tup [.v (.int .i64 n), .v (.bool true)]) := by
 refine HasC.of [] (fn := Tryz.f128) tyOk mixed (fun args w => Tryz.call128 args w) Tryz.func128 rfl (by kernel_rfl) (Nat.le_of_ble_eq_true rfl) (⟨_, rfl⟩) ?_
 refine vc_seqr rfl (iQ 3 (iE 14 [(1, .p 1 0), (2, Ia 0), (3, Ba false)] [(1, [.ifc 226 (Iv n)])] ?_))
 refine vc_seqr rfl (iQ 8 (iE 14 [(2, Ia 0), (3, Ba false), (4, Ia n), (5, Ba true)] [] ?_))
 refine vc_seqr rfl (iQ 4 (iE 14 [(2, Ia n), (3, Ba true)] [] ?_))
 refine vc_ret (iS (Iv n) (Bv true) [] ?_)
 rfl
theorem c_AsDaysD {n : Int} : HasC Tryz.prog 128 [VV (.days n)] (fun r => r = .tup [.v (.int .i64 n), .v (.bool true)]) := HasC.ub w_AsDaysD
theorem w_AsDaysM {n : Int} : HasC Tryz.prog 128 [.agg [.ifc 227 (.v (.int .i64 n))]] (fun r => r = .tup [.v (.int .i64 0), .v (.bool false)]) := by
 refine HasC.of [] (fn := Tryz.f128) tyOk mixed (fun args w => Tryz.call128 args w) Tryz.func128 rfl (by kernel_rfl) (Nat.le_of_ble_eq_true rfl) (⟨_, rfl⟩) ?_
 refine vc_seqr rfl (iQ 3 (iE 14 [(1, .p 1 0), (2, Ia 0), (3, Ba false)] [(1, [.ifc 227 (Iv n)])] ?_))
 refine vc_seqr rfl (iQ 8 (iE 14 [(2, Ia 0), (3, Ba false), (4, Ia 0), (5, Ba false)] [] ?_))
 refine vc_seqr rfl (iQ 4 (iE 14 [(2, Ia 0), (3, Ba false)] [] ?_))
 refine vc_ret (iS (Iv 0) (Bv false) [] ?_)
 rfl
theorem c_AsDaysM {n : Int} : HasC Tryz.prog 128 [VV (.months n)] (fun r => r = .tup [.v (.int .i64 0), .v (.bool false)]) := HasC.ub w_AsDaysM
theorem w_AsMonthsM {n : Int} : HasC Tryz.prog 129 [.agg [.ifc 227 (.v (.int .i64 n))]] (fun r => r = .tup [.v (.int .i64 n), .v (.bool true)]) := by
 refine HasC.of [] (fn := Tryz.f129) tyOk mixed (fun args w => Tryz.call129 args w) Tryz.func129 rfl (by kernel_rfl) (Nat.le_of_ble_eq_true rfl) (⟨_, rfl⟩) ?_
 refine vc_seqr rfl (iQ 3 (iE 14 [(1, .p 1 0), (2, Ia 0), (3, Ba false)] [(1, [.ifc 227 (Iv n)])] ?_))
 refine vc_seqr rfl (iQ 8 (iE 14 [(2, Ia 0), (3, Ba false), (4, Ia n), (5, Ba true)] [] ?_))
 refine vc_seqr rfl (iQ 4 (iE 14 [(2, Ia n), (3, Ba true)] [] ?_))
 refine vc_ret (iS (Iv n) (Bv true) [] ?_)
 rfl
theorem c_AsMonthsM {n : Int} : HasC Tryz.prog 129 [VV (.months n)] (fun r => r = .tup [.v (.int .i64 n), .v (.bool true)]) := HasC.ub w_AsMonthsM


open Go.RowKit Go.Shelf
set_option linter.unusedVariables false
set_option linter.unusedSimpArgs false
set_option maxRecDepth 100000

theorem c_CloneV {vs : List Vl} (h : vs.length ≤ 1073741824) : HasC Tryz.prog 60 [.sl ((vs).length) (encL (vs))] (fun r => r = .sl vs.length (encL vs)) := by
 refine HasC.of [] (fn := Tryz.f60) tyOk mixed (fun args w => Tryz.call60 args w) Tryz.func60 rfl (by kernel_rfl) (Nat.le_of_ble_eq_true rfl) (⟨_, rfl⟩) ?_
 refine vc_seqr rfl (iQ 1 (iE 8 [(0, .d (.sl ((vs).length) (encL (vs)))), (2, .w (.sl 0 []) none)] [] ?_))
 refine vc_seq (vc_seqr rfl (iQ 1 ?_))
 refine iZ ((vs).length) 4 (fun hz4 => ?_) ?_
 ·skip
  refine iE 8 [(0, .d (.sl ((vs).length) (encL (vs)))), (2, .w (.sl 0 []) none), (4, Ba true)] [] ?_
  refine iT (vc_seqr rfl (iQ 1 (iE 8 [(0, .d (.sl ((vs).length) (encL (vs)))), (2, .w (.sl 0 []) none), (4, Ba true)] [] ?_)))
  refine vc_ret (seq_r (iR (.sl 0 []) ?_))
  have e : vs = [] := List.length_eq_zero_iff.1 hz4
  rw [e]; simp [encL]
 ·skip
  refine iE 8 [(0, .d (.sl ((vs).length) (encL (vs)))), (2, .w (.sl 0 []) none), (4, Ba false)] [] ?_
  refine iF (vc_skip (seq_n (vc_seqr rfl (iQ 2 (vcI_app (n := 0) (cs := []) (m := ((vs).length)) (ds := (encL (vs))) (N := ((vs).length)) (es := (encL (vs))) (j := 7) (e := 30) (z := 1) (dst := (some 7)) (by kernel_rfl) (by first | rfl | omega | (rw [Nat.mul_one]; exact dg_len _) | (simp [dg]; done) | (simp [dg]; omega)) (by first | rfl | omega | (rw [Nat.mul_one]; exact dg_len _) | (simp [dg]; done) | (simp [dg]; omega)) (by first | rfl | exact allOne_dg _ | exact encL_allOne _ | exact txsD_allOne _ | simp [dg, allOne]) (by omega) (by first | rfl | omega | (rw [Nat.mul_one]; exact dg_len _) | (simp [dg]; done) | (simp [dg]; omega)) (by first | rfl | simp [dg]) ?_)))))
  refine iQ 1 (iE 8 [(0, .d (.sl ((vs).length) (encL (vs)))), (2, .w (.sl ((vs).length) (encL (vs))) (some ⟨7, 0, 30, 1⟩)), (4, Ba false)] [] ?_)
  refine vc_ret (iR (.sl ((vs).length) (encL (vs))) ?_)
  rfl
theorem c_CloneS {ns : List L8} (h : ns.length ≤ 1073741824) : HasC Tryz.prog 118 [.sl ((ns).length) (txsD (ns))] (fun r => r = .sl ns.length (txsD ns)) := by
 refine HasC.of [] (fn := Tryz.f118) tyOk mixed (fun args w => Tryz.call118 args w) Tryz.func118 rfl (by kernel_rfl) (Nat.le_of_ble_eq_true rfl) (⟨_, rfl⟩) ?_
 refine vc_seqr rfl (iQ 1 (iE 8 [(0, .d (.sl ((ns).length) (txsD (ns)))), (2, .w (.sl 0 []) none)] [] ?_))
 refine vc_seq (vc_seqr rfl (iQ 1 ?_))
 refine iZ ((ns).length) 4 (fun hz4 => ?_) ?_
 ·skip
  refine iE 8 [(0, .d (.sl ((ns).length) (txsD (ns)))), (2, .w (.sl 0 []) none), (4, Ba true)] [] ?_
  refine iT (vc_seqr rfl (iQ 1 (iE 8 [(0, .d (.sl ((ns).length) (txsD (ns)))), (2, .w (.sl 0 []) none), (4, Ba true)] [] ?_)))
  refine vc_ret (seq_r (iR (.sl 0 []) ?_))
  have e : ns = [] := List.length_eq_zero_iff.1 hz4
  rw [e]; rfl
 ·skip
  refine iE 8 [(0, .d (.sl ((ns).length) (txsD (ns)))), (2, .w (.sl 0 []) none), (4, Ba false)] [] ?_
  refine iF (vc_skip (seq_n (vc_seqr rfl (iQ 2 (vcI_app (n := 0) (cs := []) (m := ((ns).length)) (ds := (txsD (ns))) (N := ((ns).length)) (es := (txsD (ns))) (j := 7) (e := 9) (z := 1) (dst := (some 7)) (by kernel_rfl) (by first | rfl | omega | (rw [Nat.mul_one]; exact dg_len _) | (simp [dg]; done) | (simp [dg]; omega)) (by first | rfl | omega | (rw [Nat.mul_one]; exact dg_len _) | (simp [dg]; done) | (simp [dg]; omega)) (by first | rfl | exact allOne_dg _ | exact encL_allOne _ | exact txsD_allOne _ | simp [dg, allOne]) (by omega) (by first | rfl | omega | (rw [Nat.mul_one]; exact dg_len _) | (simp [dg]; done) | (simp [dg]; omega)) (by first | rfl | simp [dg]) ?_)))))
  refine iQ 1 (iE 8 [(0, .d (.sl ((ns).length) (txsD (ns)))), (2, .w (.sl ((ns).length) (txsD (ns))) (some ⟨7, 0, 9, 1⟩)), (4, Ba false)] [] ?_)
  refine vc_ret (iR (.sl ((ns).length) (txsD (ns))) ?_)
  rfl
def idxOf (l : L8) : List L8 → Option Nat
  | [] => none
  | n :: ns => if l = n then some 0 else (idxOf l ns).map (· + 1)
def idxI (l : L8) (ns : List L8) : Int := match idxOf l ns with
  | some k => (k : Int)
  | none => -1
theorem idx_none {l : L8} : ∀ {ns : List L8}, idxOf l ns = none ↔ l ∉ ns
  | [] => by simp [idxOf]
  | n :: ns => by
    unfold idxOf
    split
    · rename_i h; simp [h]
    · rename_i h; simp [h, idx_none (ns := ns)]
theorem idx_some {l : L8} : ∀ {ns : List L8} {k : Nat}, (ns[k]? = some l ∧ ∀ j, j < k → ns[j]? ≠ some l) → idxOf l ns = some k
  | [], k, h => by simp at h
  | n :: ns, 0, h => by
    have : n = l := by simpa using h.1
    rw [idxOf, if_pos this.symm]
  | n :: ns, k + 1, h => by
    have h0 := h.2 0 (by omega)
    simp at h0
    rw [idxOf, if_neg (fun e => h0 e.symm), idx_some (k := k) ⟨by simpa using h.1, fun j hj => by simpa using h.2 (j + 1) (by omega)⟩]
    rfl
theorem idx_at {l : L8} : ∀ {ns : List L8} {k : Nat}, idxOf l ns = some k → ns[k]? = some l
  | [], k, h => by simp [idxOf] at h
  | n :: ns, k, h => by
    unfold idxOf at h
    split at h
    · rename_i e
      cases h
      simp [e]
    · cases hq : idxOf l ns with
      | none => rw [hq] at h; cases h
      | some j =>
        rw [hq] at h
        cases h
        simpa using idx_at hq
theorem not_at {l : L8} {ns : List L8} (h : ∀ j, j < ns.length → ns[j]? ≠ some l) : idxOf l ns = none := idx_none.2 fun hm => by
  obtain ⟨j, hj, e⟩ := List.getElem_of_mem hm
  exact h j hj (by rw [List.getElem?_eq_getElem hj, e])
theorem more_not {l m : L8} {ns : List L8} {k : Nat} (h : ∀ j, j < k → ns[j]? ≠ some l) (hk : ns[k]? = some m) (hn : l ≠ m) : ∀ j, j < k + 1 → ns[j]? ≠ some l := fun j hj => by
  by_cases e : j = k
  · rw [e, hk]; exact fun q => hn (Option.some.inj q).symm
  · exact h j (by omega)
theorem txsD_get1 {ns : List L8} {k : Nat} {l : L8} (h : ns[k]? = some l) : (txsD ns)[k]? = some (.v (.string (tx l))) := by
  unfold txsD
  rw [List.getElem?_map, h]
  rfl
theorem c_IndexS {l : L8} {ns : List L8} (hb : ns.length ≤ 1073741824) : HasC Tryz.prog 119 [.sl ((ns).length) (txsD (ns)), .v (.string (tx l))] (fun r => r = .v (.int .i64 (idxI l ns))) := by
 refine HasC.of [] (fn := Tryz.f119) tyOk mixed (fun args w => Tryz.call119 args w) Tryz.func119 rfl (by kernel_rfl) (Nat.le_of_ble_eq_true rfl) (⟨_, rfl⟩) ?_
 refine vc_seqr rfl (iQ 1 (iE 19 [(0, .d (.sl ((ns).length) (txsD (ns)))), (1, .d (Sv (tx l))), (4, Ia 0)] [] ?_))
 refine vc_seq (vc_seqr rfl (iQ 3 (iE 19 [(0, .d (.sl ((ns).length) (txsD (ns)))), (1, .d (Sv (tx l))), (4, Ia 0), (7, Ia ((((ns).length : Nat) : Int))), (8, Ia 0)] [] ?_)))
 refine vc_block (vc_loop 19 (fun (vcx : Nat × Int) => match vcx with | (k, z) => [(0, .d (.sl ((ns).length) (txsD (ns)))), (1, .d (Sv (tx l))), (4, Ia 0), (7, Ia ((((ns).length : Nat) : Int))), (8, Ia z)]) (fun (vcx : Nat × Int) => match vcx with | (k, z) => []) (fun (vcx : Nat × Int) => match vcx with | (k, z) => z = k ∧ k ≤ ns.length ∧ ∀ j, j < k → ns[j]? ≠ some l) (fun (vcx : Nat × Int) => match vcx with | (k, z) => ns.length - k) ((0, 0)) (⟨rfl, Nat.zero_le _, fun j h => absurd h (Nat.not_lt_zero j)⟩) (by kernel_rfl) (by kernel_rfl) ?_)
 rintro ⟨k, z⟩ hinv
 simp only at hinv
 obtain ⟨h1, h2, h3⟩ := hinv
 refine vc_seqr rfl (iB .lss 3 (.int .i64 z) (.int .i64 ((((ns).length : Nat) : Int))) (some 9) ?_)
 intro c9 hc9
 refine iE 19 [(0, .d (.sl ((ns).length) (txsD (ns)))), (1, .d (Sv (tx l))), (4, Ia 0), (7, Ia ((((ns).length : Nat) : Int))), (8, Ia z), (9, Ba c9)] [] ?_
 refine vc_seq ?_
 cases c9
 ·replace hc9 := bf hc9
  refine iF (vc_exit (seq_x (loop_x (block_x rfl (seq_n (vc_seqr rfl (iQ 1 (iE 19 [(0, .d (.sl ((ns).length) (txsD (ns)))), (1, .d (Sv (tx l))), (4, Ia (-1)), (7, Ia ((((ns).length : Nat) : Int))), (8, Ia z), (9, Ba false)] [] ?_))))))))
  refine vc_ret (iR (Iv (-1)) ?_)
  rw [idxI, not_at (fun j hj => h3 j (by omega))]
 ·replace hc9 := bt hc9
  have hk : k < ns.length := by omega
  obtain ⟨m, hm⟩ : ∃ m, ns[k]? = some m := ⟨_, List.getElem?_eq_getElem hk⟩
  refine iT (vc_skip (seq_n (vc_seq (vc_block (vc_seqr rfl (iQ 2 (iE 19 [(0, .d (.sl ((ns).length) (txsD (ns)))), (1, .d (Sv (tx l))), (4, Ia 0), (5, Ia z), (7, Ia ((((ns).length : Nat) : Int))), (8, Ia z), (9, Ba true)] [] ?_)))))))
  refine vc_seqr rfl (iQ 3 (vcI_idx1 (q := z) (n := ((ns).length)) (cs := (txsD (ns))) (d := .v (.string (tx m))) (dst := (some 14)) (by kernel_rfl) (by omega) (by rw [h1, Int.toNat_natCast]; exact txsD_get1 hm) ?_))
  refine iQ 1 (iB .eql 9 (.string (tx l)) (.string (tx m)) (some 16) ?_)
  intro c16 hc16
  refine iE 19 [(0, .d (.sl ((ns).length) (txsD (ns)))), (1, .d (Sv (tx l))), (4, Ia 0), (5, Ia z), (7, Ia ((((ns).length : Nat) : Int))), (8, Ia z), (9, Ba true), (16, Ba c16)] [] ?_
  cases c16
  ·replace hc16 := bf hc16
   have e : l ≠ m := fun h => hc16 (by rw [h])
   refine iF (vc_skip (block_n (seq_n (vc_reg rfl (iB .add 3 (.int .i64 z) (.int .i64 1) (some 18) ?_)))))
   intro z18 hz18
   try replace hz18 := hz18.i64 (by omega)
   refine iQ 1 (iE 19 [(0, .d (.sl ((ns).length) (txsD (ns)))), (1, .d (Sv (tx l))), (4, Ia 0), (5, Ia z), (7, Ia ((((ns).length : Nat) : Int))), (8, Ia z18), (9, Ba true), (16, Ba false)] [] ?_)
   refine loop_n (k + 1, z18) (⟨by omega, by omega, more_not h3 hm e⟩) (by show ns.length - (k + 1) < ns.length - k; omega) (by kernel_rfl) (by kernel_rfl)
  ·replace hc16 := bt hc16
   have e : l = m := tx_inj hc16
   refine iT (vc_seqr rfl (iQ 2 (iE 19 [(0, .d (.sl ((ns).length) (txsD (ns)))), (1, .d (Sv (tx l))), (4, Ia z), (5, Ia z), (7, Ia ((((ns).length : Nat) : Int))), (8, Ia z), (9, Ba true), (16, Ba true)] [] ?_)))
   refine vc_ret (block_r (seq_r (loop_r (block_r (seq_r (iR (Iv z) ?_))))))
   rw [idxI, idx_some ⟨by rw [hm, e], h3⟩, h1]
theorem c_ContS {l : L8} {ns : List L8} (hb : ns.length ≤ 1073741824) : HasC Tryz.prog 149 [.sl ((ns).length) (txsD (ns)), .v (.string (tx l))] (fun r => ∃ b, r = .v (.bool b) ∧ (b = true ↔ l ∈ ns)) := by
 refine HasC.of [] (fn := Tryz.f149) tyOk mixed (fun args w => Tryz.call149 args w) Tryz.func149 rfl (by kernel_rfl) (Nat.le_of_ble_eq_true rfl) (by by_cases h : l ∈ ns; exact ⟨_, true, rfl, by simp [h]⟩; exact ⟨_, false, rfl, by simp [h]⟩) ?_
 refine vc_seqr rfl (iQ 1 (iE 9 [(0, .d (.sl ((ns).length) (txsD (ns)))), (1, .d (Sv (tx l))), (4, Ba false)] [] ?_))
 refine vc_seqr rfl (iQ 2 (iC 119 [.sl ((ns).length) (txsD (ns)), Sv (tx l)] (some 7) (c_IndexS hb) ?_))
 rintro _ rfl
 refine iB .geq 3 (.int .i64 (idxI l ns)) (.int .i64 0) (some 8) ?_
 intro c8 hc8
 refine iQ 1 (iE 9 [(4, Ba c8)] [] ?_)
 refine vc_ret (iR (Bv c8) ?_)
 refine ⟨c8, rfl, hc8.trans ?_⟩
 unfold idxI
 cases h : idxOf l ns with
 | none => simp [idx_none.1 h]
 | some k => simp; exact List.mem_of_getElem? (idx_at h)
theorem c_Valid {l : L8} (h : l.length ≤ 9223372036854775807) : HasC Tryz.prog 62 [.v (.string (tx l))] (fun y => y = .v (.bool (Lib.validD l))) :=
  (HasC.ofCallsK (vs := [.string (tx l)]) (R := fun r => r = .bool (Lib.validD l)) (fun args w => Tryz.call62 args w) ⟨_, rfl⟩ rfl fun w hk => by
    have e : (tx l).data.toList = l := by simp [tx]
    have hv := Any.utf8_ValidString laysValid (tx l) w (by rw [tx_size]; exact h) (hk.u8 _ _ (by kernel_rfl) (by kernel_rfl))
    rw [e] at hv
    exact hv.mono fun e w' ⟨h1, h2⟩ => ⟨_, h1, rfl, h2⟩).mono fun y ⟨r, h1, h2⟩ => by rw [h2, h1]; rfl

-- simple values
theorem v_Bool {p : Bool} : HasC Tryz.prog 36 [.v (.bool p)] (fun r => r = .agg [(Vl.bool p).enc]) := by
 refine HasC.of [] (fn := Tryz.f36) tyOk mixed (fun args w => Tryz.call36 args w) Tryz.func36 rfl (by kernel_rfl) (Nat.le_of_ble_eq_true rfl) (⟨_, rfl⟩) ?_
 refine vc_seqr rfl (iQ 1 (iE 6 [(0, Ba p), (2, .p 2 0)] [(2, [.v (.nilIface)])] ?_))
 refine vc_seqr rfl (iQ 4 (iE 6 [(2, .p 2 0)] [(2, [.ifc 109 (Bv p)])] ?_))
 refine vc_ret (iR (.agg [.ifc 109 (Bv p)]) ?_)
 rfl
theorem c_vBool {p : Bool} : HasC Tryz.prog 36 [.v (.bool p)] (fun r => r = VV (.bool p)) := HasC.bxR v_Bool
open Classical in
noncomputable def numV (g : Bool) (n : Nat) (e : Int) : Vl := if May g n e then .num g n e else .null
theorem v_Num {g : Bool} {n : Nat} {e : Int} (hn : n < B128) : HasC Tryz.prog 33 [.agg [.v (.bool g), .v (.int .u64 (hiW (n))), .v (.int .u64 (loW (n))), .v (.int .i64 e)]] (fun r => r = .agg [(numV g n e).enc]) := by
 refine HasC.of [] (fn := Tryz.f33) tyOk mixed (fun args w => Tryz.call33 args w) Tryz.func33 rfl (by kernel_rfl) (Nat.le_of_ble_eq_true rfl) (⟨_, rfl⟩) ?_
 refine vc_seqr rfl (iQ 2 (iE 10 [(1, .p 1 0), (2, .p 2 0)] [(1, [Bv g, Hw n, Lw n, Iv e]), (2, [.v (.nilIface)])] ?_))
 refine vc_seq (vc_seqr rfl (iQ 1 (iC 61 [.agg [Bv g, Hw n, Lw n, Iv e]] (some 4) (c_May hn) ?_)))
 rintro _ ⟨w, rfl, hw⟩
 refine iU .not (.bool w) (some 5) ?_
 intro c5 hc5
 refine iE 10 [(1, .p 1 0), (2, .p 2 0), (5, Ba c5)] [(1, [Bv g, Hw n, Lw n, Iv e]), (2, [.v (.nilIface)])] ?_
 cases c5
 ·replace hc5 := bf hc5
  refine iF (vc_skip (seq_n (vc_seqr rfl (iQ 4 (iE 10 [(1, .p 1 0), (2, .p 2 0), (5, Ba false)] [(1, [Bv g, Hw n, Lw n, Iv e]), (2, [.ifc 107 (.agg [Bv g, Hw n, Lw n, Iv e])])] ?_)))))
  refine vc_ret (iR (.agg [.ifc 107 (.agg [Bv g, Hw n, Lw n, Iv e])]) ?_)
  rw [numV, if_pos (hw.1 (by simpa using hc5))]; rfl
 ·replace hc5 := bt hc5
  refine iT (vc_seqr rfl (iQ 2 (iE 10 [(1, .p 1 0), (2, .p 2 0), (5, Ba true)] [(1, [Bv g, Hw n, Lw n, Iv e]), (2, [.v (.nilIface)])] ?_)))
  refine vc_ret (seq_r (iR (.agg [.v (.nilIface)]) ?_))
  rw [numV, if_neg (fun h => by rw [hw.2 h] at hc5; cases hc5)]; rfl
theorem c_vNum {g : Bool} {n : Nat} {e : Int} (hn : n < B128) : HasC Tryz.prog 33 [dDec g n e] (fun r => r = VV (numV g n e)) := HasC.bxR (v_Num hn)
open Classical in
noncomputable def dayV (y m d : Int) : Vl := if mayD y m d then .day y m d else .null
theorem v_Date {y m d : Int} : HasC Tryz.prog 109 [.agg [.v (.int .i64 y), .v (.int .i64 m), .v (.int .i64 d)]] (fun r => r = .agg [(dayV y m d).enc]) := by
 refine HasC.of [] (fn := Tryz.f109) tyOk mixed (fun args w => Tryz.call109 args w) Tryz.func109 rfl (by kernel_rfl) (Nat.le_of_ble_eq_true rfl) (⟨_, rfl⟩) ?_
 refine vc_seqr rfl (iQ 2 (iE 10 [(1, .p 1 0), (2, .p 2 0)] [(1, [Iv y, Iv m, Iv d]), (2, [.v (.nilIface)])] ?_))
 refine vc_seq (vc_seqr rfl (iQ 1 (iC 154 [.agg [Iv y, Iv m, Iv d]] (some 4) (c_DateMay) ?_)))
 rintro _ ⟨w, rfl, hw⟩
 refine iU .not (.bool w) (some 5) ?_
 intro c5 hc5
 refine iE 10 [(1, .p 1 0), (2, .p 2 0), (5, Ba c5)] [(1, [Iv y, Iv m, Iv d]), (2, [.v (.nilIface)])] ?_
 cases c5
 ·replace hc5 := bf hc5
  refine iF (vc_skip (seq_n (vc_seqr rfl (iQ 4 (iE 10 [(1, .p 1 0), (2, .p 2 0), (5, Ba false)] [(1, [Iv y, Iv m, Iv d]), (2, [.ifc 180 (.agg [Iv y, Iv m, Iv d])])] ?_)))))
  refine vc_ret (iR (.agg [.ifc 180 (.agg [Iv y, Iv m, Iv d])]) ?_)
  rw [dayV, if_pos (hw.1 (by simpa using hc5))]; rfl
 ·replace hc5 := bt hc5
  refine iT (vc_seqr rfl (iQ 2 (iE 10 [(1, .p 1 0), (2, .p 2 0), (5, Ba true)] [(1, [Iv y, Iv m, Iv d]), (2, [.v (.nilIface)])] ?_)))
  refine vc_ret (seq_r (iR (.agg [.v (.nilIface)]) ?_))
  rw [dayV, if_neg (fun h => by rw [hw.2 h] at hc5; cases hc5)]; rfl
theorem c_vDate {y m d : Int} : HasC Tryz.prog 109 [.agg [.v (.int .i64 y), .v (.int .i64 m), .v (.int .i64 d)]] (fun r => r = VV (dayV y m d)) := HasC.bxR v_Date
open Classical in
noncomputable def timeV (s : Int) (z : Bool) (o : Int) : Vl := if mayT s z o then .time s z o else .null
theorem v_Time {s o : Int} {z : Bool} : HasC Tryz.prog 111 [.agg [.v (.int .i64 s), .v (.bool z), .v (.int .i64 o)]] (fun r => r = .agg [(timeV s z o).enc]) := by
 refine HasC.of [] (fn := Tryz.f111) tyOk mixed (fun args w => Tryz.call111 args w) Tryz.func111 rfl (by kernel_rfl) (Nat.le_of_ble_eq_true rfl) (⟨_, rfl⟩) ?_
 refine vc_seqr rfl (iQ 2 (iE 10 [(1, .p 1 0), (2, .p 2 0)] [(1, [Iv s, Bv z, Iv o]), (2, [.v (.nilIface)])] ?_))
 refine vc_seq (vc_seqr rfl (iQ 1 (iC 160 [.agg [Iv s, Bv z, Iv o]] (some 4) (c_TMay) ?_)))
 rintro _ ⟨w, rfl, hw⟩
 refine iU .not (.bool w) (some 5) ?_
 intro c5 hc5
 refine iE 10 [(1, .p 1 0), (2, .p 2 0), (5, Ba c5)] [(1, [Iv s, Bv z, Iv o]), (2, [.v (.nilIface)])] ?_
 cases c5
 ·replace hc5 := bf hc5
  refine iF (vc_skip (seq_n (vc_seqr rfl (iQ 4 (iE 10 [(1, .p 1 0), (2, .p 2 0), (5, Ba false)] [(1, [Iv s, Bv z, Iv o]), (2, [.ifc 184 (.agg [Iv s, Bv z, Iv o])])] ?_)))))
  refine vc_ret (iR (.agg [.ifc 184 (.agg [Iv s, Bv z, Iv o])]) ?_)
  rw [timeV, if_pos (hw.1 (by simpa using hc5))]; rfl
 ·replace hc5 := bt hc5
  refine iT (vc_seqr rfl (iQ 2 (iE 10 [(1, .p 1 0), (2, .p 2 0), (5, Ba true)] [(1, [Iv s, Bv z, Iv o]), (2, [.v (.nilIface)])] ?_)))
  refine vc_ret (seq_r (iR (.agg [.v (.nilIface)]) ?_))
  rw [timeV, if_neg (fun h => by rw [hw.2 h] at hc5; cases hc5)]; rfl
theorem c_vTime {s o : Int} {z : Bool} : HasC Tryz.prog 111 [.agg [.v (.int .i64 s), .v (.bool z), .v (.int .i64 o)]] (fun r => r = VV (timeV s z o)) := HasC.bxR v_Time
open Classical in
noncomputable def momV (y m d s : Int) (z : Bool) (o : Int) : Vl := if mayD y m d ∧ mayT s z o then .mom y m d s z o else .null
theorem v_Moment {y m d s o : Int} {z : Bool} : HasC Tryz.prog 113 [.agg [.v (.int .i64 y), .v (.int .i64 m), .v (.int .i64 d), .v (.int .i64 s), .v (.bool z), .v (.int .i64 o)]] (fun r => r = .agg [(momV y m d s z o).enc]) := by
 refine HasC.of [] (fn := Tryz.f113) tyOk mixed (fun args w => Tryz.call113 args w) Tryz.func113 rfl (by kernel_rfl) (Nat.le_of_ble_eq_true rfl) (⟨_, rfl⟩) ?_
 refine vc_seqr rfl (iQ 2 (iE 10 [(1, .p 1 0), (2, .p 2 0)] [(1, [Iv y, Iv m, Iv d, Iv s, Bv z, Iv o]), (2, [.v (.nilIface)])] ?_))
 refine vc_seq (vc_seqr rfl (iQ 1 (iC 161 [.agg [Iv y, Iv m, Iv d, Iv s, Bv z, Iv o]] (some 4) (c_mMay) ?_)))
 rintro _ ⟨w, rfl, hw⟩
 refine iU .not (.bool w) (some 5) ?_
 intro c5 hc5
 refine iE 10 [(1, .p 1 0), (2, .p 2 0), (5, Ba c5)] [(1, [Iv y, Iv m, Iv d, Iv s, Bv z, Iv o]), (2, [.v (.nilIface)])] ?_
 cases c5
 ·replace hc5 := bf hc5
  refine iF (vc_skip (seq_n (vc_seqr rfl (iQ 4 (iE 10 [(1, .p 1 0), (2, .p 2 0), (5, Ba false)] [(1, [Iv y, Iv m, Iv d, Iv s, Bv z, Iv o]), (2, [.ifc 186 (.agg [Iv y, Iv m, Iv d, Iv s, Bv z, Iv o])])] ?_)))))
  refine vc_ret (iR (.agg [.ifc 186 (.agg [Iv y, Iv m, Iv d, Iv s, Bv z, Iv o])]) ?_)
  rw [momV, if_pos (hw.1 (by simpa using hc5))]; rfl
 ·replace hc5 := bt hc5
  refine iT (vc_seqr rfl (iQ 2 (iE 10 [(1, .p 1 0), (2, .p 2 0), (5, Ba true)] [(1, [Iv y, Iv m, Iv d, Iv s, Bv z, Iv o]), (2, [.v (.nilIface)])] ?_)))
  refine vc_ret (seq_r (iR (.agg [.v (.nilIface)]) ?_))
  rw [momV, if_neg (fun h => by rw [hw.2 h] at hc5; cases hc5)]; rfl
theorem c_vMoment {y m d s o : Int} {z : Bool} : HasC Tryz.prog 113 [.agg [.v (.int .i64 y), .v (.int .i64 m), .v (.int .i64 d), .v (.int .i64 s), .v (.bool z), .v (.int .i64 o)]] (fun r => r = VV (momV y m d s z o)) := HasC.bxR v_Moment
instance (n : Int) : Decidable (spanOk n) := inferInstanceAs (Decidable (_ ∧ _))
def daysV (n : Int) : Vl := if spanOk n then .days n else .null
def monthsV (n : Int) : Vl := if spanOk n then .months n else .null
theorem c_spanMay {n : Int} : HasC Tryz.prog 164 [.v (.int .i64 n)] (fun r => ∃ b, r = .v (.bool b) ∧ (b = true ↔ spanOk n)) := by
 refine HasC.of [] (fn := Tryz.f164) tyOk mixed (fun args w => Tryz.call164 args w) Tryz.func164 rfl (by kernel_rfl) (Nat.le_of_ble_eq_true rfl) (⟨_, decide (spanOk n), rfl, by simp⟩) ?_
 refine vc_seqr rfl (iQ 1 (iE 9 [(0, Ia n), (2, Ba false)] [] ?_))
 refine vc_seqr rfl (iQ 1 (iB .geq 3 (.int .i64 n) (.int .i64 (-9007199254740992)) (some 4) ?_))
 intro c4 hc4
 refine iQ 1 ?_
 cases c4
 ·replace hc4 := bf hc4
  refine iQ 4 (iE 9 [(2, Ba false)] [] ?_)
  refine vc_ret (iR (Bv false) ?_)
  exact ⟨_, rfl, by unfold spanOk; simp; omega⟩
 ·replace hc4 := bt hc4
  refine iQ 1 (iB .leq 3 (.int .i64 n) (.int .i64 9007199254740992) (some 7) ?_)
  intro c7 hc7
  refine iQ 2 (iE 9 [(2, Ba c7)] [] ?_)
  refine vc_ret (iR (Bv c7) ?_)
  exact ⟨_, rfl, by rw [hc7]; unfold spanOk; omega⟩
theorem v_Days {n : Int} : HasC Tryz.prog 115 [.v (.int .i64 n)] (fun r => r = .agg [(daysV n).enc]) := by
 refine HasC.of [] (fn := Tryz.f115) tyOk mixed (fun args w => Tryz.call115 args w) Tryz.func115 rfl (by kernel_rfl) (Nat.le_of_ble_eq_true rfl) (⟨_, rfl⟩) ?_
 refine vc_seqr rfl (iQ 1 (iE 10 [(0, Ia n), (2, .p 2 0)] [(2, [.v (.nilIface)])] ?_))
 refine vc_seq (vc_seqr rfl (iQ 1 (iC 164 [Iv n] (some 4) (c_spanMay) ?_)))
 rintro _ ⟨w, rfl, hw⟩
 refine iU .not (.bool w) (some 5) ?_
 intro c5 hc5
 refine iE 10 [(0, Ia n), (2, .p 2 0), (5, Ba c5)] [(2, [.v (.nilIface)])] ?_
 cases c5
 ·replace hc5 := bf hc5
  refine iF (vc_skip (seq_n (vc_seqr rfl (iQ 4 (iE 10 [(0, Ia n), (2, .p 2 0), (5, Ba false)] [(2, [.ifc 226 (Iv n)])] ?_)))))
  refine vc_ret (iR (.agg [.ifc 226 (Iv n)]) ?_)
  rw [daysV, if_pos (hw.1 (by simpa using hc5))]; rfl
 ·replace hc5 := bt hc5
  refine iT (vc_seqr rfl (iQ 2 (iE 10 [(0, Ia n), (2, .p 2 0), (5, Ba true)] [(2, [.v (.nilIface)])] ?_)))
  refine vc_ret (seq_r (iR (.agg [.v (.nilIface)]) ?_))
  rw [daysV, if_neg (fun h => by rw [hw.2 h] at hc5; cases hc5)]; rfl
theorem c_vDays {n : Int} : HasC Tryz.prog 115 [.v (.int .i64 n)] (fun r => r = VV (daysV n)) := HasC.bxR v_Days
theorem v_Months {n : Int} : HasC Tryz.prog 117 [.v (.int .i64 n)] (fun r => r = .agg [(monthsV n).enc]) := by
 refine HasC.of [] (fn := Tryz.f117) tyOk mixed (fun args w => Tryz.call117 args w) Tryz.func117 rfl (by kernel_rfl) (Nat.le_of_ble_eq_true rfl) (⟨_, rfl⟩) ?_
 refine vc_seqr rfl (iQ 1 (iE 10 [(0, Ia n), (2, .p 2 0)] [(2, [.v (.nilIface)])] ?_))
 refine vc_seq (vc_seqr rfl (iQ 1 (iC 164 [Iv n] (some 4) (c_spanMay) ?_)))
 rintro _ ⟨w, rfl, hw⟩
 refine iU .not (.bool w) (some 5) ?_
 intro c5 hc5
 refine iE 10 [(0, Ia n), (2, .p 2 0), (5, Ba c5)] [(2, [.v (.nilIface)])] ?_
 cases c5
 ·replace hc5 := bf hc5
  refine iF (vc_skip (seq_n (vc_seqr rfl (iQ 4 (iE 10 [(0, Ia n), (2, .p 2 0), (5, Ba false)] [(2, [.ifc 227 (Iv n)])] ?_)))))
  refine vc_ret (iR (.agg [.ifc 227 (Iv n)]) ?_)
  rw [monthsV, if_pos (hw.1 (by simpa using hc5))]; rfl
 ·replace hc5 := bt hc5
  refine iT (vc_seqr rfl (iQ 2 (iE 10 [(0, Ia n), (2, .p 2 0), (5, Ba true)] [(2, [.v (.nilIface)])] ?_)))
  refine vc_ret (seq_r (iR (.agg [.v (.nilIface)]) ?_))
  rw [monthsV, if_neg (fun h => by rw [hw.2 h] at hc5; cases hc5)]; rfl
theorem c_vMonths {n : Int} : HasC Tryz.prog 117 [.v (.int .i64 n)] (fun r => r = VV (monthsV n)) := HasC.bxR v_Months
def textV (l : L8) : Vl := if Lib.validD l = true ∧ l.length ≤ 1048576 then .text l else .null
theorem v_Text {l : L8} (hL : l.length ≤ 9223372036854775807) : HasC Tryz.prog 34 [.v (.string (tx l))] (fun r => r = .agg [(textV l).enc]) := by
 refine HasC.of [] (fn := Tryz.f34) tyOk mixed (fun args w => Tryz.call34 args w) Tryz.func34 rfl (by kernel_rfl) (Nat.le_of_ble_eq_true rfl) (⟨_, rfl⟩) ?_
 refine vc_seqr rfl (iQ 1 (iE 15 [(0, .d (Sv (tx l))), (2, .p 2 0)] [(2, [.v (.nilIface)])] ?_))
 refine vc_seq (vc_seqr rfl (iQ 1 (iC 62 [Sv (tx l)] (some 4) (c_Valid hL) ?_)))
 rintro _ rfl
 have hs : (tx l).size = l.length := tx_size l
 refine iU .not (.bool (Lib.validD l)) (some 5) ?_
 intro c5 hc5
 refine iQ 1 ?_
 cases c5
 ·replace hc5 := bf hc5
  refine iQ 1 (iL .len [9] [.string (tx l)] (some 8) ?_)
  intro n8 hn8
  refine iB .gtr 3 (.int .i64 ((n8 : Nat))) (.int .i64 1048576) (some 9) ?_
  intro c9 hc9
  refine iQ 1 (iE 15 [(0, .d (Sv (tx l))), (2, .p 2 0), (10, Ba c9)] [(2, [.v (.nilIface)])] ?_)
  cases c9
  ·replace hc9 := bf hc9
   refine iF (vc_skip (seq_n (vc_seqr rfl (iQ 4 (iE 15 [(0, .d (Sv (tx l))), (2, .p 2 0), (10, Ba false)] [(2, [.ifc 108 (Sv (tx l))])] ?_)))))
   refine vc_ret (iR (.agg [.ifc 108 (Sv (tx l))]) ?_)
   rw [textV, if_pos ⟨by simpa using hc5, by omega⟩]; rfl
  ·replace hc9 := bt hc9
   refine iT (vc_seqr rfl (iQ 2 (iE 15 [(0, .d (Sv (tx l))), (2, .p 2 0), (10, Ba true)] [(2, [.v (.nilIface)])] ?_)))
   refine vc_ret (seq_r (iR (.agg [.v (.nilIface)]) ?_))
   rw [textV, if_neg (fun h => by have := h.2; omega)]; rfl
 ·replace hc5 := bt hc5
  refine iQ 4 (iE 15 [(0, .d (Sv (tx l))), (2, .p 2 0), (10, Ba true)] [(2, [.v (.nilIface)])] ?_)
  refine iT (vc_seqr rfl (iQ 2 (iE 15 [(0, .d (Sv (tx l))), (2, .p 2 0), (10, Ba true)] [(2, [.v (.nilIface)])] ?_)))
  refine vc_ret (seq_r (iR (.agg [.v (.nilIface)]) ?_))
  rw [textV, if_neg (fun h => by have := h.1; rw [hc5] at this; cases this)]; rfl
theorem c_vText {l : L8} (hL : l.length ≤ 9223372036854775807) : HasC Tryz.prog 34 [.v (.string (tx l))] (fun r => r = VV (textV l)) := HasC.bxR (v_Text hL)


open Go.RowKit
set_option linter.unusedVariables false
set_option linter.unusedSimpArgs false
set_option maxRecDepth 100000

theorem nullK (v : Vl) : v.nullB = true ↔ v.kindI = 1 := by cases v <;> simp [Vl.nullB, Vl.kindI]
theorem c_NullE {v : Vl} : HasC Tryz.prog 14 [VV v] (fun y => ∃ b, y = .v (.bool b) ∧ (b = true ↔ v.kindI = 1)) := (c_Null v).mono fun y hy => ⟨_, hy, nullK v⟩
theorem c_KindE {v : Vl} : HasC Tryz.prog 40 [VV v] (fun y => ∃ k, y = .v (.int .i64 k) ∧ k = v.kindI) := (c_Kind v).mono fun y hy => ⟨_, hy, rfl⟩
theorem c_OrdE {k : Int} : HasC Tryz.prog 41 [.v (.int .i64 k)] (fun r => ∃ b, r = .v (.bool b) ∧ (b = true ↔ 3 ≤ k ∧ k ≤ 9)) := by
 refine HasC.of [] (fn := Tryz.f41) tyOk mixed (fun args w => Tryz.call41 args w) Tryz.func41 rfl (by kernel_rfl) (Nat.le_of_ble_eq_true rfl) (⟨_, decide (3 ≤ k ∧ k ≤ 9), rfl, by simp⟩) ?_
 refine vc_seqr rfl (iQ 1 (iE 9 [(0, Ia k), (2, Ba false)] [] ?_))
 refine vc_seqr rfl (iQ 1 (iB .geq 36 (.int .i64 k) (.int .i64 3) (some 4) ?_))
 intro c4 hc4
 refine iQ 1 ?_
 cases c4
 ·replace hc4 := bf hc4
  refine iQ 4 (iE 9 [(2, Ba false)] [] ?_)
  refine vc_ret (iR (Bv false) ?_)
  exact ⟨_, rfl, by simp; omega⟩
 ·replace hc4 := bt hc4
  refine iQ 1 (iB .leq 36 (.int .i64 k) (.int .i64 9) (some 7) ?_)
  intro c7 hc7
  refine iQ 2 (iE 9 [(2, Ba c7)] [] ?_)
  refine vc_ret (iR (Bv c7) ?_)
  exact ⟨_, rfl, by rw [hc7]; omega⟩
theorem v_List {vs : List Vl} (h : vs.length ≤ 1073741824) : HasC Tryz.prog 32 [.sl ((vs).length) (encL (vs))] (fun r => r = .agg [(Vl.list vs).enc]) := by
 refine HasC.of [] (fn := Tryz.f32) tyOk mixed (fun args w => Tryz.call32 args w) Tryz.func32 rfl (by kernel_rfl) (Nat.le_of_ble_eq_true rfl) (⟨_, rfl⟩) ?_
 refine vc_seqr rfl (iQ 1 (iE 7 [(0, .d (.sl ((vs).length) (encL (vs)))), (2, .p 2 0)] [(2, [.v (.nilIface)])] ?_))
 refine vc_seqr rfl (iQ 1 (iC 60 [.sl ((vs).length) (encL (vs))] (some 4) (c_CloneV h) ?_))
 rintro _ rfl
 refine iQ 3 (iE 7 [(2, .p 2 0)] [(2, [.ifc 105 (.sl ((vs).length) (encL (vs)))])] ?_)
 refine vc_ret (iR (.agg [.ifc 105 (.sl ((vs).length) (encL (vs)))]) ?_)
 rw [Vl.enc]
theorem c_vList {vs : List Vl} (h : vs.length ≤ 1073741824) : HasC Tryz.prog 32 [.sl vs.length (encL vs)] (fun r => r = VV (.list vs)) := HasC.bxR (v_List h)

/-- Whether two may be a range's ends, by their kinds. -/
def RgOk (kl kh : Int) : Prop := (kl = 1 ∨ 3 ≤ kl ∧ kl ≤ 9) ∧ (kh = 1 ∨ 3 ≤ kh ∧ kh ≤ 9) ∧ (kl = 1 ∨ kh = 1 ∨ kl = kh)
instance (kl kh : Int) : Decidable (RgOk kl kh) := inferInstanceAs (Decidable (_ ∧ _))
def rangeV (lo hi : Vl) (p q : Bool) : Vl := if RgOk lo.kindI hi.kindI then .rng lo hi (p && !lo.nullB) (q && !hi.nullB) else .null
theorem range_no {lo hi : Vl} {p q : Bool} (h : ¬ RgOk lo.kindI hi.kindI) : DV.agg [.v .nilIface] = .agg [(rangeV lo hi p q).enc] := by rw [rangeV, if_neg h, Vl.enc]
theorem range_yes {lo hi : Vl} {p q x y : Bool} (h : RgOk lo.kindI hi.kindI) (hx : x = (p && !lo.nullB)) (hy : y = (q && !hi.nullB)) :
    DV.agg [.ifc 78 (.agg [.bx lo.enc, .bx hi.enc, .v (.bool x), .v (.bool y)])] = .agg [(rangeV lo hi p q).enc] := by rw [rangeV, if_pos h, Vl.enc, hx, hy]
theorem not_nullB {v : Vl} {c n : Bool} (h1 : c = true ↔ n = false) (h2 : n = true ↔ v.kindI = 1) : c = !v.nullB := by
  have := nullK v
  cases n <;> cases hv : v.nullB <;> simp_all
set_option maxHeartbeats 3200000 in
theorem v_Range {lo hi : Vl} {p q : Bool} : HasC Tryz.prog 20 [.agg [.bx (lo).enc], .agg [.bx (hi).enc], .agg [.v (.bool p), .v (.bool q)]] (fun r => r = .agg [(rangeV lo hi p q).enc]) := by
 refine HasC.of [] (fn := Tryz.f20) tyOk mixed (fun args w => Tryz.call20 args w) Tryz.func20 rfl (by kernel_rfl) (Nat.le_of_ble_eq_true rfl) (⟨_, rfl⟩) ?_
 have hl := kind_rng (v := lo)
 have hh := kind_rng (v := hi)
 refine vc_seqr rfl (iQ 4 (iE 71 [(3, .p 3 0), (4, .p 4 0), (5, .p 5 0), (6, .p 6 0)] [(3, [.bx (lo).enc]), (4, [.bx (hi).enc]), (5, [Bv p, Bv q]), (6, [.v (.nilIface)])] ?_))
 refine vc_seqr rfl (iQ 1 (iC 40 [.agg [.bx (lo).enc]] (some 9) (c_KindE) ?_))
 rintro _ ⟨k9, rfl, hk9⟩
 refine iQ 1 (iE 71 [(3, .p 3 0), (4, .p 4 0), (5, .p 5 0), (6, .p 6 0), (7, Ia k9)] [(3, [.bx (lo).enc]), (4, [.bx (hi).enc]), (5, [Bv p, Bv q]), (6, [.v (.nilIface)])] ?_)
 refine vc_mid 71 (fun (vcx : Int × Bool) => match vcx with | (k, vb11) => [(3, .p 3 0), (4, .p 4 0), (5, .p 5 0), (6, .p 6 0), (7, Ia k), (11, Ba vb11)]) (fun (vcx : Int × Bool) => match vcx with | (k, vb11) => [(3, [.bx (lo).enc]), (4, [.bx (hi).enc]), (5, [Bv p, Bv q]), (6, [.v (.nilIface)])]) (fun (vcx : Int × Bool) => match vcx with | (k, vb11) => (lo.kindI = 1 ∧ k = hi.kindI) ∨ (lo.kindI ≠ 1 ∧ k = lo.kindI)) ?_ ?_
 ·rintro ⟨k, vb11⟩ hinv
  simp only at hinv
  skip
  refine vc_seq (vc_seqr rfl (iQ 1 (iC 14 [.agg [.bx (hi).enc]] (some 15) (c_NullE) ?_)))
  rintro _ ⟨n15, rfl, hn15⟩
  refine iU .not (.bool n15) (some 16) ?_
  intro c16 hc16
  refine iQ 1 ?_
  cases c16
  ·replace hc16 := bf hc16
   refine iQ 7 (iC 14 [.agg [.bx (lo).enc]] (some 25) (c_NullE) ?_)
   rintro _ ⟨n25, rfl, hn25⟩
   refine iU .not (.bool n25) (some 26) ?_
   intro c26 hc26
   refine iQ 1 ?_
   cases c26
   ·replace hc26 := bf hc26
    refine iQ 14 (iC 41 [Iv k] (some 42) (c_OrdE) ?_)
    rintro _ ⟨o42, rfl, ho42⟩
    refine iU .not (.bool o42) (some 43) ?_
    intro c43 hc43
    refine iQ 1 ?_
    cases c43
    ·replace hc43 := bf hc43
     refine iQ 4 (iE 71 [(3, .p 3 0), (4, .p 4 0), (5, .p 5 0), (6, .p 6 0), (11, Ba vb11), (48, Ba false)] [(3, [.bx (lo).enc]), (4, [.bx (hi).enc]), (5, [Bv p, Bv q]), (6, [.v (.nilIface)])] ?_)
     refine iF (vc_skip (seq_n (vc_seqr rfl (iQ 6 ?_))))
     cases p
     ·skip
      refine iQ 7 ?_
      cases q
      ·skip
       refine iQ 9 (iE 71 [(3, .p 3 0), (4, .p 4 0), (6, .p 6 0), (11, Ba vb11), (48, Ba false)] [(3, [.bx (lo).enc]), (4, [.bx (hi).enc]), (6, [.ifc 78 (.agg [.bx (lo).enc, .bx (hi).enc, Bv false, Bv false])])] ?_)
       refine vc_ret (iR (.agg [.ifc 78 (.agg [.bx (lo).enc, .bx (hi).enc, Bv false, Bv false])]) ?_)
       first | exact range_no (by unfold RgOk; grind) | exact range_yes (by unfold RgOk; grind) (by first | rfl | exact not_nullB hc58 hn57) (by first | rfl | exact not_nullB hc65 hn64)
      ·skip
       refine iQ 1 (iC 14 [.agg [.bx (hi).enc]] (some 64) (c_NullE) ?_)
       rintro _ ⟨n64, rfl, hn64⟩
       refine iU .not (.bool n64) (some 65) ?_
       intro c65 hc65
       refine iQ 6 (iE 71 [(3, .p 3 0), (4, .p 4 0), (6, .p 6 0), (11, Ba vb11), (48, Ba false)] [(3, [.bx (lo).enc]), (4, [.bx (hi).enc]), (6, [.ifc 78 (.agg [.bx (lo).enc, .bx (hi).enc, Bv false, Bv c65])])] ?_)
       refine vc_ret (iR (.agg [.ifc 78 (.agg [.bx (lo).enc, .bx (hi).enc, Bv false, Bv c65])]) ?_)
       first | exact range_no (by unfold RgOk; grind) | exact range_yes (by unfold RgOk; grind) (by first | rfl | exact not_nullB hc58 hn57) (by first | rfl | exact not_nullB hc65 hn64)
     ·skip
      refine iQ 1 (iC 14 [.agg [.bx (lo).enc]] (some 57) (c_NullE) ?_)
      rintro _ ⟨n57, rfl, hn57⟩
      refine iU .not (.bool n57) (some 58) ?_
      intro c58 hc58
      refine iQ 4 ?_
      cases q
      ·skip
       refine iQ 9 (iE 71 [(3, .p 3 0), (4, .p 4 0), (6, .p 6 0), (11, Ba vb11), (48, Ba false)] [(3, [.bx (lo).enc]), (4, [.bx (hi).enc]), (6, [.ifc 78 (.agg [.bx (lo).enc, .bx (hi).enc, Bv c58, Bv false])])] ?_)
       refine vc_ret (iR (.agg [.ifc 78 (.agg [.bx (lo).enc, .bx (hi).enc, Bv c58, Bv false])]) ?_)
       first | exact range_no (by unfold RgOk; grind) | exact range_yes (by unfold RgOk; grind) (by first | rfl | exact not_nullB hc58 hn57) (by first | rfl | exact not_nullB hc65 hn64)
      ·skip
       refine iQ 1 (iC 14 [.agg [.bx (hi).enc]] (some 64) (c_NullE) ?_)
       rintro _ ⟨n64, rfl, hn64⟩
       refine iU .not (.bool n64) (some 65) ?_
       intro c65 hc65
       refine iQ 6 (iE 71 [(3, .p 3 0), (4, .p 4 0), (6, .p 6 0), (11, Ba vb11), (48, Ba false)] [(3, [.bx (lo).enc]), (4, [.bx (hi).enc]), (6, [.ifc 78 (.agg [.bx (lo).enc, .bx (hi).enc, Bv c58, Bv c65])])] ?_)
       refine vc_ret (iR (.agg [.ifc 78 (.agg [.bx (lo).enc, .bx (hi).enc, Bv c58, Bv c65])]) ?_)
       first | exact range_no (by unfold RgOk; grind) | exact range_yes (by unfold RgOk; grind) (by first | rfl | exact not_nullB hc58 hn57) (by first | rfl | exact not_nullB hc65 hn64)
    ·replace hc43 := bt hc43
     refine iQ 1 (iB .neq 36 (.int .i64 k) (.int .i64 1) (some 46) ?_)
     intro c46 hc46
     refine iQ 2 (iE 71 [(3, .p 3 0), (4, .p 4 0), (5, .p 5 0), (6, .p 6 0), (11, Ba vb11), (48, Ba c46)] [(3, [.bx (lo).enc]), (4, [.bx (hi).enc]), (5, [Bv p, Bv q]), (6, [.v (.nilIface)])] ?_)
     cases c46
     ·replace hc46 := bf hc46
      refine iF (vc_skip (seq_n (vc_seqr rfl (iQ 6 ?_))))
      cases p
      ·skip
       refine iQ 7 ?_
       cases q
       ·skip
        refine iQ 9 (iE 71 [(3, .p 3 0), (4, .p 4 0), (6, .p 6 0), (11, Ba vb11), (48, Ba false)] [(3, [.bx (lo).enc]), (4, [.bx (hi).enc]), (6, [.ifc 78 (.agg [.bx (lo).enc, .bx (hi).enc, Bv false, Bv false])])] ?_)
        refine vc_ret (iR (.agg [.ifc 78 (.agg [.bx (lo).enc, .bx (hi).enc, Bv false, Bv false])]) ?_)
        first | exact range_no (by unfold RgOk; grind) | exact range_yes (by unfold RgOk; grind) (by first | rfl | exact not_nullB hc58 hn57) (by first | rfl | exact not_nullB hc65 hn64)
       ·skip
        refine iQ 1 (iC 14 [.agg [.bx (hi).enc]] (some 64) (c_NullE) ?_)
        rintro _ ⟨n64, rfl, hn64⟩
        refine iU .not (.bool n64) (some 65) ?_
        intro c65 hc65
        refine iQ 6 (iE 71 [(3, .p 3 0), (4, .p 4 0), (6, .p 6 0), (11, Ba vb11), (48, Ba false)] [(3, [.bx (lo).enc]), (4, [.bx (hi).enc]), (6, [.ifc 78 (.agg [.bx (lo).enc, .bx (hi).enc, Bv false, Bv c65])])] ?_)
        refine vc_ret (iR (.agg [.ifc 78 (.agg [.bx (lo).enc, .bx (hi).enc, Bv false, Bv c65])]) ?_)
        first | exact range_no (by unfold RgOk; grind) | exact range_yes (by unfold RgOk; grind) (by first | rfl | exact not_nullB hc58 hn57) (by first | rfl | exact not_nullB hc65 hn64)
      ·skip
       refine iQ 1 (iC 14 [.agg [.bx (lo).enc]] (some 57) (c_NullE) ?_)
       rintro _ ⟨n57, rfl, hn57⟩
       refine iU .not (.bool n57) (some 58) ?_
       intro c58 hc58
       refine iQ 4 ?_
       cases q
       ·skip
        refine iQ 9 (iE 71 [(3, .p 3 0), (4, .p 4 0), (6, .p 6 0), (11, Ba vb11), (48, Ba false)] [(3, [.bx (lo).enc]), (4, [.bx (hi).enc]), (6, [.ifc 78 (.agg [.bx (lo).enc, .bx (hi).enc, Bv c58, Bv false])])] ?_)
        refine vc_ret (iR (.agg [.ifc 78 (.agg [.bx (lo).enc, .bx (hi).enc, Bv c58, Bv false])]) ?_)
        first | exact range_no (by unfold RgOk; grind) | exact range_yes (by unfold RgOk; grind) (by first | rfl | exact not_nullB hc58 hn57) (by first | rfl | exact not_nullB hc65 hn64)
       ·skip
        refine iQ 1 (iC 14 [.agg [.bx (hi).enc]] (some 64) (c_NullE) ?_)
        rintro _ ⟨n64, rfl, hn64⟩
        refine iU .not (.bool n64) (some 65) ?_
        intro c65 hc65
        refine iQ 6 (iE 71 [(3, .p 3 0), (4, .p 4 0), (6, .p 6 0), (11, Ba vb11), (48, Ba false)] [(3, [.bx (lo).enc]), (4, [.bx (hi).enc]), (6, [.ifc 78 (.agg [.bx (lo).enc, .bx (hi).enc, Bv c58, Bv c65])])] ?_)
        refine vc_ret (iR (.agg [.ifc 78 (.agg [.bx (lo).enc, .bx (hi).enc, Bv c58, Bv c65])]) ?_)
        first | exact range_no (by unfold RgOk; grind) | exact range_yes (by unfold RgOk; grind) (by first | rfl | exact not_nullB hc58 hn57) (by first | rfl | exact not_nullB hc65 hn64)
     ·replace hc46 := bt hc46
      refine iT (vc_seqr rfl (iQ 2 (iE 71 [(3, .p 3 0), (4, .p 4 0), (5, .p 5 0), (6, .p 6 0), (11, Ba vb11), (48, Ba true)] [(3, [.bx (lo).enc]), (4, [.bx (hi).enc]), (5, [Bv p, Bv q]), (6, [.v (.nilIface)])] ?_)))
      refine vc_ret (seq_r (iR (.agg [.v (.nilIface)]) ?_))
      first | exact range_no (by unfold RgOk; grind) | exact range_yes (by unfold RgOk; grind) (by first | rfl | exact not_nullB hc58 hn57) (by first | rfl | exact not_nullB hc65 hn64)
   ·replace hc26 := bt hc26
    refine iQ 1 (iC 14 [.agg [.bx (hi).enc]] (some 29) (c_NullE) ?_)
    rintro _ ⟨n29, rfl, hn29⟩
    refine iU .not (.bool n29) (some 30) ?_
    intro c30 hc30
    refine iQ 2 ?_
    cases c30
    ·replace hc30 := bf hc30
     refine iQ 9 (iC 41 [Iv k] (some 42) (c_OrdE) ?_)
     rintro _ ⟨o42, rfl, ho42⟩
     refine iU .not (.bool o42) (some 43) ?_
     intro c43 hc43
     refine iQ 1 ?_
     cases c43
     ·replace hc43 := bf hc43
      refine iQ 4 (iE 71 [(3, .p 3 0), (4, .p 4 0), (5, .p 5 0), (6, .p 6 0), (11, Ba vb11), (48, Ba false)] [(3, [.bx (lo).enc]), (4, [.bx (hi).enc]), (5, [Bv p, Bv q]), (6, [.v (.nilIface)])] ?_)
      refine iF (vc_skip (seq_n (vc_seqr rfl (iQ 6 ?_))))
      cases p
      ·skip
       refine iQ 7 ?_
       cases q
       ·skip
        refine iQ 9 (iE 71 [(3, .p 3 0), (4, .p 4 0), (6, .p 6 0), (11, Ba vb11), (48, Ba false)] [(3, [.bx (lo).enc]), (4, [.bx (hi).enc]), (6, [.ifc 78 (.agg [.bx (lo).enc, .bx (hi).enc, Bv false, Bv false])])] ?_)
        refine vc_ret (iR (.agg [.ifc 78 (.agg [.bx (lo).enc, .bx (hi).enc, Bv false, Bv false])]) ?_)
        first | exact range_no (by unfold RgOk; grind) | exact range_yes (by unfold RgOk; grind) (by first | rfl | exact not_nullB hc58 hn57) (by first | rfl | exact not_nullB hc65 hn64)
       ·skip
        refine iQ 1 (iC 14 [.agg [.bx (hi).enc]] (some 64) (c_NullE) ?_)
        rintro _ ⟨n64, rfl, hn64⟩
        refine iU .not (.bool n64) (some 65) ?_
        intro c65 hc65
        refine iQ 6 (iE 71 [(3, .p 3 0), (4, .p 4 0), (6, .p 6 0), (11, Ba vb11), (48, Ba false)] [(3, [.bx (lo).enc]), (4, [.bx (hi).enc]), (6, [.ifc 78 (.agg [.bx (lo).enc, .bx (hi).enc, Bv false, Bv c65])])] ?_)
        refine vc_ret (iR (.agg [.ifc 78 (.agg [.bx (lo).enc, .bx (hi).enc, Bv false, Bv c65])]) ?_)
        first | exact range_no (by unfold RgOk; grind) | exact range_yes (by unfold RgOk; grind) (by first | rfl | exact not_nullB hc58 hn57) (by first | rfl | exact not_nullB hc65 hn64)
      ·skip
       refine iQ 1 (iC 14 [.agg [.bx (lo).enc]] (some 57) (c_NullE) ?_)
       rintro _ ⟨n57, rfl, hn57⟩
       refine iU .not (.bool n57) (some 58) ?_
       intro c58 hc58
       refine iQ 4 ?_
       cases q
       ·skip
        refine iQ 9 (iE 71 [(3, .p 3 0), (4, .p 4 0), (6, .p 6 0), (11, Ba vb11), (48, Ba false)] [(3, [.bx (lo).enc]), (4, [.bx (hi).enc]), (6, [.ifc 78 (.agg [.bx (lo).enc, .bx (hi).enc, Bv c58, Bv false])])] ?_)
        refine vc_ret (iR (.agg [.ifc 78 (.agg [.bx (lo).enc, .bx (hi).enc, Bv c58, Bv false])]) ?_)
        first | exact range_no (by unfold RgOk; grind) | exact range_yes (by unfold RgOk; grind) (by first | rfl | exact not_nullB hc58 hn57) (by first | rfl | exact not_nullB hc65 hn64)
       ·skip
        refine iQ 1 (iC 14 [.agg [.bx (hi).enc]] (some 64) (c_NullE) ?_)
        rintro _ ⟨n64, rfl, hn64⟩
        refine iU .not (.bool n64) (some 65) ?_
        intro c65 hc65
        refine iQ 6 (iE 71 [(3, .p 3 0), (4, .p 4 0), (6, .p 6 0), (11, Ba vb11), (48, Ba false)] [(3, [.bx (lo).enc]), (4, [.bx (hi).enc]), (6, [.ifc 78 (.agg [.bx (lo).enc, .bx (hi).enc, Bv c58, Bv c65])])] ?_)
        refine vc_ret (iR (.agg [.ifc 78 (.agg [.bx (lo).enc, .bx (hi).enc, Bv c58, Bv c65])]) ?_)
        first | exact range_no (by unfold RgOk; grind) | exact range_yes (by unfold RgOk; grind) (by first | rfl | exact not_nullB hc58 hn57) (by first | rfl | exact not_nullB hc65 hn64)
     ·replace hc43 := bt hc43
      refine iQ 1 (iB .neq 36 (.int .i64 k) (.int .i64 1) (some 46) ?_)
      intro c46 hc46
      refine iQ 2 (iE 71 [(3, .p 3 0), (4, .p 4 0), (5, .p 5 0), (6, .p 6 0), (11, Ba vb11), (48, Ba c46)] [(3, [.bx (lo).enc]), (4, [.bx (hi).enc]), (5, [Bv p, Bv q]), (6, [.v (.nilIface)])] ?_)
      cases c46
      ·replace hc46 := bf hc46
       refine iF (vc_skip (seq_n (vc_seqr rfl (iQ 6 ?_))))
       cases p
       ·skip
        refine iQ 7 ?_
        cases q
        ·skip
         refine iQ 9 (iE 71 [(3, .p 3 0), (4, .p 4 0), (6, .p 6 0), (11, Ba vb11), (48, Ba false)] [(3, [.bx (lo).enc]), (4, [.bx (hi).enc]), (6, [.ifc 78 (.agg [.bx (lo).enc, .bx (hi).enc, Bv false, Bv false])])] ?_)
         refine vc_ret (iR (.agg [.ifc 78 (.agg [.bx (lo).enc, .bx (hi).enc, Bv false, Bv false])]) ?_)
         first | exact range_no (by unfold RgOk; grind) | exact range_yes (by unfold RgOk; grind) (by first | rfl | exact not_nullB hc58 hn57) (by first | rfl | exact not_nullB hc65 hn64)
        ·skip
         refine iQ 1 (iC 14 [.agg [.bx (hi).enc]] (some 64) (c_NullE) ?_)
         rintro _ ⟨n64, rfl, hn64⟩
         refine iU .not (.bool n64) (some 65) ?_
         intro c65 hc65
         refine iQ 6 (iE 71 [(3, .p 3 0), (4, .p 4 0), (6, .p 6 0), (11, Ba vb11), (48, Ba false)] [(3, [.bx (lo).enc]), (4, [.bx (hi).enc]), (6, [.ifc 78 (.agg [.bx (lo).enc, .bx (hi).enc, Bv false, Bv c65])])] ?_)
         refine vc_ret (iR (.agg [.ifc 78 (.agg [.bx (lo).enc, .bx (hi).enc, Bv false, Bv c65])]) ?_)
         first | exact range_no (by unfold RgOk; grind) | exact range_yes (by unfold RgOk; grind) (by first | rfl | exact not_nullB hc58 hn57) (by first | rfl | exact not_nullB hc65 hn64)
       ·skip
        refine iQ 1 (iC 14 [.agg [.bx (lo).enc]] (some 57) (c_NullE) ?_)
        rintro _ ⟨n57, rfl, hn57⟩
        refine iU .not (.bool n57) (some 58) ?_
        intro c58 hc58
        refine iQ 4 ?_
        cases q
        ·skip
         refine iQ 9 (iE 71 [(3, .p 3 0), (4, .p 4 0), (6, .p 6 0), (11, Ba vb11), (48, Ba false)] [(3, [.bx (lo).enc]), (4, [.bx (hi).enc]), (6, [.ifc 78 (.agg [.bx (lo).enc, .bx (hi).enc, Bv c58, Bv false])])] ?_)
         refine vc_ret (iR (.agg [.ifc 78 (.agg [.bx (lo).enc, .bx (hi).enc, Bv c58, Bv false])]) ?_)
         first | exact range_no (by unfold RgOk; grind) | exact range_yes (by unfold RgOk; grind) (by first | rfl | exact not_nullB hc58 hn57) (by first | rfl | exact not_nullB hc65 hn64)
        ·skip
         refine iQ 1 (iC 14 [.agg [.bx (hi).enc]] (some 64) (c_NullE) ?_)
         rintro _ ⟨n64, rfl, hn64⟩
         refine iU .not (.bool n64) (some 65) ?_
         intro c65 hc65
         refine iQ 6 (iE 71 [(3, .p 3 0), (4, .p 4 0), (6, .p 6 0), (11, Ba vb11), (48, Ba false)] [(3, [.bx (lo).enc]), (4, [.bx (hi).enc]), (6, [.ifc 78 (.agg [.bx (lo).enc, .bx (hi).enc, Bv c58, Bv c65])])] ?_)
         refine vc_ret (iR (.agg [.ifc 78 (.agg [.bx (lo).enc, .bx (hi).enc, Bv c58, Bv c65])]) ?_)
         first | exact range_no (by unfold RgOk; grind) | exact range_yes (by unfold RgOk; grind) (by first | rfl | exact not_nullB hc58 hn57) (by first | rfl | exact not_nullB hc65 hn64)
      ·replace hc46 := bt hc46
       refine iT (vc_seqr rfl (iQ 2 (iE 71 [(3, .p 3 0), (4, .p 4 0), (5, .p 5 0), (6, .p 6 0), (11, Ba vb11), (48, Ba true)] [(3, [.bx (lo).enc]), (4, [.bx (hi).enc]), (5, [Bv p, Bv q]), (6, [.v (.nilIface)])] ?_)))
       refine vc_ret (seq_r (iR (.agg [.v (.nilIface)]) ?_))
       first | exact range_no (by unfold RgOk; grind) | exact range_yes (by unfold RgOk; grind) (by first | rfl | exact not_nullB hc58 hn57) (by first | rfl | exact not_nullB hc65 hn64)
    ·replace hc30 := bt hc30
     refine iQ 1 (iC 40 [.agg [.bx (lo).enc]] (some 34) (c_KindE) ?_)
     rintro _ ⟨k34, rfl, hk34⟩
     refine iQ 1 (iC 40 [.agg [.bx (hi).enc]] (some 36) (c_KindE) ?_)
     rintro _ ⟨k36, rfl, hk36⟩
     refine iB .neq 36 (.int .i64 k34) (.int .i64 k36) (some 37) ?_
     intro c37 hc37
     refine iQ 3 ?_
     cases c37
     ·replace hc37 := bf hc37
      refine iQ 1 (iC 41 [Iv k] (some 42) (c_OrdE) ?_)
      rintro _ ⟨o42, rfl, ho42⟩
      refine iU .not (.bool o42) (some 43) ?_
      intro c43 hc43
      refine iQ 1 ?_
      cases c43
      ·replace hc43 := bf hc43
       refine iQ 4 (iE 71 [(3, .p 3 0), (4, .p 4 0), (5, .p 5 0), (6, .p 6 0), (11, Ba vb11), (48, Ba false)] [(3, [.bx (lo).enc]), (4, [.bx (hi).enc]), (5, [Bv p, Bv q]), (6, [.v (.nilIface)])] ?_)
       refine iF (vc_skip (seq_n (vc_seqr rfl (iQ 6 ?_))))
       cases p
       ·skip
        refine iQ 7 ?_
        cases q
        ·skip
         refine iQ 9 (iE 71 [(3, .p 3 0), (4, .p 4 0), (6, .p 6 0), (11, Ba vb11), (48, Ba false)] [(3, [.bx (lo).enc]), (4, [.bx (hi).enc]), (6, [.ifc 78 (.agg [.bx (lo).enc, .bx (hi).enc, Bv false, Bv false])])] ?_)
         refine vc_ret (iR (.agg [.ifc 78 (.agg [.bx (lo).enc, .bx (hi).enc, Bv false, Bv false])]) ?_)
         first | exact range_no (by unfold RgOk; grind) | exact range_yes (by unfold RgOk; grind) (by first | rfl | exact not_nullB hc58 hn57) (by first | rfl | exact not_nullB hc65 hn64)
        ·skip
         refine iQ 1 (iC 14 [.agg [.bx (hi).enc]] (some 64) (c_NullE) ?_)
         rintro _ ⟨n64, rfl, hn64⟩
         refine iU .not (.bool n64) (some 65) ?_
         intro c65 hc65
         refine iQ 6 (iE 71 [(3, .p 3 0), (4, .p 4 0), (6, .p 6 0), (11, Ba vb11), (48, Ba false)] [(3, [.bx (lo).enc]), (4, [.bx (hi).enc]), (6, [.ifc 78 (.agg [.bx (lo).enc, .bx (hi).enc, Bv false, Bv c65])])] ?_)
         refine vc_ret (iR (.agg [.ifc 78 (.agg [.bx (lo).enc, .bx (hi).enc, Bv false, Bv c65])]) ?_)
         first | exact range_no (by unfold RgOk; grind) | exact range_yes (by unfold RgOk; grind) (by first | rfl | exact not_nullB hc58 hn57) (by first | rfl | exact not_nullB hc65 hn64)
       ·skip
        refine iQ 1 (iC 14 [.agg [.bx (lo).enc]] (some 57) (c_NullE) ?_)
        rintro _ ⟨n57, rfl, hn57⟩
        refine iU .not (.bool n57) (some 58) ?_
        intro c58 hc58
        refine iQ 4 ?_
        cases q
        ·skip
         refine iQ 9 (iE 71 [(3, .p 3 0), (4, .p 4 0), (6, .p 6 0), (11, Ba vb11), (48, Ba false)] [(3, [.bx (lo).enc]), (4, [.bx (hi).enc]), (6, [.ifc 78 (.agg [.bx (lo).enc, .bx (hi).enc, Bv c58, Bv false])])] ?_)
         refine vc_ret (iR (.agg [.ifc 78 (.agg [.bx (lo).enc, .bx (hi).enc, Bv c58, Bv false])]) ?_)
         first | exact range_no (by unfold RgOk; grind) | exact range_yes (by unfold RgOk; grind) (by first | rfl | exact not_nullB hc58 hn57) (by first | rfl | exact not_nullB hc65 hn64)
        ·skip
         refine iQ 1 (iC 14 [.agg [.bx (hi).enc]] (some 64) (c_NullE) ?_)
         rintro _ ⟨n64, rfl, hn64⟩
         refine iU .not (.bool n64) (some 65) ?_
         intro c65 hc65
         refine iQ 6 (iE 71 [(3, .p 3 0), (4, .p 4 0), (6, .p 6 0), (11, Ba vb11), (48, Ba false)] [(3, [.bx (lo).enc]), (4, [.bx (hi).enc]), (6, [.ifc 78 (.agg [.bx (lo).enc, .bx (hi).enc, Bv c58, Bv c65])])] ?_)
         refine vc_ret (iR (.agg [.ifc 78 (.agg [.bx (lo).enc, .bx (hi).enc, Bv c58, Bv c65])]) ?_)
         first | exact range_no (by unfold RgOk; grind) | exact range_yes (by unfold RgOk; grind) (by first | rfl | exact not_nullB hc58 hn57) (by first | rfl | exact not_nullB hc65 hn64)
      ·replace hc43 := bt hc43
       refine iQ 1 (iB .neq 36 (.int .i64 k) (.int .i64 1) (some 46) ?_)
       intro c46 hc46
       refine iQ 2 (iE 71 [(3, .p 3 0), (4, .p 4 0), (5, .p 5 0), (6, .p 6 0), (11, Ba vb11), (48, Ba c46)] [(3, [.bx (lo).enc]), (4, [.bx (hi).enc]), (5, [Bv p, Bv q]), (6, [.v (.nilIface)])] ?_)
       cases c46
       ·replace hc46 := bf hc46
        refine iF (vc_skip (seq_n (vc_seqr rfl (iQ 6 ?_))))
        cases p
        ·skip
         refine iQ 7 ?_
         cases q
         ·skip
          refine iQ 9 (iE 71 [(3, .p 3 0), (4, .p 4 0), (6, .p 6 0), (11, Ba vb11), (48, Ba false)] [(3, [.bx (lo).enc]), (4, [.bx (hi).enc]), (6, [.ifc 78 (.agg [.bx (lo).enc, .bx (hi).enc, Bv false, Bv false])])] ?_)
          refine vc_ret (iR (.agg [.ifc 78 (.agg [.bx (lo).enc, .bx (hi).enc, Bv false, Bv false])]) ?_)
          first | exact range_no (by unfold RgOk; grind) | exact range_yes (by unfold RgOk; grind) (by first | rfl | exact not_nullB hc58 hn57) (by first | rfl | exact not_nullB hc65 hn64)
         ·skip
          refine iQ 1 (iC 14 [.agg [.bx (hi).enc]] (some 64) (c_NullE) ?_)
          rintro _ ⟨n64, rfl, hn64⟩
          refine iU .not (.bool n64) (some 65) ?_
          intro c65 hc65
          refine iQ 6 (iE 71 [(3, .p 3 0), (4, .p 4 0), (6, .p 6 0), (11, Ba vb11), (48, Ba false)] [(3, [.bx (lo).enc]), (4, [.bx (hi).enc]), (6, [.ifc 78 (.agg [.bx (lo).enc, .bx (hi).enc, Bv false, Bv c65])])] ?_)
          refine vc_ret (iR (.agg [.ifc 78 (.agg [.bx (lo).enc, .bx (hi).enc, Bv false, Bv c65])]) ?_)
          first | exact range_no (by unfold RgOk; grind) | exact range_yes (by unfold RgOk; grind) (by first | rfl | exact not_nullB hc58 hn57) (by first | rfl | exact not_nullB hc65 hn64)
        ·skip
         refine iQ 1 (iC 14 [.agg [.bx (lo).enc]] (some 57) (c_NullE) ?_)
         rintro _ ⟨n57, rfl, hn57⟩
         refine iU .not (.bool n57) (some 58) ?_
         intro c58 hc58
         refine iQ 4 ?_
         cases q
         ·skip
          refine iQ 9 (iE 71 [(3, .p 3 0), (4, .p 4 0), (6, .p 6 0), (11, Ba vb11), (48, Ba false)] [(3, [.bx (lo).enc]), (4, [.bx (hi).enc]), (6, [.ifc 78 (.agg [.bx (lo).enc, .bx (hi).enc, Bv c58, Bv false])])] ?_)
          refine vc_ret (iR (.agg [.ifc 78 (.agg [.bx (lo).enc, .bx (hi).enc, Bv c58, Bv false])]) ?_)
          first | exact range_no (by unfold RgOk; grind) | exact range_yes (by unfold RgOk; grind) (by first | rfl | exact not_nullB hc58 hn57) (by first | rfl | exact not_nullB hc65 hn64)
         ·skip
          refine iQ 1 (iC 14 [.agg [.bx (hi).enc]] (some 64) (c_NullE) ?_)
          rintro _ ⟨n64, rfl, hn64⟩
          refine iU .not (.bool n64) (some 65) ?_
          intro c65 hc65
          refine iQ 6 (iE 71 [(3, .p 3 0), (4, .p 4 0), (6, .p 6 0), (11, Ba vb11), (48, Ba false)] [(3, [.bx (lo).enc]), (4, [.bx (hi).enc]), (6, [.ifc 78 (.agg [.bx (lo).enc, .bx (hi).enc, Bv c58, Bv c65])])] ?_)
          refine vc_ret (iR (.agg [.ifc 78 (.agg [.bx (lo).enc, .bx (hi).enc, Bv c58, Bv c65])]) ?_)
          first | exact range_no (by unfold RgOk; grind) | exact range_yes (by unfold RgOk; grind) (by first | rfl | exact not_nullB hc58 hn57) (by first | rfl | exact not_nullB hc65 hn64)
       ·replace hc46 := bt hc46
        refine iT (vc_seqr rfl (iQ 2 (iE 71 [(3, .p 3 0), (4, .p 4 0), (5, .p 5 0), (6, .p 6 0), (11, Ba vb11), (48, Ba true)] [(3, [.bx (lo).enc]), (4, [.bx (hi).enc]), (5, [Bv p, Bv q]), (6, [.v (.nilIface)])] ?_)))
        refine vc_ret (seq_r (iR (.agg [.v (.nilIface)]) ?_))
        first | exact range_no (by unfold RgOk; grind) | exact range_yes (by unfold RgOk; grind) (by first | rfl | exact not_nullB hc58 hn57) (by first | rfl | exact not_nullB hc65 hn64)
     ·replace hc37 := bt hc37
      refine iQ 8 (iE 71 [(3, .p 3 0), (4, .p 4 0), (5, .p 5 0), (6, .p 6 0), (11, Ba vb11), (48, Ba true)] [(3, [.bx (lo).enc]), (4, [.bx (hi).enc]), (5, [Bv p, Bv q]), (6, [.v (.nilIface)])] ?_)
      refine iT (vc_seqr rfl (iQ 2 (iE 71 [(3, .p 3 0), (4, .p 4 0), (5, .p 5 0), (6, .p 6 0), (11, Ba vb11), (48, Ba true)] [(3, [.bx (lo).enc]), (4, [.bx (hi).enc]), (5, [Bv p, Bv q]), (6, [.v (.nilIface)])] ?_)))
      refine vc_ret (seq_r (iR (.agg [.v (.nilIface)]) ?_))
      first | exact range_no (by unfold RgOk; grind) | exact range_yes (by unfold RgOk; grind) (by first | rfl | exact not_nullB hc58 hn57) (by first | rfl | exact not_nullB hc65 hn64)
  ·replace hc16 := bt hc16
   refine iQ 1 (iC 40 [.agg [.bx (hi).enc]] (some 19) (c_KindE) ?_)
   rintro _ ⟨k19, rfl, hk19⟩
   refine iQ 1 (iB .neq 36 (.int .i64 k19) (.int .i64 k) (some 21) ?_)
   intro c21 hc21
   refine iQ 2 ?_
   cases c21
   ·replace hc21 := bf hc21
    refine iQ 1 (iC 14 [.agg [.bx (lo).enc]] (some 25) (c_NullE) ?_)
    rintro _ ⟨n25, rfl, hn25⟩
    refine iU .not (.bool n25) (some 26) ?_
    intro c26 hc26
    refine iQ 1 ?_
    cases c26
    ·replace hc26 := bf hc26
     refine iQ 14 (iC 41 [Iv k] (some 42) (c_OrdE) ?_)
     rintro _ ⟨o42, rfl, ho42⟩
     refine iU .not (.bool o42) (some 43) ?_
     intro c43 hc43
     refine iQ 1 ?_
     cases c43
     ·replace hc43 := bf hc43
      refine iQ 4 (iE 71 [(3, .p 3 0), (4, .p 4 0), (5, .p 5 0), (6, .p 6 0), (11, Ba vb11), (48, Ba false)] [(3, [.bx (lo).enc]), (4, [.bx (hi).enc]), (5, [Bv p, Bv q]), (6, [.v (.nilIface)])] ?_)
      refine iF (vc_skip (seq_n (vc_seqr rfl (iQ 6 ?_))))
      cases p
      ·skip
       refine iQ 7 ?_
       cases q
       ·skip
        refine iQ 9 (iE 71 [(3, .p 3 0), (4, .p 4 0), (6, .p 6 0), (11, Ba vb11), (48, Ba false)] [(3, [.bx (lo).enc]), (4, [.bx (hi).enc]), (6, [.ifc 78 (.agg [.bx (lo).enc, .bx (hi).enc, Bv false, Bv false])])] ?_)
        refine vc_ret (iR (.agg [.ifc 78 (.agg [.bx (lo).enc, .bx (hi).enc, Bv false, Bv false])]) ?_)
        first | exact range_no (by unfold RgOk; grind) | exact range_yes (by unfold RgOk; grind) (by first | rfl | exact not_nullB hc58 hn57) (by first | rfl | exact not_nullB hc65 hn64)
       ·skip
        refine iQ 1 (iC 14 [.agg [.bx (hi).enc]] (some 64) (c_NullE) ?_)
        rintro _ ⟨n64, rfl, hn64⟩
        refine iU .not (.bool n64) (some 65) ?_
        intro c65 hc65
        refine iQ 6 (iE 71 [(3, .p 3 0), (4, .p 4 0), (6, .p 6 0), (11, Ba vb11), (48, Ba false)] [(3, [.bx (lo).enc]), (4, [.bx (hi).enc]), (6, [.ifc 78 (.agg [.bx (lo).enc, .bx (hi).enc, Bv false, Bv c65])])] ?_)
        refine vc_ret (iR (.agg [.ifc 78 (.agg [.bx (lo).enc, .bx (hi).enc, Bv false, Bv c65])]) ?_)
        first | exact range_no (by unfold RgOk; grind) | exact range_yes (by unfold RgOk; grind) (by first | rfl | exact not_nullB hc58 hn57) (by first | rfl | exact not_nullB hc65 hn64)
      ·skip
       refine iQ 1 (iC 14 [.agg [.bx (lo).enc]] (some 57) (c_NullE) ?_)
       rintro _ ⟨n57, rfl, hn57⟩
       refine iU .not (.bool n57) (some 58) ?_
       intro c58 hc58
       refine iQ 4 ?_
       cases q
       ·skip
        refine iQ 9 (iE 71 [(3, .p 3 0), (4, .p 4 0), (6, .p 6 0), (11, Ba vb11), (48, Ba false)] [(3, [.bx (lo).enc]), (4, [.bx (hi).enc]), (6, [.ifc 78 (.agg [.bx (lo).enc, .bx (hi).enc, Bv c58, Bv false])])] ?_)
        refine vc_ret (iR (.agg [.ifc 78 (.agg [.bx (lo).enc, .bx (hi).enc, Bv c58, Bv false])]) ?_)
        first | exact range_no (by unfold RgOk; grind) | exact range_yes (by unfold RgOk; grind) (by first | rfl | exact not_nullB hc58 hn57) (by first | rfl | exact not_nullB hc65 hn64)
       ·skip
        refine iQ 1 (iC 14 [.agg [.bx (hi).enc]] (some 64) (c_NullE) ?_)
        rintro _ ⟨n64, rfl, hn64⟩
        refine iU .not (.bool n64) (some 65) ?_
        intro c65 hc65
        refine iQ 6 (iE 71 [(3, .p 3 0), (4, .p 4 0), (6, .p 6 0), (11, Ba vb11), (48, Ba false)] [(3, [.bx (lo).enc]), (4, [.bx (hi).enc]), (6, [.ifc 78 (.agg [.bx (lo).enc, .bx (hi).enc, Bv c58, Bv c65])])] ?_)
        refine vc_ret (iR (.agg [.ifc 78 (.agg [.bx (lo).enc, .bx (hi).enc, Bv c58, Bv c65])]) ?_)
        first | exact range_no (by unfold RgOk; grind) | exact range_yes (by unfold RgOk; grind) (by first | rfl | exact not_nullB hc58 hn57) (by first | rfl | exact not_nullB hc65 hn64)
     ·replace hc43 := bt hc43
      refine iQ 1 (iB .neq 36 (.int .i64 k) (.int .i64 1) (some 46) ?_)
      intro c46 hc46
      refine iQ 2 (iE 71 [(3, .p 3 0), (4, .p 4 0), (5, .p 5 0), (6, .p 6 0), (11, Ba vb11), (48, Ba c46)] [(3, [.bx (lo).enc]), (4, [.bx (hi).enc]), (5, [Bv p, Bv q]), (6, [.v (.nilIface)])] ?_)
      cases c46
      ·replace hc46 := bf hc46
       refine iF (vc_skip (seq_n (vc_seqr rfl (iQ 6 ?_))))
       cases p
       ·skip
        refine iQ 7 ?_
        cases q
        ·skip
         refine iQ 9 (iE 71 [(3, .p 3 0), (4, .p 4 0), (6, .p 6 0), (11, Ba vb11), (48, Ba false)] [(3, [.bx (lo).enc]), (4, [.bx (hi).enc]), (6, [.ifc 78 (.agg [.bx (lo).enc, .bx (hi).enc, Bv false, Bv false])])] ?_)
         refine vc_ret (iR (.agg [.ifc 78 (.agg [.bx (lo).enc, .bx (hi).enc, Bv false, Bv false])]) ?_)
         first | exact range_no (by unfold RgOk; grind) | exact range_yes (by unfold RgOk; grind) (by first | rfl | exact not_nullB hc58 hn57) (by first | rfl | exact not_nullB hc65 hn64)
        ·skip
         refine iQ 1 (iC 14 [.agg [.bx (hi).enc]] (some 64) (c_NullE) ?_)
         rintro _ ⟨n64, rfl, hn64⟩
         refine iU .not (.bool n64) (some 65) ?_
         intro c65 hc65
         refine iQ 6 (iE 71 [(3, .p 3 0), (4, .p 4 0), (6, .p 6 0), (11, Ba vb11), (48, Ba false)] [(3, [.bx (lo).enc]), (4, [.bx (hi).enc]), (6, [.ifc 78 (.agg [.bx (lo).enc, .bx (hi).enc, Bv false, Bv c65])])] ?_)
         refine vc_ret (iR (.agg [.ifc 78 (.agg [.bx (lo).enc, .bx (hi).enc, Bv false, Bv c65])]) ?_)
         first | exact range_no (by unfold RgOk; grind) | exact range_yes (by unfold RgOk; grind) (by first | rfl | exact not_nullB hc58 hn57) (by first | rfl | exact not_nullB hc65 hn64)
       ·skip
        refine iQ 1 (iC 14 [.agg [.bx (lo).enc]] (some 57) (c_NullE) ?_)
        rintro _ ⟨n57, rfl, hn57⟩
        refine iU .not (.bool n57) (some 58) ?_
        intro c58 hc58
        refine iQ 4 ?_
        cases q
        ·skip
         refine iQ 9 (iE 71 [(3, .p 3 0), (4, .p 4 0), (6, .p 6 0), (11, Ba vb11), (48, Ba false)] [(3, [.bx (lo).enc]), (4, [.bx (hi).enc]), (6, [.ifc 78 (.agg [.bx (lo).enc, .bx (hi).enc, Bv c58, Bv false])])] ?_)
         refine vc_ret (iR (.agg [.ifc 78 (.agg [.bx (lo).enc, .bx (hi).enc, Bv c58, Bv false])]) ?_)
         first | exact range_no (by unfold RgOk; grind) | exact range_yes (by unfold RgOk; grind) (by first | rfl | exact not_nullB hc58 hn57) (by first | rfl | exact not_nullB hc65 hn64)
        ·skip
         refine iQ 1 (iC 14 [.agg [.bx (hi).enc]] (some 64) (c_NullE) ?_)
         rintro _ ⟨n64, rfl, hn64⟩
         refine iU .not (.bool n64) (some 65) ?_
         intro c65 hc65
         refine iQ 6 (iE 71 [(3, .p 3 0), (4, .p 4 0), (6, .p 6 0), (11, Ba vb11), (48, Ba false)] [(3, [.bx (lo).enc]), (4, [.bx (hi).enc]), (6, [.ifc 78 (.agg [.bx (lo).enc, .bx (hi).enc, Bv c58, Bv c65])])] ?_)
         refine vc_ret (iR (.agg [.ifc 78 (.agg [.bx (lo).enc, .bx (hi).enc, Bv c58, Bv c65])]) ?_)
         first | exact range_no (by unfold RgOk; grind) | exact range_yes (by unfold RgOk; grind) (by first | rfl | exact not_nullB hc58 hn57) (by first | rfl | exact not_nullB hc65 hn64)
      ·replace hc46 := bt hc46
       refine iT (vc_seqr rfl (iQ 2 (iE 71 [(3, .p 3 0), (4, .p 4 0), (5, .p 5 0), (6, .p 6 0), (11, Ba vb11), (48, Ba true)] [(3, [.bx (lo).enc]), (4, [.bx (hi).enc]), (5, [Bv p, Bv q]), (6, [.v (.nilIface)])] ?_)))
       refine vc_ret (seq_r (iR (.agg [.v (.nilIface)]) ?_))
       first | exact range_no (by unfold RgOk; grind) | exact range_yes (by unfold RgOk; grind) (by first | rfl | exact not_nullB hc58 hn57) (by first | rfl | exact not_nullB hc65 hn64)
    ·replace hc26 := bt hc26
     refine iQ 1 (iC 14 [.agg [.bx (hi).enc]] (some 29) (c_NullE) ?_)
     rintro _ ⟨n29, rfl, hn29⟩
     refine iU .not (.bool n29) (some 30) ?_
     intro c30 hc30
     refine iQ 2 ?_
     cases c30
     ·replace hc30 := bf hc30
      refine iQ 9 (iC 41 [Iv k] (some 42) (c_OrdE) ?_)
      rintro _ ⟨o42, rfl, ho42⟩
      refine iU .not (.bool o42) (some 43) ?_
      intro c43 hc43
      refine iQ 1 ?_
      cases c43
      ·replace hc43 := bf hc43
       refine iQ 4 (iE 71 [(3, .p 3 0), (4, .p 4 0), (5, .p 5 0), (6, .p 6 0), (11, Ba vb11), (48, Ba false)] [(3, [.bx (lo).enc]), (4, [.bx (hi).enc]), (5, [Bv p, Bv q]), (6, [.v (.nilIface)])] ?_)
       refine iF (vc_skip (seq_n (vc_seqr rfl (iQ 6 ?_))))
       cases p
       ·skip
        refine iQ 7 ?_
        cases q
        ·skip
         refine iQ 9 (iE 71 [(3, .p 3 0), (4, .p 4 0), (6, .p 6 0), (11, Ba vb11), (48, Ba false)] [(3, [.bx (lo).enc]), (4, [.bx (hi).enc]), (6, [.ifc 78 (.agg [.bx (lo).enc, .bx (hi).enc, Bv false, Bv false])])] ?_)
         refine vc_ret (iR (.agg [.ifc 78 (.agg [.bx (lo).enc, .bx (hi).enc, Bv false, Bv false])]) ?_)
         first | exact range_no (by unfold RgOk; grind) | exact range_yes (by unfold RgOk; grind) (by first | rfl | exact not_nullB hc58 hn57) (by first | rfl | exact not_nullB hc65 hn64)
        ·skip
         refine iQ 1 (iC 14 [.agg [.bx (hi).enc]] (some 64) (c_NullE) ?_)
         rintro _ ⟨n64, rfl, hn64⟩
         refine iU .not (.bool n64) (some 65) ?_
         intro c65 hc65
         refine iQ 6 (iE 71 [(3, .p 3 0), (4, .p 4 0), (6, .p 6 0), (11, Ba vb11), (48, Ba false)] [(3, [.bx (lo).enc]), (4, [.bx (hi).enc]), (6, [.ifc 78 (.agg [.bx (lo).enc, .bx (hi).enc, Bv false, Bv c65])])] ?_)
         refine vc_ret (iR (.agg [.ifc 78 (.agg [.bx (lo).enc, .bx (hi).enc, Bv false, Bv c65])]) ?_)
         first | exact range_no (by unfold RgOk; grind) | exact range_yes (by unfold RgOk; grind) (by first | rfl | exact not_nullB hc58 hn57) (by first | rfl | exact not_nullB hc65 hn64)
       ·skip
        refine iQ 1 (iC 14 [.agg [.bx (lo).enc]] (some 57) (c_NullE) ?_)
        rintro _ ⟨n57, rfl, hn57⟩
        refine iU .not (.bool n57) (some 58) ?_
        intro c58 hc58
        refine iQ 4 ?_
        cases q
        ·skip
         refine iQ 9 (iE 71 [(3, .p 3 0), (4, .p 4 0), (6, .p 6 0), (11, Ba vb11), (48, Ba false)] [(3, [.bx (lo).enc]), (4, [.bx (hi).enc]), (6, [.ifc 78 (.agg [.bx (lo).enc, .bx (hi).enc, Bv c58, Bv false])])] ?_)
         refine vc_ret (iR (.agg [.ifc 78 (.agg [.bx (lo).enc, .bx (hi).enc, Bv c58, Bv false])]) ?_)
         first | exact range_no (by unfold RgOk; grind) | exact range_yes (by unfold RgOk; grind) (by first | rfl | exact not_nullB hc58 hn57) (by first | rfl | exact not_nullB hc65 hn64)
        ·skip
         refine iQ 1 (iC 14 [.agg [.bx (hi).enc]] (some 64) (c_NullE) ?_)
         rintro _ ⟨n64, rfl, hn64⟩
         refine iU .not (.bool n64) (some 65) ?_
         intro c65 hc65
         refine iQ 6 (iE 71 [(3, .p 3 0), (4, .p 4 0), (6, .p 6 0), (11, Ba vb11), (48, Ba false)] [(3, [.bx (lo).enc]), (4, [.bx (hi).enc]), (6, [.ifc 78 (.agg [.bx (lo).enc, .bx (hi).enc, Bv c58, Bv c65])])] ?_)
         refine vc_ret (iR (.agg [.ifc 78 (.agg [.bx (lo).enc, .bx (hi).enc, Bv c58, Bv c65])]) ?_)
         first | exact range_no (by unfold RgOk; grind) | exact range_yes (by unfold RgOk; grind) (by first | rfl | exact not_nullB hc58 hn57) (by first | rfl | exact not_nullB hc65 hn64)
      ·replace hc43 := bt hc43
       refine iQ 1 (iB .neq 36 (.int .i64 k) (.int .i64 1) (some 46) ?_)
       intro c46 hc46
       refine iQ 2 (iE 71 [(3, .p 3 0), (4, .p 4 0), (5, .p 5 0), (6, .p 6 0), (11, Ba vb11), (48, Ba c46)] [(3, [.bx (lo).enc]), (4, [.bx (hi).enc]), (5, [Bv p, Bv q]), (6, [.v (.nilIface)])] ?_)
       cases c46
       ·replace hc46 := bf hc46
        refine iF (vc_skip (seq_n (vc_seqr rfl (iQ 6 ?_))))
        cases p
        ·skip
         refine iQ 7 ?_
         cases q
         ·skip
          refine iQ 9 (iE 71 [(3, .p 3 0), (4, .p 4 0), (6, .p 6 0), (11, Ba vb11), (48, Ba false)] [(3, [.bx (lo).enc]), (4, [.bx (hi).enc]), (6, [.ifc 78 (.agg [.bx (lo).enc, .bx (hi).enc, Bv false, Bv false])])] ?_)
          refine vc_ret (iR (.agg [.ifc 78 (.agg [.bx (lo).enc, .bx (hi).enc, Bv false, Bv false])]) ?_)
          first | exact range_no (by unfold RgOk; grind) | exact range_yes (by unfold RgOk; grind) (by first | rfl | exact not_nullB hc58 hn57) (by first | rfl | exact not_nullB hc65 hn64)
         ·skip
          refine iQ 1 (iC 14 [.agg [.bx (hi).enc]] (some 64) (c_NullE) ?_)
          rintro _ ⟨n64, rfl, hn64⟩
          refine iU .not (.bool n64) (some 65) ?_
          intro c65 hc65
          refine iQ 6 (iE 71 [(3, .p 3 0), (4, .p 4 0), (6, .p 6 0), (11, Ba vb11), (48, Ba false)] [(3, [.bx (lo).enc]), (4, [.bx (hi).enc]), (6, [.ifc 78 (.agg [.bx (lo).enc, .bx (hi).enc, Bv false, Bv c65])])] ?_)
          refine vc_ret (iR (.agg [.ifc 78 (.agg [.bx (lo).enc, .bx (hi).enc, Bv false, Bv c65])]) ?_)
          first | exact range_no (by unfold RgOk; grind) | exact range_yes (by unfold RgOk; grind) (by first | rfl | exact not_nullB hc58 hn57) (by first | rfl | exact not_nullB hc65 hn64)
        ·skip
         refine iQ 1 (iC 14 [.agg [.bx (lo).enc]] (some 57) (c_NullE) ?_)
         rintro _ ⟨n57, rfl, hn57⟩
         refine iU .not (.bool n57) (some 58) ?_
         intro c58 hc58
         refine iQ 4 ?_
         cases q
         ·skip
          refine iQ 9 (iE 71 [(3, .p 3 0), (4, .p 4 0), (6, .p 6 0), (11, Ba vb11), (48, Ba false)] [(3, [.bx (lo).enc]), (4, [.bx (hi).enc]), (6, [.ifc 78 (.agg [.bx (lo).enc, .bx (hi).enc, Bv c58, Bv false])])] ?_)
          refine vc_ret (iR (.agg [.ifc 78 (.agg [.bx (lo).enc, .bx (hi).enc, Bv c58, Bv false])]) ?_)
          first | exact range_no (by unfold RgOk; grind) | exact range_yes (by unfold RgOk; grind) (by first | rfl | exact not_nullB hc58 hn57) (by first | rfl | exact not_nullB hc65 hn64)
         ·skip
          refine iQ 1 (iC 14 [.agg [.bx (hi).enc]] (some 64) (c_NullE) ?_)
          rintro _ ⟨n64, rfl, hn64⟩
          refine iU .not (.bool n64) (some 65) ?_
          intro c65 hc65
          refine iQ 6 (iE 71 [(3, .p 3 0), (4, .p 4 0), (6, .p 6 0), (11, Ba vb11), (48, Ba false)] [(3, [.bx (lo).enc]), (4, [.bx (hi).enc]), (6, [.ifc 78 (.agg [.bx (lo).enc, .bx (hi).enc, Bv c58, Bv c65])])] ?_)
          refine vc_ret (iR (.agg [.ifc 78 (.agg [.bx (lo).enc, .bx (hi).enc, Bv c58, Bv c65])]) ?_)
          first | exact range_no (by unfold RgOk; grind) | exact range_yes (by unfold RgOk; grind) (by first | rfl | exact not_nullB hc58 hn57) (by first | rfl | exact not_nullB hc65 hn64)
       ·replace hc46 := bt hc46
        refine iT (vc_seqr rfl (iQ 2 (iE 71 [(3, .p 3 0), (4, .p 4 0), (5, .p 5 0), (6, .p 6 0), (11, Ba vb11), (48, Ba true)] [(3, [.bx (lo).enc]), (4, [.bx (hi).enc]), (5, [Bv p, Bv q]), (6, [.v (.nilIface)])] ?_)))
        refine vc_ret (seq_r (iR (.agg [.v (.nilIface)]) ?_))
        first | exact range_no (by unfold RgOk; grind) | exact range_yes (by unfold RgOk; grind) (by first | rfl | exact not_nullB hc58 hn57) (by first | rfl | exact not_nullB hc65 hn64)
     ·replace hc30 := bt hc30
      refine iQ 1 (iC 40 [.agg [.bx (lo).enc]] (some 34) (c_KindE) ?_)
      rintro _ ⟨k34, rfl, hk34⟩
      refine iQ 1 (iC 40 [.agg [.bx (hi).enc]] (some 36) (c_KindE) ?_)
      rintro _ ⟨k36, rfl, hk36⟩
      refine iB .neq 36 (.int .i64 k34) (.int .i64 k36) (some 37) ?_
      intro c37 hc37
      refine iQ 3 ?_
      cases c37
      ·replace hc37 := bf hc37
       refine iQ 1 (iC 41 [Iv k] (some 42) (c_OrdE) ?_)
       rintro _ ⟨o42, rfl, ho42⟩
       refine iU .not (.bool o42) (some 43) ?_
       intro c43 hc43
       refine iQ 1 ?_
       cases c43
       ·replace hc43 := bf hc43
        refine iQ 4 (iE 71 [(3, .p 3 0), (4, .p 4 0), (5, .p 5 0), (6, .p 6 0), (11, Ba vb11), (48, Ba false)] [(3, [.bx (lo).enc]), (4, [.bx (hi).enc]), (5, [Bv p, Bv q]), (6, [.v (.nilIface)])] ?_)
        refine iF (vc_skip (seq_n (vc_seqr rfl (iQ 6 ?_))))
        cases p
        ·skip
         refine iQ 7 ?_
         cases q
         ·skip
          refine iQ 9 (iE 71 [(3, .p 3 0), (4, .p 4 0), (6, .p 6 0), (11, Ba vb11), (48, Ba false)] [(3, [.bx (lo).enc]), (4, [.bx (hi).enc]), (6, [.ifc 78 (.agg [.bx (lo).enc, .bx (hi).enc, Bv false, Bv false])])] ?_)
          refine vc_ret (iR (.agg [.ifc 78 (.agg [.bx (lo).enc, .bx (hi).enc, Bv false, Bv false])]) ?_)
          first | exact range_no (by unfold RgOk; grind) | exact range_yes (by unfold RgOk; grind) (by first | rfl | exact not_nullB hc58 hn57) (by first | rfl | exact not_nullB hc65 hn64)
         ·skip
          refine iQ 1 (iC 14 [.agg [.bx (hi).enc]] (some 64) (c_NullE) ?_)
          rintro _ ⟨n64, rfl, hn64⟩
          refine iU .not (.bool n64) (some 65) ?_
          intro c65 hc65
          refine iQ 6 (iE 71 [(3, .p 3 0), (4, .p 4 0), (6, .p 6 0), (11, Ba vb11), (48, Ba false)] [(3, [.bx (lo).enc]), (4, [.bx (hi).enc]), (6, [.ifc 78 (.agg [.bx (lo).enc, .bx (hi).enc, Bv false, Bv c65])])] ?_)
          refine vc_ret (iR (.agg [.ifc 78 (.agg [.bx (lo).enc, .bx (hi).enc, Bv false, Bv c65])]) ?_)
          first | exact range_no (by unfold RgOk; grind) | exact range_yes (by unfold RgOk; grind) (by first | rfl | exact not_nullB hc58 hn57) (by first | rfl | exact not_nullB hc65 hn64)
        ·skip
         refine iQ 1 (iC 14 [.agg [.bx (lo).enc]] (some 57) (c_NullE) ?_)
         rintro _ ⟨n57, rfl, hn57⟩
         refine iU .not (.bool n57) (some 58) ?_
         intro c58 hc58
         refine iQ 4 ?_
         cases q
         ·skip
          refine iQ 9 (iE 71 [(3, .p 3 0), (4, .p 4 0), (6, .p 6 0), (11, Ba vb11), (48, Ba false)] [(3, [.bx (lo).enc]), (4, [.bx (hi).enc]), (6, [.ifc 78 (.agg [.bx (lo).enc, .bx (hi).enc, Bv c58, Bv false])])] ?_)
          refine vc_ret (iR (.agg [.ifc 78 (.agg [.bx (lo).enc, .bx (hi).enc, Bv c58, Bv false])]) ?_)
          first | exact range_no (by unfold RgOk; grind) | exact range_yes (by unfold RgOk; grind) (by first | rfl | exact not_nullB hc58 hn57) (by first | rfl | exact not_nullB hc65 hn64)
         ·skip
          refine iQ 1 (iC 14 [.agg [.bx (hi).enc]] (some 64) (c_NullE) ?_)
          rintro _ ⟨n64, rfl, hn64⟩
          refine iU .not (.bool n64) (some 65) ?_
          intro c65 hc65
          refine iQ 6 (iE 71 [(3, .p 3 0), (4, .p 4 0), (6, .p 6 0), (11, Ba vb11), (48, Ba false)] [(3, [.bx (lo).enc]), (4, [.bx (hi).enc]), (6, [.ifc 78 (.agg [.bx (lo).enc, .bx (hi).enc, Bv c58, Bv c65])])] ?_)
          refine vc_ret (iR (.agg [.ifc 78 (.agg [.bx (lo).enc, .bx (hi).enc, Bv c58, Bv c65])]) ?_)
          first | exact range_no (by unfold RgOk; grind) | exact range_yes (by unfold RgOk; grind) (by first | rfl | exact not_nullB hc58 hn57) (by first | rfl | exact not_nullB hc65 hn64)
       ·replace hc43 := bt hc43
        refine iQ 1 (iB .neq 36 (.int .i64 k) (.int .i64 1) (some 46) ?_)
        intro c46 hc46
        refine iQ 2 (iE 71 [(3, .p 3 0), (4, .p 4 0), (5, .p 5 0), (6, .p 6 0), (11, Ba vb11), (48, Ba c46)] [(3, [.bx (lo).enc]), (4, [.bx (hi).enc]), (5, [Bv p, Bv q]), (6, [.v (.nilIface)])] ?_)
        cases c46
        ·replace hc46 := bf hc46
         refine iF (vc_skip (seq_n (vc_seqr rfl (iQ 6 ?_))))
         cases p
         ·skip
          refine iQ 7 ?_
          cases q
          ·skip
           refine iQ 9 (iE 71 [(3, .p 3 0), (4, .p 4 0), (6, .p 6 0), (11, Ba vb11), (48, Ba false)] [(3, [.bx (lo).enc]), (4, [.bx (hi).enc]), (6, [.ifc 78 (.agg [.bx (lo).enc, .bx (hi).enc, Bv false, Bv false])])] ?_)
           refine vc_ret (iR (.agg [.ifc 78 (.agg [.bx (lo).enc, .bx (hi).enc, Bv false, Bv false])]) ?_)
           first | exact range_no (by unfold RgOk; grind) | exact range_yes (by unfold RgOk; grind) (by first | rfl | exact not_nullB hc58 hn57) (by first | rfl | exact not_nullB hc65 hn64)
          ·skip
           refine iQ 1 (iC 14 [.agg [.bx (hi).enc]] (some 64) (c_NullE) ?_)
           rintro _ ⟨n64, rfl, hn64⟩
           refine iU .not (.bool n64) (some 65) ?_
           intro c65 hc65
           refine iQ 6 (iE 71 [(3, .p 3 0), (4, .p 4 0), (6, .p 6 0), (11, Ba vb11), (48, Ba false)] [(3, [.bx (lo).enc]), (4, [.bx (hi).enc]), (6, [.ifc 78 (.agg [.bx (lo).enc, .bx (hi).enc, Bv false, Bv c65])])] ?_)
           refine vc_ret (iR (.agg [.ifc 78 (.agg [.bx (lo).enc, .bx (hi).enc, Bv false, Bv c65])]) ?_)
           first | exact range_no (by unfold RgOk; grind) | exact range_yes (by unfold RgOk; grind) (by first | rfl | exact not_nullB hc58 hn57) (by first | rfl | exact not_nullB hc65 hn64)
         ·skip
          refine iQ 1 (iC 14 [.agg [.bx (lo).enc]] (some 57) (c_NullE) ?_)
          rintro _ ⟨n57, rfl, hn57⟩
          refine iU .not (.bool n57) (some 58) ?_
          intro c58 hc58
          refine iQ 4 ?_
          cases q
          ·skip
           refine iQ 9 (iE 71 [(3, .p 3 0), (4, .p 4 0), (6, .p 6 0), (11, Ba vb11), (48, Ba false)] [(3, [.bx (lo).enc]), (4, [.bx (hi).enc]), (6, [.ifc 78 (.agg [.bx (lo).enc, .bx (hi).enc, Bv c58, Bv false])])] ?_)
           refine vc_ret (iR (.agg [.ifc 78 (.agg [.bx (lo).enc, .bx (hi).enc, Bv c58, Bv false])]) ?_)
           first | exact range_no (by unfold RgOk; grind) | exact range_yes (by unfold RgOk; grind) (by first | rfl | exact not_nullB hc58 hn57) (by first | rfl | exact not_nullB hc65 hn64)
          ·skip
           refine iQ 1 (iC 14 [.agg [.bx (hi).enc]] (some 64) (c_NullE) ?_)
           rintro _ ⟨n64, rfl, hn64⟩
           refine iU .not (.bool n64) (some 65) ?_
           intro c65 hc65
           refine iQ 6 (iE 71 [(3, .p 3 0), (4, .p 4 0), (6, .p 6 0), (11, Ba vb11), (48, Ba false)] [(3, [.bx (lo).enc]), (4, [.bx (hi).enc]), (6, [.ifc 78 (.agg [.bx (lo).enc, .bx (hi).enc, Bv c58, Bv c65])])] ?_)
           refine vc_ret (iR (.agg [.ifc 78 (.agg [.bx (lo).enc, .bx (hi).enc, Bv c58, Bv c65])]) ?_)
           first | exact range_no (by unfold RgOk; grind) | exact range_yes (by unfold RgOk; grind) (by first | rfl | exact not_nullB hc58 hn57) (by first | rfl | exact not_nullB hc65 hn64)
        ·replace hc46 := bt hc46
         refine iT (vc_seqr rfl (iQ 2 (iE 71 [(3, .p 3 0), (4, .p 4 0), (5, .p 5 0), (6, .p 6 0), (11, Ba vb11), (48, Ba true)] [(3, [.bx (lo).enc]), (4, [.bx (hi).enc]), (5, [Bv p, Bv q]), (6, [.v (.nilIface)])] ?_)))
         refine vc_ret (seq_r (iR (.agg [.v (.nilIface)]) ?_))
         first | exact range_no (by unfold RgOk; grind) | exact range_yes (by unfold RgOk; grind) (by first | rfl | exact not_nullB hc58 hn57) (by first | rfl | exact not_nullB hc65 hn64)
      ·replace hc37 := bt hc37
       refine iQ 8 (iE 71 [(3, .p 3 0), (4, .p 4 0), (5, .p 5 0), (6, .p 6 0), (11, Ba vb11), (48, Ba true)] [(3, [.bx (lo).enc]), (4, [.bx (hi).enc]), (5, [Bv p, Bv q]), (6, [.v (.nilIface)])] ?_)
       refine iT (vc_seqr rfl (iQ 2 (iE 71 [(3, .p 3 0), (4, .p 4 0), (5, .p 5 0), (6, .p 6 0), (11, Ba vb11), (48, Ba true)] [(3, [.bx (lo).enc]), (4, [.bx (hi).enc]), (5, [Bv p, Bv q]), (6, [.v (.nilIface)])] ?_)))
       refine vc_ret (seq_r (iR (.agg [.v (.nilIface)]) ?_))
       first | exact range_no (by unfold RgOk; grind) | exact range_yes (by unfold RgOk; grind) (by first | rfl | exact not_nullB hc58 hn57) (by first | rfl | exact not_nullB hc65 hn64)
   ·replace hc21 := bt hc21
    refine iQ 25 (iE 71 [(3, .p 3 0), (4, .p 4 0), (5, .p 5 0), (6, .p 6 0), (11, Ba vb11), (48, Ba true)] [(3, [.bx (lo).enc]), (4, [.bx (hi).enc]), (5, [Bv p, Bv q]), (6, [.v (.nilIface)])] ?_)
    refine iT (vc_seqr rfl (iQ 2 (iE 71 [(3, .p 3 0), (4, .p 4 0), (5, .p 5 0), (6, .p 6 0), (11, Ba vb11), (48, Ba true)] [(3, [.bx (lo).enc]), (4, [.bx (hi).enc]), (5, [Bv p, Bv q]), (6, [.v (.nilIface)])] ?_)))
    refine vc_ret (seq_r (iR (.agg [.v (.nilIface)]) ?_))
    first | exact range_no (by unfold RgOk; grind) | exact range_yes (by unfold RgOk; grind) (by first | rfl | exact not_nullB hc58 hn57) (by first | rfl | exact not_nullB hc65 hn64)
 intro hmid
 refine vc_seqr rfl (iQ 1 (iC 14 [.agg [.bx (lo).enc]] (some 11) (c_NullE) ?_))
 rintro _ ⟨n11, rfl, hn11⟩
 refine iE 71 [(3, .p 3 0), (4, .p 4 0), (5, .p 5 0), (6, .p 6 0), (7, Ia k9), (11, Ba n11)] [(3, [.bx (lo).enc]), (4, [.bx (hi).enc]), (5, [Bv p, Bv q]), (6, [.v (.nilIface)])] ?_
 cases n11
 ·replace hn11 := bf hn11
  refine iF (vc_skip ?_)
  refine mid_n hmid (k9, false) (.inr ⟨hn11, hk9⟩) (by kernel_rfl)
 ·replace hn11 := bt hn11
  refine iT (vc_reg rfl (iQ 1 (iC 40 [.agg [.bx (hi).enc]] (some 13) (c_KindE) ?_)))
  rintro _ ⟨k13, rfl, hk13⟩
  refine iQ 1 (iE 71 [(3, .p 3 0), (4, .p 4 0), (5, .p 5 0), (6, .p 6 0), (7, Ia k13), (11, Ba true)] [(3, [.bx (lo).enc]), (4, [.bx (hi).enc]), (5, [Bv p, Bv q]), (6, [.v (.nilIface)])] ?_)
  refine mid_n hmid (k13, true) (.inl ⟨hn11, hk13⟩) (by kernel_rfl)
theorem c_vRange {lo hi : Vl} {p q : Bool} : HasC Tryz.prog 20 [VV lo, VV hi, .agg [.v (.bool p), .v (.bool q)]] (fun r => r = VV (rangeV lo hi p q)) := HasC.bxR v_Range
theorem range_ok {lo hi : Vl} {p q : Bool} (h1 : lo.ok) (h2 : hi.ok) : (rangeV lo hi p q).ok := by
  unfold rangeV
  split
  · rename_i h
    unfold RgOk at h
    have e1 := nullK lo
    have e2 := nullK hi
    have k1 := kind_null (v := lo)
    have k2 := kind_null (v := hi)
    rw [Vl.ok]
    refine ⟨h1, h2, ?_, ?_, ?_, ?_, ?_⟩
    · rcases h.1 with h | h
      · exact .inl (k1.1 h)
      · exact .inr (by simp [ordK]; omega)
    · rcases h.2.1 with h | h
      · exact .inl (k2.1 h)
      · exact .inr (by simp [ordK]; omega)
    · intro a b
      rcases h.2.2 with h | h | h
      · exact absurd (k1.1 h) a
      · exact absurd (k2.1 h) b
      · exact h
    · intro a b
      rw [b] at a
      simp [Vl.nullB] at a
    · intro a b
      rw [b] at a
      simp [Vl.nullB] at a
  · rw [Vl.ok]; trivial

def CtxOk (ns : List L8) (vs : List Vl) : Prop := ns.length = vs.length ∧ ns.Nodup ∧ ∀ n ∈ ns, Lib.validD n = true
open Classical in
noncomputable def ctxV (ns : List L8) (vs : List Vl) : Vl := if CtxOk ns vs then .ctx ns vs else .null
theorem ctx_no {ns : List L8} {vs : List Vl} (h : ¬ CtxOk ns vs) : DV.agg [.v .nilIface] = .agg [(ctxV ns vs).enc] := by rw [ctxV, if_neg h, Vl.enc]
theorem txsD_part {ns : List L8} {k : Nat} (hk : k ≤ ns.length) : ((txsD ns).drop ((0 : Int).toNat * 1)).take ((ns.take k).length * 1) = txsD (ns.take k) := by
  unfold txsD
  rw [show (0 : Int).toNat * 1 = 0 from rfl, List.drop_zero, Nat.mul_one, List.length_take, Nat.min_eq_left hk, List.map_take]
theorem nodup_take {ns : List L8} {k : Nat} {m : L8} (h : (ns.take k).Nodup) (hm : ns[k]? = some m) (hn : m ∉ ns.take k) : (ns.take (k + 1)).Nodup := by
  obtain ⟨h1, h2⟩ := List.getElem?_eq_some_iff.1 hm
  rw [List.take_succ_eq_append_getElem h1, h2, List.nodup_append]
  exact ⟨h, by simp, fun a ha b hb e => by simp at hb; subst hb; subst e; exact hn ha⟩
theorem dup_take {ns : List L8} {k : Nat} {m : L8} (hm : ns[k]? = some m) (hn : m ∈ ns.take k) : ¬ ns.Nodup := fun h => by
  have h2 : (ns.take k ++ ns.drop k).Nodup := by rw [List.take_append_drop]; exact h
  rw [List.nodup_append] at h2
  obtain ⟨h3, h4⟩ := List.getElem?_eq_some_iff.1 hm
  exact h2.2.2 m hn m (by rw [List.drop_eq_getElem_cons h3, h4]; simp) rfl
theorem valid_more {ns : List L8} {k : Nat} {m : L8} (hm : ns[k]? = some m) (h : ∀ n ∈ ns.take k, Lib.validD n = true) (hv : Lib.validD m = true) : ∀ n ∈ ns.take (k + 1), Lib.validD n = true := fun n hn => by
  obtain ⟨q1, q2⟩ := List.getElem?_eq_some_iff.1 hm
  rw [List.take_succ_eq_append_getElem q1, q2, List.mem_append] at hn
  rcases hn with hn | hn
  · exact h n hn
  · simp at hn; rw [hn]; exact hv
set_option maxHeartbeats 1600000 in
theorem v_Context {ns : List L8} {vs : List Vl} (hb : ns.length ≤ 1073741824) (hs : ∀ n ∈ ns, n.length ≤ 1073741824) : HasC Tryz.prog 106 [.sl ((ns).length) (txsD (ns)), .sl ((vs).length) (encL (vs))] (fun r => r = .agg [(ctxV ns vs).enc]) := by
 refine HasC.of [] (fn := Tryz.f106) tyOk mixed (fun args w => Tryz.call106 args w) Tryz.func106 rfl (by kernel_rfl) (Nat.le_of_ble_eq_true rfl) (⟨_, rfl⟩) ?_
 refine vc_seqr rfl (iQ 1 (iE 39 [(0, .d (.sl ((ns).length) (txsD (ns)))), (1, .d (.sl ((vs).length) (encL (vs)))), (4, .p 4 0)] [(4, [.v (.nilIface)])] ?_))
 refine vc_seq (vc_seqr rfl (iQ 4 (iB .neq 3 (.int .i64 ((((ns).length : Nat) : Int))) (.int .i64 ((((vs).length : Nat) : Int))) (some 11) ?_)))
 intro c11 hc11
 refine iE 39 [(0, .d (.sl ((ns).length) (txsD (ns)))), (1, .d (.sl ((vs).length) (encL (vs)))), (4, .p 4 0), (11, Ba c11)] [(4, [.v (.nilIface)])] ?_
 cases c11
 ·replace hc11 := bf hc11
  refine iF (vc_skip (seq_n (vc_seq (vc_seqr rfl (iQ 3 (iE 39 [(0, .d (.sl ((ns).length) (txsD (ns)))), (1, .d (.sl ((vs).length) (encL (vs)))), (4, .p 4 0), (11, Ba false), (13, .d (.sl ((ns).length) (txsD (ns)))), (14, Ia ((((ns).length : Nat) : Int))), (15, Ia 0)] [(4, [.v (.nilIface)])] ?_))))))
  refine vc_block (vc_loop 39 (fun (vcx : Nat × Int) => match vcx with | (k, z) => [(0, .d (.sl ((ns).length) (txsD (ns)))), (1, .d (.sl ((vs).length) (encL (vs)))), (4, .p 4 0), (11, Ba false), (13, .d (.sl ((ns).length) (txsD (ns)))), (14, Ia ((((ns).length : Nat) : Int))), (15, Ia z)]) (fun (vcx : Nat × Int) => match vcx with | (k, z) => [(4, [.v (.nilIface)])]) (fun (vcx : Nat × Int) => match vcx with | (k, z) => z = k ∧ k ≤ ns.length ∧ (ns.take k).Nodup ∧ ∀ n ∈ ns.take k, Lib.validD n = true) (fun (vcx : Nat × Int) => match vcx with | (k, z) => ns.length - k) ((0, 0)) (⟨rfl, Nat.zero_le _, by simp, by simp⟩) (by kernel_rfl) (by kernel_rfl) ?_)
  rintro ⟨k, z⟩ hinv
  simp only at hinv
  obtain ⟨h1, h2, h3, h4⟩ := hinv
  refine vc_seqr rfl (iB .lss 3 (.int .i64 z) (.int .i64 ((((ns).length : Nat) : Int))) (some 16) ?_)
  intro c16 hc16
  refine iE 39 [(0, .d (.sl ((ns).length) (txsD (ns)))), (1, .d (.sl ((vs).length) (encL (vs)))), (4, .p 4 0), (11, Ba false), (13, .d (.sl ((ns).length) (txsD (ns)))), (14, Ia ((((ns).length : Nat) : Int))), (15, Ia z), (16, Ba c16)] [(4, [.v (.nilIface)])] ?_
  refine vc_seq ?_
  cases c16
  ·replace hc16 := bf hc16
   have hk : k = ns.length := by omega
   rw [hk, List.take_length] at h3 h4
   refine iF (vc_exit (seq_x (loop_x (block_x rfl (seq_n (vc_seqr rfl (iQ 1 (iC 118 [.sl ((ns).length) (txsD (ns))] (some 33) (c_CloneS hb) ?_))))))))
   rintro _ rfl
   refine iQ 1 (iC 60 [.sl ((vs).length) (encL (vs))] (some 35) (c_CloneV (by omega)) ?_)
   rintro _ rfl
   refine iQ 4 (iE 39 [(0, .d (.sl ((ns).length) (txsD (ns)))), (1, .d (.sl ((vs).length) (encL (vs)))), (4, .p 4 0), (11, Ba false), (13, .d (.sl ((ns).length) (txsD (ns)))), (14, Ia ((((ns).length : Nat) : Int))), (15, Ia z), (16, Ba false)] [(4, [.ifc 169 (.agg [.sl ((ns).length) (txsD (ns)), .sl ((vs).length) (encL (vs))])])] ?_)
   refine vc_ret (iR (.agg [.ifc 169 (.agg [.sl ((ns).length) (txsD (ns)), .sl ((vs).length) (encL (vs))])]) ?_)
   rw [ctxV, if_pos ⟨by omega, h3, h4⟩, Vl.enc]
  ·replace hc16 := bt hc16
   have hk : k < ns.length := by omega
   obtain ⟨m, hm⟩ : ∃ m, ns[k]? = some m := ⟨_, List.getElem?_eq_getElem hk⟩
   have hmm : m ∈ ns := List.mem_of_getElem? hm
   have htl : (ns.take k).length = k := by rw [List.length_take]; omega
   refine iT (vc_skip (seq_n (vc_seq (vc_block (vc_seqr rfl (iQ 1 (vcI_idx1 (q := z) (n := ((ns).length)) (cs := (txsD (ns))) (d := .v (.string (tx m))) (dst := (some 18)) (by kernel_rfl) (by omega) (by rw [h1, Int.toNat_natCast]; exact txsD_get1 hm) ?_)))))))
   refine iQ 3 (iE 39 [(0, .d (.sl ((ns).length) (txsD (ns)))), (1, .d (.sl ((vs).length) (encL (vs)))), (4, .p 4 0), (5, Ia z), (6, .d (Sv (tx m))), (11, Ba false), (13, .d (.sl ((ns).length) (txsD (ns)))), (14, Ia ((((ns).length : Nat) : Int))), (15, Ia z), (16, Ba true)] [(4, [.v (.nilIface)])] ?_)
   refine vc_seqr rfl (iQ 2 (vcI_sl (l := 0) (u := z) (n := ((ns).length)) (cs := (txsD (ns))) (z := 1) (m := ((ns.take k).length)) (ds := (txsD (ns.take k))) (dst := (some 22)) (by kernel_rfl) (by omega) (by omega) (txsD_part h2) ?_))
   refine iQ 1 (iC 149 [.sl ((ns.take k).length) (txsD (ns.take k)), Sv (tx m)] (some 24) (c_ContS (by omega)) ?_)
   rintro _ ⟨bb, rfl, hbb⟩
   refine iQ 1 ?_
   cases bb
   ·replace hbb := bf hbb
    refine iQ 1 (iC 62 [Sv (tx m)] (some 27) (c_Valid (Nat.le_trans (hs m hmm) (by decide))) ?_)
    rintro _ rfl
    refine iU .not (.bool (Lib.validD m)) (some 28) ?_
    intro c28 hc28
    refine iQ 1 (iE 39 [(0, .d (.sl ((ns).length) (txsD (ns)))), (1, .d (.sl ((vs).length) (encL (vs)))), (4, .p 4 0), (5, Ia z), (6, .d (Sv (tx m))), (11, Ba false), (13, .d (.sl ((ns).length) (txsD (ns)))), (14, Ia ((((ns).length : Nat) : Int))), (15, Ia z), (16, Ba true), (29, Ba c28)] [(4, [.v (.nilIface)])] ?_)
    cases c28
    ·replace hc28 := bf hc28
     have hvm : Lib.validD m = true := by simpa using hc28
     refine iF (vc_skip (block_n (seq_n (vc_reg rfl (iB .add 3 (.int .i64 z) (.int .i64 1) (some 31) ?_)))))
     intro z31 hz31
     try replace hz31 := hz31.i64 (by omega)
     refine iQ 1 (iE 39 [(0, .d (.sl ((ns).length) (txsD (ns)))), (1, .d (.sl ((vs).length) (encL (vs)))), (4, .p 4 0), (5, Ia z), (6, .d (Sv (tx m))), (11, Ba false), (13, .d (.sl ((ns).length) (txsD (ns)))), (14, Ia ((((ns).length : Nat) : Int))), (15, Ia z31), (16, Ba true), (29, Ba false)] [(4, [.v (.nilIface)])] ?_)
     refine loop_n (k + 1, z31) (⟨by omega, by omega, nodup_take h3 hm hbb, valid_more hm h4 hvm⟩) (by show ns.length - (k + 1) < ns.length - k; omega) (by kernel_rfl) (by kernel_rfl)
    ·replace hc28 := bt hc28
     refine iT (vc_seqr rfl (iQ 2 (iE 39 [(0, .d (.sl ((ns).length) (txsD (ns)))), (1, .d (.sl ((vs).length) (encL (vs)))), (4, .p 4 0), (5, Ia z), (6, .d (Sv (tx m))), (11, Ba false), (13, .d (.sl ((ns).length) (txsD (ns)))), (14, Ia ((((ns).length : Nat) : Int))), (15, Ia z), (16, Ba true), (29, Ba true)] [(4, [.v (.nilIface)])] ?_)))
     refine vc_ret (block_r (seq_r (loop_r (block_r (seq_r (iR (.agg [.v (.nilIface)]) ?_))))))
     exact ctx_no fun h => by have := h.2.2 m hmm; rw [hc28] at this; cases this
   ·replace hbb := bt hbb
    refine iQ 4 (iE 39 [(0, .d (.sl ((ns).length) (txsD (ns)))), (1, .d (.sl ((vs).length) (encL (vs)))), (4, .p 4 0), (5, Ia z), (6, .d (Sv (tx m))), (11, Ba false), (13, .d (.sl ((ns).length) (txsD (ns)))), (14, Ia ((((ns).length : Nat) : Int))), (15, Ia z), (16, Ba true), (29, Ba true)] [(4, [.v (.nilIface)])] ?_)
    refine iT (vc_seqr rfl (iQ 2 (iE 39 [(0, .d (.sl ((ns).length) (txsD (ns)))), (1, .d (.sl ((vs).length) (encL (vs)))), (4, .p 4 0), (5, Ia z), (6, .d (Sv (tx m))), (11, Ba false), (13, .d (.sl ((ns).length) (txsD (ns)))), (14, Ia ((((ns).length : Nat) : Int))), (15, Ia z), (16, Ba true), (29, Ba true)] [(4, [.v (.nilIface)])] ?_)))
    refine vc_ret (block_r (seq_r (loop_r (block_r (seq_r (iR (.agg [.v (.nilIface)]) ?_))))))
    exact ctx_no fun h => dup_take hm hbb h.2.1
 ·replace hc11 := bt hc11
  refine iT (vc_seqr rfl (iQ 2 (iE 39 [(0, .d (.sl ((ns).length) (txsD (ns)))), (1, .d (.sl ((vs).length) (encL (vs)))), (4, .p 4 0), (11, Ba true)] [(4, [.v (.nilIface)])] ?_)))
  refine vc_ret (seq_r (iR (.agg [.v (.nilIface)]) ?_))
  exact ctx_no fun h => by have := h.1; omega
theorem c_vContext {ns : List L8} {vs : List Vl} (hb : ns.length ≤ 1073741824) (hs : ∀ n ∈ ns, n.length ≤ 1073741824) : HasC Tryz.prog 106 [.sl ns.length (txsD ns), .sl vs.length (encL vs)] (fun r => r = VV (ctxV ns vs)) := HasC.bxR (v_Context hb hs)
theorem ctx_ok {ns : List L8} {vs : List Vl} (hb : vs.length ≤ 1073741824) (h : okL vs) : (ctxV ns vs).ok := by
  unfold ctxV
  split
  · rename_i h1; rw [Vl.ok]; exact ⟨h1.1, h1.2.1, hb, h⟩
  · rw [Vl.ok]; trivial
theorem num_ok {g : Bool} {n : Nat} {e : Int} : (numV g n e).ok := by
  unfold numV
  split
  · rename_i h; rw [Vl.ok]; exact h
  · rw [Vl.ok]; trivial
theorem text_ok {l : L8} : (textV l).ok := by
  unfold textV
  split
  · rename_i h; rw [Vl.ok]; exact h.2
  · rw [Vl.ok]; trivial
theorem day_ok {y m d : Int} : (dayV y m d).ok := by
  unfold dayV
  split
  · rename_i h; rw [Vl.ok]; exact h
  · rw [Vl.ok]; trivial
theorem time_ok {s o : Int} {z : Bool} : (timeV s z o).ok := by
  unfold timeV
  split
  · rename_i h; rw [Vl.ok]; exact h
  · rw [Vl.ok]; trivial
theorem mom_ok {y m d s o : Int} {z : Bool} : (momV y m d s z o).ok := by
  unfold momV
  split
  · rename_i h; rw [Vl.ok]; exact h
  · rw [Vl.ok]; trivial
theorem days_ok {n : Int} : (daysV n).ok := by
  unfold daysV
  split
  · rename_i h; rw [Vl.ok]; exact h
  · rw [Vl.ok]; trivial
theorem months_ok {n : Int} : (monthsV n).ok := by
  unfold monthsV
  split
  · rename_i h; rw [Vl.ok]; exact h
  · rw [Vl.ok]; trivial
theorem null_ok : Vl.null.ok := by rw [Vl.ok]; trivial
theorem bool_ok {b : Bool} : (Vl.bool b).ok := by rw [Vl.ok]; trivial

/-- A value as it is, or with its cell boxed. -/
def IsV (x : DV) (v : Vl) : Prop := x = VV v ∨ x = .agg [v.enc]
theorem IsV.box {Im : Nat → Nat → Prop} {W : World} {x : DV} {v : Vl} {r : Value} (h : IsV x v) (k : x.rel Im W r) : (VV v).rel Im W r := by
  rcases h with rfl | rfl
  · exact k
  · exact rel_agg1 (fun z hz => rel_bx (enc_one v) hz) k
theorem IsV.null : IsV (.agg [.v .nilIface]) .null := .inr (by rw [Vl.enc])
theorem HasC.isV {P : Program} {f : FuncId} {ds : List DV} {q : Vl → Prop} (h : HasC P f ds (fun y => ∃ v, IsV y v ∧ q v)) : HasC P f ds (fun y => ∃ v, y = VV v ∧ q v) :=
  h.weak fun y ⟨v, h1, h2⟩ => ⟨_, ⟨v, rfl, h2⟩, fun Im W r k => h1.box k⟩
theorem HasC.isVb {P : Program} {f : FuncId} {ds : List DV} {q : Vl → Bool → Prop} (h : HasC P f ds (fun y => ∃ x v ok, y = .tup [x, .v (.bool ok)] ∧ IsV x v ∧ q v ok)) : HasC P f ds (fun y => ∃ v ok, y = .tup [VV v, .v (.bool ok)] ∧ q v ok) :=
  h.weak fun y ⟨x, v, ok, h0, h1, h2⟩ => ⟨_, ⟨v, ok, rfl, h2⟩, fun Im W r k => by
    subst h0
    rw [DV.rel] at k ⊢
    obtain ⟨vs, e, k2⟩ := k
    refine ⟨vs, e, ?_⟩
    rw [DV.relL] at k2 ⊢
    obtain ⟨u, us, e1, k3, k4⟩ := k2
    exact ⟨u, us, e1, h1.box k3, k4⟩⟩
end Go.Proofs.YtpambeengdhhmaaGreatDoor
