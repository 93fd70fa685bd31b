/- value.Plain of a value that has nothing in it. -/
import Derived.Test.YtfkfpkhgoijfdaaGreatDoorVlY
import Derived.Test.YtfkfpkhgoijfdaaGreatDoorNrW
import Derived.Test.YtfkfpkhgoijfdaaGreatDoorCivZ
import Derived.Test.YtfkfpkhgoijfdaaGreatDoorVlE
namespace Go.Proofs.YtfkfpkhgoijfdaaGreatDoor
open Go.RowKit
set_option linter.unusedVariables false
set_option linter.unusedSimpArgs false
set_option maxRecDepth 100000
def plT:Vl→L8
 | .bool true=>[116,114,117,101]
 | .bool false=>[102,97,108,115,101]
 | .num g n e=>Dr g n e
 | .text l=>l
 | .day y m d=>Fm y m d
 | .time s z o=>Dx s z o
 | .mom y m d s z o=>a14 y m d s z o
 | .days n=>Gy n
 | .months n=>Fp n
 | _=>[]
abbrev dPl (k:Int) (t:L8):DV:=.agg [.v (.int .i64 k),.v (.string (tx t)),.sl 0 [],.sl 0 [],.v (.bool false),.v (.bool false)]
theorem a5a {g:Bool} {n:Nat} {e:Int} (h:May g n e):HasC Tryz.prog 67 [.agg [.ifc 102 (.agg [.v (.bool g),.v (.int .u64 (hiW (n))),.v (.int .u64 (loW (n))),.v (.int .i64 e)])],.v (.int .i64 3)] (fun r=>r=.v (.string (tx (Dr g n e)))):=by
 refine hO [] Tryz.f67 (fun a w=>Tryz.call67 a w) Tryz.func67 rfl (⟨_,rfl⟩) ?_
 refine Aa rfl (iQ 2 ?_)
 let Z1:=zT [(1,Ia 3),(2,.p 2 0),(4,.d (Sv (⟨#[]⟩)))] []
 let Z2:=zH [(2,[.ifc 102 (.agg [Bv g,Hw n,Lw n,Iv e])])] []
 refine iE 52 Z1 Z2 ?_
 refine Af (Aa rfl (iQ 1 ?_))
 let Z3:=zT [(2,.p 2 0),(4,.d (Sv (⟨#[]⟩))),(5,Ia 3)] []
 refine iE 52 Z3 Z2 ?_
 refine Al (Aa rfl (jB .eql 23 (.int .i64 3) (.int .i64 2) 7 ?_))
 refine Am ((by decide)) ?_
 refine iQ 1 (iE 52 (zT [(6,Ba false)] Z3) Z2 ?_)
 refine iF (Aa rfl (jB .eql 23 (.int .i64 3) (.int .i64 3) 12 ?_))
 refine Cg (rfl) ?_
 refine iQ 1 (iE 52 (zT [(6,Ba false),(11,Ba true)] Z3) Z2 ?_)
 refine iT (Aa rfl (iQ 3 (eC 91 [.agg [Bv g,Hw n,Lw n,Iv e]] 16 (b09 (Nat.lt_trans h.1 Gt) (by have:=h.2.1;omega) (by have:=h.2.2.1;omega)) (iQ 1 ?_))))
 let Z4:=zT [(2,.p 2 0),(4,.d (Sv (tx (Dr g n e)))),(5,Ia 3),(6,Ba false),(11,Ba true)] []
 refine iE 52 Z4 Z2 ?_
 refine Ab (Aj (Ai (iR (Sv (tx (Dr g n e))) ?_)))
 rfl
theorem a5m {l:L8}:HasC Tryz.prog 67 [.agg [.ifc 150 (.v (.string (tx l)))],.v (.int .i64 4)] (fun r=>r=.v (.string (tx (l)))):=by
 refine hO [] Tryz.f67 (fun a w=>Tryz.call67 a w) Tryz.func67 rfl (⟨_,rfl⟩) ?_
 refine Aa rfl (iQ 2 ?_)
 let Z1:=zT [(1,Ia 4),(2,.p 2 0),(4,.d (Sv (⟨#[]⟩)))] []
 refine iE 52 Z1 [(2,[.ifc 150 (Sv (tx l))])] ?_
 refine Af (Aa rfl (iQ 1 ?_))
 let Z2:=zT [(2,.p 2 0),(4,.d (Sv (⟨#[]⟩))),(5,Ia 4)] []
 refine iE 52 Z2 [(2,[.ifc 150 (Sv (tx l))])] ?_
 refine Al (Aa rfl (jB .eql 23 (.int .i64 4) (.int .i64 2) 7 ?_))
 refine Am ((by decide)) ?_
 refine iQ 1 (iE 52 (zT [(6,Ba false)] Z2) [(2,[.ifc 150 (Sv (tx l))])] ?_)
 refine iF (Aa rfl (jB .eql 23 (.int .i64 4) (.int .i64 3) 12 ?_))
 refine Am ((by decide)) ?_
 refine iQ 1 (iE 52 (zT [(6,Ba false),(11,Ba false)] Z2) [(2,[.ifc 150 (Sv (tx l))])] ?_)
 refine iF (Aa rfl (jB .eql 23 (.int .i64 4) (.int .i64 4) 18 ?_))
 refine Cg (rfl) ?_
 refine iQ 1 ?_
 let Z3:=zT [(6,Ba false),(11,Ba false),(17,Ba true)] []
 refine iE 52 (zT Z3 Z2) [(2,[.ifc 150 (Sv (tx l))])] ?_
 refine iT (Aa rfl (iQ 4 (iE 52 (zT [(2,.p 2 0),(4,.d (Sv (tx l))),(5,Ia 4)] Z3) [(2,[.ifc 150 (Sv (tx l))])] ?_)))
 refine Ab (Aj (Ai (iR (Sv (tx l)) ?_)))
 rfl
theorem a5y {y m d:Int}:HasC Tryz.prog 67 [.agg [.ifc 152 (.agg [.v (.int .i64 y),.v (.int .i64 m),.v (.int .i64 d)])],.v (.int .i64 5)] (fun r=>r=.v (.string (tx (Fm y m d)))):=by
 refine hO [] Tryz.f67 (fun a w=>Tryz.call67 a w) Tryz.func67 rfl (⟨_,rfl⟩) ?_
 refine Aa rfl (iQ 2 ?_)
 let Z1:=zT [(1,Ia 5),(2,.p 2 0),(4,.d (Sv (⟨#[]⟩)))] []
 refine iE 52 Z1 [(2,[.ifc 152 (.agg [Iv y,Iv m,Iv d])])] ?_
 refine Af (Aa rfl (iQ 1 ?_))
 let Z2:=zT [(2,.p 2 0),(4,.d (Sv (⟨#[]⟩))),(5,Ia 5)] []
 refine iE 52 Z2 [(2,[.ifc 152 (.agg [Iv y,Iv m,Iv d])])] ?_
 refine Al (Aa rfl (jB .eql 23 (.int .i64 5) (.int .i64 2) 7 ?_))
 refine Am ((by decide)) ?_
 refine iQ 1 (iE 52 (zT [(6,Ba false)] Z2) [(2,[.ifc 152 (.agg [Iv y,Iv m,Iv d])])] ?_)
 refine iF (Aa rfl (jB .eql 23 (.int .i64 5) (.int .i64 3) 12 ?_))
 refine Am ((by decide)) ?_
 refine iQ 1 (iE 52 (zT [(6,Ba false),(11,Ba false)] Z2) [(2,[.ifc 152 (.agg [Iv y,Iv m,Iv d])])] ?_)
 refine iF (Aa rfl (jB .eql 23 (.int .i64 5) (.int .i64 4) 18 ?_))
 refine Am ((by decide)) ?_
 refine iQ 1 ?_
 let Z3:=zT [(6,Ba false),(11,Ba false),(17,Ba false)] []
 refine iE 52 (zT Z3 Z2) [(2,[.ifc 152 (.agg [Iv y,Iv m,Iv d])])] ?_
 refine iF (Aa rfl (jB .eql 23 (.int .i64 5) (.int .i64 5) 23 ?_))
 refine Cg (rfl) ?_
 refine iQ 1 (iE 52 (zT [(22,Ba true)] (zT Z2 Z3)) [(2,[.ifc 152 (.agg [Iv y,Iv m,Iv d])])] ?_)
 refine iT (Aa rfl (iQ 3 (eC 92 [.agg [Iv y,Iv m,Iv d]] 27 (Kz) (iQ 1 ?_))))
 let Z4:=zT [(2,.p 2 0),(4,.d (Sv (tx (Fm y m d)))),(5,Ia 5),(22,Ba true)] []
 refine iE 52 (zT Z4 Z3) [(2,[.ifc 152 (.agg [Iv y,Iv m,Iv d])])] ?_
 refine Ab (Aj (Ai (iR (Sv (tx (Fm y m d))) ?_)))
 rfl
theorem a30 {s o:Int} {z:Bool}:HasC Tryz.prog 67 [.agg [.ifc 154 (.agg [.v (.int .i64 s),.v (.bool z),.v (.int .i64 o)])],.v (.int .i64 6)] (fun r=>r=.v (.string (tx (Dx s z o)))):=by
 refine hO [] Tryz.f67 (fun a w=>Tryz.call67 a w) Tryz.func67 rfl (⟨_,rfl⟩) ?_
 refine Aa rfl (iQ 2 ?_)
 let Z1:=zT [(1,Ia 6),(2,.p 2 0),(4,.d (Sv (⟨#[]⟩)))] []
 refine iE 52 Z1 [(2,[.ifc 154 (.agg [Iv s,Bv z,Iv o])])] ?_
 refine Af (Aa rfl (iQ 1 ?_))
 let Z2:=zT [(2,.p 2 0),(4,.d (Sv (⟨#[]⟩))),(5,Ia 6)] []
 refine iE 52 Z2 [(2,[.ifc 154 (.agg [Iv s,Bv z,Iv o])])] ?_
 refine Al (Aa rfl (jB .eql 23 (.int .i64 6) (.int .i64 2) 7 ?_))
 refine Am ((by decide)) ?_
 refine iQ 1 (iE 52 (zT [(6,Ba false)] Z2) [(2,[.ifc 154 (.agg [Iv s,Bv z,Iv o])])] ?_)
 refine iF (Aa rfl (jB .eql 23 (.int .i64 6) (.int .i64 3) 12 ?_))
 refine Am ((by decide)) ?_
 refine iQ 1 (iE 52 (zT [(6,Ba false),(11,Ba false)] Z2) [(2,[.ifc 154 (.agg [Iv s,Bv z,Iv o])])] ?_)
 refine iF (Aa rfl (jB .eql 23 (.int .i64 6) (.int .i64 4) 18 ?_))
 refine Am ((by decide)) ?_
 refine iQ 1 ?_
 let Z3:=zT [(6,Ba false),(11,Ba false),(17,Ba false)] []
 refine iE 52 (zT Z3 Z2) [(2,[.ifc 154 (.agg [Iv s,Bv z,Iv o])])] ?_
 refine iF (Aa rfl (jB .eql 23 (.int .i64 6) (.int .i64 5) 23 ?_))
 refine Am ((by decide)) ?_
 refine iQ 1 (iE 52 (zT [(22,Ba false)] (zT Z2 Z3)) [(2,[.ifc 154 (.agg [Iv s,Bv z,Iv o])])] ?_)
 refine iF (Aa rfl (jB .eql 23 (.int .i64 6) (.int .i64 6) 29 ?_))
 refine Cg (rfl) ?_
 refine iQ 1 (iE 52 (zT [(22,Ba false),(28,Ba true)] (zT Z2 Z3)) [(2,[.ifc 154 (.agg [Iv s,Bv z,Iv o])])] ?_)
 refine iT (Aa rfl (iQ 3 (eC 93 [.agg [Iv s,Bv z,Iv o]] 33 (Gq) (iQ 1 ?_))))
 let Z4:=zT [(2,.p 2 0),(4,.d (Sv (tx (Dx s z o)))),(5,Ia 6),(22,Ba false),(28,Ba true)] []
 refine iE 52 (zT Z4 Z3) [(2,[.ifc 154 (.agg [Iv s,Bv z,Iv o])])] ?_
 refine Ab (Aj (Ai (iR (Sv (tx (Dx s z o))) ?_)))
 rfl
theorem a41 {y m d s o:Int} {z:Bool}:HasC Tryz.prog 67 [.agg [.ifc 156 (.agg [.v (.int .i64 y),.v (.int .i64 m),.v (.int .i64 d),.v (.int .i64 s),.v (.bool z),.v (.int .i64 o)])],.v (.int .i64 7)] (fun r=>r=.v (.string (tx (a14 y m d s z o)))):=by
 refine hO [] Tryz.f67 (fun a w=>Tryz.call67 a w) Tryz.func67 rfl (⟨_,rfl⟩) ?_
 refine Aa rfl (iQ 2 ?_)
 let Z1:=zT [(1,Ia 7),(2,.p 2 0),(4,.d (Sv (⟨#[]⟩)))] []
 let Z2:=zH [(2,[.ifc 156 (.agg [Iv y,Iv m,Iv d,Iv s,Bv z,Iv o])])] []
 refine iE 52 Z1 Z2 ?_
 refine Af (Aa rfl (iQ 1 ?_))
 let Z3:=zT [(2,.p 2 0),(4,.d (Sv (⟨#[]⟩))),(5,Ia 7)] []
 refine iE 52 Z3 Z2 ?_
 refine Al (Aa rfl (jB .eql 23 (.int .i64 7) (.int .i64 2) 7 ?_))
 refine Am ((by decide)) ?_
 refine iQ 1 (iE 52 (zT [(6,Ba false)] Z3) Z2 ?_)
 refine iF (Aa rfl (jB .eql 23 (.int .i64 7) (.int .i64 3) 12 ?_))
 refine Am ((by decide)) ?_
 refine iQ 1 (iE 52 (zT [(6,Ba false),(11,Ba false)] Z3) Z2 ?_)
 refine iF (Aa rfl (jB .eql 23 (.int .i64 7) (.int .i64 4) 18 ?_))
 refine Am ((by decide)) ?_
 refine iQ 1 ?_
 let Z4:=zT [(6,Ba false),(11,Ba false),(17,Ba false)] []
 refine iE 52 (zT Z4 Z3) Z2 ?_
 refine iF (Aa rfl (jB .eql 23 (.int .i64 7) (.int .i64 5) 23 ?_))
 refine Am ((by decide)) ?_
 refine iQ 1 (iE 52 (zT [(22,Ba false)] (zT Z3 Z4)) Z2 ?_)
 refine iF (Aa rfl (jB .eql 23 (.int .i64 7) (.int .i64 6) 29 ?_))
 refine Am ((by decide)) ?_
 refine iQ 1 (iE 52 (zT [(22,Ba false),(28,Ba false)] (zT Z3 Z4)) Z2 ?_)
 refine iF (Aa rfl (jB .eql 23 (.int .i64 7) (.int .i64 7) 35 ?_))
 refine Cg (rfl) ?_
 refine iQ 1 ?_
 let Z5:=zT [(22,Ba false),(28,Ba false),(34,Ba true)] []
 let Z6:=zT Z5 (zT Z3 Z4)
 refine iE 52 Z6 Z2 ?_
 refine iT (Aa rfl (iQ 3 (eC 94 [.agg [Iv y,Iv m,Iv d,Iv s,Bv z,Iv o]] 39 (Zv) (iQ 1 ?_))))
 let Z7:=zT [(2,.p 2 0),(4,.d (Sv (tx (a14 y m d s z o)))),(5,Ia 7)] []
 let Z8:=zT Z7 (zT Z4 Z5)
 refine iE 52 Z8 Z2 ?_
 refine Ab (Aj (Ai (iR (Sv (tx (a14 y m d s z o))) ?_)))
 rfl
theorem a4r {n:Int}:HasC Tryz.prog 67 [.agg [.ifc 158 (.v (.int .i64 n))],.v (.int .i64 8)] (fun r=>r=.v (.string (tx (Gy n)))):=by
 refine hO [] Tryz.f67 (fun a w=>Tryz.call67 a w) Tryz.func67 rfl (⟨_,rfl⟩) ?_
 refine Aa rfl (iQ 2 ?_)
 let Z1:=zT [(1,Ia 8),(2,.p 2 0),(4,.d (Sv (⟨#[]⟩)))] []
 refine iE 52 Z1 [(2,[.ifc 158 (Iv n)])] ?_
 refine Af (Aa rfl (iQ 1 ?_))
 let Z2:=zT [(2,.p 2 0),(4,.d (Sv (⟨#[]⟩))),(5,Ia 8)] []
 refine iE 52 Z2 [(2,[.ifc 158 (Iv n)])] ?_
 refine Al (Aa rfl (jB .eql 23 (.int .i64 8) (.int .i64 2) 7 ?_))
 refine Am ((by decide)) ?_
 refine iQ 1 (iE 52 (zT [(6,Ba false)] Z2) [(2,[.ifc 158 (Iv n)])] ?_)
 refine iF (Aa rfl (jB .eql 23 (.int .i64 8) (.int .i64 3) 12 ?_))
 refine Am ((by decide)) ?_
 refine iQ 1 (iE 52 (zT [(6,Ba false),(11,Ba false)] Z2) [(2,[.ifc 158 (Iv n)])] ?_)
 refine iF (Aa rfl (jB .eql 23 (.int .i64 8) (.int .i64 4) 18 ?_))
 refine Am ((by decide)) ?_
 refine iQ 1 ?_
 let Z3:=zT [(6,Ba false),(11,Ba false),(17,Ba false)] []
 refine iE 52 (zT Z3 Z2) [(2,[.ifc 158 (Iv n)])] ?_
 refine iF (Aa rfl (jB .eql 23 (.int .i64 8) (.int .i64 5) 23 ?_))
 refine Am ((by decide)) ?_
 refine iQ 1 (iE 52 (zT [(22,Ba false)] (zT Z2 Z3)) [(2,[.ifc 158 (Iv n)])] ?_)
 refine iF (Aa rfl (jB .eql 23 (.int .i64 8) (.int .i64 6) 29 ?_))
 refine Am ((by decide)) ?_
 refine iQ 1 (iE 52 (zT [(22,Ba false),(28,Ba false)] (zT Z2 Z3)) [(2,[.ifc 158 (Iv n)])] ?_)
 refine iF (Aa rfl (jB .eql 23 (.int .i64 8) (.int .i64 7) 35 ?_))
 refine Am ((by decide)) ?_
 refine iQ 1 ?_
 let Z4:=zT [(22,Ba false),(28,Ba false),(34,Ba false)] []
 let Z5:=zT Z4 (zT Z2 Z3)
 refine iE 52 Z5 [(2,[.ifc 158 (Iv n)])] ?_
 refine iF (Aa rfl (jB .eql 23 (.int .i64 8) (.int .i64 8) 41 ?_))
 refine Cg (rfl) ?_
 refine iQ 1 (iE 52 (zT [(40,Ba true)] Z5) [(2,[.ifc 158 (Iv n)])] ?_)
 refine iT (Aa rfl (iQ 3 (eC 95 [Iv n] 45 (a4t) (iQ 1 ?_))))
 let Z6:=zT [(2,.p 2 0),(4,.d (Sv (tx (Gy n)))),(5,Ia 8),(40,Ba true)] []
 let Z7:=zT Z6 (zT Z4 Z3)
 refine iE 52 Z7 [(2,[.ifc 158 (Iv n)])] ?_
 refine Ab (Aj (Ai (iR (Sv (tx (Gy n))) ?_)))
 rfl
theorem a33 {n:Int}:HasC Tryz.prog 67 [.agg [.ifc 159 (.v (.int .i64 n))],.v (.int .i64 9)] (fun r=>r=.v (.string (tx (Fp n)))):=by
 refine hO [] Tryz.f67 (fun a w=>Tryz.call67 a w) Tryz.func67 rfl (⟨_,rfl⟩) ?_
 refine Aa rfl (iQ 2 ?_)
 let Z1:=zT [(1,Ia 9),(2,.p 2 0),(4,.d (Sv (⟨#[]⟩)))] []
 refine iE 52 Z1 [(2,[.ifc 159 (Iv n)])] ?_
 refine Af (Aa rfl (iQ 1 ?_))
 let Z2:=zT [(2,.p 2 0),(4,.d (Sv (⟨#[]⟩))),(5,Ia 9)] []
 refine iE 52 Z2 [(2,[.ifc 159 (Iv n)])] ?_
 refine Al (Aa rfl (jB .eql 23 (.int .i64 9) (.int .i64 2) 7 ?_))
 refine Am ((by decide)) ?_
 refine iQ 1 (iE 52 (zT [(6,Ba false)] Z2) [(2,[.ifc 159 (Iv n)])] ?_)
 refine iF (Aa rfl (jB .eql 23 (.int .i64 9) (.int .i64 3) 12 ?_))
 refine Am ((by decide)) ?_
 refine iQ 1 (iE 52 (zT [(6,Ba false),(11,Ba false)] Z2) [(2,[.ifc 159 (Iv n)])] ?_)
 refine iF (Aa rfl (jB .eql 23 (.int .i64 9) (.int .i64 4) 18 ?_))
 refine Am ((by decide)) ?_
 refine iQ 1 ?_
 let Z3:=zT [(6,Ba false),(11,Ba false),(17,Ba false)] []
 refine iE 52 (zT Z3 Z2) [(2,[.ifc 159 (Iv n)])] ?_
 refine iF (Aa rfl (jB .eql 23 (.int .i64 9) (.int .i64 5) 23 ?_))
 refine Am ((by decide)) ?_
 refine iQ 1 (iE 52 (zT [(22,Ba false)] (zT Z2 Z3)) [(2,[.ifc 159 (Iv n)])] ?_)
 refine iF (Aa rfl (jB .eql 23 (.int .i64 9) (.int .i64 6) 29 ?_))
 refine Am ((by decide)) ?_
 refine iQ 1 (iE 52 (zT [(22,Ba false),(28,Ba false)] (zT Z2 Z3)) [(2,[.ifc 159 (Iv n)])] ?_)
 refine iF (Aa rfl (jB .eql 23 (.int .i64 9) (.int .i64 7) 35 ?_))
 refine Am ((by decide)) ?_
 refine iQ 1 ?_
 let Z4:=zT [(22,Ba false),(28,Ba false),(34,Ba false)] []
 let Z5:=zT Z4 (zT Z2 Z3)
 refine iE 52 Z5 [(2,[.ifc 159 (Iv n)])] ?_
 refine iF (Aa rfl (jB .eql 23 (.int .i64 9) (.int .i64 8) 41 ?_))
 refine Am ((by decide)) ?_
 refine iQ 1 (iE 52 (zT [(40,Ba false)] Z5) [(2,[.ifc 159 (Iv n)])] ?_)
 refine iF (Aa rfl (jB .eql 23 (.int .i64 9) (.int .i64 9) 47 ?_))
 refine Cg (rfl) ?_
 refine iQ 1 (iE 52 (zT [(40,Ba false),(46,Ba true)] Z5) [(2,[.ifc 159 (Iv n)])] ?_)
 refine iT (Aa rfl (iQ 3 (eC 96 [Iv n] 51 (Zu) (iQ 1 ?_))))
 let Z6:=zT [(2,.p 2 0),(4,.d (Sv (tx (Fp n)))),(5,Ia 9),(40,Ba false),(46,Ba true)] []
 let Z7:=zT Z6 (zT Z4 Z3)
 refine iE 52 Z7 [(2,[.ifc 159 (Iv n)])] ?_
 refine Ab (Aj (Ai (iR (Sv (tx (Fp n))) ?_)))
 rfl
theorem a4o:HasC Tryz.prog 67 [.agg [.v (.nilIface)],.v (.int .i64 1)] (fun r=>r=.v (.string (tx []))):=by
 refine hO [] Tryz.f67 (fun a w=>Tryz.call67 a w) Tryz.func67 rfl (⟨_,rfl⟩) ?_
 refine Aa rfl (iQ 2 ?_)
 let Z1:=zT [(1,Ia 1),(2,.p 2 0),(4,.d (Sv (⟨#[]⟩)))] []
 refine iE 52 Z1 [(2,[.v (.nilIface)])] ?_
 refine Af (Aa rfl (iQ 1 ?_))
 let Z2:=zT [(2,.p 2 0),(4,.d (Sv (⟨#[]⟩))),(5,Ia 1)] []
 refine iE 52 Z2 [(2,[.v (.nilIface)])] ?_
 refine Al (Aa rfl (jB .eql 23 (.int .i64 1) (.int .i64 2) 7 ?_))
 refine Am ((by decide)) ?_
 refine iQ 1 (iE 52 (zT [(6,Ba false)] Z2) [(2,[.v (.nilIface)])] ?_)
 refine iF (Aa rfl (jB .eql 23 (.int .i64 1) (.int .i64 3) 12 ?_))
 refine Am ((by decide)) ?_
 refine iQ 1 (iE 52 (zT [(6,Ba false),(11,Ba false)] Z2) [(2,[.v (.nilIface)])] ?_)
 refine iF (Aa rfl (jB .eql 23 (.int .i64 1) (.int .i64 4) 18 ?_))
 refine Am ((by decide)) ?_
 refine iQ 1 ?_
 let Z3:=zT [(6,Ba false),(11,Ba false),(17,Ba false)] []
 refine iE 52 (zT Z3 Z2) [(2,[.v (.nilIface)])] ?_
 refine iF (Aa rfl (jB .eql 23 (.int .i64 1) (.int .i64 5) 23 ?_))
 refine Am ((by decide)) ?_
 refine iQ 1 (iE 52 (zT [(22,Ba false)] (zT Z2 Z3)) [(2,[.v (.nilIface)])] ?_)
 refine iF (Aa rfl (jB .eql 23 (.int .i64 1) (.int .i64 6) 29 ?_))
 refine Am ((by decide)) ?_
 refine iQ 1 (iE 52 (zT [(22,Ba false),(28,Ba false)] (zT Z2 Z3)) [(2,[.v (.nilIface)])] ?_)
 refine iF (Aa rfl (jB .eql 23 (.int .i64 1) (.int .i64 7) 35 ?_))
 refine Am ((by decide)) ?_
 refine iQ 1 ?_
 let Z4:=zT [(22,Ba false),(28,Ba false),(34,Ba false)] []
 let Z5:=zT Z4 (zT Z2 Z3)
 refine iE 52 Z5 [(2,[.v (.nilIface)])] ?_
 refine iF (Aa rfl (jB .eql 23 (.int .i64 1) (.int .i64 8) 41 ?_))
 refine Am ((by decide)) ?_
 refine iQ 1 (iE 52 (zT [(40,Ba false)] Z5) [(2,[.v (.nilIface)])] ?_)
 refine iF (Aa rfl (jB .eql 23 (.int .i64 1) (.int .i64 9) 47 ?_))
 refine Am ((by decide)) ?_
 refine iQ 1 (iE 52 (zT [(40,Ba false),(46,Ba false)] Z5) [(2,[.v (.nilIface)])] ?_)
 refine iF (Ae (Ar (Ag (Aa rfl (iQ 1 (iE 52 (zT [(40,Ba false),(46,Ba false)] Z5) [(2,[.v (.nilIface)])] ?_))))))
 refine Ab (iR (Sv (⟨#[]⟩)) ?_)
 rfl
theorem a5f {b:Bool}:HasC Tryz.prog 67 [.agg [.ifc 110 (.v (.bool b))],.v (.int .i64 2)] (fun r=>r=.v (.string (tx (plT (.bool b))))):=by
 refine hO [] Tryz.f67 (fun a w=>Tryz.call67 a w) Tryz.func67 rfl (⟨_,rfl⟩) ?_
 refine Aa rfl (iQ 2 ?_)
 let Z1:=zT [(1,Ia 2),(2,.p 2 0),(4,.d (Sv (⟨#[]⟩)))] []
 refine iE 52 Z1 [(2,[.ifc 110 (Bv b)])] ?_
 refine Af (Aa rfl (iQ 1 ?_))
 let Z2:=zT [(2,.p 2 0),(4,.d (Sv (⟨#[]⟩))),(5,Ia 2)] []
 refine iE 52 Z2 [(2,[.ifc 110 (Bv b)])] ?_
 refine Al (Aa rfl (jB .eql 23 (.int .i64 2) (.int .i64 2) 7 ?_))
 refine Cg (rfl) ?_
 refine iQ 1 (iE 52 (zT [(6,Ba true)] Z2) [(2,[.ifc 110 (Bv b)])] ?_)
 refine iT (Af (Aa rfl (iQ 3 (iE 52 (zT [(6,Ba true),(10,Ba b)] Z2) [(2,[.ifc 110 (Bv b)])] ?_))))
 cases b
 ·refine iF (Ae (Ag (Aa rfl (iQ 1 ?_))))
  let Z3:=zT [(2,.p 2 0),(4,.d (Sv (⟨#[102,97,108,115,101]⟩))),(5,Ia 2),(6,Ba true),(10,Ba false)] []
  refine iE 52 Z3 [(2,[.ifc 110 (Bv false)])] ?_
  refine Ab (Aj (Ai (iR (Sv (⟨#[102,97,108,115,101]⟩)) ?_)))
  rfl
 ·refine iT (Aa rfl (iQ 1 ?_))
  let Z4:=zT [(2,.p 2 0),(4,.d (Sv (⟨#[116,114,117,101]⟩))),(5,Ia 2),(6,Ba true),(10,Ba true)] []
  refine iE 52 Z4 [(2,[.ifc 110 (Bv true)])] ?_
  refine Ab (Ai (Aj (Ai (iR (Sv (⟨#[116,114,117,101]⟩)) ?_))))
  rfl
theorem a84 {v:Vl} (ov:v.ok) (hk:v.kindI≤9):HasC Tryz.prog 67 [VV v,.v (.int .i64 v.kindI)] (fun r=>r=.v (.string (tx (plT v)))):=by
 cases v
 case null=>exact HasC.ub a4o
 case bool b=>exact HasC.ub a5f
 case num g n e=>exact HasC.ub (a5a (by rw[Vl.ok] at ov;exact ov))
 case text l=>exact HasC.ub a5m
 case day y m d=>exact HasC.ub a5y
 case time s z o=>exact HasC.ub a30
 case mom y m d s z o=>exact HasC.ub a41
 case days n=>exact HasC.ub a4r
 case months n=>exact HasC.ub a33
 all_goals (simp[Vl.kindI] at hk)
theorem a6y {v:Vl} (ov:v.ok) (hk:v.kindI≤9):HasC Tryz.prog 46 [.agg [.bx (v).enc]] (fun r=>r=.tup [dPl v.kindI (plT v),.v (.bool true)]):=by
 refine hO [] Tryz.f46 (fun a w=>Tryz.call46 a w) Tryz.func46 rfl (⟨_,rfl⟩) ?_
 refine Aa rfl (iQ 3 ?_)
 let Z1:=zH [(2,[Iv 0,Sv (⟨#[]⟩),.sl 0 [],.sl 0 [],Bv false,Bv false])] []
 refine iE 25 [(1,.p 1 0),(2,.p 2 0),(3,Ba false)] (zH [(1,[.bx (v).enc])] Z1) ?_
 refine Aa rfl (iQ 1 (eC 13 [.agg [.bx (v).enc]] 6 (Of v) (iQ 1 ?_)))
 let Z2:=zT [(1,.p 1 0),(2,.p 2 0),(3,Ba false),(4,Ia v.kindI)] []
 refine iE 25 Z2 (zH [(1,[.bx (v).enc])] Z1) ?_
 refine Af (Aa rfl (iQ 1 (iE 25 (zT [(7,Ia v.kindI)] Z2) (zH [(1,[.bx (v).enc])] Z1) ?_)))
 refine Al (Af (Aa rfl (jB .eql 23 (.int .i64 v.kindI) (.int .i64 10) 9 ?_)))
 refine Am ((by omega)) ?_
 refine iQ 1 (iE 25 (zT [(7,Ia v.kindI),(8,Ba false)] Z2) (zH [(1,[.bx (v).enc])] Z1) ?_)
 refine iF (Aa rfl (jB .eql 23 (.int .i64 v.kindI) (.int .i64 11) 10 ?_))
 refine Am ((by omega)) ?_
 refine iQ 1 (iE 25 (zT [(7,Ia v.kindI),(8,Ba false)] Z2) (zH [(1,[.bx (v).enc])] Z1) ?_)
 refine iF (Aq rfl (jB .eql 23 (.int .i64 v.kindI) (.int .i64 12) 11 ?_))
 refine Am ((by omega)) ?_
 refine iQ 1 (iE 25 (zT [(7,Ia v.kindI),(8,Ba false)] Z2) (zH [(1,[.bx (v).enc])] Z1) ?_)
 refine Ag (iF (Aa rfl (jB .eql 23 (.int .i64 v.kindI) (.int .i64 13) 18 ?_)))
 refine Am ((by omega)) ?_
 refine iQ 1 ?_
 let Z3:=zT [(7,Ia v.kindI),(8,Ba false),(17,Ba false)] []
 refine iE 25 (zT Z3 Z2) (zH [(1,[.bx (v).enc])] Z1) ?_
 refine iF (Ae (Ar (Ag (Aa rfl (iQ 3 (eC 67 [.agg [.bx (v).enc],Iv v.kindI] 23 (a84 ov hk) (iQ 3 ?_)))))))
 let Z4:=zT [(1,.p 1 0),(2,.p 2 0),(3,Ba true),(4,Ia v.kindI)] []
 let Z5:=zH [(2,[Iv v.kindI,Sv (tx (plT v)),.sl 0 [],.sl 0 [],Bv false,Bv false])] []
 refine iE 25 (zT Z4 Z3) (zH [(1,[.bx (v).enc])] Z5) ?_
 refine Ab (iS (.agg [Iv v.kindI,Sv (tx (plT v)),.sl 0 [],.sl 0 [],Bv false,Bv false]) (Bv true) [] ?_)
 rfl
mutual
def plV:Vl→Dm
 | .list vs=>.mk 10 [] (plL vs) [] false false
 | .ctx ns vs=>.mk 11 [] (plL vs) ns false false
 | .rng lo hi p q=>.mk 12 [] [plV lo,plV hi] [] p q
 | .null=>.mk 1 [] [] [] false false
 | .bool b=>.mk 2 (plT (.bool b)) [] [] false false
 | .num g n e=>.mk 3 (plT (.num g n e)) [] [] false false
 | .text l=>.mk 4 (plT (.text l)) [] [] false false
 | .day y m d=>.mk 5 (plT (.day y m d)) [] [] false false
 | .time s z o=>.mk 6 (plT (.time s z o)) [] [] false false
 | .mom y m d s z o=>.mk 7 (plT (.mom y m d s z o)) [] [] false false
 | .days n=>.mk 8 (plT (.days n)) [] [] false false
 | .months n=>.mk 9 (plT (.months n)) [] [] false false
def plL:List Vl→List Dm
 | []=>[]
 | v::r=>plV v::plL r
end
theorem Es : ∀ vs,plL vs=vs.map plV
 | []=>rfl
 | v::r=>by rw[plL,Es r];rfl
abbrev Js (d:Dm):DV:=.agg d.cells
theorem Dt {v:Vl} (ov:v.ok) (hk:v.kindI≤9):HasC Tryz.prog 46 [VV v] (fun r=>r=.tup [Js (plV v),.v (.bool true)]):=by
 have h:=a6y ov hk
 cases v<;>first | exact h | (simp[Vl.kindI] at hk)
end Go.Proofs.YtfkfpkhgoijfdaaGreatDoor
