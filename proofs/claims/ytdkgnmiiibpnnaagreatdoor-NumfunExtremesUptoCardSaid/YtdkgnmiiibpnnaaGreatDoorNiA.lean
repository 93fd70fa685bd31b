/- The plain text of a value that has an order; the least and the greatest of some values; how many stand to one so. -/
import Derived.Test.YtdkgnmiiibpnnaaGreatDoorNiP
import Derived.Test.YtdkgnmiiibpnnaaGreatDoorNrW
import Derived.Test.YtdkgnmiiibpnnaaGreatDoorCivZ
namespace Go.Proofs.YtdkgnmiiibpnnaaGreatDoor
open Go.RowKit
set_option linter.unusedVariables false
set_option linter.unusedSimpArgs false
set_option maxRecDepth 100000
def plT:Vl→L8
 | .num g n e=>Dn g n e
 | .text l=>l
 | .day y m d=>Fb y m d
 | .time s z o=>Du s z o
 | .mom y m d s z o=>a2e y m d s z o
 | .days n=>Gp n
 | .months n=>Ev n
 | _=>[]
abbrev dPl (k:Int) (t:L8):DV:=.agg [.v (.int .i64 k),.v (.string (tx t)),.sl 0 [],.sl 0 [],.v (.bool false),.v (.bool false)]
theorem a69 {g:Bool} {n:Nat} {e:Int} (h:May g n e):HasC Tryz.prog 134 [.agg [.ifc 80 (.agg [.v (.bool g),.v (.int .u64 (hiW (n))),.v (.int .u64 (loW (n))),.v (.int .i64 e)])],.v (.int .i64 3)] (fun r=>r=.v (.string (tx (Dn g n e)))):=by
 refine hO [] Tryz.f134 (fun a w=>Tryz.call134 a w) Tryz.func134 rfl (⟨_,rfl⟩) ?_
 refine Aa rfl (iQ 2 ?_)
 let Z1:=zT [(1,Ia 3),(2,.p 2 0),(4,.d (Sv (⟨#[]⟩)))] []
 let Z2:=zH [(2,[.ifc 80 (.agg [Bv g,Hw n,Lw n,Iv e])])] []
 refine iE 52 Z1 Z2 ?_
 refine Ae (Aa rfl (iQ 1 ?_))
 let Z3:=zT [(2,.p 2 0),(4,.d (Sv (⟨#[]⟩))),(5,Ia 3)] []
 refine iE 52 Z3 Z2 ?_
 refine Aj (Aa rfl (jB .eql 27 (.int .i64 3) (.int .i64 2) 7 ?_))
 refine An ((by decide)) ?_
 refine iQ 1 (iE 52 (zT [(6,Ba false)] Z3) Z2 ?_)
 refine iF (Aa rfl (jB .eql 27 (.int .i64 3) (.int .i64 3) 12 ?_))
 refine Bj (rfl) ?_
 refine iQ 1 (iE 52 (zT [(6,Ba false),(11,Ba true)] Z3) Z2 ?_)
 refine iT (Aa rfl (iQ 3 (eC 159 [.agg [Bv g,Hw n,Lw n,Iv e]] 16 (b2o (Nat.lt_trans h.1 Cq) (by have:=h.2.1;omega) (by have:=h.2.2.1;omega)) (iQ 1 ?_))))
 let Z4:=zT [(2,.p 2 0),(4,.d (Sv (tx (Dn g n e)))),(5,Ia 3),(6,Ba false),(11,Ba true)] []
 refine iE 52 Z4 Z2 ?_
 refine Ab (Ai (Ag (iR (Sv (tx (Dn g n e))) ?_)))
 rfl
theorem a4s {l:L8}:HasC Tryz.prog 134 [.agg [.ifc 179 (.v (.string (tx l)))],.v (.int .i64 4)] (fun r=>r=.v (.string (tx (l)))):=by
 refine hO [] Tryz.f134 (fun a w=>Tryz.call134 a w) Tryz.func134 rfl (⟨_,rfl⟩) ?_
 refine Aa rfl (iQ 2 ?_)
 let Z1:=zT [(1,Ia 4),(2,.p 2 0),(4,.d (Sv (⟨#[]⟩)))] []
 refine iE 52 Z1 [(2,[.ifc 179 (Sv (tx l))])] ?_
 refine Ae (Aa rfl (iQ 1 ?_))
 let Z2:=zT [(2,.p 2 0),(4,.d (Sv (⟨#[]⟩))),(5,Ia 4)] []
 refine iE 52 Z2 [(2,[.ifc 179 (Sv (tx l))])] ?_
 refine Aj (Aa rfl (jB .eql 27 (.int .i64 4) (.int .i64 2) 7 ?_))
 refine An ((by decide)) ?_
 refine iQ 1 (iE 52 (zT [(6,Ba false)] Z2) [(2,[.ifc 179 (Sv (tx l))])] ?_)
 refine iF (Aa rfl (jB .eql 27 (.int .i64 4) (.int .i64 3) 12 ?_))
 refine An ((by decide)) ?_
 refine iQ 1 (iE 52 (zT [(6,Ba false),(11,Ba false)] Z2) [(2,[.ifc 179 (Sv (tx l))])] ?_)
 refine iF (Aa rfl (jB .eql 27 (.int .i64 4) (.int .i64 4) 18 ?_))
 refine Bj (rfl) ?_
 refine iQ 1 ?_
 let Z3:=zT [(6,Ba false),(11,Ba false),(17,Ba true)] []
 refine iE 52 (zT Z3 Z2) [(2,[.ifc 179 (Sv (tx l))])] ?_
 refine iT (Aa rfl (iQ 4 (iE 52 (zT [(2,.p 2 0),(4,.d (Sv (tx l))),(5,Ia 4)] Z3) [(2,[.ifc 179 (Sv (tx l))])] ?_)))
 refine Ab (Ai (Ag (iR (Sv (tx l)) ?_)))
 rfl
theorem a55 {y m d:Int}:HasC Tryz.prog 134 [.agg [.ifc 181 (.agg [.v (.int .i64 y),.v (.int .i64 m),.v (.int .i64 d)])],.v (.int .i64 5)] (fun r=>r=.v (.string (tx (Fb y m d)))):=by
 refine hO [] Tryz.f134 (fun a w=>Tryz.call134 a w) Tryz.func134 rfl (⟨_,rfl⟩) ?_
 refine Aa rfl (iQ 2 ?_)
 let Z1:=zT [(1,Ia 5),(2,.p 2 0),(4,.d (Sv (⟨#[]⟩)))] []
 refine iE 52 Z1 [(2,[.ifc 181 (.agg [Iv y,Iv m,Iv d])])] ?_
 refine Ae (Aa rfl (iQ 1 ?_))
 let Z2:=zT [(2,.p 2 0),(4,.d (Sv (⟨#[]⟩))),(5,Ia 5)] []
 refine iE 52 Z2 [(2,[.ifc 181 (.agg [Iv y,Iv m,Iv d])])] ?_
 refine Aj (Aa rfl (jB .eql 27 (.int .i64 5) (.int .i64 2) 7 ?_))
 refine An ((by decide)) ?_
 refine iQ 1 (iE 52 (zT [(6,Ba false)] Z2) [(2,[.ifc 181 (.agg [Iv y,Iv m,Iv d])])] ?_)
 refine iF (Aa rfl (jB .eql 27 (.int .i64 5) (.int .i64 3) 12 ?_))
 refine An ((by decide)) ?_
 refine iQ 1 (iE 52 (zT [(6,Ba false),(11,Ba false)] Z2) [(2,[.ifc 181 (.agg [Iv y,Iv m,Iv d])])] ?_)
 refine iF (Aa rfl (jB .eql 27 (.int .i64 5) (.int .i64 4) 18 ?_))
 refine An ((by decide)) ?_
 refine iQ 1 ?_
 let Z3:=zT [(6,Ba false),(11,Ba false),(17,Ba false)] []
 refine iE 52 (zT Z3 Z2) [(2,[.ifc 181 (.agg [Iv y,Iv m,Iv d])])] ?_
 refine iF (Aa rfl (jB .eql 27 (.int .i64 5) (.int .i64 5) 23 ?_))
 refine Bj (rfl) ?_
 refine iQ 1 (iE 52 (zT [(22,Ba true)] (zT Z2 Z3)) [(2,[.ifc 181 (.agg [Iv y,Iv m,Iv d])])] ?_)
 refine iT (Aa rfl (iQ 3 (eC 145 [.agg [Iv y,Iv m,Iv d]] 27 (Kk) (iQ 1 ?_))))
 let Z4:=zT [(2,.p 2 0),(4,.d (Sv (tx (Fb y m d)))),(5,Ia 5),(22,Ba true)] []
 refine iE 52 (zT Z4 Z3) [(2,[.ifc 181 (.agg [Iv y,Iv m,Iv d])])] ?_
 refine Ab (Ai (Ag (iR (Sv (tx (Fb y m d))) ?_)))
 rfl
theorem a68 {s o:Int} {z:Bool}:HasC Tryz.prog 134 [.agg [.ifc 185 (.agg [.v (.int .i64 s),.v (.bool z),.v (.int .i64 o)])],.v (.int .i64 6)] (fun r=>r=.v (.string (tx (Du s z o)))):=by
 refine hO [] Tryz.f134 (fun a w=>Tryz.call134 a w) Tryz.func134 rfl (⟨_,rfl⟩) ?_
 refine Aa rfl (iQ 2 ?_)
 let Z1:=zT [(1,Ia 6),(2,.p 2 0),(4,.d (Sv (⟨#[]⟩)))] []
 refine iE 52 Z1 [(2,[.ifc 185 (.agg [Iv s,Bv z,Iv o])])] ?_
 refine Ae (Aa rfl (iQ 1 ?_))
 let Z2:=zT [(2,.p 2 0),(4,.d (Sv (⟨#[]⟩))),(5,Ia 6)] []
 refine iE 52 Z2 [(2,[.ifc 185 (.agg [Iv s,Bv z,Iv o])])] ?_
 refine Aj (Aa rfl (jB .eql 27 (.int .i64 6) (.int .i64 2) 7 ?_))
 refine An ((by decide)) ?_
 refine iQ 1 (iE 52 (zT [(6,Ba false)] Z2) [(2,[.ifc 185 (.agg [Iv s,Bv z,Iv o])])] ?_)
 refine iF (Aa rfl (jB .eql 27 (.int .i64 6) (.int .i64 3) 12 ?_))
 refine An ((by decide)) ?_
 refine iQ 1 (iE 52 (zT [(6,Ba false),(11,Ba false)] Z2) [(2,[.ifc 185 (.agg [Iv s,Bv z,Iv o])])] ?_)
 refine iF (Aa rfl (jB .eql 27 (.int .i64 6) (.int .i64 4) 18 ?_))
 refine An ((by decide)) ?_
 refine iQ 1 ?_
 let Z3:=zT [(6,Ba false),(11,Ba false),(17,Ba false)] []
 refine iE 52 (zT Z3 Z2) [(2,[.ifc 185 (.agg [Iv s,Bv z,Iv o])])] ?_
 refine iF (Aa rfl (jB .eql 27 (.int .i64 6) (.int .i64 5) 23 ?_))
 refine An ((by decide)) ?_
 refine iQ 1 (iE 52 (zT [(22,Ba false)] (zT Z2 Z3)) [(2,[.ifc 185 (.agg [Iv s,Bv z,Iv o])])] ?_)
 refine iF (Aa rfl (jB .eql 27 (.int .i64 6) (.int .i64 6) 29 ?_))
 refine Bj (rfl) ?_
 refine iQ 1 (iE 52 (zT [(22,Ba false),(28,Ba true)] (zT Z2 Z3)) [(2,[.ifc 185 (.agg [Iv s,Bv z,Iv o])])] ?_)
 refine iT (Aa rfl (iQ 3 (eC 151 [.agg [Iv s,Bv z,Iv o]] 33 (Gn) (iQ 1 ?_))))
 let Z4:=zT [(2,.p 2 0),(4,.d (Sv (tx (Du s z o)))),(5,Ia 6),(22,Ba false),(28,Ba true)] []
 refine iE 52 (zT Z4 Z3) [(2,[.ifc 185 (.agg [Iv s,Bv z,Iv o])])] ?_
 refine Ab (Ai (Ag (iR (Sv (tx (Du s z o))) ?_)))
 rfl
theorem a6q {y m d s o:Int} {z:Bool}:HasC Tryz.prog 134 [.agg [.ifc 187 (.agg [.v (.int .i64 y),.v (.int .i64 m),.v (.int .i64 d),.v (.int .i64 s),.v (.bool z),.v (.int .i64 o)])],.v (.int .i64 7)] (fun r=>r=.v (.string (tx (a2e y m d s z o)))):=by
 refine hO [] Tryz.f134 (fun a w=>Tryz.call134 a w) Tryz.func134 rfl (⟨_,rfl⟩) ?_
 refine Aa rfl (iQ 2 ?_)
 let Z1:=zT [(1,Ia 7),(2,.p 2 0),(4,.d (Sv (⟨#[]⟩)))] []
 let Z2:=zH [(2,[.ifc 187 (.agg [Iv y,Iv m,Iv d,Iv s,Bv z,Iv o])])] []
 refine iE 52 Z1 Z2 ?_
 refine Ae (Aa rfl (iQ 1 ?_))
 let Z3:=zT [(2,.p 2 0),(4,.d (Sv (⟨#[]⟩))),(5,Ia 7)] []
 refine iE 52 Z3 Z2 ?_
 refine Aj (Aa rfl (jB .eql 27 (.int .i64 7) (.int .i64 2) 7 ?_))
 refine An ((by decide)) ?_
 refine iQ 1 (iE 52 (zT [(6,Ba false)] Z3) Z2 ?_)
 refine iF (Aa rfl (jB .eql 27 (.int .i64 7) (.int .i64 3) 12 ?_))
 refine An ((by decide)) ?_
 refine iQ 1 (iE 52 (zT [(6,Ba false),(11,Ba false)] Z3) Z2 ?_)
 refine iF (Aa rfl (jB .eql 27 (.int .i64 7) (.int .i64 4) 18 ?_))
 refine An ((by decide)) ?_
 refine iQ 1 ?_
 let Z4:=zT [(6,Ba false),(11,Ba false),(17,Ba false)] []
 refine iE 52 (zT Z4 Z3) Z2 ?_
 refine iF (Aa rfl (jB .eql 27 (.int .i64 7) (.int .i64 5) 23 ?_))
 refine An ((by decide)) ?_
 refine iQ 1 (iE 52 (zT [(22,Ba false)] (zT Z3 Z4)) Z2 ?_)
 refine iF (Aa rfl (jB .eql 27 (.int .i64 7) (.int .i64 6) 29 ?_))
 refine An ((by decide)) ?_
 refine iQ 1 (iE 52 (zT [(22,Ba false),(28,Ba false)] (zT Z3 Z4)) Z2 ?_)
 refine iF (Aa rfl (jB .eql 27 (.int .i64 7) (.int .i64 7) 35 ?_))
 refine Bj (rfl) ?_
 refine iQ 1 ?_
 let Z5:=zT [(22,Ba false),(28,Ba false),(34,Ba true)] []
 let Z6:=zT Z5 (zT Z3 Z4)
 refine iE 52 Z6 Z2 ?_
 refine iT (Aa rfl (iQ 3 (eC 160 [.agg [Iv y,Iv m,Iv d,Iv s,Bv z,Iv o]] 39 (Yq) (iQ 1 ?_))))
 let Z7:=zT [(2,.p 2 0),(4,.d (Sv (tx (a2e y m d s z o)))),(5,Ia 7)] []
 let Z8:=zT Z7 (zT Z4 Z5)
 refine iE 52 Z8 Z2 ?_
 refine Ab (Ai (Ag (iR (Sv (tx (a2e y m d s z o))) ?_)))
 rfl
theorem a57 {n:Int}:HasC Tryz.prog 134 [.agg [.ifc 135 (.v (.int .i64 n))],.v (.int .i64 8)] (fun r=>r=.v (.string (tx (Gp n)))):=by
 refine hO [] Tryz.f134 (fun a w=>Tryz.call134 a w) Tryz.func134 rfl (⟨_,rfl⟩) ?_
 refine Aa rfl (iQ 2 ?_)
 let Z1:=zT [(1,Ia 8),(2,.p 2 0),(4,.d (Sv (⟨#[]⟩)))] []
 refine iE 52 Z1 [(2,[.ifc 135 (Iv n)])] ?_
 refine Ae (Aa rfl (iQ 1 ?_))
 let Z2:=zT [(2,.p 2 0),(4,.d (Sv (⟨#[]⟩))),(5,Ia 8)] []
 refine iE 52 Z2 [(2,[.ifc 135 (Iv n)])] ?_
 refine Aj (Aa rfl (jB .eql 27 (.int .i64 8) (.int .i64 2) 7 ?_))
 refine An ((by decide)) ?_
 refine iQ 1 (iE 52 (zT [(6,Ba false)] Z2) [(2,[.ifc 135 (Iv n)])] ?_)
 refine iF (Aa rfl (jB .eql 27 (.int .i64 8) (.int .i64 3) 12 ?_))
 refine An ((by decide)) ?_
 refine iQ 1 (iE 52 (zT [(6,Ba false),(11,Ba false)] Z2) [(2,[.ifc 135 (Iv n)])] ?_)
 refine iF (Aa rfl (jB .eql 27 (.int .i64 8) (.int .i64 4) 18 ?_))
 refine An ((by decide)) ?_
 refine iQ 1 ?_
 let Z3:=zT [(6,Ba false),(11,Ba false),(17,Ba false)] []
 refine iE 52 (zT Z3 Z2) [(2,[.ifc 135 (Iv n)])] ?_
 refine iF (Aa rfl (jB .eql 27 (.int .i64 8) (.int .i64 5) 23 ?_))
 refine An ((by decide)) ?_
 refine iQ 1 (iE 52 (zT [(22,Ba false)] (zT Z2 Z3)) [(2,[.ifc 135 (Iv n)])] ?_)
 refine iF (Aa rfl (jB .eql 27 (.int .i64 8) (.int .i64 6) 29 ?_))
 refine An ((by decide)) ?_
 refine iQ 1 (iE 52 (zT [(22,Ba false),(28,Ba false)] (zT Z2 Z3)) [(2,[.ifc 135 (Iv n)])] ?_)
 refine iF (Aa rfl (jB .eql 27 (.int .i64 8) (.int .i64 7) 35 ?_))
 refine An ((by decide)) ?_
 refine iQ 1 ?_
 let Z4:=zT [(22,Ba false),(28,Ba false),(34,Ba false)] []
 let Z5:=zT Z4 (zT Z2 Z3)
 refine iE 52 Z5 [(2,[.ifc 135 (Iv n)])] ?_
 refine iF (Aa rfl (jB .eql 27 (.int .i64 8) (.int .i64 8) 41 ?_))
 refine Bj (rfl) ?_
 refine iQ 1 (iE 52 (zT [(40,Ba true)] Z5) [(2,[.ifc 135 (Iv n)])] ?_)
 refine iT (Aa rfl (iQ 3 (eC 161 [Iv n] 45 (a6w) (iQ 1 ?_))))
 let Z6:=zT [(2,.p 2 0),(4,.d (Sv (tx (Gp n)))),(5,Ia 8),(40,Ba true)] []
 let Z7:=zT Z6 (zT Z4 Z3)
 refine iE 52 Z7 [(2,[.ifc 135 (Iv n)])] ?_
 refine Ab (Ai (Ag (iR (Sv (tx (Gp n))) ?_)))
 rfl
theorem a60 {n:Int}:HasC Tryz.prog 134 [.agg [.ifc 138 (.v (.int .i64 n))],.v (.int .i64 9)] (fun r=>r=.v (.string (tx (Ev n)))):=by
 refine hO [] Tryz.f134 (fun a w=>Tryz.call134 a w) Tryz.func134 rfl (⟨_,rfl⟩) ?_
 refine Aa rfl (iQ 2 ?_)
 let Z1:=zT [(1,Ia 9),(2,.p 2 0),(4,.d (Sv (⟨#[]⟩)))] []
 refine iE 52 Z1 [(2,[.ifc 138 (Iv n)])] ?_
 refine Ae (Aa rfl (iQ 1 ?_))
 let Z2:=zT [(2,.p 2 0),(4,.d (Sv (⟨#[]⟩))),(5,Ia 9)] []
 refine iE 52 Z2 [(2,[.ifc 138 (Iv n)])] ?_
 refine Aj (Aa rfl (jB .eql 27 (.int .i64 9) (.int .i64 2) 7 ?_))
 refine An ((by decide)) ?_
 refine iQ 1 (iE 52 (zT [(6,Ba false)] Z2) [(2,[.ifc 138 (Iv n)])] ?_)
 refine iF (Aa rfl (jB .eql 27 (.int .i64 9) (.int .i64 3) 12 ?_))
 refine An ((by decide)) ?_
 refine iQ 1 (iE 52 (zT [(6,Ba false),(11,Ba false)] Z2) [(2,[.ifc 138 (Iv n)])] ?_)
 refine iF (Aa rfl (jB .eql 27 (.int .i64 9) (.int .i64 4) 18 ?_))
 refine An ((by decide)) ?_
 refine iQ 1 ?_
 let Z3:=zT [(6,Ba false),(11,Ba false),(17,Ba false)] []
 refine iE 52 (zT Z3 Z2) [(2,[.ifc 138 (Iv n)])] ?_
 refine iF (Aa rfl (jB .eql 27 (.int .i64 9) (.int .i64 5) 23 ?_))
 refine An ((by decide)) ?_
 refine iQ 1 (iE 52 (zT [(22,Ba false)] (zT Z2 Z3)) [(2,[.ifc 138 (Iv n)])] ?_)
 refine iF (Aa rfl (jB .eql 27 (.int .i64 9) (.int .i64 6) 29 ?_))
 refine An ((by decide)) ?_
 refine iQ 1 (iE 52 (zT [(22,Ba false),(28,Ba false)] (zT Z2 Z3)) [(2,[.ifc 138 (Iv n)])] ?_)
 refine iF (Aa rfl (jB .eql 27 (.int .i64 9) (.int .i64 7) 35 ?_))
 refine An ((by decide)) ?_
 refine iQ 1 ?_
 let Z4:=zT [(22,Ba false),(28,Ba false),(34,Ba false)] []
 let Z5:=zT Z4 (zT Z2 Z3)
 refine iE 52 Z5 [(2,[.ifc 138 (Iv n)])] ?_
 refine iF (Aa rfl (jB .eql 27 (.int .i64 9) (.int .i64 8) 41 ?_))
 refine An ((by decide)) ?_
 refine iQ 1 (iE 52 (zT [(40,Ba false)] Z5) [(2,[.ifc 138 (Iv n)])] ?_)
 refine iF (Aa rfl (jB .eql 27 (.int .i64 9) (.int .i64 9) 47 ?_))
 refine Bj (rfl) ?_
 refine iQ 1 (iE 52 (zT [(40,Ba false),(46,Ba true)] Z5) [(2,[.ifc 138 (Iv n)])] ?_)
 refine iT (Aa rfl (iQ 3 (eC 162 [Iv n] 51 (a02) (iQ 1 ?_))))
 let Z6:=zT [(2,.p 2 0),(4,.d (Sv (tx (Ev n)))),(5,Ia 9),(40,Ba false),(46,Ba true)] []
 let Z7:=zT Z6 (zT Z4 Z3)
 refine iE 52 Z7 [(2,[.ifc 138 (Iv n)])] ?_
 refine Ab (Ai (Ag (iR (Sv (tx (Ev n))) ?_)))
 rfl
theorem b1t {v:Vl} (ov:v.ok) (hk:3≤v.kindI∧v.kindI≤9):HasC Tryz.prog 134 [VV v,.v (.int .i64 v.kindI)] (fun r=>r=.v (.string (tx (plT v)))):=by
 cases v
 case num g n e=>exact HasC.ub (a69 (by rw[Vl.ok] at ov;exact ov))
 case text l=>exact HasC.ub a4s
 case day y m d=>exact HasC.ub a55
 case time s z o=>exact HasC.ub a68
 case mom y m d s z o=>exact HasC.ub a6q
 case days n=>exact HasC.ub a57
 case months n=>exact HasC.ub a60
 all_goals (simp[Vl.kindI] at hk)
theorem a7s {v:Vl} (ov:v.ok) (hk:3≤v.kindI∧v.kindI≤9):HasC Tryz.prog 111 [.agg [.bx (v).enc]] (fun r=>r=.tup [dPl v.kindI (plT v),.v (.bool true)]):=by
 refine hO [] Tryz.f111 (fun a w=>Tryz.call111 a w) Tryz.func111 rfl (⟨_,rfl⟩) ?_
 refine Aa rfl (iQ 3 ?_)
 let Z1:=zH [(2,[Iv 0,Sv (⟨#[]⟩),.sl 0 [],.sl 0 [],Bv false,Bv false])] []
 refine iE 25 [(1,.p 1 0),(2,.p 2 0),(3,Ba false)] (zH [(1,[.bx (v).enc])] Z1) ?_
 refine Aa rfl (iQ 1 (eC 20 [.agg [.bx (v).enc]] 6 (Sx v) (iQ 1 ?_)))
 let Z2:=zT [(1,.p 1 0),(2,.p 2 0),(3,Ba false),(4,Ia v.kindI)] []
 refine iE 25 Z2 (zH [(1,[.bx (v).enc])] Z1) ?_
 refine Ae (Aa rfl (iQ 1 (iE 25 (zT [(7,Ia v.kindI)] Z2) (zH [(1,[.bx (v).enc])] Z1) ?_)))
 refine Aj (Ae (Aa rfl (jB .eql 27 (.int .i64 v.kindI) (.int .i64 10) 9 ?_)))
 refine An ((by omega)) ?_
 refine iQ 1 (iE 25 (zT [(7,Ia v.kindI),(8,Ba false)] Z2) (zH [(1,[.bx (v).enc])] Z1) ?_)
 refine iF (Aa rfl (jB .eql 27 (.int .i64 v.kindI) (.int .i64 11) 10 ?_))
 refine An ((by omega)) ?_
 refine iQ 1 (iE 25 (zT [(7,Ia v.kindI),(8,Ba false)] Z2) (zH [(1,[.bx (v).enc])] Z1) ?_)
 refine iF (Al rfl (jB .eql 27 (.int .i64 v.kindI) (.int .i64 12) 11 ?_))
 refine An ((by omega)) ?_
 refine iQ 1 (iE 25 (zT [(7,Ia v.kindI),(8,Ba false)] Z2) (zH [(1,[.bx (v).enc])] Z1) ?_)
 refine Af (iF (Aa rfl (jB .eql 27 (.int .i64 v.kindI) (.int .i64 13) 18 ?_)))
 refine An ((by omega)) ?_
 refine iQ 1 ?_
 let Z3:=zT [(7,Ia v.kindI),(8,Ba false),(17,Ba false)] []
 refine iE 25 (zT Z3 Z2) (zH [(1,[.bx (v).enc])] Z1) ?_
 refine iF (Ad (Am (Af (Aa rfl (iQ 3 (eC 134 [.agg [.bx (v).enc],Iv v.kindI] 23 (b1t ov hk) (iQ 3 ?_)))))))
 let Z4:=zT [(1,.p 1 0),(2,.p 2 0),(3,Ba true),(4,Ia v.kindI)] []
 let Z5:=zH [(2,[Iv v.kindI,Sv (tx (plT v)),.sl 0 [],.sl 0 [],Bv false,Bv false])] []
 refine iE 25 (zT Z4 Z3) (zH [(1,[.bx (v).enc])] Z5) ?_
 refine Ab (iS (.agg [Iv v.kindI,Sv (tx (plT v)),.sl 0 [],.sl 0 [],Bv false,Bv false]) (Bv true) [] ?_)
 rfl
theorem Vx {v:Vl} (ov:v.ok) (hk:3≤v.kindI∧v.kindI≤9):HasC Tryz.prog 79 [.agg [.bx (v).enc]] (fun r=>r=dPl v.kindI (plT v)):=by
 refine hO [] Tryz.f79 (fun a w=>Tryz.call79 a w) Tryz.func79 rfl (⟨_,rfl⟩) ?_
 refine Aa rfl (iQ 2 ?_)
 let Z1:=zH [(2,[Iv 0,Sv (⟨#[]⟩),.sl 0 [],.sl 0 [],Bv false,Bv false])] []
 refine iE 11 [(1,.p 1 0),(2,.p 2 0)] (zH [(1,[.bx (v).enc])] Z1) ?_
 refine Aa rfl (iQ 1 (eC 111 [.agg [.bx (v).enc]] 7 (a7s ov hk) (iQ 6 ?_)))
 let Z2:=zH [(3,[Iv v.kindI,Sv (tx (plT v)),.sl 0 ([]),.sl 0 ([]),Bv false,Bv false])] []
 refine iE 11 [(2,.p 2 0),(3,.p 3 0)] (zH Z2 Z1) ?_
 refine Aa rfl (iQ 2 ?_)
 let Z3:=zH [(2,[Iv v.kindI,Sv (tx (plT v)),.sl 0 ([]),.sl 0 ([]),Bv false,Bv false])] []
 refine iE 11 [(2,.p 2 0),(3,.p 3 0)] (zH Z3 Z2) ?_
 refine Ab (iR (.agg [Iv v.kindI,Sv (tx (plT v)),.sl 0 ([]),.sl 0 ([]),Bv false,Bv false]) ?_)
 rfl
theorem Rx {a b:Vl} (oa:a.ok) (ob:b.ok):HasC Tryz.prog 37 [VV a,VV b] (fun r => ∃ (c:Int) (ok:Bool),r=.tup [.v (.int .i64 c),.v (.bool ok)]∧(ok=false→Cd a b=none)∧(ok=true→Cd a b=some c)) :=
 (b6i oa ob).mono fun r hr=>⟨_,_,hr,(a3i rfl rfl).2,(a3i rfl rfl).1⟩
theorem a2y {gt:Bool} {s:Int}:HasC Tryz.prog 35 [.sl ((([]:List Vl)).length) (Ap (([]:List Vl))),.v (.bool gt)] (fun r => ∃ w,IsV r w∧ExQ s [] w):=by
 refine hO [] Tryz.f35 (fun a w=>Tryz.call35 a w) Tryz.func35 rfl (⟨_,.null,IsV.null,.inl ⟨rfl,fun h=>h⟩⟩) ?_
 refine Aa rfl (iQ 1 ?_)
 let Z1:=zT [(0,.d (.sl ((([]:List Vl)).length) (Ap (([]:List Vl)))))] []
 refine iE 57 (zT [(1,Ba gt),(4,.p 4 0)] Z1) [(4,[.v (.nilIface)])] ?_
 refine Ae (Aa rfl (iQ 2 (jB .eql 3 (.int .i64 ((((([]:List Vl)).length:Nat):Int))) (.int .i64 0) 12 ?_)))
 refine Bj ((by simp)) ?_
 refine iQ 8 (iE 57 (zT [(1,Ba gt),(4,.p 4 0),(20,Ba true)] Z1) [(4,[.v (.nilIface)])] ?_)
 refine iT (Aa rfl (iQ 2 (iE 57 (zT [(1,Ba gt),(4,.p 4 0),(20,Ba true)] Z1) [(4,[.v (.nilIface)])] ?_)))
 refine Ab (Ag (iR (.agg [.v (.nilIface)]) ?_))
 exact ⟨.null,IsV.null,.inl ⟨rfl,fun h=>h⟩⟩
set_option maxHeartbeats 3200000 in
theorem a4n {v:Vl} {r:List Vl} {gt:Bool} {s:Int} (os:okL (v::r)) (hl:r.length≤1000000) (hs:gt=true∧s = -1∨gt=false∧s=1):HasC Tryz.prog 35 [.sl ((v::r).length) (Ap (v::r)),.v (.bool gt)] (fun q => ∃ w,IsV q w∧ExQ s (v::r) w):=by
 refine hO [] Tryz.f35 (fun a w=>Tryz.call35 a w) Tryz.func35 rfl ((b96 (hs.elim (fun h=>.inr h.2) (fun h=>.inl h.2)) (v::r)).elim fun w hw=>⟨_,w,.inl rfl,hw⟩) ?_
 have hL:(v::r).length=r.length+1:=rfl
 have hsg:s=1∨s = -1:=hs.elim (fun h=>.inr h.2) (fun h=>.inl h.2)
 have hos:=Eu.1 os
 refine Aa rfl (iQ 1 ?_)
 let Z1:=zT [(0,.d (.sl ((v::r).length) (Ap (v::r))))] []
 refine iE 57 (zT [(1,Ba gt),(4,.p 4 0)] Z1) [(4,[.v (.nilIface)])] ?_
 refine Ae (Aa rfl (iQ 2 (jB .eql 3 (.int .i64 ((((v::r).length:Nat):Int))) (.int .i64 0) 12 ?_)))
 refine An ((by omega)) ?_
 refine iQ 2 (Be (q:=0) (n:=((v::r).length)) (cs:=(Ap (v::r))) (d:=.bx (v).enc) (dst:=(some 15)) (by kernel_rfl) (by omega) (by simp[Ap]) ?_)
 refine iQ 1 (eC 20 [.agg [.bx (v).enc]] 17 (Sx v) (jC 36 [Iv v.kindI] 18 (Hj (k:=v.kindI)) ?_))
 rintro _ ⟨od,rfl,hod⟩
 refine jU .not (.bool od) 19 ?_
 intro c19 hc19
 refine iQ 1 (iE 57 (zT [(1,Ba gt),(4,.p 4 0),(20,Ba c19)] Z1) [(4,[.v (.nilIface)])] ?_)
 cases c19
 ·replace hc19:=bf hc19
  have hk:3≤v.kindI∧v.kindI≤9:=hod.1 (by simpa using hc19)
  refine iF (Ad (Af (Aa rfl (iQ 1 (Be (q:=0) (n:=((v::r).length)) (cs:=(Ap (v::r))) (d:=.bx (v).enc) (dst:=(some 23)) (by kernel_rfl) (by omega) (by simp[Ap]) ?_)))))
  refine iQ 3 ?_
  let Z2:=zT [(1,Ba gt),(4,.p 4 0),(5,.p 5 0),(20,Ba false)] []
  refine iE 57 (zT Z2 Z1) [(4,[.v (.nilIface)]),(5,[.bx (v).enc])] ?_
  refine Ae (Aa rfl (iQ 1 (a2s (l:=1) (u:=((((v::r).length:Nat):Int))) (n:=((v::r).length)) (cs:=(Ap (v::r))) (z:=1) (m:=((r).length)) (ds:=(Ap (r))) (dst:=(some 26)) (by kernel_rfl) (by omega) (by omega) (by simp[Ap,List.take_of_length_le]) ?_)))
  refine iQ 2 ?_
  let Z3:=zT [(26,.d (.sl ((r).length) (Ap (r)))),(27,Ia ((((r).length:Nat):Int))),(28,Ia 0)] []
  let Z4:=zT Z3 (zT Z2 Z1)
  refine iE 57 Z4 [(4,[.v (.nilIface)]),(5,[.bx (v).enc])] ?_
  refine Aj (Bm 57 (fun (vcx:Nat×Int×Vl)=>match vcx with | (k,z,w)=>[(0,.d (.sl ((v::r).length) (Ap (v::r)))),(1,Ba gt),(4,.p 4 0),(5,.p 5 0),(20,Ba false),(26,.d (.sl ((r).length) (Ap (r)))),(27,Ia ((((r).length:Nat):Int))),(28,Ia z)]) (fun (vcx:Nat×Int×Vl)=>match vcx with | (k,z,w)=>[(4,[.v (.nilIface)]),(5,[.bx (w).enc])]) (fun (vcx:Nat×Int×Vl)=>match vcx with | (k,z,w)=>z=k∧k≤r.length∧ExI s (v::r.take k) w) (fun (vcx:Nat×Int×Vl)=>match vcx with | (k,z,w)=>r.length-k) ((0,0,v)) (⟨rfl,Nat.zero_le _,a27 hk (Sw hk)⟩) (by kernel_rfl) (by kernel_rfl) ?_)
  rintro ⟨k,z,w⟩ hinv
  simp only at hinv
  obtain ⟨h1,h2,h3⟩:=hinv
  have hsub : ∀ y ∈ v::r.take k,y ∈ v::r:=fun y hy=>by rcases List.mem_cons.1 hy with e | e;exact List.mem_cons.2 (.inl e);exact List.mem_cons_of_mem _ (List.mem_of_mem_take e)
  refine Aa rfl (jB .lss 3 (.int .i64 z) (.int .i64 ((((r).length:Nat):Int))) 29 ?_)
  intro c29 hc29
  let Z5:=zT [(26,.d (.sl ((r).length) (Ap (r)))),(27,Ia ((((r).length:Nat):Int))),(28,Ia z),(29,Ba c29)] []
  let Z6:=zT Z5 (zT Z2 Z1)
  refine iE 57 Z6 [(4,[.v (.nilIface)]),(5,[.bx (w).enc])] ?_
  refine Ae ?_
  cases c29
  ·replace hc29:=bf hc29
   have e:r.take k=r:=List.take_of_length_le (by omega)
   rw[e] at h3
   refine iF (Bf (Ca (Bn (Bg rfl (Af (Aa rfl (iQ 2 ?_)))))))
   let Z7:=zT [(26,.d (.sl ((r).length) (Ap (r)))),(27,Ia ((((r).length:Nat):Int))),(28,Ia z),(29,Ba false)] []
   let Z8:=zT Z7 (zT Z2 Z1)
   refine iE 57 Z8 [(4,[.bx (w).enc]),(5,[.bx (w).enc])] ?_
   refine Ab (iR (.agg [.bx (w).enc]) ?_)
   exact ⟨w,.inl rfl,.inr ⟨b3m hk h3,h3,Zi h3 (List.mem_cons_self ..) hk⟩⟩
  ·replace hc29:=bt hc29
   obtain ⟨x,hx⟩ : ∃ x,r[k]? = some x:=⟨_,List.getElem?_eq_getElem (by omega)⟩
   have hxm:x ∈ v::r:=List.mem_cons_of_mem _ (List.mem_of_getElem? hx)
   have et:v::r.take (k+1)=(v::r.take k) ++ [x]:=by rw[List.take_add_one,hx];rfl
   refine iT (Ad (Af (Ae (Aj (Aa rfl (Be (q:=z) (n:=((r).length)) (cs:=(Ap (r))) (d:=.bx (x).enc) (dst:=(some 30)) (by kernel_rfl) (by omega) (by rw[h1,Int.toNat_natCast];exact Ec hx) ?_))))))
   refine iQ 3 ?_
   let Z9:=zT [(7,.p 7 0),(26,.d (.sl ((r).length) (Ap (r)))),(27,Ia ((((r).length:Nat):Int))),(28,Ia z),(29,Ba true)] []
   let Z10:=zT Z9 (zT Z2 Z1)
   let Z11:=zH [(4,[.v (.nilIface)]),(5,[.bx (w).enc]),(7,[.bx (x).enc])] []
   refine iE 57 Z10 Z11 ?_
   refine Aa rfl (iQ 2 (jC 37 [.agg [.bx (x).enc],.agg [.bx (w).enc]] 35 (Rx (a:=x) (b:=w) (hos x hxm) (hos w (hsub w (Kn h3)))) ?_))
   rintro _ ⟨c,ok,rfl,hn,hy⟩
   refine iQ 5 (iE 57 (zT [(8,Ia c),(9,Ba ok)] Z10) Z11 ?_)
   refine Ae (Aa rfl (iQ 1 (jU .not (.bool ok) 39 ?_)))
   intro c39 hc39
   refine iE 57 (zT [(8,Ia c),(9,Ba ok),(39,Ba c39)] Z10) Z11 ?_
   cases c39
   ·replace hc39:=bf hc39
    have hyy:=hy (by simpa using hc39)
    refine iF (Ad (Af (Aa rfl (iQ 2 ?_))))
    cases gt
    ·refine iQ 5 (jU .not (.bool false) 48 ?_)
     have hs1:s=1:=by rcases hs with h | h;exact absurd h.1 (by simp);exact h.2
     refine Bj ((by simp)) ?_
     refine iQ 2 (jB .lss 3 (.int .i64 c) (.int .i64 0) 51 ?_)
     intro c51 hc51
     refine iQ 2 ?_
     let Z12:=zT [(1,Ba false),(4,.p 4 0),(5,.p 5 0),(8,Ia c),(9,Ba ok),(20,Ba false),(39,Ba false),(53,Ba c51)] []
     let Z13:=zT Z12 (zT Z9 Z1)
     refine iE 57 Z13 Z11 ?_
     cases c51
     ·replace hc51:=bf hc51
      refine iF (Ad (Am (Af (Al rfl (jB .add 3 (.int .i64 z) (.int .i64 1) 55 ?_)))))
      intro z55 hz55
      try replace hz55:=hz55.i64 (by omega)
      refine iQ 1 ?_
      let Z14:=zT [(1,Ba false),(4,.p 4 0),(5,.p 5 0),(7,.p 7 0),(8,Ia c),(9,Ba ok),(20,Ba false),(26,.d (.sl ((r).length) (Ap (r)))),(27,Ia ((((r).length:Nat):Int))),(28,Ia z55),(29,Ba true),(39,Ba false),(53,Ba false)] []
      refine iE 57 (zT Z14 Z1) Z11 ?_
      refine Bh (k+1,z55,w) (⟨by omega,by omega,by rw[et];exact Sm hsg h3 hyy (by rw[hs1];omega)⟩) (by simp only;omega) (by kernel_rfl) (by kernel_rfl)
     ·replace hc51:=bt hc51
      refine iT (Al rfl (iQ 2 ?_))
      let Z15:=zT [(1,Ba false),(4,.p 4 0),(5,.p 5 0),(8,Ia c),(9,Ba ok),(20,Ba false),(39,Ba false),(53,Ba true)] []
      let Z16:=zT Z15 (zT Z9 Z1)
      let Z17:=zH [(4,[.v (.nilIface)]),(5,[.bx (x).enc]),(7,[.bx (x).enc])] []
      refine iE 57 Z16 Z17 ?_
      refine Am (Af (Al rfl (jB .add 3 (.int .i64 z) (.int .i64 1) 55 ?_)))
      intro z55 hz55
      try replace hz55:=hz55.i64 (by omega)
      refine iQ 1 ?_
      let Z18:=zT [(7,.p 7 0),(26,.d (.sl ((r).length) (Ap (r)))),(27,Ia ((((r).length:Nat):Int))),(28,Ia z55),(29,Ba true)] []
      let Z19:=zT Z18 (zT Z15 Z1)
      refine iE 57 Z19 Z17 ?_
      refine Bh (k+1,z55,x) (⟨by omega,by omega,by rw[et];exact Sf hsg h3 hyy (by rw[hs1];omega)⟩) (by simp only;omega) (by kernel_rfl) (by kernel_rfl)
    ·refine iQ 1 (jB .gtr 3 (.int .i64 c) (.int .i64 0) 44 ?_)
     have hs1:s = -1:=by rcases hs with h | h;exact h.2;exact absurd h.1 (by simp)
     intro c44 hc44
     refine iQ 2 ?_
     cases c44
     ·replace hc44:=bf hc44
      refine iQ 1 (jU .not (.bool true) 48 ?_)
      refine An ((by simp)) ?_
      refine iQ 5 ?_
      let Z20:=zT [(1,Ba true),(4,.p 4 0),(5,.p 5 0),(8,Ia c),(9,Ba ok),(20,Ba false),(39,Ba false),(53,Ba false)] []
      let Z21:=zT Z20 (zT Z9 Z1)
      refine iE 57 Z21 Z11 ?_
      refine iF (Ad (Am (Af (Al rfl (jB .add 3 (.int .i64 z) (.int .i64 1) 55 ?_)))))
      intro z55 hz55
      try replace hz55:=hz55.i64 (by omega)
      refine iQ 1 ?_
      let Z22:=zT [(7,.p 7 0),(26,.d (.sl ((r).length) (Ap (r)))),(27,Ia ((((r).length:Nat):Int))),(28,Ia z55),(29,Ba true)] []
      let Z23:=zT Z22 (zT Z20 Z1)
      refine iE 57 Z23 Z11 ?_
      refine Bh (k+1,z55,w) (⟨by omega,by omega,by rw[et];exact Sm hsg h3 hyy (by rw[hs1];omega)⟩) (by simp only;omega) (by kernel_rfl) (by kernel_rfl)
     ·replace hc44:=bt hc44
      refine iQ 7 ?_
      let Z24:=zT [(1,Ba true),(4,.p 4 0),(5,.p 5 0),(8,Ia c),(9,Ba ok),(20,Ba false),(39,Ba false),(53,Ba true)] []
      let Z25:=zT Z24 (zT Z9 Z1)
      refine iE 57 Z25 Z11 ?_
      refine iT (Al rfl (iQ 2 ?_))
      let Z26:=zH [(4,[.v (.nilIface)]),(5,[.bx (x).enc]),(7,[.bx (x).enc])] []
      refine iE 57 Z25 Z26 ?_
      refine Am (Af (Al rfl (jB .add 3 (.int .i64 z) (.int .i64 1) 55 ?_)))
      intro z55 hz55
      try replace hz55:=hz55.i64 (by omega)
      refine iQ 1 ?_
      let Z27:=zT [(7,.p 7 0),(26,.d (.sl ((r).length) (Ap (r)))),(27,Ia ((((r).length:Nat):Int))),(28,Ia z55),(29,Ba true)] []
      let Z28:=zT Z27 (zT Z24 Z1)
      refine iE 57 Z28 Z26 ?_
      refine Bh (k+1,z55,x) (⟨by omega,by omega,by rw[et];exact Sf hsg h3 hyy (by rw[hs1];omega)⟩) (by simp only;omega) (by kernel_rfl) (by kernel_rfl)
   ·replace hc39:=bt hc39
    refine iT (Aa rfl (iQ 2 ?_))
    let Z29:=zT [(1,Ba gt),(4,.p 4 0),(5,.p 5 0),(8,Ia c),(9,Ba ok),(20,Ba false),(39,Ba true)] []
    let Z30:=zT Z29 (zT Z9 Z1)
    refine iE 57 Z30 Z11 ?_
    refine Ab (Ag (Ai (Ag (Dj (Ai (Ag (iR (.agg [.v (.nilIface)]) ?_)))))))
    exact ⟨.null,IsV.null,.inl ⟨rfl,a3l h3 hsub (List.mem_cons_self ..) hxm (hn (by simpa using hc39))⟩⟩
 ·replace hc19:=bt hc19
  refine iT (Aa rfl (iQ 2 (iE 57 (zT [(1,Ba gt),(4,.p 4 0),(20,Ba true)] Z1) [(4,[.v (.nilIface)])] ?_)))
  refine Ab (Ag (iR (.agg [.v (.nilIface)]) ?_))
  exact ⟨.null,IsV.null,.inl ⟨rfl,fun h=>by have:=hod.2 h.1;rw[this] at hc19;cases hc19⟩⟩
theorem Kx {vs:List Vl} {gt:Bool} {s:Int} (os:okL vs) (hl:vs.length≤1000000) (hs:gt=true∧s = -1∨gt=false∧s=1):HasC Tryz.prog 35 [.sl vs.length (Ap vs),.v (.bool gt)] (fun q => ∃ w,q=VV w∧ExQ s vs w):=by
 cases vs with
 | nil=>exact a2y.isV
 | cons v r=>exact (a4n os (by simp at hl;omega) hs).isV
theorem Fp {vs:List Vl} {v:Vl} {z:Int} (os:okL vs) (ov:v.ok) (h:vs.length≤1000000):HasC Tryz.prog 38 [.sl ((vs).length) (Ap (vs)),.agg [.bx (v).enc],.v (.int .i64 z)] (fun r=>r=.v (.int .i64 (Ke v z vs:Nat))):=by
 refine hO [] Tryz.f38 (fun a w=>Tryz.call38 a w) Tryz.func38 rfl (⟨_,rfl⟩) ?_
 have hos:=Eu.1 os
 refine Aa rfl (iQ 2 ?_)
 let Z1:=zT [(0,.d (.sl ((vs).length) (Ap (vs)))),(2,Ia z),(4,.p 4 0),(6,Ia 0)] []
 refine iE 35 Z1 [(4,[.bx (v).enc])] ?_
 refine Aa rfl (iQ 1 (iE 35 (zT [(7,Ia 0)] Z1) [(4,[.bx (v).enc])] ?_))
 refine Ae (Aa rfl (iQ 1 (iE 35 (zT [(7,Ia 0),(8,Ia 0)] Z1) [(4,[.bx (v).enc])] ?_)))
 refine Aj (Bm 35 (fun (vcx:Nat×Nat×Int×Int)=>match vcx with | (k,n,zk,zn)=>[(0,.d (.sl ((vs).length) (Ap (vs)))),(2,Ia z),(4,.p 4 0),(6,Ia 0),(7,Ia zn),(8,Ia zk)]) (fun (vcx:Nat×Nat×Int×Int)=>match vcx with | (k,n,zk,zn)=>[(4,[.bx (v).enc])]) (fun (vcx:Nat×Nat×Int×Int)=>match vcx with | (k,n,zk,zn)=>zk=k∧zn=n∧k≤vs.length∧n≤k∧Ke v z (vs.take k)=n) (fun (vcx:Nat×Nat×Int×Int)=>match vcx with | (k,n,zk,zn)=>vs.length-k) ((0,0,0,0)) (⟨rfl,rfl,Nat.zero_le _,Nat.le_refl _,rfl⟩) (by kernel_rfl) (by kernel_rfl) ?_)
 rintro ⟨k,n,zk,zn⟩ hinv
 simp only at hinv
 obtain ⟨h1,h2,h3,h4,h5⟩:=hinv
 refine Ae (Aa rfl (iQ 3 (jB .lss 3 (.int .i64 zk) (.int .i64 ((((vs).length:Nat):Int))) 14 ?_)))
 intro c14 hc14
 refine iE 35 (zT [(7,Ia zn),(8,Ia zk),(14,Ba c14)] Z1) [(4,[.bx (v).enc])] ?_
 cases c14
 ·replace hc14:=bf hc14
  have hk:k=vs.length:=by omega
  refine iF (Bf (Ca (Bn (Bg rfl (Af (Aa rfl (iQ 2 ?_)))))))
  let Z2:=zT [(0,.d (.sl ((vs).length) (Ap (vs)))),(2,Ia z),(4,.p 4 0),(6,Ia zn),(7,Ia zn),(8,Ia zk),(14,Ba false)] []
  refine iE 35 Z2 [(4,[.bx (v).enc])] ?_
  refine Ab (iR (Iv zn) ?_)
  rw[h2,← h5,hk,List.take_length]
 ·replace hc14:=bt hc14
  obtain ⟨y,hy⟩ : ∃ y,vs[k]? = some y:=⟨_,List.getElem?_eq_getElem (by omega)⟩
  have hm:=a64 (w:=v) (z:=z) hy
  refine iT (Ad (Af (Ae (Aj (Aa rfl (iQ 2 (Be (q:=zk) (n:=((vs).length)) (cs:=(Ap (vs))) (d:=.bx (y).enc) (dst:=(some 20)) (by kernel_rfl) (by omega) (by rw[h1,Int.toNat_natCast];exact Ec hy) ?_)))))))
  refine iQ 2 (jC 37 [.agg [.bx (y).enc],.agg [.bx (v).enc]] 23 (Rx (a:=y) (b:=v) (hos y (List.mem_of_getElem? hy)) ov) ?_)
  rintro _ ⟨c,ok,rfl,hno,hye⟩
  refine iQ 5 ?_
  let Z3:=zT [(7,Ia zn),(8,Ia zk),(9,Ia c),(10,Ba ok),(14,Ba true)] []
  refine iE 35 (zT Z3 Z1) [(4,[.bx (v).enc])] ?_
  refine Aa rfl (iQ 2 ?_)
  cases ok
  ·refine iQ 4 ?_
   let Z4:=zT [(7,Ia zn),(8,Ia zk),(9,Ia c),(10,Ba false),(14,Ba true),(31,Ba false)] []
   refine iE 35 (zT Z4 Z1) [(4,[.bx (v).enc])] ?_
   rw[if_neg (by rw[hno rfl];intro h;cases h)] at hm
   refine iF (Ad (Am (Af (Al rfl (iQ 1 (jB .add 3 (.int .i64 zk) (.int .i64 1) 16 ?_))))))
   intro z16 hz16
   try replace hz16:=hz16.i64 (by omega)
   refine iQ 1 ?_
   let Z5:=zT [(7,Ia zn),(8,Ia z16),(9,Ia c),(10,Ba false),(14,Ba true),(31,Ba false)] []
   refine iE 35 (zT Z5 Z1) [(4,[.bx (v).enc])] ?_
   refine Bh (k+1,n,z16,zn) (⟨by omega,h2,by omega,by omega,by omega⟩) (by simp only;omega) (by kernel_rfl) (by kernel_rfl)
  ·refine iQ 2 (jB .eql 3 (.int .i64 c) (.int .i64 z) 30 ?_)
   replace hye:=hye rfl
   intro c30 hc30
   refine iQ 1 ?_
   let Z6:=zT [(7,Ia zn),(8,Ia zk),(9,Ia c),(10,Ba true),(14,Ba true),(31,Ba c30)] []
   refine iE 35 (zT Z6 Z1) [(4,[.bx (v).enc])] ?_
   cases c30
   ·replace hc30:=bf hc30
    rw[if_neg (by rw[hye];intro h;exact hc30 (Option.some.inj h))] at hm
    refine iF (Ad (Am (Af (Al rfl (iQ 1 (jB .add 3 (.int .i64 zk) (.int .i64 1) 16 ?_))))))
    intro z16 hz16
    try replace hz16:=hz16.i64 (by omega)
    refine iQ 1 ?_
    let Z7:=zT [(7,Ia zn),(8,Ia z16),(9,Ia c),(10,Ba true),(14,Ba true),(31,Ba false)] []
    refine iE 35 (zT Z7 Z1) [(4,[.bx (v).enc])] ?_
    refine Bh (k+1,n,z16,zn) (⟨by omega,h2,by omega,by omega,by omega⟩) (by simp only;omega) (by kernel_rfl) (by kernel_rfl)
   ·replace hc30:=bt hc30
    rw[if_pos (by rw[hye,hc30])] at hm
    refine iT (Al rfl (iQ 1 (jB .add 3 (.int .i64 zn) (.int .i64 1) 33 ?_)))
    intro z33 hz33
    try replace hz33:=hz33.i64 (by omega)
    refine iQ 1 ?_
    let Z8:=zT [(7,Ia z33),(8,Ia zk),(9,Ia c),(10,Ba true),(14,Ba true),(31,Ba true)] []
    refine iE 35 (zT Z8 Z1) [(4,[.bx (v).enc])] ?_
    refine Am (Af (Al rfl (iQ 1 (jB .add 3 (.int .i64 zk) (.int .i64 1) 16 ?_))))
    intro z16 hz16
    try replace hz16:=hz16.i64 (by omega)
    refine iQ 1 ?_
    let Z9:=zT [(7,Ia z33),(8,Ia z16),(9,Ia c),(10,Ba true),(14,Ba true),(31,Ba true)] []
    refine iE 35 (zT Z9 Z1) [(4,[.bx (v).enc])] ?_
    refine Bh (k+1,n+1,z16,z33) (⟨by omega,by omega,by omega,by omega,by omega⟩) (by simp only;omega) (by kernel_rfl) (by kernel_rfl)
theorem a1g {vs:List Vl} {v y:Vl} {k K:Nat} (h2:k≤K) (hK:vs[K]? = some v) (hy:vs[k]? = some y) (hvv:Cd v v=some 0) (hn:Cd y v≠some 0):k<K :=
 Nat.lt_of_le_of_ne h2 fun e=>by
  subst e
  rw[hK] at hy
  cases hy
  exact hn hvv
theorem b1z {vs:List Vl} {v y:Vl} {k K:Nat} (h2:k≤K) (hK:vs[K]? = some v) (hy:vs[k]? = some y) (hb : ∀ (j:Nat) (x:Vl),j<K→vs[j]? = some x→Cd x v≠some 0) (h:Cd y v=some 0):y=v:=by
 rcases Nat.lt_or_eq_of_le h2 with q | q
 ·exact absurd h (hb k y q hy)
 ·subst q
  rw[hK] at hy
  cases hy
  rfl
set_option maxHeartbeats 3200000 in
theorem Ql {vs:List Vl} {v:Vl} {s:Int} (os:okL vs) (hx:ExI s vs v) (hk:3≤v.kindI∧v.kindI≤9) (h:vs.length≤1000000):HasC Tryz.prog 39 [.sl ((vs).length) (Ap (vs)),.agg [.bx (v).enc]] (fun r=>r=.v (.bool true)):=by
 refine hO [] Tryz.f39 (fun a w=>Tryz.call39 a w) Tryz.func39 rfl (⟨_,rfl⟩) ?_
 have hos:=Eu.1 os
 have ov:=hos v (Kn hx)
 obtain ⟨c0,hv0,_⟩:=hx.2 v (Kn hx)
 have hvv:=Mi hv0
 obtain ⟨K,hK,hb⟩:=hx.1
 have hKl:=(List.getElem?_eq_some_iff.1 hK).1
 refine Aa rfl (iQ 2 ?_)
 let Z1:=zT [(0,.d (.sl ((vs).length) (Ap (vs)))),(3,.p 3 0),(4,Ba false)] []
 refine iE 38 Z1 [(3,[.bx (v).enc])] ?_
 refine Ae (Aa rfl (iQ 1 (iE 38 (zT [(5,Ia 0)] Z1) [(3,[.bx (v).enc])] ?_)))
 refine Aj (Bm 38 (fun (vcx:Nat×Int)=>match vcx with | (k,z)=>[(0,.d (.sl ((vs).length) (Ap (vs)))),(3,.p 3 0),(4,Ba false),(5,Ia z)]) (fun (vcx:Nat×Int)=>match vcx with | (k,z)=>[(3,[.bx (v).enc])]) (fun (vcx:Nat×Int)=>match vcx with | (k,z)=>z=k∧k≤K) (fun (vcx:Nat×Int)=>match vcx with | (k,z)=>K-k) ((0,0)) (⟨rfl,Nat.zero_le _⟩) (by kernel_rfl) (by kernel_rfl) ?_)
 rintro ⟨k,z⟩ hinv
 simp only at hinv
 obtain ⟨h1,h2⟩:=hinv
 refine Ae (Aa rfl (iQ 3 (jB .lss 3 (.int .i64 z) (.int .i64 ((((vs).length:Nat):Int))) 11 ?_)))
 refine Bj ((by omega)) ?_
 obtain ⟨y,hy⟩ : ∃ y,vs[k]? = some y:=⟨_,List.getElem?_eq_getElem (by omega)⟩
 refine iE 38 (zT [(5,Ia z),(11,Ba true)] Z1) [(3,[.bx (v).enc])] ?_
 refine iT (Ad (Af (Ae (Aj (Aa rfl (iQ 2 (Be (q:=z) (n:=((vs).length)) (cs:=(Ap (vs))) (d:=.bx (y).enc) (dst:=(some 17)) (by kernel_rfl) (by omega) (by rw[h1,Int.toNat_natCast];exact Ec hy) ?_)))))))
 refine iQ 2 (jC 37 [.agg [.bx (y).enc],.agg [.bx (v).enc]] 20 (Rx (a:=y) (b:=v) (hos y (List.mem_of_getElem? hy)) ov) ?_)
 rintro _ ⟨c,ok,rfl,hno,hye⟩
 refine iQ 5 ?_
 let Z2:=zT [(5,Ia z),(6,Ia c),(7,Ba ok),(11,Ba true)] []
 refine iE 38 (zT Z2 Z1) [(3,[.bx (v).enc])] ?_
 refine Aa rfl (iQ 2 ?_)
 cases ok
 ·refine iQ 3 ?_
  let Z3:=zT [(5,Ia z),(6,Ia c),(7,Ba false),(11,Ba true),(27,Ba false)] []
  refine iE 38 (zT Z3 Z1) [(3,[.bx (v).enc])] ?_
  have hlt:k<K:=a1g h2 hK hy hvv (by rw[hno rfl];intro h;cases h)
  refine iF (Ad (Am (Af (Al rfl (iQ 1 (jB .add 3 (.int .i64 z) (.int .i64 1) 13 ?_))))))
  intro z13 hz13
  try replace hz13:=hz13.i64 (by omega)
  refine iQ 1 ?_
  let Z4:=zT [(5,Ia z13),(6,Ia c),(7,Ba false),(11,Ba true),(27,Ba false)] []
  refine iE 38 (zT Z4 Z1) [(3,[.bx (v).enc])] ?_
  refine Bh (k+1,z13) (⟨by omega,by omega⟩) (by simp only;omega) (by kernel_rfl) (by kernel_rfl)
 ·refine iQ 1 (jB .eql 3 (.int .i64 c) (.int .i64 0) 26 ?_)
  replace hye:=hye rfl
  intro c26 hc26
  refine iQ 1 ?_
  let Z5:=zT [(5,Ia z),(6,Ia c),(7,Ba true),(11,Ba true),(27,Ba c26)] []
  refine iE 38 (zT Z5 Z1) [(3,[.bx (v).enc])] ?_
  cases c26
  ·replace hc26:=bf hc26
   have hlt:k<K:=a1g h2 hK hy hvv (by rw[hye];intro h;exact hc26 (Option.some.inj h))
   refine iF (Ad (Am (Af (Al rfl (iQ 1 (jB .add 3 (.int .i64 z) (.int .i64 1) 13 ?_))))))
   intro z13 hz13
   try replace hz13:=hz13.i64 (by omega)
   refine iQ 1 ?_
   let Z6:=zT [(5,Ia z13),(6,Ia c),(7,Ba true),(11,Ba true),(27,Ba false)] []
   refine iE 38 (zT Z6 Z1) [(3,[.bx (v).enc])] ?_
   refine Bh (k+1,z13) (⟨by omega,by omega⟩) (by simp only;omega) (by kernel_rfl) (by kernel_rfl)
  ·replace hc26:=bt hc26
   have hyv:y=v:=b1z h2 hK hy hb (by rw[hye,hc26])
   refine iT (Aa rfl (iQ 2 (Be (q:=z) (n:=((vs).length)) (cs:=(Ap (vs))) (d:=.bx (y).enc) (dst:=(some 30)) (by kernel_rfl) (by omega) (by rw[h1,Int.toNat_natCast];exact Ec hy) ?_)))
   refine iQ 1 (eC 79 [.agg [.bx (y).enc]] 32 (Vx (hos y (List.mem_of_getElem? hy)) (by rw[hyv];exact hk)) (iQ 2 (eC 79 [.agg [.bx (v).enc]] 35 (Vx ov hk) (iQ 1 (jB .eql 9 (.string (tx (plT y))) (.string (tx (plT v))) 37 ?_)))))
   refine Bj ((by rw[hyv])) ?_
   refine iQ 1 ?_
   let Z7:=zT [(0,.d (.sl ((vs).length) (Ap (vs)))),(3,.p 3 0),(4,Ba true),(5,Ia z),(6,Ia c),(7,Ba true),(11,Ba true),(27,Ba true)] []
   refine iE 38 Z7 [(3,[.bx (v).enc])] ?_
   refine Ab (Ai (Ag (Dj (Ai (Ag (iR (Bv true) ?_))))))
   rfl
end Go.Proofs.YtdkgnmiiibpnnaaGreatDoor
