/- casuistlaw22: awake; ListfunTruths. ListfunTruths. -/
import Derived.Test.YtfkfpkhgoijfdaaGreatDoorLfR
namespace Go.Proofs.YtfkfpkhgoijfdaaGreatDoor
open Go.RowKit
set_option linter.unusedVariables false
set_option linter.unusedSimpArgs false
set_option maxRecDepth 100000
theorem Yx (k:Int) (t:L8) (is:List Dm) (ns:List L8) (p q:Bool) (hs:(Dm.mk k t is ns p q).lenD):HasC Tryz.prog 28 [Ov k t is ns p q,Ov k t is ns p q] (fun y=>y=.v (.bool true)) :=
 a73 hs fun k' t' is' ns' p' q' hm=>Yx k' t' is' ns' p' q' (by rw[Dm.lenD] at hs;exact Jx.1 hs.2.2 _ hm)
termination_by SizeOf.sizeOf is
decreasing_by
 have:=List.sizeOf_lt_of_mem hm
 simp at this
 omega
theorem Qz {ds:List Dm} (hl:ds.length≤1073741824) (hs:Hb ds):HasC Tryz.prog 14 [.sl ((ds).length) (Ad (ds)),.sl ((ds).length) (Ad (ds))] (fun r=>r=.v (.bool true)):=by
 refine hO [] Tryz.f14 (fun a w=>Tryz.call14 a w) Tryz.func14 rfl (⟨_,rfl⟩) ?_
 refine Aa rfl (iQ 1 ?_)
 let Z1:=zT [(0,.d (.sl ((ds).length) (Ad (ds)))),(1,.d (.sl ((ds).length) (Ad (ds)))),(4,Ba false)] []
 refine iE 27 Z1 [] ?_
 refine Af (Aa rfl (iQ 4 (jB .neq 3 (.int .i64 ((((ds).length:Nat):Int))) (.int .i64 ((((ds).length:Nat):Int))) 10 ?_)))
 refine Am ((by simp)) ?_
 refine iE 27 (zT [(10,Ba false)] Z1) [] ?_
 refine iF (Ae (Ag (Af (Aa rfl (iQ 1 (iE 27 (zT [(5,Ia 0),(10,Ba false)] Z1) [] ?_))))))
 refine Al (Bq 27 (fun (vcx:Nat×Int)=>match vcx with | (j,z)=>[(0,.d (.sl ((ds).length) (Ad (ds)))),(1,.d (.sl ((ds).length) (Ad (ds)))),(4,Ba false),(5,Ia z),(10,Ba false)]) (fun (vcx:Nat×Int)=>match vcx with | (j,z)=>[]) (fun (vcx:Nat×Int)=>match vcx with | (j,z)=>z=j∧j≤ds.length) (fun (vcx:Nat×Int)=>match vcx with | (j,z)=>ds.length-j) ((0,0)) (⟨rfl,Nat.zero_le _⟩) (by kernel_rfl) (by kernel_rfl) ?_)
 rintro ⟨j,z⟩ hinv
 simp only at hinv
 obtain ⟨h1,h2⟩:=hinv
 refine Af (Aa rfl (iQ 3 (jB .lss 3 (.int .i64 z) (.int .i64 ((((ds).length:Nat):Int))) 14 ?_)))
 intro c14 hc14
 refine iE 27 (zT [(5,Ia z),(10,Ba false),(14,Ba c14)] Z1) [] ?_
 cases c14
 ·replace hc14:=bf hc14
  refine iF (Bj (Ck (Bt (Bk rfl (Ag (Aa rfl (iQ 1 ?_)))))))
  let Z2:=zT [(0,.d (.sl ((ds).length) (Ad (ds)))),(1,.d (.sl ((ds).length) (Ad (ds)))),(4,Ba true),(5,Ia z),(10,Ba false),(14,Ba false)] []
  refine iE 27 Z2 [] ?_
  refine Ab (iR (Bv true) ?_)
  rfl
 ·replace hc14:=bt hc14
  obtain ⟨⟨k',t',is',ns',p',q'⟩,hm⟩ : ∃ d,ds[j]? = some d:=⟨_,List.getElem?_eq_getElem (by omega)⟩
  refine iT (Ae (Ag (Af (Al (Aa rfl (iQ 2 (Eh (q:=z) (n:=((ds).length)) (cs:=(Ad (ds))) (z:=6) (ds:=[.v (.int .i64 k'),.v (.string (tx t')),.sl ((is').length) (Ad (is')),.sl ((ns').length) (Av (ns')),.v (.bool p'),.v (.bool q')]) (dst:=(some 19)) (by kernel_rfl) (by omega) (by rw[h1,Int.toNat_natCast];exact (Co hm).trans (by rw[Dm.cells])) ?_)))))))
  refine iQ 3 (Eh (q:=z) (n:=((ds).length)) (cs:=(Ad (ds))) (z:=6) (ds:=[.v (.int .i64 k'),.v (.string (tx t')),.sl ((is').length) (Ad (is')),.sl ((ns').length) (Av (ns')),.v (.bool p'),.v (.bool q')]) (dst:=(some 23)) (by kernel_rfl) (by omega) (by rw[h1,Int.toNat_natCast];exact (Co hm).trans (by rw[Dm.cells])) ?_)
  refine iQ 1 (eC 28 [.agg [Iv k',Sv (tx t'),.sl ((is').length) (Ad (is')),.sl ((ns').length) (Av (ns')),Bv p',Bv q'],.agg [Iv k',Sv (tx t'),.sl ((is').length) (Ad (is')),.sl ((ns').length) (Av (ns')),Bv p',Bv q']] 25 (Yx k' t' is' ns' p' q' (Jx.1 hs _ (List.mem_of_getElem? hm))) (jU .not (.bool true) 26 ?_))
  refine Am ((by simp)) ?_
  let Z3:=zT [(5,Ia z),(10,Ba false),(14,Ba true),(26,Ba false)] []
  refine iE 27 (zT Z3 Z1) [] ?_
  refine iF (Ae (Ar (Ag (Aq rfl (iQ 1 (jB .add 3 (.int .i64 z) (.int .i64 1) 16 ?_))))))
  intro z16 hz16
  try replace hz16:=hz16.i64 (by omega)
  refine iQ 1 ?_
  let Z4:=zT [(5,Ia z16),(10,Ba false),(14,Ba true),(26,Ba false)] []
  refine iE 27 (zT Z4 Z1) [] ?_
  refine Bw (j+1,z16) (⟨by omega,by omega⟩) (by show ds.length-(j+1)<ds.length-j;omega) (by kernel_rfl) (by kernel_rfl)
theorem b6l {n:Int} (h0 : -1000≤n) (h1:n≤1000):(Bu n).ok:=b4t (by omega) (by omega)
theorem i_pl {n:Int} (h0 : -1000≤n) (h1:n≤1000):PlC (Bu n):=Dt (b6l h0 h1) (by simp[Bu,Vl.kindI])
abbrev b4c:List Vl:=[Bu 1,Bu 2,Bu 3]
theorem b0x:HasC Tryz.prog 19 [.sl 2 (An [Bu 1,.list [Bu 2,.list [Bu 3]]])] (fun r=>r=VV (.list b4c)) :=
 (Ks (vs:=[Bu 1,.list [Bu 2,.list [Bu 3]]]) (by simp[okL,Vl.ok,b6l]) (by decide) (by simp[Bm,Ch,Bu])).mono fun r hr=>by
  rw[hr,show Bm [Bu 1,.list [Bu 2,.list [Bu 3]]]=b4c by simp[Bm,Ch,Bu,b4c]]
  rfl
theorem b7r:a2u [[97]] [Bu 1]:=⟨rfl,by decide,fun n h=>by rw[List.mem_singleton.1 h];decide⟩
theorem b6e:a2u ([[97]] ++ [[98]]) ([Bu 1] ++ [Bu 2]):=⟨rfl,by decide,fun n h=>by
 rcases List.mem_append.1 h with h | h<;>rw[List.mem_singleton.1 h]<;>decide⟩
theorem b44:HasC Tryz.prog 35 [.sl 1 (Av [[97]]),.sl 1 (An [Bu 1])] (fun r=>r=VV (.ctx [[97]] [Bu 1])) :=
 (Ja (ns:=[[97]]) (vs:=[Bu 1]) (by decide) (by simp)).mono fun r hr=>by rw[hr,Jm,if_pos b7r]
theorem b59:HasC Tryz.prog 34 [VV (.ctx [[97]] [Bu 1]),.v (.string (tx [98])),VV (Bu 2)] (fun r=>r=VV (.ctx [[97],[98]] [Bu 1,Bu 2])) :=
 (b7s (ns:=[[97]]) (vs:=[Bu 1]) (l:=[98]) (by decide) (by decide) (by decide) (by decide) (by decide) (by simp)).mono fun r hr=>by rw[hr,Jm,if_pos b6e];rfl
theorem b38:HasC Tryz.prog 37 [VV (.ctx [[97],[98]] [Bu 1,Bu 2]),.v (.string (tx [98]))] (fun r=>r=VV (Bu 2)) :=
 (b7e (l:=[98]) (ns:=[[97],[98]]) (vs:=[Bu 1,Bu 2]) (by decide) rfl).mono fun r hr=>by rw[hr,show Qb [98] [[97],[98]] [Bu 1,Bu 2]=Bu 2 by rfl]
theorem Ix {zs:List Int} (h : ∀ z ∈ zs, -1000≤z∧z≤1000) : ∀ z ∈ zs, -9223372036854775808≤z∧z≤9223372036854775807:=fun z hz=>by have:=h z hz;omega
theorem b7u:HasC Tryz.prog 27 [.sl 2 (An (Be [1,2])),.v (.int .i64 (-1))] (fun r=>r=VV (Bu 2)) :=
 (b8n (vs:=Be [1,2]) (a := -1) (by decide) (by decide) (by decide)).mono fun r hr=>by rw[hr];rfl
theorem b4a:HasC Tryz.prog 26 [.sl 3 (An (Be [1,2,3])),.v (.int .i64 2),.v (.int .i64 1)] (fun r=>r=VV (.list (Be [2]))) :=
 (b8v (vs:=Be [1,2,3]) (a:=2) (n:=1) (by decide) (by decide) (by decide) (by decide) (by decide)).mono fun r hr=>by rw[hr];rfl
theorem b45:HasC Tryz.prog 23 [.sl 2 (An (Be [1,3])),.v (.int .i64 2),VV (Bu 2)] (fun r=>r=VV (.list (Be [1,2,3]))) :=
 (a9e (vs:=Be [1,3]) (a:=2) (x:=Bu 2) (by decide) (by decide) (by decide)).mono fun r hr=>by rw[hr];rfl
theorem a2l {zs:List Int} (h : ∀ z ∈ zs, -1000≤z∧z≤1000) : ∀ v ∈ Be zs,PlC v:=fun v hv=>by
 obtain ⟨z,hz,rfl⟩:=List.mem_map.1 hv
 exact i_pl (h z hz).1 (h z hz).2
theorem b03 {zs:List Int} (h : ∀ z ∈ zs, -1000≤z∧z≤1000):okL (Be zs):=Dh.2 fun v hv=>by
 obtain ⟨z,hz,rfl⟩:=List.mem_map.1 hv
 exact b6l (h z hz).1 (h z hz).2
theorem Qu {zs:List Int} (hl:zs.length≤1000) (h : ∀ z ∈ zs, -1000≤z∧z≤1000):HasC Tryz.prog 15 [VV (.list (Be zs))] (fun r=>r=.sl (plL (Be zs)).length (Ad (plL (Be zs)))) :=
 (Ob (Zf (by simp;omega) (a2l h))).mono fun r hr=>by rw[hr,plV,Dm.is]
theorem Xa {zs:List Int} (hl:zs.length≤1000) (h : ∀ z ∈ zs, -1000≤z∧z≤1000):HasC Tryz.prog 9 [.sl (Be zs).length (An (Be zs))] (fun r=>r=.sl (plL (Be zs)).length (Ad (plL (Be zs)))):=Ws (by simp;omega) (a2l h)
theorem Wt {zs:List Int} (hl:zs.length≤1000) (h : ∀ z ∈ zs, -1000≤z∧z≤1000):HasC Tryz.prog 14 [.sl (plL (Be zs)).length (Ad (plL (Be zs))),.sl (plL (Be zs)).length (Ad (plL (Be zs)))] (fun r=>r=.v (.bool true)):=Qz (by rw[Ft];simp;omega) (Fk _ (b03 h))
set_option maxHeartbeats 3200000 in
theorem a5w:HasC Tryz.prog 6 [] (fun r=>r=.v (.bool true)):=by
 refine hO [] Tryz.f6 (fun a w=>Tryz.call6 a w) Tryz.func6 rfl (⟨_,rfl⟩) ?_
 have h123 : ∀ z ∈ ([1,2,3]:List Int), -1000≤z∧z≤1000:=by decide
 have h13 : ∀ z ∈ ([1,3]:List Int), -1000≤z∧z≤1000:=by decide
 have h12 : ∀ z ∈ ([1,2]:List Int), -1000≤z∧z≤1000:=by decide
 have h2 : ∀ z ∈ ([2]:List Int), -1000≤z∧z≤1000:=by decide
 have h1 : ∀ z ∈ ([1]:List Int), -1000≤z∧z≤1000:=by decide
 refine Aa rfl (iQ 1 (iE 76 [(0,Ba false)] [] ?_))
 refine Aa rfl (eC 32 [Iv 1] 7 (Oo (x:=1) (by decide) (by decide)) (eC 32 [Iv 2] 8 (Oo (x:=2) (by decide) (by decide)) (eC 32 [Iv 3] 9 (Oo (x:=3) (by decide) (by decide)) (iQ 1 (eC 33 [.sl 1 [.bx (Bu 3).enc]] 11 (Nw (vs:=[Bu 3]) (by decide)) (iQ 1 (eC 33 [.sl 2 [.bx (Bu 2).enc,.bx (Vl.list [Bu 3]).enc]] 13 (Nw (vs:=[Bu 2,Vl.list [Bu 3]]) (by decide)) (iQ 1 (eC 19 [.sl 2 [.bx (Bu 1).enc,.bx (Vl.list [Bu 2,Vl.list [Bu 3]]).enc]] 15 (b0x) (iQ 2 (iE 76 [(0,Ba false),(1,.p 1 0)] [(1,[.bx (Vl.list (Be [1,2,3])).enc])] ?_)))))))))))
 refine Aa rfl (iQ 2 (eC 36 [.sl 1 [.v (.int .i64 1)]] 18 (Lq (zs:=[1]) (by decide) (Ix h1)) (eC 35 [.sl 1 [.v (.string (⟨#[97]⟩))],.sl ((Be [1]).length) (An (Be [1]))] 19 (b44) (eC 32 [Iv 2] 20 (Oo (x:=2) (by decide) (by decide)) (eC 34 [.agg [.bx (Vl.ctx [[97]] [Bu 1]).enc],Sv (⟨#[98]⟩),.agg [.bx (Bu 2).enc]] 21 (b59) (iQ 2 ?_))))))
 let Z1:=zH [(2,[.bx (Vl.ctx [[97],[98]] [Bu 1,Bu 2]).enc])] []
 refine iE 76 [(0,Ba false),(1,.p 1 0),(2,.p 2 0)] (zH [(1,[.bx (Vl.list (Be [1,2,3])).enc])] Z1) ?_
 refine Aa rfl (iQ 1 (eC 37 [.agg [.bx (Vl.ctx [[97],[98]] [Bu 1,Bu 2]).enc],Sv (⟨#[98]⟩)] 24 (b38) (eC 38 [.agg [.bx (Bu 2).enc]] 25 (Ya) (iQ 5 ?_))))
 let Z2:=zT [(0,Ba false),(1,.p 1 0),(2,.p 2 0),(3,Ia 2),(4,Ba true)] []
 refine iE 76 Z2 (zH [(1,[.bx (Vl.list (Be [1,2,3])).enc])] Z1) ?_
 refine Aa rfl (iQ 1 (eC 36 [.sl 2 [.v (.int .i64 1),.v (.int .i64 2)]] 30 (Lq (zs:=[1,2]) (by decide) (Ix h12)) (eC 27 [.sl ((Be [1,2]).length) (An (Be [1,2])),Iv (-1)] 31 (b7u) (eC 38 [.agg [.bx (Bu 2).enc]] 32 (Ya) (iQ 5 (iE 76 (zT [(5,Ia 2),(6,Ba true)] Z2) (zH [(1,[.bx (Vl.list (Be [1,2,3])).enc])] Z1) ?_))))))
 refine Aa rfl (iQ 1 (eC 15 [.agg [.bx (Vl.list (Be [1,2,3])).enc]] 36 (Qu (zs:=[1,2,3]) (by decide) h123) (iQ 1 (eC 36 [.sl 3 [.v (.int .i64 1),.v (.int .i64 2),.v (.int .i64 3)]] 38 (Lq (zs:=[1,2,3]) (by decide) (Ix h123)) (eC 9 [.sl ((Be [1,2,3]).length) (An (Be [1,2,3]))] 39 (Xa (zs:=[1,2,3]) (by decide) h123) (eC 14 [.sl ((plL (Be ([1,2,3]))).length) (Ad (plL (Be ([1,2,3])))),.sl ((plL (Be ([1,2,3]))).length) (Ad (plL (Be ([1,2,3]))))] 40 (Wt (zs:=[1,2,3]) (by decide) h123) (iQ 5 (jB .eql 3 (.int .i64 2) (.int .i64 2) 46 ?_))))))))
 refine Cg (rfl) ?_
 refine iQ 6 (jB .eql 3 (.int .i64 2) (.int .i64 2) 53 ?_)
 refine Cg (rfl) ?_
 refine iQ 3 (eC 36 [.sl 3 [.v (.int .i64 1),.v (.int .i64 2),.v (.int .i64 3)]] 57 (Lq (zs:=[1,2,3]) (by decide) (Ix h123)) (eC 26 [.sl ((Be [1,2,3]).length) (An (Be [1,2,3])),Iv 2,Iv 1] 58 (b4a) (eC 15 [.agg [.bx (Vl.list (Be [2])).enc]] 59 (Qu (zs:=[2]) (by decide) h2) (iQ 1 (eC 36 [.sl 1 [.v (.int .i64 2)]] 61 (Lq (zs:=[2]) (by decide) (Ix h2)) (eC 9 [.sl ((Be [2]).length) (An (Be [2]))] 62 (Xa (zs:=[2]) (by decide) h2) (eC 14 [.sl ((plL (Be ([2]))).length) (Ad (plL (Be ([2])))),.sl ((plL (Be ([2]))).length) (Ad (plL (Be ([2]))))] 63 (Wt (zs:=[2]) (by decide) h2) (iQ 3 (eC 36 [.sl 2 [.v (.int .i64 1),.v (.int .i64 3)]] 67 (Lq (zs:=[1,3]) (by decide) (Ix h13)) (eC 32 [Iv 2] 68 (Oo (x:=2) (by decide) (by decide)) (eC 23 [.sl ((Be [1,3]).length) (An (Be [1,3])),Iv 2,.agg [.bx (Bu 2).enc]] 69 (b45) ?_)))))))))))
 refine eC 15 [.agg [.bx (Vl.list (Be [1,2,3])).enc]] 70 (Qu (zs:=[1,2,3]) (by decide) h123) (iQ 1 (eC 36 [.sl 3 [.v (.int .i64 1),.v (.int .i64 2),.v (.int .i64 3)]] 72 (Lq (zs:=[1,2,3]) (by decide) (Ix h123)) (eC 9 [.sl ((Be [1,2,3]).length) (An (Be [1,2,3]))] 73 (Xa (zs:=[1,2,3]) (by decide) h123) (eC 14 [.sl ((plL (Be ([1,2,3]))).length) (Ad (plL (Be ([1,2,3])))),.sl ((plL (Be ([1,2,3]))).length) (Ad (plL (Be ([1,2,3]))))] 74 (Wt (zs:=[1,2,3]) (by decide) h123) (iQ 2 (iE 76 [(0,Ba true),(1,.p 1 0),(2,.p 2 0)] (zH [(1,[.bx (Vl.list (Be [1,2,3])).enc])] Z1) ?_))))))
 refine Ab (iR (Bv true) ?_)
 rfl
open Go.RowKit
set_option linter.unusedVariables false
set_option linter.unusedSimpArgs false
set_option maxRecDepth 100000
end Go.Proofs.YtfkfpkhgoijfdaaGreatDoor
