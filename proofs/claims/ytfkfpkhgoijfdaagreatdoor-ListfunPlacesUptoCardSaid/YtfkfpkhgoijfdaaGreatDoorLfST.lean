/- casuistlaw22: awake; ListfunTruths. ListfunTruths. -/
import Derived.Test.YtfkfpkhgoijfdaaGreatDoorLfR
namespace Go.Proofs.YtfkfpkhgoijfdaaGreatDoor
open Go.RowKit
set_option linter.unusedVariables false
set_option linter.unusedSimpArgs false
set_option maxRecDepth 100000
theorem Lr (k:Int) (t:L8) (is:List Dm) (ns:List L8) (p q:Bool) (hs:(Dm.mk k t is ns p q).lenD):HasC Tryz.prog 28 [Wn k t is ns p q,Wn k t is ns p q] (fun y=>y=.v (.bool true)) :=
 a9d hs fun k' t' is' ns' p' q' hm=>Lr k' t' is' ns' p' q' (by rw[Dm.lenD] at hs;exact Rb.1 hs.2.2 _ hm)
termination_by SizeOf.sizeOf is
decreasing_by
 have:=List.sizeOf_lt_of_mem hm
 simp at this
 omega
theorem Ru {ds:List Dm} (hl:ds.length≤1073741824) (hs:Hf ds):HasC Tryz.prog 14 [.sl ((ds).length) (Ad (ds)),.sl ((ds).length) (Ad (ds))] (fun r=>r=.v (.bool true)):=by
 refine hO [] Tryz.f14 (fun a w=>Tryz.call14 a w) Tryz.func14 rfl (⟨_,rfl⟩) ?_
 refine Aa rfl (iQ 1 ?_)
 let Z1:=zT [(0,.d (.sl ((ds).length) (Ad (ds)))),(1,.d (.sl ((ds).length) (Ad (ds)))),(4,Ba false)] []
 refine iE 27 Z1 [] ?_
 refine Af (Aa rfl (iQ 4 (jB .neq 3 (.int .i64 ((((ds).length:Nat):Int))) (.int .i64 ((((ds).length:Nat):Int))) 10 ?_)))
 refine Al ((by simp)) ?_
 refine iE 27 (zT [(10,Ba false)] Z1) [] ?_
 refine iF (Ae (Ag (Af (Aa rfl (iQ 1 (iE 27 (zT [(5,Ia 0),(10,Ba false)] Z1) [] ?_))))))
 refine Am (Bz 27 (fun (vcx:Nat×Int)=>match vcx with | (j,z)=>[(0,.d (.sl ((ds).length) (Ad (ds)))),(1,.d (.sl ((ds).length) (Ad (ds)))),(4,Ba false),(5,Ia z),(10,Ba false)]) (fun (vcx:Nat×Int)=>match vcx with | (j,z)=>[]) (fun (vcx:Nat×Int)=>match vcx with | (j,z)=>z=j∧j≤ds.length) (fun (vcx:Nat×Int)=>match vcx with | (j,z)=>ds.length-j) ((0,0)) (⟨rfl,Nat.zero_le _⟩) (by kernel_rfl) (by kernel_rfl) ?_)
 rintro ⟨j,z⟩ hinv
 simp only at hinv
 obtain ⟨h1,h2⟩:=hinv
 refine Af (Aa rfl (iQ 3 (jB .lss 3 (.int .i64 z) (.int .i64 ((((ds).length:Nat):Int))) 14 ?_)))
 intro c14 hc14
 refine iE 27 (zT [(5,Ia z),(10,Ba false),(14,Ba c14)] Z1) [] ?_
 cases c14
 ·replace hc14:=bf hc14
  refine iF (Bm (Da (Cb (Bn rfl (Ag (Aa rfl (iQ 1 ?_)))))))
  let Z2:=zT [(0,.d (.sl ((ds).length) (Ad (ds)))),(1,.d (.sl ((ds).length) (Ad (ds)))),(4,Ba true),(5,Ia z),(10,Ba false),(14,Ba false)] []
  refine iE 27 Z2 [] ?_
  refine Ab (iR (Bv true) ?_)
  rfl
 ·replace hc14:=bt hc14
  obtain ⟨⟨k',t',is',ns',p',q'⟩,hm⟩ : ∃ d,ds[j]? = some d:=⟨_,List.getElem?_eq_getElem (by omega)⟩
  refine iT (Ae (Ag (Af (Am (Aa rfl (iQ 2 (Cr (q:=z) (n:=((ds).length)) (cs:=(Ad (ds))) (z:=6) (ds:=[.v (.int .i64 k'),.v (.string (tx t')),.sl ((is').length) (Ad (is')),.sl ((ns').length) (At (ns')),.v (.bool p'),.v (.bool q')]) (dst:=(some 19)) (by kernel_rfl) (by omega) (by rw[h1,Int.toNat_natCast];exact (Bk hm).trans (by rw[Dm.cells])) ?_)))))))
  refine iQ 3 (Cr (q:=z) (n:=((ds).length)) (cs:=(Ad (ds))) (z:=6) (ds:=[.v (.int .i64 k'),.v (.string (tx t')),.sl ((is').length) (Ad (is')),.sl ((ns').length) (At (ns')),.v (.bool p'),.v (.bool q')]) (dst:=(some 23)) (by kernel_rfl) (by omega) (by rw[h1,Int.toNat_natCast];exact (Bk hm).trans (by rw[Dm.cells])) ?_)
  refine iQ 1 (eC 28 [.agg [Iv k',Sv (tx t'),.sl ((is').length) (Ad (is')),.sl ((ns').length) (At (ns')),Bv p',Bv q'],.agg [Iv k',Sv (tx t'),.sl ((is').length) (Ad (is')),.sl ((ns').length) (At (ns')),Bv p',Bv q']] 25 (Lr k' t' is' ns' p' q' (Rb.1 hs _ (List.mem_of_getElem? hm))) (jU .not (.bool true) 26 ?_))
  refine Al ((by simp)) ?_
  let Z3:=zT [(5,Ia z),(10,Ba false),(14,Ba true),(26,Ba false)] []
  refine iE 27 (zT Z3 Z1) [] ?_
  refine iF (Ae (Ar (Ag (Ap rfl (iQ 1 (jB .add 3 (.int .i64 z) (.int .i64 1) 16 ?_))))))
  intro z16 hz16
  try replace hz16:=hz16.i64 (by omega)
  refine iQ 1 ?_
  let Z4:=zT [(5,Ia z16),(10,Ba false),(14,Ba true),(26,Ba false)] []
  refine iE 27 (zT Z4 Z1) [] ?_
  refine Br (j+1,z16) (⟨by omega,by omega⟩) (by show ds.length-(j+1)<ds.length-j;omega) (by kernel_rfl) (by kernel_rfl)
theorem b3s {n:Int} (h0 : -1000≤n) (h1:n≤1000):(Bs n).ok:=b3g (by omega) (by omega)
theorem i_pl {n:Int} (h0 : -1000≤n) (h1:n≤1000):PlC (Bs n):=Dq (b3s h0 h1) (by simp[Bs,Vl.kindI])
abbrev b5l:List Vl:=[Bs 1,Bs 2,Bs 3]
theorem b2a:HasC Tryz.prog 19 [.sl 2 (Aq [Bs 1,.list [Bs 2,.list [Bs 3]]])] (fun r=>r=VV (.list b5l)) :=
 (a48 (vs:=[Bs 1,.list [Bs 2,.list [Bs 3]]]) (by simp[okL,Vl.ok,b3s]) (by decide) (by simp[Ci,Ty,Bs])).mono fun r hr=>by
  rw[hr,show Ci [Bs 1,.list [Bs 2,.list [Bs 3]]]=b5l by simp[Ci,Ty,Bs,b5l]]
  rfl
theorem b8n:a2l [[97]] [Bs 1]:=⟨rfl,by decide,fun n h=>by rw[List.mem_singleton.1 h];decide⟩
theorem b3e:a2l ([[97]] ++ [[98]]) ([Bs 1] ++ [Bs 2]):=⟨rfl,by decide,fun n h=>by
 rcases List.mem_append.1 h with h | h<;>rw[List.mem_singleton.1 h]<;>decide⟩
theorem b3i:HasC Tryz.prog 35 [.sl 1 (At [[97]]),.sl 1 (Aq [Bs 1])] (fun r=>r=VV (.ctx [[97]] [Bs 1])) :=
 (Iq (ns:=[[97]]) (vs:=[Bs 1]) (by decide) (by simp)).mono fun r hr=>by rw[hr,Km,if_pos b8n]
theorem b43:HasC Tryz.prog 34 [VV (.ctx [[97]] [Bs 1]),.v (.string (tx [98])),VV (Bs 2)] (fun r=>r=VV (.ctx [[97],[98]] [Bs 1,Bs 2])) :=
 (b68 (ns:=[[97]]) (vs:=[Bs 1]) (l:=[98]) (by decide) (by decide) (by decide) (by decide) (by decide) (by simp)).mono fun r hr=>by rw[hr,Km,if_pos b3e];rfl
theorem b4a:HasC Tryz.prog 37 [VV (.ctx [[97],[98]] [Bs 1,Bs 2]),.v (.string (tx [98]))] (fun r=>r=VV (Bs 2)) :=
 (b8h (l:=[98]) (ns:=[[97],[98]]) (vs:=[Bs 1,Bs 2]) (by decide) rfl).mono fun r hr=>by rw[hr,show Pl [98] [[97],[98]] [Bs 1,Bs 2]=Bs 2 by rfl]
theorem Ii {zs:List Int} (h : ∀ z ∈ zs, -1000≤z∧z≤1000) : ∀ z ∈ zs, -9223372036854775808≤z∧z≤9223372036854775807:=fun z hz=>by have:=h z hz;omega
theorem b6g:HasC Tryz.prog 27 [.sl 2 (Aq (Bd [1,2])),.v (.int .i64 (-1))] (fun r=>r=VV (Bs 2)) :=
 (a2c (vs:=Bd [1,2]) (a := -1) (by decide) (by decide) (by decide)).mono fun r hr=>by rw[hr];rfl
theorem b5m:HasC Tryz.prog 26 [.sl 3 (Aq (Bd [1,2,3])),.v (.int .i64 2),.v (.int .i64 1)] (fun r=>r=VV (.list (Bd [2]))) :=
 (a83 (vs:=Bd [1,2,3]) (a:=2) (n:=1) (by decide) (by decide) (by decide) (by decide) (by decide)).mono fun r hr=>by rw[hr];rfl
theorem b4d:HasC Tryz.prog 23 [.sl 2 (Aq (Bd [1,3])),.v (.int .i64 2),VV (Bs 2)] (fun r=>r=VV (.list (Bd [1,2,3]))) :=
 (Zg (vs:=Bd [1,3]) (a:=2) (x:=Bs 2) (by decide) (by decide) (by decide)).mono fun r hr=>by rw[hr];rfl
theorem a2i {zs:List Int} (h : ∀ z ∈ zs, -1000≤z∧z≤1000) : ∀ v ∈ Bd zs,PlC v:=fun v hv=>by
 obtain ⟨z,hz,rfl⟩:=List.mem_map.1 hv
 exact i_pl (h z hz).1 (h z hz).2
theorem b2h {zs:List Int} (h : ∀ z ∈ zs, -1000≤z∧z≤1000):okL (Bd zs):=Ck.2 fun v hv=>by
 obtain ⟨z,hz,rfl⟩:=List.mem_map.1 hv
 exact b3s (h z hz).1 (h z hz).2
theorem Rf {zs:List Int} (hl:zs.length≤1000) (h : ∀ z ∈ zs, -1000≤z∧z≤1000):HasC Tryz.prog 15 [VV (.list (Bd zs))] (fun r=>r=.sl (plL (Bd zs)).length (Ad (plL (Bd zs)))) :=
 (Ug (Yn (by simp;omega) (a2i h))).mono fun r hr=>by rw[hr,plV,Dm.is]
theorem Wb {zs:List Int} (hl:zs.length≤1000) (h : ∀ z ∈ zs, -1000≤z∧z≤1000):HasC Tryz.prog 9 [.sl (Bd zs).length (Aq (Bd zs))] (fun r=>r=.sl (plL (Bd zs)).length (Ad (plL (Bd zs)))):=a1p (by simp;omega) (a2i h)
theorem Xd {zs:List Int} (hl:zs.length≤1000) (h : ∀ z ∈ zs, -1000≤z∧z≤1000):HasC Tryz.prog 14 [.sl (plL (Bd zs)).length (Ad (plL (Bd zs))),.sl (plL (Bd zs)).length (Ad (plL (Bd zs)))] (fun r=>r=.v (.bool true)):=Ru (by rw[Kg];simp;omega) (Hn _ (b2h h))
set_option maxHeartbeats 3200000 in
theorem a5p:HasC Tryz.prog 6 [] (fun r=>r=.v (.bool true)):=by
 refine hO [] Tryz.f6 (fun a w=>Tryz.call6 a w) Tryz.func6 rfl (⟨_,rfl⟩) ?_
 have h123 : ∀ z ∈ ([1,2,3]:List Int), -1000≤z∧z≤1000:=by decide
 have h13 : ∀ z ∈ ([1,3]:List Int), -1000≤z∧z≤1000:=by decide
 have h12 : ∀ z ∈ ([1,2]:List Int), -1000≤z∧z≤1000:=by decide
 have h2 : ∀ z ∈ ([2]:List Int), -1000≤z∧z≤1000:=by decide
 have h1 : ∀ z ∈ ([1]:List Int), -1000≤z∧z≤1000:=by decide
 refine Aa rfl (iQ 1 (iE 76 [(0,Ba false)] [] ?_))
 refine Aa rfl (eC 32 [Iv 1] 7 (Np (x:=1) (by decide) (by decide)) (eC 32 [Iv 2] 8 (Np (x:=2) (by decide) (by decide)) (eC 32 [Iv 3] 9 (Np (x:=3) (by decide) (by decide)) (iQ 1 (eC 33 [.sl 1 [.bx (Bs 3).enc]] 11 (Lz (vs:=[Bs 3]) (by decide)) (iQ 1 (eC 33 [.sl 2 [.bx (Bs 2).enc,.bx (Vl.list [Bs 3]).enc]] 13 (Lz (vs:=[Bs 2,Vl.list [Bs 3]]) (by decide)) (iQ 1 (eC 19 [.sl 2 [.bx (Bs 1).enc,.bx (Vl.list [Bs 2,Vl.list [Bs 3]]).enc]] 15 (b2a) (iQ 2 (iE 76 [(0,Ba false),(1,.p 1 0)] [(1,[.bx (Vl.list (Bd [1,2,3])).enc])] ?_)))))))))))
 refine Aa rfl (iQ 2 (eC 36 [.sl 1 [.v (.int .i64 1)]] 18 (La (zs:=[1]) (by decide) (Ii h1)) (eC 35 [.sl 1 [.v (.string (⟨#[97]⟩))],.sl ((Bd [1]).length) (Aq (Bd [1]))] 19 (b3i) (eC 32 [Iv 2] 20 (Np (x:=2) (by decide) (by decide)) (eC 34 [.agg [.bx (Vl.ctx [[97]] [Bs 1]).enc],Sv (⟨#[98]⟩),.agg [.bx (Bs 2).enc]] 21 (b43) (iQ 2 ?_))))))
 let Z1:=zH [(2,[.bx (Vl.ctx [[97],[98]] [Bs 1,Bs 2]).enc])] []
 refine iE 76 [(0,Ba false),(1,.p 1 0),(2,.p 2 0)] (zH [(1,[.bx (Vl.list (Bd [1,2,3])).enc])] Z1) ?_
 refine Aa rfl (iQ 1 (eC 37 [.agg [.bx (Vl.ctx [[97],[98]] [Bs 1,Bs 2]).enc],Sv (⟨#[98]⟩)] 24 (b4a) (eC 38 [.agg [.bx (Bs 2).enc]] 25 (Zy) (iQ 5 ?_))))
 let Z2:=zT [(0,Ba false),(1,.p 1 0),(2,.p 2 0),(3,Ia 2),(4,Ba true)] []
 refine iE 76 Z2 (zH [(1,[.bx (Vl.list (Bd [1,2,3])).enc])] Z1) ?_
 refine Aa rfl (iQ 1 (eC 36 [.sl 2 [.v (.int .i64 1),.v (.int .i64 2)]] 30 (La (zs:=[1,2]) (by decide) (Ii h12)) (eC 27 [.sl ((Bd [1,2]).length) (Aq (Bd [1,2])),Iv (-1)] 31 (b6g) (eC 38 [.agg [.bx (Bs 2).enc]] 32 (Zy) (iQ 5 (iE 76 (zT [(5,Ia 2),(6,Ba true)] Z2) (zH [(1,[.bx (Vl.list (Bd [1,2,3])).enc])] Z1) ?_))))))
 refine Aa rfl (iQ 1 (eC 15 [.agg [.bx (Vl.list (Bd [1,2,3])).enc]] 36 (Rf (zs:=[1,2,3]) (by decide) h123) (iQ 1 (eC 36 [.sl 3 [.v (.int .i64 1),.v (.int .i64 2),.v (.int .i64 3)]] 38 (La (zs:=[1,2,3]) (by decide) (Ii h123)) (eC 9 [.sl ((Bd [1,2,3]).length) (Aq (Bd [1,2,3]))] 39 (Wb (zs:=[1,2,3]) (by decide) h123) (eC 14 [.sl ((plL (Bd ([1,2,3]))).length) (Ad (plL (Bd ([1,2,3])))),.sl ((plL (Bd ([1,2,3]))).length) (Ad (plL (Bd ([1,2,3]))))] 40 (Xd (zs:=[1,2,3]) (by decide) h123) (iQ 5 (jB .eql 3 (.int .i64 2) (.int .i64 2) 46 ?_))))))))
 refine Ce (rfl) ?_
 refine iQ 6 (jB .eql 3 (.int .i64 2) (.int .i64 2) 53 ?_)
 refine Ce (rfl) ?_
 refine iQ 3 (eC 36 [.sl 3 [.v (.int .i64 1),.v (.int .i64 2),.v (.int .i64 3)]] 57 (La (zs:=[1,2,3]) (by decide) (Ii h123)) (eC 26 [.sl ((Bd [1,2,3]).length) (Aq (Bd [1,2,3])),Iv 2,Iv 1] 58 (b5m) (eC 15 [.agg [.bx (Vl.list (Bd [2])).enc]] 59 (Rf (zs:=[2]) (by decide) h2) (iQ 1 (eC 36 [.sl 1 [.v (.int .i64 2)]] 61 (La (zs:=[2]) (by decide) (Ii h2)) (eC 9 [.sl ((Bd [2]).length) (Aq (Bd [2]))] 62 (Wb (zs:=[2]) (by decide) h2) (eC 14 [.sl ((plL (Bd ([2]))).length) (Ad (plL (Bd ([2])))),.sl ((plL (Bd ([2]))).length) (Ad (plL (Bd ([2]))))] 63 (Xd (zs:=[2]) (by decide) h2) (iQ 3 (eC 36 [.sl 2 [.v (.int .i64 1),.v (.int .i64 3)]] 67 (La (zs:=[1,3]) (by decide) (Ii h13)) (eC 32 [Iv 2] 68 (Np (x:=2) (by decide) (by decide)) (eC 23 [.sl ((Bd [1,3]).length) (Aq (Bd [1,3])),Iv 2,.agg [.bx (Bs 2).enc]] 69 (b4d) ?_)))))))))))
 refine eC 15 [.agg [.bx (Vl.list (Bd [1,2,3])).enc]] 70 (Rf (zs:=[1,2,3]) (by decide) h123) (iQ 1 (eC 36 [.sl 3 [.v (.int .i64 1),.v (.int .i64 2),.v (.int .i64 3)]] 72 (La (zs:=[1,2,3]) (by decide) (Ii h123)) (eC 9 [.sl ((Bd [1,2,3]).length) (Aq (Bd [1,2,3]))] 73 (Wb (zs:=[1,2,3]) (by decide) h123) (eC 14 [.sl ((plL (Bd ([1,2,3]))).length) (Ad (plL (Bd ([1,2,3])))),.sl ((plL (Bd ([1,2,3]))).length) (Ad (plL (Bd ([1,2,3]))))] 74 (Xd (zs:=[1,2,3]) (by decide) h123) (iQ 2 (iE 76 [(0,Ba true),(1,.p 1 0),(2,.p 2 0)] (zH [(1,[.bx (Vl.list (Bd [1,2,3])).enc])] Z1) ?_))))))
 refine Ab (iR (Bv true) ?_)
 rfl
open Go.RowKit
set_option linter.unusedVariables false
set_option linter.unusedSimpArgs false
set_option maxRecDepth 100000
theorem b1o {ds:List Dm} (hd:Eo ds) (hl:ds.length≤1048576):HasC Tryz.prog 8 [.sl ((ds).length) (Ad (ds))] (fun r => ∃ vs:List Vl,r=.sl vs.length (Aq vs)∧okL vs∧vs.length≤12):=by
 refine hO [] Tryz.f8 (fun a w=>Tryz.call8 a w) Tryz.func8 rfl (⟨_,[],rfl,by rw[okL];trivial,by decide⟩) ?_
 refine Aa rfl (iQ 1 ?_)
 let Z1:=zT [(0,.d (.sl ((ds).length) (Ad (ds)))),(2,.w (.sl 0 []) none)] []
 refine iE 24 Z1 [] ?_
 refine Aa rfl (iQ 1 (iE 24 (zT [(3,.w (.sl 0 []) none)] Z1) [] ?_))
 refine Af (Aa rfl (iQ 1 (iE 24 (zT [(3,.w (.sl 0 []) none),(4,Ia 0)] Z1) [] ?_)))
 refine Am (Bz 24 (fun (vcx:Nat×(List Vl)×Int)=>match vcx with | (j,vs,z)=>[(0,.d (.sl ((ds).length) (Ad (ds)))),(2,.w (.sl 0 []) none),(3,.w (.sl ((vs).length) (Aq (vs))) (some ⟨3,0,36,1⟩)),(4,Ia z)]) (fun (vcx:Nat×(List Vl)×Int)=>match vcx with | (j,vs,z)=>[]) (fun (vcx:Nat×(List Vl)×Int)=>match vcx with | (j,vs,z)=>z=j∧j≤ds.length∧vs.length=j∧okL vs∧j≤12) (fun (vcx:Nat×(List Vl)×Int)=>match vcx with | (j,vs,z)=>ds.length-j) ((0,[],0)) (⟨rfl,Nat.zero_le _,rfl,by rw[okL];trivial,by omega⟩) (by kernel_rfl) (by kernel_rfl) ?_)
 rintro ⟨j,vs,z⟩ hinv
 simp only at hinv
 obtain ⟨h1,h2,h3,h4,h5⟩:=hinv
 refine Af (Aa rfl (iQ 3 (jB .lss 3 (.int .i64 z) (.int .i64 ((((ds).length:Nat):Int))) 8 ?_)))
 intro c8 hc8
 refine iQ 1 ?_
 cases c8
 ·replace hc8:=bf hc8
  refine iQ 3 ?_
  let Z2:=zT [(3,.w (.sl ((vs).length) (Aq (vs))) (some ⟨3,0,36,1⟩))] []
  refine iE 24 (zT [(4,Ia z),(12,Ba false)] (zT Z2 Z1)) [] ?_
  refine iF (Bm (Da (Cb (Bn rfl (Ag (Aa rfl (iQ 2 ?_)))))))
  let Z3:=zT [(2,.w (.sl ((vs).length) (Aq (vs))) (some ⟨3,0,36,1⟩))] []
  let Z4:=zT [(0,.d (.sl ((ds).length) (Ad (ds)))),(4,Ia z),(12,Ba false)] []
  let Z5:=zT Z4 (zT Z3 Z2)
  refine iE 24 Z5 [] ?_
  refine Ab (iR (.sl ((vs).length) (Aq (vs))) ?_)
  exact ⟨vs,rfl,h4,by omega⟩
 ·replace hc8:=bt hc8
  refine iQ 1 (jB .lss 3 (.int .i64 z) (.int .i64 12) 11 ?_)
  intro c11 hc11
  refine iQ 1 ?_
  let Z6:=zT [(3,.w (.sl ((vs).length) (Aq (vs))) (some ⟨3,0,36,1⟩))] []
  refine iE 24 (zT [(4,Ia z),(12,Ba c11)] (zT Z6 Z1)) [] ?_
  cases c11
  ·replace hc11:=bf hc11
   refine iF (Bm (Da (Cb (Bn rfl (Ag (Aa rfl (iQ 2 ?_)))))))
   let Z7:=zT [(2,.w (.sl ((vs).length) (Aq (vs))) (some ⟨3,0,36,1⟩))] []
   let Z8:=zT [(0,.d (.sl ((ds).length) (Ad (ds)))),(4,Ia z),(12,Ba false)] []
   let Z9:=zT Z8 (zT Z7 Z6)
   refine iE 24 Z9 [] ?_
   refine Ab (iR (.sl ((vs).length) (Aq (vs))) ?_)
   exact ⟨vs,rfl,h4,by omega⟩
  ·replace hc11:=bt hc11
   obtain ⟨⟨k',t',is',ns',p',q'⟩,hm⟩ : ∃ d,ds[j]? = some d:=⟨_,List.getElem?_eq_getElem (by omega)⟩
   have hsm:=Ky.1 hd _ (List.mem_of_getElem? hm)
   refine iT (Ae (Ag (Af (Am (Ap rfl (iQ 3 (Cr (q:=z) (n:=((ds).length)) (cs:=(Ad (ds))) (z:=6) (ds:=[.v (.int .i64 k'),.v (.string (tx t')),.sl ((is').length) (Ad (is')),.sl ((ns').length) (At (ns')),.v (.bool p'),.v (.bool q')]) (dst:=(some 18)) (by kernel_rfl) (by omega) (by rw[h1,Int.toNat_natCast];exact (Bk hm).trans (by rw[Dm.cells])) ?_)))))))
   refine iQ 1 (jC 10 [.agg [Iv k',Sv (tx t'),.sl ((is').length) (Ad (is')),.sl ((ns').length) (At (ns')),Bv p',Bv q']] 20 (Xw hsm) ?_)
   rintro _ ⟨v,rfl,ov⟩
   refine iQ 1 (Cm (n:=((vs).length)) (cs:=(Aq (vs))) (m:=1) (ds:=[.bx (v).enc]) (N:=((vs ++ [v]).length)) (es:=(Aq (vs ++ [v]))) (j:=3) (e:=36) (z:=1) (dst:=(some 22)) (by kernel_rfl) (by first | rfl | omega | (rw[Nat.mul_one];exact Bj _) | (simp[dg];done) | (simp[dg];omega)) (by first | rfl | omega | (rw[Nat.mul_one];exact Bj _) | (simp[dg];done) | (simp[dg];omega)) (rfl) (by omega) (by simp) (Kb) ?_)
   refine iQ 1 ?_
   let Z10:=zT [(3,.w (.sl ((vs ++ [v]).length) (Aq (vs ++ [v]))) (some ⟨3,0,36,1⟩))] []
   refine iE 24 (zT [(4,Ia z),(12,Ba true)] (zT Z10 Z1)) [] ?_
   refine Ar (Ag (Ap rfl (iQ 1 (jB .add 3 (.int .i64 z) (.int .i64 1) 14 ?_))))
   intro z14 hz14
   try replace hz14:=hz14.i64 (by omega)
   refine iQ 1 (iE 24 (zT [(4,Ia z14),(12,Ba true)] (zT Z10 Z1)) [] ?_)
   refine Br (j+1,vs ++ [v],z14) (⟨by omega,by omega,by simp;omega,Rj h4 ov,by omega⟩) (by show ds.length-(j+1)<ds.length-j;omega) (by kernel_rfl) (by kernel_rfl)
end Go.Proofs.YtfkfpkhgoijfdaaGreatDoor
