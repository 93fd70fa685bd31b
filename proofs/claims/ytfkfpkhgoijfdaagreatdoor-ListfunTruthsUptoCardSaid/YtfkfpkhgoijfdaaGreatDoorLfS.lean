/- casuistlaw22: awake; ListfunTruths. -/
import Derived.Test.YtfkfpkhgoijfdaaGreatDoorLfR
namespace Go.Proofs.YtfkfpkhgoijfdaaGreatDoor
open Go.RowKit
set_option linter.unusedVariables false
set_option linter.unusedSimpArgs false
set_option maxRecDepth 100000
theorem Zb (k:Int) (t:L8) (is:List Dm) (ns:List L8) (p q:Bool) (hs:(Dm.mk k t is ns p q).lenD):HasC Tryz.prog 28 [a0c k t is ns p q,a0c k t is ns p q] (fun y=>y=.v (.bool true)) :=
 a7s hs fun k' t' is' ns' p' q' hm=>Zb k' t' is' ns' p' q' (by rw[Dm.lenD] at hs;exact Pn.1 hs.2.2 _ hm)
termination_by SizeOf.sizeOf is
decreasing_by
 have:=List.sizeOf_lt_of_mem hm
 simp at this
 omega
theorem a8s {ds:List Dm} (hl:ds.length≤1073741824) (hs:Gv ds):HasC Tryz.prog 14 [.sl ((ds).length) (Ai (ds)),.sl ((ds).length) (Ai (ds))] (fun r=>r=.v (.bool true)):=by
 refine hO [] Tryz.f14 (fun a w=>Tryz.call14 a w) Tryz.func14 rfl (⟨_,rfl⟩) ?_
 refine Aa rfl (iQ 1 ?_)
 let Z1:=zT [(0,.d (.sl ((ds).length) (Ai (ds)))),(1,.d (.sl ((ds).length) (Ai (ds)))),(4,Ba false)] []
 refine iE 27 Z1 [] ?_
 refine Af (Aa rfl (iQ 4 (jB .neq 3 (.int .i64 ((((ds).length:Nat):Int))) (.int .i64 ((((ds).length:Nat):Int))) 10 ?_)))
 refine Al ((by simp)) ?_
 refine iE 27 (zT [(10,Ba false)] Z1) [] ?_
 refine iF (Ad (Ae (Af (Aa rfl (iQ 1 (iE 27 (zT [(5,Ia 0),(10,Ba false)] Z1) [] ?_))))))
 refine An (Bp 27 (fun (vcx:Nat×Int)=>match vcx with | (j,z)=>[(0,.d (.sl ((ds).length) (Ai (ds)))),(1,.d (.sl ((ds).length) (Ai (ds)))),(4,Ba false),(5,Ia z),(10,Ba false)]) (fun (vcx:Nat×Int)=>match vcx with | (j,z)=>[]) (fun (vcx:Nat×Int)=>match vcx with | (j,z)=>z=j∧j≤ds.length) (fun (vcx:Nat×Int)=>match vcx with | (j,z)=>ds.length-j) ((0,0)) (⟨rfl,Nat.zero_le _⟩) (by kernel_rfl) (by kernel_rfl) ?_)
 rintro ⟨j,z⟩ hinv
 simp only at hinv
 obtain ⟨h1,h2⟩:=hinv
 refine Af (Aa rfl (iQ 3 (jB .lss 3 (.int .i64 z) (.int .i64 ((((ds).length:Nat):Int))) 14 ?_)))
 intro c14 hc14
 refine iE 27 (zT [(5,Ia z),(10,Ba false),(14,Ba c14)] Z1) [] ?_
 cases c14
 ·replace hc14:=bf hc14
  refine iF (Bk (Cj (Bt (Bl rfl (Ae (Aa rfl (iQ 1 ?_)))))))
  let Z2:=zT [(0,.d (.sl ((ds).length) (Ai (ds)))),(1,.d (.sl ((ds).length) (Ai (ds)))),(4,Ba true),(5,Ia z),(10,Ba false),(14,Ba false)] []
  refine iE 27 Z2 [] ?_
  refine Ab (iR (Bv true) ?_)
  rfl
 ·replace hc14:=bt hc14
  obtain ⟨⟨k',t',is',ns',p',q'⟩,hm⟩ : ∃ d,ds[j]? = some d:=⟨_,List.getElem?_eq_getElem (by omega)⟩
  refine iT (Ad (Ae (Af (An (Aa rfl (iQ 2 (Gl (q:=z) (n:=((ds).length)) (cs:=(Ai (ds))) (z:=6) (ds:=[.v (.int .i64 k'),.v (.string (tx t')),.sl ((is').length) (Ai (is')),.sl ((ns').length) (Ax (ns')),.v (.bool p'),.v (.bool q')]) (dst:=(some 19)) (by kernel_rfl) (by omega) (by rw[h1,Int.toNat_natCast];exact (Du hm).trans (by rw[Dm.cells])) ?_)))))))
  refine iQ 3 (Gl (q:=z) (n:=((ds).length)) (cs:=(Ai (ds))) (z:=6) (ds:=[.v (.int .i64 k'),.v (.string (tx t')),.sl ((is').length) (Ai (is')),.sl ((ns').length) (Ax (ns')),.v (.bool p'),.v (.bool q')]) (dst:=(some 23)) (by kernel_rfl) (by omega) (by rw[h1,Int.toNat_natCast];exact (Du hm).trans (by rw[Dm.cells])) ?_)
  refine iQ 1 (eC 28 [.agg [Iv k',Sv (tx t'),.sl ((is').length) (Ai (is')),.sl ((ns').length) (Ax (ns')),Bv p',Bv q'],.agg [Iv k',Sv (tx t'),.sl ((is').length) (Ai (is')),.sl ((ns').length) (Ax (ns')),Bv p',Bv q']] 25 (Zb k' t' is' ns' p' q' (Pn.1 hs _ (List.mem_of_getElem? hm))) (jU .not (.bool true) 26 ?_))
  refine Al ((by simp)) ?_
  let Z3:=zT [(5,Ia z),(10,Ba false),(14,Ba true),(26,Ba false)] []
  refine iE 27 (zT Z3 Z1) [] ?_
  refine iF (Ad (Ao (Ae (Am rfl (iQ 1 (jB .add 3 (.int .i64 z) (.int .i64 1) 16 ?_))))))
  intro z16 hz16
  try replace hz16:=hz16.i64 (by omega)
  refine iQ 1 ?_
  let Z4:=zT [(5,Ia z16),(10,Ba false),(14,Ba true),(26,Ba false)] []
  refine iE 27 (zT Z4 Z1) [] ?_
  refine Be (j+1,z16) (⟨by omega,by omega⟩) (by show ds.length-(j+1)<ds.length-j;omega) (by kernel_rfl) (by kernel_rfl)
theorem b3l {n:Int} (h0 : -1000≤n) (h1:n≤1000):(Bq n).ok:=b25 (by omega) (by omega)
theorem i_pl {n:Int} (h0 : -1000≤n) (h1:n≤1000):PlC (Bq n):=a3o (b3l h0 h1) (by simp[Bq,Vl.kindI])
abbrev b4g:List Vl:=[Bq 1,Bq 2,Bq 3]
theorem b0g:HasC Tryz.prog 19 [.sl 2 (Aq [Bq 1,.list [Bq 2,.list [Bq 3]]])] (fun r=>r=VV (.list b4g)) :=
 (a3p (vs:=[Bq 1,.list [Bq 2,.list [Bq 3]]]) (by simp[okL,Vl.ok,b3l]) (by decide) (by simp[Ce,Sy,Bq])).mono fun r hr=>by
  rw[hr,show Ce [Bq 1,.list [Bq 2,.list [Bq 3]]]=b4g by simp[Ce,Sy,Bq,b4g]]
  rfl
theorem b5f:a17 [[97]] [Bq 1]:=⟨rfl,by decide,fun n h=>by rw[List.mem_singleton.1 h];decide⟩
theorem b4h:a17 ([[97]] ++ [[98]]) ([Bq 1] ++ [Bq 2]):=⟨rfl,by decide,fun n h=>by
 rcases List.mem_append.1 h with h | h<;>rw[List.mem_singleton.1 h]<;>decide⟩
theorem b32:HasC Tryz.prog 35 [.sl 1 (Ax [[97]]),.sl 1 (Aq [Bq 1])] (fun r=>r=VV (.ctx [[97]] [Bq 1])) :=
 (Hq (ns:=[[97]]) (vs:=[Bq 1]) (by decide) (by simp)).mono fun r hr=>by rw[hr,Jy,if_pos b5f]
theorem b3j:HasC Tryz.prog 34 [VV (.ctx [[97]] [Bq 1]),.v (.string (tx [98])),VV (Bq 2)] (fun r=>r=VV (.ctx [[97],[98]] [Bq 1,Bq 2])) :=
 (b40 (ns:=[[97]]) (vs:=[Bq 1]) (l:=[98]) (by decide) (by decide) (by decide) (by decide) (by decide) (by simp)).mono fun r hr=>by rw[hr,Jy,if_pos b4h];rfl
theorem b3t:HasC Tryz.prog 37 [VV (.ctx [[97],[98]] [Bq 1,Bq 2]),.v (.string (tx [98]))] (fun r=>r=VV (Bq 2)) :=
 (b51 (l:=[98]) (ns:=[[97],[98]]) (vs:=[Bq 1,Bq 2]) (by decide) rfl).mono fun r hr=>by rw[hr,show Om [98] [[97],[98]] [Bq 1,Bq 2]=Bq 2 by rfl]
theorem Hz {zs:List Int} (h : ∀ z ∈ zs, -1000≤z∧z≤1000) : ∀ z ∈ zs, -9223372036854775808≤z∧z≤9223372036854775807:=fun z hz=>by have:=h z hz;omega
theorem b71:HasC Tryz.prog 27 [.sl 2 (Aq (Bb [1,2])),.v (.int .i64 (-1))] (fun r=>r=VV (Bq 2)) :=
 (b7a (vs:=Bb [1,2]) (a := -1) (by decide) (by decide) (by decide)).mono fun r hr=>by rw[hr];rfl
theorem b4s:HasC Tryz.prog 26 [.sl 3 (Aq (Bb [1,2,3])),.v (.int .i64 2),.v (.int .i64 1)] (fun r=>r=VV (.list (Bb [2]))) :=
 (b66 (vs:=Bb [1,2,3]) (a:=2) (n:=1) (by decide) (by decide) (by decide) (by decide) (by decide)).mono fun r hr=>by rw[hr];rfl
theorem b4p:HasC Tryz.prog 23 [.sl 2 (Aq (Bb [1,3])),.v (.int .i64 2),VV (Bq 2)] (fun r=>r=VV (.list (Bb [1,2,3]))) :=
 (a8t (vs:=Bb [1,3]) (a:=2) (x:=Bq 2) (by decide) (by decide) (by decide)).mono fun r hr=>by rw[hr];rfl
theorem a1a {zs:List Int} (h : ∀ z ∈ zs, -1000≤z∧z≤1000) : ∀ v ∈ Bb zs,PlC v:=fun v hv=>by
 obtain ⟨z,hz,rfl⟩:=List.mem_map.1 hv
 exact i_pl (h z hz).1 (h z hz).2
theorem a9d {zs:List Int} (h : ∀ z ∈ zs, -1000≤z∧z≤1000):okL (Bb zs):=Jm.2 fun v hv=>by
 obtain ⟨z,hz,rfl⟩:=List.mem_map.1 hv
 exact b3l (h z hz).1 (h z hz).2
theorem Pw {zs:List Int} (hl:zs.length≤1000) (h : ∀ z ∈ zs, -1000≤z∧z≤1000):HasC Tryz.prog 15 [VV (.list (Bb zs))] (fun r=>r=.sl (plL (Bb zs)).length (Ai (plL (Bb zs)))) :=
 (a3h (a6a (by simp;omega) (a1a h))).mono fun r hr=>by rw[hr,plV,Dm.is]
theorem Uw {zs:List Int} (hl:zs.length≤1000) (h : ∀ z ∈ zs, -1000≤z∧z≤1000):HasC Tryz.prog 9 [.sl (Bb zs).length (Aq (Bb zs))] (fun r=>r=.sl (plL (Bb zs)).length (Ai (plL (Bb zs)))):=b3c (by simp;omega) (a1a h)
theorem Vk {zs:List Int} (hl:zs.length≤1000) (h : ∀ z ∈ zs, -1000≤z∧z≤1000):HasC Tryz.prog 14 [.sl (plL (Bb zs)).length (Ai (plL (Bb zs))),.sl (plL (Bb zs)).length (Ai (plL (Bb zs)))] (fun r=>r=.v (.bool true)):=a8s (by rw[Wf];simp;omega) (Lc _ (a9d h))
set_option maxHeartbeats 3200000 in
theorem a33:HasC Tryz.prog 6 [] (fun r=>r=.v (.bool true)):=by
 refine hO [] Tryz.f6 (fun a w=>Tryz.call6 a w) Tryz.func6 rfl (⟨_,rfl⟩) ?_
 have h123 : ∀ z ∈ ([1,2,3]:List Int), -1000≤z∧z≤1000:=by decide
 have h13 : ∀ z ∈ ([1,3]:List Int), -1000≤z∧z≤1000:=by decide
 have h12 : ∀ z ∈ ([1,2]:List Int), -1000≤z∧z≤1000:=by decide
 have h2 : ∀ z ∈ ([2]:List Int), -1000≤z∧z≤1000:=by decide
 have h1 : ∀ z ∈ ([1]:List Int), -1000≤z∧z≤1000:=by decide
 refine Aa rfl (iQ 1 (iE 76 [(0,Ba false)] [] ?_))
 refine Aa rfl (eC 32 [Iv 1] 7 (Nr (x:=1) (by decide) (by decide)) (eC 32 [Iv 2] 8 (Nr (x:=2) (by decide) (by decide)) (eC 32 [Iv 3] 9 (Nr (x:=3) (by decide) (by decide)) (iQ 1 (eC 33 [.sl 1 [.bx (Bq 3).enc]] 11 (Ly (vs:=[Bq 3]) (by decide)) (iQ 1 (eC 33 [.sl 2 [.bx (Bq 2).enc,.bx (Vl.list [Bq 3]).enc]] 13 (Ly (vs:=[Bq 2,Vl.list [Bq 3]]) (by decide)) (iQ 1 (eC 19 [.sl 2 [.bx (Bq 1).enc,.bx (Vl.list [Bq 2,Vl.list [Bq 3]]).enc]] 15 (b0g) (iQ 2 (iE 76 [(0,Ba false),(1,.p 1 0)] [(1,[.bx (Vl.list (Bb [1,2,3])).enc])] ?_)))))))))))
 refine Aa rfl (iQ 2 (eC 36 [.sl 1 [.v (.int .i64 1)]] 18 (Ku (zs:=[1]) (by decide) (Hz h1)) (eC 35 [.sl 1 [.v (.string (⟨#[97]⟩))],.sl ((Bb [1]).length) (Aq (Bb [1]))] 19 (b32) (eC 32 [Iv 2] 20 (Nr (x:=2) (by decide) (by decide)) (eC 34 [.agg [.bx (Vl.ctx [[97]] [Bq 1]).enc],Sv (⟨#[98]⟩),.agg [.bx (Bq 2).enc]] 21 (b3j) (iQ 2 ?_))))))
 let Z1:=zH [(2,[.bx (Vl.ctx [[97],[98]] [Bq 1,Bq 2]).enc])] []
 refine iE 76 [(0,Ba false),(1,.p 1 0),(2,.p 2 0)] (zH [(1,[.bx (Vl.list (Bb [1,2,3])).enc])] Z1) ?_
 refine Aa rfl (iQ 1 (eC 37 [.agg [.bx (Vl.ctx [[97],[98]] [Bq 1,Bq 2]).enc],Sv (⟨#[98]⟩)] 24 (b3t) (eC 38 [.agg [.bx (Bq 2).enc]] 25 (Yo) (iQ 5 ?_))))
 let Z2:=zT [(0,Ba false),(1,.p 1 0),(2,.p 2 0),(3,Ia 2),(4,Ba true)] []
 refine iE 76 Z2 (zH [(1,[.bx (Vl.list (Bb [1,2,3])).enc])] Z1) ?_
 refine Aa rfl (iQ 1 (eC 36 [.sl 2 [.v (.int .i64 1),.v (.int .i64 2)]] 30 (Ku (zs:=[1,2]) (by decide) (Hz h12)) (eC 27 [.sl ((Bb [1,2]).length) (Aq (Bb [1,2])),Iv (-1)] 31 (b71) (eC 38 [.agg [.bx (Bq 2).enc]] 32 (Yo) (iQ 5 (iE 76 (zT [(5,Ia 2),(6,Ba true)] Z2) (zH [(1,[.bx (Vl.list (Bb [1,2,3])).enc])] Z1) ?_))))))
 refine Aa rfl (iQ 1 (eC 15 [.agg [.bx (Vl.list (Bb [1,2,3])).enc]] 36 (Pw (zs:=[1,2,3]) (by decide) h123) (iQ 1 (eC 36 [.sl 3 [.v (.int .i64 1),.v (.int .i64 2),.v (.int .i64 3)]] 38 (Ku (zs:=[1,2,3]) (by decide) (Hz h123)) (eC 9 [.sl ((Bb [1,2,3]).length) (Aq (Bb [1,2,3]))] 39 (Uw (zs:=[1,2,3]) (by decide) h123) (eC 14 [.sl ((plL (Bb ([1,2,3]))).length) (Ai (plL (Bb ([1,2,3])))),.sl ((plL (Bb ([1,2,3]))).length) (Ai (plL (Bb ([1,2,3]))))] 40 (Vk (zs:=[1,2,3]) (by decide) h123) (iQ 5 (jB .eql 3 (.int .i64 2) (.int .i64 2) 46 ?_))))))))
 refine Bg (rfl) ?_
 refine iQ 6 (jB .eql 3 (.int .i64 2) (.int .i64 2) 53 ?_)
 refine Bg (rfl) ?_
 refine iQ 3 (eC 36 [.sl 3 [.v (.int .i64 1),.v (.int .i64 2),.v (.int .i64 3)]] 57 (Ku (zs:=[1,2,3]) (by decide) (Hz h123)) (eC 26 [.sl ((Bb [1,2,3]).length) (Aq (Bb [1,2,3])),Iv 2,Iv 1] 58 (b4s) (eC 15 [.agg [.bx (Vl.list (Bb [2])).enc]] 59 (Pw (zs:=[2]) (by decide) h2) (iQ 1 (eC 36 [.sl 1 [.v (.int .i64 2)]] 61 (Ku (zs:=[2]) (by decide) (Hz h2)) (eC 9 [.sl ((Bb [2]).length) (Aq (Bb [2]))] 62 (Uw (zs:=[2]) (by decide) h2) (eC 14 [.sl ((plL (Bb ([2]))).length) (Ai (plL (Bb ([2])))),.sl ((plL (Bb ([2]))).length) (Ai (plL (Bb ([2]))))] 63 (Vk (zs:=[2]) (by decide) h2) (iQ 3 (eC 36 [.sl 2 [.v (.int .i64 1),.v (.int .i64 3)]] 67 (Ku (zs:=[1,3]) (by decide) (Hz h13)) (eC 32 [Iv 2] 68 (Nr (x:=2) (by decide) (by decide)) (eC 23 [.sl ((Bb [1,3]).length) (Aq (Bb [1,3])),Iv 2,.agg [.bx (Bq 2).enc]] 69 (b4p) ?_)))))))))))
 refine eC 15 [.agg [.bx (Vl.list (Bb [1,2,3])).enc]] 70 (Pw (zs:=[1,2,3]) (by decide) h123) (iQ 1 (eC 36 [.sl 3 [.v (.int .i64 1),.v (.int .i64 2),.v (.int .i64 3)]] 72 (Ku (zs:=[1,2,3]) (by decide) (Hz h123)) (eC 9 [.sl ((Bb [1,2,3]).length) (Aq (Bb [1,2,3]))] 73 (Uw (zs:=[1,2,3]) (by decide) h123) (eC 14 [.sl ((plL (Bb ([1,2,3]))).length) (Ai (plL (Bb ([1,2,3])))),.sl ((plL (Bb ([1,2,3]))).length) (Ai (plL (Bb ([1,2,3]))))] 74 (Vk (zs:=[1,2,3]) (by decide) h123) (iQ 2 (iE 76 [(0,Ba true),(1,.p 1 0),(2,.p 2 0)] (zH [(1,[.bx (Vl.list (Bb [1,2,3])).enc])] Z1) ?_))))))
 refine Ab (iR (Bv true) ?_)
 rfl
end Go.Proofs.YtfkfpkhgoijfdaaGreatDoor
