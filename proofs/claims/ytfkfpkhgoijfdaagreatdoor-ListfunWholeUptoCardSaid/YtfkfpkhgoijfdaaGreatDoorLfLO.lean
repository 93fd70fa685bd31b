/- ListfunPlaces. casuistlaw11.Great: how many parts a datum has; casuistlaw22.make1 with its values' weight; listfun's Concat, Items. casuistlaw22.flat: data, those of lists in their place; listfun.Items. ListfunWhole: the law. -/
import Derived.Test.YtfkfpkhgoijfdaaGreatDoorLfST
import Derived.Test.YtfkfpkhgoijfdaaGreatDoorLfVW
import Derived.Test.YtfkfpkhgoijfdaaGreatDoorPlB
namespace Go.Proofs.YtfkfpkhgoijfdaaGreatDoor
open Go.RowKit
set_option linter.unusedVariables false
set_option linter.unusedSimpArgs false
set_option maxRecDepth 100000
section
variable {α:Type}
def pA (L:List α) (k:Nat) (o:α):List α:=if k<L.length then L.take k ++ o::L.drop k else L
def pD (L:List α) (k:Nat) (n:Int):List α:=if n<0 then L.drop k else (L.drop k).take n.toNat
theorem b40 {M:List α} {k:Nat} {o x:α} (h:M.length=k):pA (M ++ [x]) k o=pA M k o ++ [o,x]:=by
 subst h
 simp[pA]
theorem b6b {M:List α} {k:Nat} {o x:α} (h:M.length≠k):pA (M ++ [x]) k o=pA M k o ++ [x]:=by
 rcases Nat.lt_or_ge k M.length with q | q
 ·rw[pA,pA,if_pos (by simp;omega),if_pos q,List.take_append_of_le_length (by omega),List.drop_append_of_le_length (by omega)]
  simp
 ·rw[pA,pA,if_neg (by simp;omega),if_neg (by omega)]
theorem b56 {M:List α} {k:Nat} {x:α} (h:M.length=k):Lt (M ++ [x]) k=Lt M k:=by
 subst h
 simp[Lt]
theorem b5g {M:List α} {k:Nat} {x:α} (h:M.length≠k):Lt (M ++ [x]) k=Lt M k ++ [x]:=by
 rcases Nat.lt_or_ge k M.length with q | q
 ·rw[Lt,Lt,List.take_append_of_le_length (by omega),List.drop_append_of_le_length (by omega),List.append_assoc]
 ·rw[Lt,Lt,List.take_of_length_le (by simp;omega),List.drop_of_length_le (by simp;omega),List.take_of_length_le (by omega),List.drop_of_length_le (by omega)]
  simp
theorem b5p {M:List α} {k:Nat} {o x:α} (h:M.length=k):(M ++ [x]).set k o=M.set k o ++ [o]:=by
 subst h
 simp
 exact (List.set_eq_of_length_le (Nat.le_refl _)).symm
theorem b46 {M:List α} {k:Nat} {o:α}:(pA M k o).length≤M.length+1:=by
 rw[pA]
 split
 ·simp;omega
 ·omega
theorem b16 {M:List α} {k:Nat}:(Lt M k).length≤M.length:=by simp[Lt];omega
theorem b4p {M:List α} {k:Nat} {n:Int}:(pD M k n).length≤M.length:=by
 rw[pD]
 split<;>simp<;>omega
theorem b48 {M:List α} {k:Nat} {o x:α} (h:M.length≠k):(M ++ [x]).set k o=M.set k o ++ [x]:=by
 rcases Nat.lt_or_ge k M.length with q | q
 ·rw[List.set_append_left _ _ q]
 ·rw[List.set_eq_of_length_le (by simp;omega),List.set_eq_of_length_le (by omega)]
end
theorem Ls : ∀ (a b:List Dm),Ad (a ++ b)=Ad a ++ Ad b
 | [],b=>by simp[Ad]
 | d::a,b=>by rw[List.cons_append,Ad,Ad,Ls a b,List.append_assoc]
theorem Qr {vs ws:List Vl} (h:okL vs) (k:okL ws):okL (vs ++ ws):=Dh.2 fun v hv=>(List.mem_append.1 hv).elim (Dh.1 h v) (Dh.1 k v)
theorem a2s {zs:List Vl}:(plV (.list zs)).is=plL zs:=by rw[plV,Dm.is]
theorem a9r {zs:List Vl} (hz:okL zs) (hl:zs.length≤1073741823):HasC Tryz.prog 15 [VV (.list zs)] (fun r=>r=.sl (plL zs).length (Ad (plL zs))):=(Ob (Eg (.list zs) (by rw[Vl.ok];exact ⟨by omega,hz⟩))).mono fun r hr=>by rw[hr,a2s]
theorem b8w {zs:List Vl} (hz:okL zs) (hl:zs.length≤1073741823):HasC Tryz.prog 16 [.agg [.bx (Vl.list zs).enc],.sl ((plL zs).length) (Ad (plL zs))] (fun r=>r=.v (.bool true)):=by
 refine hO [] Tryz.f16 (fun a w=>Tryz.call16 a w) Tryz.func16 rfl (⟨_,rfl⟩) ?_
 refine Aa rfl (iQ 2 ?_)
 let Z1:=zT [(1,.d (.sl ((plL zs).length) (Ad (plL zs))))] []
 refine iE 14 (zT [(2,.p 2 0),(4,Ba false)] Z1) [(2,[.bx (Vl.list zs).enc])] ?_
 refine Aa rfl (iQ 1 (eC 13 [.agg [.bx (Vl.list zs).enc]] 6 (Of (.list zs)) (jB .eql 23 (.int .i64 10) (.int .i64 10) 7 ?_)))
 refine Cg (rfl) ?_
 refine iQ 2 (eC 15 [.agg [.bx (Vl.list zs).enc]] 10 (a9r hz hl) (iQ 1 (eC 14 [.sl ((plL zs).length) (Ad (plL zs)),.sl ((plL zs).length) (Ad (plL zs))] 12 (Qz (by rw[Ft];omega) (Fk _ hz)) (iQ 2 (iE 14 [(4,Ba true)] [] ?_)))))
 refine Ab (iR (Bv true) ?_)
 rfl
theorem Tj {zs:List Vl} {v:Vl} {ds:List Dm} (hz:okL zs) (hl:zs.length≤65536) (hv:v=Ce zs) (hd:ds=plL zs):HasC Tryz.prog 16 [VV v,.sl ds.length (Ad ds)] (fun r=>r=.v (.bool true)):=by
 rw[hv,hd,Ce,if_pos hl]
 exact b8w hz (by omega)
structure PI (L:List Dm) (K:Nat) (o:Dm) (n:Int) (j:Nat) (A B C D:List Dm):Prop where
 a:A=pA (L.take j) K o
 b:B=Lt (L.take j) K
 c:C=(L.take j).set K o
 d:D=pD (L.take j) K n
theorem PI.zero {L:List Dm} {K:Nat} {o:Dm} {n:Int}:PI L K o n 0 [] [] [] []:=by
 refine ⟨?_,?_,?_,?_⟩<;>simp[pA,Lt,pD]
theorem PI.len {L:List Dm} {K j:Nat} {o:Dm} {n:Int} {A B C D:List Dm} (h:PI L K o n j A B C D) (hj:j≤L.length):A.length≤j+1∧B.length≤j∧C.length≤j∧D.length≤j:=by
 have hm:(L.take j).length=j:=by rw[List.length_take];omega
 refine ⟨?_,?_,?_,?_⟩
 ·rw[h.a];have := @b46 _ (L.take j) K o;omega
 ·rw[h.b];have := @b16 _ (L.take j) K;omega
 ·rw[h.c,List.length_set];omega
 ·rw[h.d];have := @b4p _ (L.take j) K n;omega
theorem PI.eq {L:List Dm} {K j:Nat} {o x:Dm} {n:Int} {A B C D D':List Dm} (h:PI L K o n j A B C D) (hx:L[j]? = some x) (e:j=K) (hd:D'=pD (L.take (j+1)) K n):PI L K o n (j+1) (A ++ [o,x]) B (C ++ [o]) D':=by
 have hm:(L.take j).length=j:=by rw[List.length_take];have:=(List.getElem?_eq_some_iff.1 hx).1;omega
 have et:L.take (j+1)=L.take j ++ [x]:=by rw[List.take_add_one,hx];rfl
 refine ⟨?_,?_,?_,hd⟩
 ·rw[et,b40 (hm.trans e),h.a]
 ·rw[et,b56 (hm.trans e),h.b]
 ·rw[et,b5p (hm.trans e),h.c]
theorem PI.ne {L:List Dm} {K j:Nat} {o x:Dm} {n:Int} {A B C D D':List Dm} (h:PI L K o n j A B C D) (hx:L[j]? = some x) (e:j≠K) (hd:D'=pD (L.take (j+1)) K n):PI L K o n (j+1) (A ++ [x]) (B ++ [x]) (C ++ [x]) D':=by
 have hm:(L.take j).length=j:=by rw[List.length_take];have:=(List.getElem?_eq_some_iff.1 hx).1;omega
 have et:L.take (j+1)=L.take j ++ [x]:=by rw[List.take_add_one,hx];rfl
 refine ⟨?_,?_,?_,hd⟩
 ·rw[et,b6b (by omega),h.a]
 ·rw[et,b5g (by omega),h.b]
 ·rw[et,b48 (by omega),h.c]
open Go.RowKit
set_option linter.unusedVariables false
set_option linter.unusedSimpArgs false
set_option maxRecDepth 100000
def LfQ (m:Nat) (n z:Int):Prop := -1≤z∧z≤n∧(0≤z→(m:Int)+z=n)
theorem b31 {k:Int} {t:L8} {is:List Dm} {ns:List L8} {p q:Bool} {n:Int} (hl:is.length≤1073741824) (n0:0≤n) (n1:n≤20000) (ih : ∀ (k:Int) (t:L8) (is':List Dm) (ns:List L8) (p q:Bool) (n:Int),Dm.mk k t is' ns p q ∈ is→0≤n→n≤20000→HasC Tryz.prog 39 [Ov k t is' ns p q,.v (.int .i64 n)] (fun y => ∃ z:Int,y=.v (.int .i64 z)∧LfQ (Dm.mk k t is' ns p q).parts n z)):HasC Tryz.prog 39 [.agg [.v (.int .i64 k),.v (.string (tx t)),.sl ((is).length) (Ad (is)),.sl ((ns).length) (Av (ns)),.v (.bool p),.v (.bool q)],.v (.int .i64 n)] (fun y => ∃ z:Int,y=.v (.int .i64 z)∧LfQ (Dm.mk k t is ns p q).parts n z):=by
 refine hO [] Tryz.f39 (fun a w=>Tryz.call39 a w) Tryz.func39 rfl (⟨_, -1,rfl,by omega,by omega,fun h=>by omega⟩) ?_
 refine Aa rfl (iQ 2 ?_)
 let Z1:=zH [(2,[Iv k,Sv (tx t),.sl ((is).length) (Ad (is)),.sl ((ns).length) (Av (ns)),Bv p,Bv q])] []
 refine iE 27 [(1,Ia n),(2,.p 2 0),(4,Ia 0)] Z1 ?_
 refine Aa rfl (iQ 1 (jB .sub 3 (.int .i64 n) (.int .i64 1) 7 ?_))
 intro z7 hz7
 try replace hz7:=hz7.i64 (by omega)
 refine iQ 1 (iE 27 [(1,Ia z7),(2,.p 2 0),(4,Ia 0)] Z1 ?_)
 refine Af (Aa rfl (iQ 1 ?_))
 let Z2:=zT [(1,Ia z7),(2,.p 2 0),(4,Ia 0),(5,Ia 0)] []
 refine iE 27 Z2 Z1 ?_
 refine Al (Bq 27 (fun (vcx:Nat×Int×Int)=>match vcx with | (j,y,m)=>[(1,Ia m),(2,.p 2 0),(4,Ia 0),(5,Ia y)]) (fun (vcx:Nat×Int×Int)=>match vcx with | (j,y,m)=>[(2,[Iv k,Sv (tx t),.sl ((is).length) (Ad (is)),.sl ((ns).length) (Av (ns)),Bv p,Bv q])]) (fun (vcx:Nat×Int×Int)=>match vcx with | (j,y,m)=>y=j∧j≤is.length ∧ -1≤m∧m≤n-1∧(0≤m→(Ed (is.take j):Int)+m=n-1)) (fun (vcx:Nat×Int×Int)=>match vcx with | (j,y,m)=>is.length-j) ((0,0,z7)) (⟨rfl,Nat.zero_le _,by omega,by omega,fun _=>by simp[Ed];omega⟩) (by kernel_rfl) (by kernel_rfl) ?_)
 rintro ⟨j,y,m⟩ hinv
 simp only at hinv
 obtain ⟨h1,h2,h3,h4,h5⟩:=hinv
 refine Af (Aa rfl (iQ 4 (jB .lss 3 (.int .i64 y) (.int .i64 ((((is).length:Nat):Int))) 12 ?_)))
 intro c12 hc12
 refine iQ 1 ?_
 cases c12
 ·replace hc12:=bf hc12
  refine iQ 3 ?_
  let Z3:=zT [(1,Ia m),(2,.p 2 0),(4,Ia 0),(5,Ia y),(16,Ba false)] []
  refine iE 27 Z3 Z1 ?_
  refine iF (Bj (Ck (Bt (Bk rfl (Ag (Aa rfl (iQ 2 ?_)))))))
  let Z4:=zT [(1,Ia m),(2,.p 2 0),(4,Ia m),(5,Ia y),(16,Ba false)] []
  refine iE 27 Z4 Z1 ?_
  refine Ab (iR (Iv m) ?_)
  exact ⟨m,rfl,h3,by omega,fun h=>by have e:is.take j=is:=List.take_of_length_le (by omega);have:=h5 h;rw[e] at this;rw[Dm.parts];omega⟩
 ·replace hc12:=bt hc12
  refine iQ 1 (jB .geq 3 (.int .i64 m) (.int .i64 0) 15 ?_)
  intro c15 hc15
  refine iQ 1 ?_
  let Z5:=zT [(1,Ia m),(2,.p 2 0),(4,Ia 0),(5,Ia y),(16,Ba c15)] []
  refine iE 27 Z5 Z1 ?_
  cases c15
  ·replace hc15:=bf hc15
   refine iF (Bj (Ck (Bt (Bk rfl (Ag (Aa rfl (iQ 2 ?_)))))))
   let Z6:=zT [(1,Ia m),(2,.p 2 0),(4,Ia m),(5,Ia y),(16,Ba false)] []
   refine iE 27 Z6 Z1 ?_
   refine Ab (iR (Iv m) ?_)
   exact ⟨m,rfl,h3,by omega,fun h=>by omega⟩
  ·replace hc15:=bt hc15
   obtain ⟨⟨k',t',is',ns',p',q'⟩,hm⟩ : ∃ d,is[j]? = some d:=⟨_,List.getElem?_eq_getElem (by omega)⟩
   have hmm:=Hi hm
   refine iT (Ae (Ag (Af (Al (Aq rfl (iQ 3 (Eh (q:=y) (n:=((is).length)) (cs:=(Ad (is))) (z:=6) (ds:=[.v (.int .i64 k'),.v (.string (tx t')),.sl ((is').length) (Ad (is')),.sl ((ns').length) (Av (ns')),.v (.bool p'),.v (.bool q')]) (dst:=(some 22)) (by kernel_rfl) (by omega) (by rw[h1,Int.toNat_natCast];exact (Co hm).trans (by rw[Dm.cells])) ?_)))))))
   refine iQ 2 (jC 39 [.agg [Iv k',Sv (tx t'),.sl ((is').length) (Ad (is')),.sl ((ns').length) (Av (ns')),Bv p',Bv q'],Iv m] 25 (ih k' t' is' ns' p' q' m (List.mem_of_getElem? hm) (by omega) (by omega)) ?_)
   rintro _ ⟨z,rfl,z1,z2,z3⟩
   refine iQ 1 ?_
   let Z7:=zT [(1,Ia z),(2,.p 2 0),(4,Ia 0),(5,Ia y),(16,Ba true)] []
   refine iE 27 Z7 Z1 ?_
   refine Ar (Ag (Aq rfl (iQ 1 (jB .add 3 (.int .i64 y) (.int .i64 1) 18 ?_))))
   intro z18 hz18
   try replace hz18:=hz18.i64 (by omega)
   refine iQ 1 ?_
   let Z8:=zT [(1,Ia z),(2,.p 2 0),(4,Ia 0),(5,Ia z18),(16,Ba true)] []
   refine iE 27 Z8 Z1 ?_
   refine Bw (j+1,z18,z) (⟨by omega,by omega,z1,by omega,fun h=>by have:=h5 (by omega);have:=z3 h;omega⟩) (by simp only;omega) (by kernel_rfl) (by kernel_rfl)
theorem a9u (k:Int) (t:L8) (is:List Dm) (ns:List L8) (p q:Bool) (n:Int) (hs:(Dm.mk k t is ns p q).small) (n0:0≤n) (n1:n≤20000):HasC Tryz.prog 39 [Ov k t is ns p q,.v (.int .i64 n)] (fun y => ∃ z:Int,y=.v (.int .i64 z)∧LfQ (Dm.mk k t is ns p q).parts n z):=by
 rw[Dm.small] at hs
 exact b31 hs.2.1 n0 n1 fun k' t' is' ns' p' q' n' hm m0 m1=>a9u k' t' is' ns' p' q' n' (Il.1 hs.2.2.2.2 _ hm) m0 m1
termination_by SizeOf.sizeOf is
decreasing_by
 have:=List.sizeOf_lt_of_mem hm
 simp at this
 omega
theorem a6f {c:Bool} {z:Int} {m:Nat} (h:c=false) (hc:c=true↔z<0) (h3:0≤z→(m:Int)+z=20000):m≤20000:=by
 subst h
 have q : ¬ z<0:=fun q=>by cases hc.2 q
 have:=h3 (by omega)
 omega
theorem a23 {k:Int} {t:L8} {is:List Dm} {ns:List L8} {p q:Bool} (hs:(Dm.mk k t is ns p q).small):HasC Tryz.prog 7 [.agg [.v (.int .i64 k),.v (.string (tx t)),.sl ((is).length) (Ad (is)),.sl ((ns).length) (Av (ns)),.v (.bool p),.v (.bool q)]] (fun y => ∃ g,y=.v (.bool g)∧(g=false→(Dm.mk k t is ns p q).parts≤20000)):=by
 refine hO [] Tryz.f7 (fun a w=>Tryz.call7 a w) Tryz.func7 rfl (⟨_,true,rfl,fun h=>by cases h⟩) ?_
 refine Aa rfl (iQ 2 ?_)
 let Z1:=zH [(1,[Iv k,Sv (tx t),.sl ((is).length) (Ad (is)),.sl ((ns).length) (Av (ns)),Bv p,Bv q])] []
 refine iE 6 [(1,.p 1 0),(2,Ba false)] Z1 ?_
 refine Aa rfl (iQ 1 (jC 39 [.agg [Iv k,Sv (tx t),.sl ((is).length) (Ad (is)),.sl ((ns).length) (Av (ns)),Bv p,Bv q],Iv 20000] 4 (a9u k t is ns p q 20000 hs (by decide) (by decide)) ?_))
 rintro _ ⟨z,rfl,h1,h2,h3⟩
 refine jB .lss 3 (.int .i64 z) (.int .i64 0) 5 ?_
 intro c5 hc5
 refine iQ 1 (iE 6 [(2,Ba c5)] [] ?_)
 refine Ab (iR (Bv c5) ?_)
 exact ⟨_,rfl,fun h=>a6f h hc5 h3⟩
theorem a5d {ds:List Dm} (hd:Dn ds) (hl:ds.length≤1048576):(Dm.mk 0 [] ds [] false false).small:=by
 rw[Dm.small]
 exact ⟨by simp,by omega,by simp,by simp,hd⟩
theorem Ze {ds:List Dm} (hd:Dn ds) (hl:ds.length≤1048576):HasC Tryz.prog 7 [Ov 0 [] ds [] false false] (fun y => ∃ g,y=.v (.bool g)∧(g=false→Ed ds≤20000)) :=
 (a23 (a5d hd hl)).mono fun y ⟨g,h1,h2⟩=>⟨g,h1,fun h=>by have:=h2 h;rw[Dm.parts] at this;omega⟩
theorem Yy {ds:List Dm} (hd:Dn ds) (hl:ds.length≤1048576):HasC Tryz.prog 8 [.sl ((ds).length) (Ad (ds))] (fun r => ∃ vs:List Vl,r=.sl vs.length (An vs)∧okL vs∧vs.length≤12∧fwL vs≤Ed ds):=by
 refine hO [] Tryz.f8 (fun a w=>Tryz.call8 a w) Tryz.func8 rfl (⟨_,[],rfl,by rw[okL];trivial,by decide,by simp[fwL]⟩) ?_
 refine Aa rfl (iQ 1 ?_)
 let Z1:=zT [(0,.d (.sl ((ds).length) (Ad (ds)))),(2,.w (.sl 0 []) none)] []
 refine iE 24 Z1 [] ?_
 refine Aa rfl (iQ 1 (iE 24 (zT [(3,.w (.sl 0 []) none)] Z1) [] ?_))
 refine Af (Aa rfl (iQ 1 (iE 24 (zT [(3,.w (.sl 0 []) none),(4,Ia 0)] Z1) [] ?_)))
 refine Al (Bq 24 (fun (vcx:Nat×(List Vl)×Int)=>match vcx with | (j,vs,z)=>[(0,.d (.sl ((ds).length) (Ad (ds)))),(2,.w (.sl 0 []) none),(3,.w (.sl ((vs).length) (An (vs))) (some ⟨3,0,36,1⟩)),(4,Ia z)]) (fun (vcx:Nat×(List Vl)×Int)=>match vcx with | (j,vs,z)=>[]) (fun (vcx:Nat×(List Vl)×Int)=>match vcx with | (j,vs,z)=>z=j∧j≤ds.length∧vs.length=j∧okL vs∧j≤12∧fwL vs≤Ed (ds.take j)) (fun (vcx:Nat×(List Vl)×Int)=>match vcx with | (j,vs,z)=>ds.length-j) ((0,[],0)) (⟨rfl,Nat.zero_le _,rfl,by rw[okL];trivial,by omega,by simp[fwL]⟩) (by kernel_rfl) (by kernel_rfl) ?_)
 rintro ⟨j,vs,z⟩ hinv
 simp only at hinv
 obtain ⟨h1,h2,h3,h4,h5,h6⟩:=hinv
 refine Af (Aa rfl (iQ 3 (jB .lss 3 (.int .i64 z) (.int .i64 ((((ds).length:Nat):Int))) 8 ?_)))
 intro c8 hc8
 refine iQ 1 ?_
 cases c8
 ·replace hc8:=bf hc8
  refine iQ 3 ?_
  let Z2:=zT [(3,.w (.sl ((vs).length) (An (vs))) (some ⟨3,0,36,1⟩))] []
  refine iE 24 (zT [(4,Ia z),(12,Ba false)] (zT Z2 Z1)) [] ?_
  refine iF (Bj (Ck (Bt (Bk rfl (Ag (Aa rfl (iQ 2 ?_)))))))
  let Z3:=zT [(2,.w (.sl ((vs).length) (An (vs))) (some ⟨3,0,36,1⟩))] []
  let Z4:=zT [(0,.d (.sl ((ds).length) (Ad (ds)))),(4,Ia z),(12,Ba false)] []
  let Z5:=zT Z4 (zT Z3 Z2)
  refine iE 24 Z5 [] ?_
  refine Ab (iR (.sl ((vs).length) (An (vs))) ?_)
  exact ⟨vs,rfl,h4,by omega,Nat.le_trans h6 (Kh ds j)⟩
 ·replace hc8:=bt hc8
  refine iQ 1 (jB .lss 3 (.int .i64 z) (.int .i64 12) 11 ?_)
  intro c11 hc11
  refine iQ 1 ?_
  let Z6:=zT [(3,.w (.sl ((vs).length) (An (vs))) (some ⟨3,0,36,1⟩))] []
  refine iE 24 (zT [(4,Ia z),(12,Ba c11)] (zT Z6 Z1)) [] ?_
  cases c11
  ·replace hc11:=bf hc11
   refine iF (Bj (Ck (Bt (Bk rfl (Ag (Aa rfl (iQ 2 ?_)))))))
   let Z7:=zT [(2,.w (.sl ((vs).length) (An (vs))) (some ⟨3,0,36,1⟩))] []
   let Z8:=zT [(0,.d (.sl ((ds).length) (Ad (ds)))),(4,Ia z),(12,Ba false)] []
   let Z9:=zT Z8 (zT Z7 Z6)
   refine iE 24 Z9 [] ?_
   refine Ab (iR (.sl ((vs).length) (An (vs))) ?_)
   exact ⟨vs,rfl,h4,by omega,Nat.le_trans h6 (Kh ds j)⟩
  ·replace hc11:=bt hc11
   obtain ⟨⟨k',t',is',ns',p',q'⟩,hm⟩ : ∃ d,ds[j]? = some d:=⟨_,List.getElem?_eq_getElem (by omega)⟩
   have hsm:=Il.1 hd _ (List.mem_of_getElem? hm)
   refine iT (Ae (Ag (Af (Al (Aq rfl (iQ 3 (Eh (q:=z) (n:=((ds).length)) (cs:=(Ad (ds))) (z:=6) (ds:=[.v (.int .i64 k'),.v (.string (tx t')),.sl ((is').length) (Ad (is')),.sl ((ns').length) (Av (ns')),.v (.bool p'),.v (.bool q')]) (dst:=(some 18)) (by kernel_rfl) (by omega) (by rw[h1,Int.toNat_natCast];exact (Co hm).trans (by rw[Dm.cells])) ?_)))))))
   refine iQ 1 (jC 10 [.agg [Iv k',Sv (tx t'),.sl ((is').length) (Ad (is')),.sl ((ns').length) (Av (ns')),Bv p',Bv q']] 20 (Uw hsm) ?_)
   rintro _ ⟨v,rfl,ov,vf⟩
   refine iQ 1 (Dg (n:=((vs).length)) (cs:=(An (vs))) (m:=1) (ds:=[.bx (v).enc]) (N:=((vs ++ [v]).length)) (es:=(An (vs ++ [v]))) (j:=3) (e:=36) (z:=1) (dst:=(some 22)) (by kernel_rfl) (by first | rfl | omega | (rw[Nat.mul_one];exact Br _) | (simp[dg];done) | (simp[dg];omega)) (by first | rfl | omega | (rw[Nat.mul_one];exact Br _) | (simp[dg];done) | (simp[dg];omega)) (rfl) (by omega) (by simp) (Kq) ?_)
   refine iQ 1 ?_
   let Z10:=zT [(3,.w (.sl ((vs ++ [v]).length) (An (vs ++ [v]))) (some ⟨3,0,36,1⟩))] []
   refine iE 24 (zT [(4,Ia z),(12,Ba true)] (zT Z10 Z1)) [] ?_
   refine Ar (Ag (Aq rfl (iQ 1 (jB .add 3 (.int .i64 z) (.int .i64 1) 14 ?_))))
   intro z14 hz14
   try replace hz14:=hz14.i64 (by omega)
   refine iQ 1 (iE 24 (zT [(4,Ia z14),(12,Ba true)] (zT Z10 Z1)) [] ?_)
   refine Bw (j+1,vs ++ [v],z14) (⟨by omega,by omega,by simp;omega,Sa h4 ov,by omega,by rw[Nk,Hi hm];omega⟩) (by show ds.length-(j+1)<ds.length-j;omega) (by kernel_rfl) (by kernel_rfl)
mutual
theorem a93 : ∀ (v:Vl),(Ch v).length=fw v
 | .list xs=>by rw[Ch,fw];exact Sk xs
 | .null=>by simp[Ch,fw]
 | .bool _=>by simp[Ch,fw]
 | .num _ _ _=>by simp[Ch,fw]
 | .text _=>by simp[Ch,fw]
 | .day _ _ _=>by simp[Ch,fw]
 | .time _ _ _=>by simp[Ch,fw]
 | .mom _ _ _ _ _ _=>by simp[Ch,fw]
 | .days _=>by simp[Ch,fw]
 | .months _=>by simp[Ch,fw]
 | .ctx _ _=>by simp[Ch,fw]
 | .rng _ _ _ _=>by simp[Ch,fw]
theorem Sk : ∀ (vs:List Vl),(Bm vs).length=fwL vs
 | []=>by simp[Bm,fwL]
 | v::r=>by rw[Bm,fwL,List.length_append,a93 v,Sk r]
end
def Ji (L:List (List Vl)):List DV:=L.map fun vs=>.sl vs.length (An vs)
theorem a5v {L:List (List Vl)} {k:Nat} {vs:List Vl} (h:L[k]? = some vs):(Ji L)[k]? = some (.sl vs.length (An vs)):=by rw[Ji,List.getElem?_map,h];rfl
theorem Oj {L:List (List Vl)} {k:Nat} {vs:List Vl} (h:L[k]? = some vs):(L.take (k+1)).flatten=(L.take k).flatten ++ vs:=by
 rw[List.take_add_one,h];simp
theorem b26 {L:List (List Vl)} (k:Nat):(L.take k).flatten.length≤L.flatten.length:=by
 conv=>rhs;rw[← List.take_append_drop k L,List.flatten_append,List.length_append]
 omega
theorem a78 {L:List (List Vl)} (hl:L.length≤1073741824) (hf:L.flatten.length≤1073741823):HasC Tryz.prog 17 [.sl ((L).length) (Ji (L))] (fun r => ∃ v,IsV r v∧v=Ce L.flatten):=by
 refine hO [] Tryz.f17 (fun a w=>Tryz.call17 a w) Tryz.func17 rfl (⟨_,_,.inl rfl,rfl⟩) ?_
 refine Aa rfl (iQ 1 ?_)
 let Z1:=zT [(0,.d (.sl ((L).length) (Ji (L)))),(2,.p 2 0)] []
 refine iE 18 Z1 [(2,[.v (.nilIface)])] ?_
 refine Aa rfl (iQ 1 (iE 18 (zT [(3,.w (.sl 0 []) none)] Z1) [(2,[.v (.nilIface)])] ?_))
 refine Af (Aa rfl (iQ 3 ?_))
 let Z2:=zT [(2,.p 2 0),(3,.w (.sl 0 []) none),(6,.d (.sl ((L).length) (Ji (L)))),(7,Ia ((((L).length:Nat):Int))),(8,Ia 0)] []
 refine iE 18 Z2 [(2,[.v (.nilIface)])] ?_
 refine Al (Bq 18 (fun (vcx:Nat×Int)=>match vcx with | (j,z)=>[(2,.p 2 0),(3,.w (.sl (((L.take j).flatten).length) (An ((L.take j).flatten))) (some ⟨3,0,36,1⟩)),(6,.d (.sl ((L).length) (Ji (L)))),(7,Ia ((((L).length:Nat):Int))),(8,Ia z)]) (fun (vcx:Nat×Int)=>match vcx with | (j,z)=>[(2,[.v (.nilIface)])]) (fun (vcx:Nat×Int)=>match vcx with | (j,z)=>z=j∧j≤L.length) (fun (vcx:Nat×Int)=>match vcx with | (j,z)=>L.length-j) ((0,0)) (⟨rfl,Nat.zero_le _⟩) (by kernel_rfl) (by kernel_rfl) ?_)
 rintro ⟨j,z⟩ hinv
 simp only at hinv
 obtain ⟨h1,h2⟩:=hinv
 refine Aa rfl (jB .lss 3 (.int .i64 z) (.int .i64 ((((L).length:Nat):Int))) 9 ?_)
 intro c9 hc9
 let Z3:=zT [(3,.w (.sl (((L.take j).flatten).length) (An ((L.take j).flatten))) (some ⟨3,0,36,1⟩))] []
 let Z4:=zT [(2,.p 2 0),(6,.d (.sl ((L).length) (Ji (L)))),(7,Ia ((((L).length:Nat):Int))),(8,Ia z),(9,Ba c9)] []
 refine iE 18 (zT Z4 Z3) [(2,[.v (.nilIface)])] ?_
 refine Af ?_
 cases c9
 ·replace hc9:=bf hc9
  have e:(L.take j).flatten=L.flatten:=by rw[List.take_of_length_le (by omega)]
  refine iF (Bj (Ck (Bt (Bk rfl (Ag (Aa rfl (iQ 1 (eC 42 [.sl (((L.take j).flatten).length) (An ((L.take j).flatten))] 17 (Pl (vs:=(L.take j).flatten) (by rw[e];omega)) (iQ 1 ?_)))))))))
  let Z5:=zT [(2,.p 2 0),(6,.d (.sl ((L).length) (Ji (L)))),(7,Ia ((((L).length:Nat):Int))),(8,Ia z),(9,Ba false)] []
  refine iE 18 (zT Z5 Z3) [(2,[.bx (Ce (L.take j).flatten).enc])] ?_
  refine Ab (iR (.agg [.bx (Ce (L.take j).flatten).enc]) ?_)
  exact ⟨_,.inl rfl,by rw[e]⟩
 ·replace hc9:=bt hc9
  obtain ⟨vs,hx⟩ : ∃ x,L[j]? = some x:=⟨_,List.getElem?_eq_getElem (by omega)⟩
  have hb:=b26 (L:=L) (j+1)
  rw[Oj hx,List.length_append] at hb
  refine iT (Ae (Ag (Af (Al (Aa rfl (Bl (q:=z) (n:=((L).length)) (cs:=(Ji (L))) (d:=.sl ((vs).length) (An (vs))) (dst:=(some 10)) (by kernel_rfl) (by omega) (by rw[h1,Int.toNat_natCast];exact a5v hx) ?_))))))
  refine iQ 2 ?_
  let Z6:=zT [(2,.p 2 0),(5,.d (.sl ((vs).length) (An (vs)))),(6,.d (.sl ((L).length) (Ji (L)))),(7,Ia ((((L).length:Nat):Int))),(8,Ia z),(9,Ba true)] []
  refine iE 18 (zT Z6 Z3) [(2,[.v (.nilIface)])] ?_
  refine Aq rfl (iQ 2 (Dg (n:=(((L.take j).flatten).length)) (cs:=(An ((L.take j).flatten))) (m:=((vs).length)) (ds:=(An (vs))) (N:=(((L.take (j+1)).flatten).length)) (es:=(An ((L.take (j+1)).flatten))) (j:=3) (e:=36) (z:=1) (dst:=(some 14)) (by kernel_rfl) (by first | rfl | omega | (rw[Nat.mul_one];exact Br _) | (simp[dg];done) | (simp[dg];omega)) (by first | rfl | omega | (rw[Nat.mul_one];exact Br _) | (simp[dg];done) | (simp[dg];omega)) (by first | rfl | exact Ky _ | exact He _ | exact Hc _ | simp[dg,Bs]) (by omega) (by rw[Oj hx,List.length_append]) (by rw[Oj hx];exact a8h _ _) ?_))
  refine iQ 1 ?_
  let Z7:=zT [(3,.w (.sl (((L.take (j+1)).flatten).length) (An ((L.take (j+1)).flatten))) (some ⟨3,0,36,1⟩))] []
  refine iE 18 (zT Z7 Z6) [(2,[.v (.nilIface)])] ?_
  refine Ar (Ag (Aq rfl (jB .add 3 (.int .i64 z) (.int .i64 1) 15 ?_)))
  intro z15 hz15
  try replace hz15:=hz15.i64 (by omega)
  refine iQ 1 ?_
  let Z8:=zT [(2,.p 2 0),(5,.d (.sl ((vs).length) (An (vs)))),(6,.d (.sl ((L).length) (Ji (L)))),(7,Ia ((((L).length:Nat):Int))),(8,Ia z15),(9,Ba true)] []
  refine iE 18 (zT Z8 Z7) [(2,[.v (.nilIface)])] ?_
  refine Bw (j+1,z15) (⟨by omega,by omega⟩) (by show L.length-(j+1)<L.length-j;omega) (by kernel_rfl) (by kernel_rfl)
theorem Zy {L:List (List Vl)} (hl:L.length≤1073741824) (hf:L.flatten.length≤1073741823):HasC Tryz.prog 17 [.sl L.length (Ji L)] (fun r=>r=VV (Ce L.flatten)):=(a78 hl hf).isV.mono fun r ⟨v,h1,h2⟩=>by rw[h1,h2]
open Go.RowKit
set_option linter.unusedVariables false
set_option linter.unusedSimpArgs false
set_option maxRecDepth 100000
mutual
def Fg:Dm→List Dm
 | .mk k t is ns p q=>if k=10 then Bg is else [.mk k t is ns p q]
def Bg:List Dm→List Dm
 | []=>[]
 | d::r=>Fg d ++ Bg r
end
theorem Me : ∀ (a b:List Dm),Bg (a ++ b)=Bg a ++ Bg b
 | [],b=>by simp[Bg]
 | v::a,b=>by rw[List.cons_append,Bg,Bg,Me a b,List.append_assoc]
theorem Ey {ws:List Dm} {k:Nat} {x:Dm} (h:ws[k]? = some x):Bg (ws.take (k+1))=Bg (ws.take k) ++ Fg x:=by
 rw[List.take_add_one,h,Me]
 simp[Bg]
theorem a4b {ws:List Dm} (k:Nat):(Bg (ws.take k)).length≤(Bg ws).length:=by
 conv=>rhs;rw[← List.take_append_drop k ws,Me,List.length_append]
 omega
theorem Fv : ∀ (ds:List Dm),Bs (Ad ds)=true
 | []=>rfl
 | .mk k t is ns p q::ds=>by
  have:=Fv ds
  simp only[Ad,Dm.cells,List.cons_append,List.nil_append,Bs,List.all_cons,DV.one,Value.oneCell',Bool.and_self,Bool.true_and] at this ⊢
  exact this
theorem a9k {ds:List Dm} (hl:ds.length≤1073741824) (hf:(Bg ds).length≤1073741823) (ih : ∀ (k:Int) (t:L8) (is':List Dm) (ns:List L8) (p q:Bool),Dm.mk k t is' ns p q ∈ ds→(Bg is').length≤1073741823→k=10→HasC Tryz.prog 20 [.sl is'.length (Ad is')] (fun y=>y=.sl (Bg is').length (Ad (Bg is')))):HasC Tryz.prog 20 [.sl ((ds).length) (Ad (ds))] (fun y=>y=.sl (Bg ds).length (Ad (Bg ds))):=by
 refine hO [] Tryz.f20 (fun a w=>Tryz.call20 a w) Tryz.func20 rfl (⟨_,rfl⟩) ?_
 refine Aa rfl (iQ 1 ?_)
 let Z1:=zT [(0,.d (.sl ((ds).length) (Ad (ds)))),(2,.w (.sl 0 []) none)] []
 refine iE 33 Z1 [] ?_
 refine Aa rfl (iQ 1 (iE 33 (zT [(3,.w (.sl 0 []) none)] Z1) [] ?_))
 refine Af (Aa rfl (iQ 1 (iE 33 (zT [(3,.w (.sl 0 []) none),(4,Ia 0)] Z1) [] ?_)))
 refine Al (Bq 33 (fun (vcx:Nat×Int)=>match vcx with | (j,z)=>[(0,.d (.sl ((ds).length) (Ad (ds)))),(2,.w (.sl 0 []) none),(3,.w (.sl ((Bg (ds.take j)).length) (Ad (Bg (ds.take j)))) (some ⟨3,0,27,6⟩)),(4,Ia z)]) (fun (vcx:Nat×Int)=>match vcx with | (j,z)=>[]) (fun (vcx:Nat×Int)=>match vcx with | (j,z)=>z=j∧j≤ds.length) (fun (vcx:Nat×Int)=>match vcx with | (j,z)=>ds.length-j) ((0,0)) (⟨rfl,Nat.zero_le _⟩) (by kernel_rfl) (by kernel_rfl) ?_)
 rintro ⟨j,z⟩ hinv
 simp only at hinv
 obtain ⟨h1,h2⟩:=hinv
 refine Af (Aa rfl (iQ 3 (jB .lss 3 (.int .i64 z) (.int .i64 ((((ds).length:Nat):Int))) 8 ?_)))
 intro c8 hc8
 let Z2:=zT [(3,.w (.sl ((Bg (ds.take j)).length) (Ad (Bg (ds.take j)))) (some ⟨3,0,27,6⟩))] []
 refine iE 33 (zT [(4,Ia z),(8,Ba c8)] (zT Z2 Z1)) [] ?_
 cases c8
 ·replace hc8:=bf hc8
  have e:ds.take j=ds:=List.take_of_length_le (by omega)
  refine iF (Bj (Ck (Bt (Bk rfl (Ag (Aa rfl (iQ 2 ?_)))))))
  let Z3:=zT [(2,.w (.sl ((Bg (ds.take j)).length) (Ad (Bg (ds.take j)))) (some ⟨3,0,27,6⟩))] []
  let Z4:=zT [(0,.d (.sl ((ds).length) (Ad (ds)))),(4,Ia z),(8,Ba false)] []
  let Z5:=zT Z4 (zT Z3 Z2)
  refine iE 33 Z5 [] ?_
  refine Ab (iR (.sl ((Bg (ds.take j)).length) (Ad (Bg (ds.take j)))) ?_)
  rw[e]
 ·replace hc8:=bt hc8
  obtain ⟨⟨k',t',is',ns',p',q'⟩,hm⟩ : ∃ d,ds[j]? = some d:=⟨_,List.getElem?_eq_getElem (by omega)⟩
  have hb:=a4b (ws:=ds) (j+1)
  have hcl:=Eu (Bg (ds.take j))
  have hg:((Ad ds).drop (j*6)).take 6=_:=(Co hm).trans (by rw[Dm.cells])
  refine iT (Ae (Ag (Af (Al (Aa rfl (iQ 2 (Eh (q:=z) (n:=((ds).length)) (cs:=(Ad (ds))) (z:=6) (ds:=[.v (.int .i64 k'),.v (.string (tx t')),.sl ((is').length) (Ad (is')),.sl ((ns').length) (Av (ns')),.v (.bool p'),.v (.bool q')]) (dst:=(some 13)) (by kernel_rfl) (by omega) (by rw[h1,Int.toNat_natCast];exact hg) ?_)))))))
  refine iQ 2 (jB .eql 23 (.int .i64 k') (.int .i64 10) 16 ?_)
  intro c16 hc16
  refine iE 33 (zT [(4,Ia z),(8,Ba true),(16,Ba c16)] (zT Z2 Z1)) [] ?_
  cases c16
  ·replace hc16:=bf hc16
   have e:Fg (.mk k' t' is' ns' p' q')=[.mk k' t' is' ns' p' q']:=by rw[Fg,if_neg (by omega)]
   rw[Ey hm,e,List.length_append] at hb
   refine iF (Aq rfl (iQ 3 (Eh (q:=z) (n:=((ds).length)) (cs:=(Ad (ds))) (z:=6) (ds:=[.v (.int .i64 k'),.v (.string (tx t')),.sl ((is').length) (Ad (is')),.sl ((ns').length) (Av (ns')),.v (.bool p'),.v (.bool q')]) (dst:=(some 28)) (by kernel_rfl) (by omega) (by rw[h1,Int.toNat_natCast];exact hg) ?_)))
   refine iQ 2 (Dg (n:=((Bg (ds.take j)).length)) (cs:=(Ad (Bg (ds.take j)))) (m:=1) (ds:=[.v (.int .i64 k'),.v (.string (tx t')),.sl ((is').length) (Ad (is')),.sl ((ns').length) (Av (ns')),.v (.bool p'),.v (.bool q')]) (N:=((Bg (ds.take (j+1))).length)) (es:=(Ad (Bg (ds.take (j+1))))) (j:=3) (e:=27) (z:=6) (dst:=(some 31)) (by kernel_rfl) (by first | rfl | omega | (rw[Nat.mul_one];exact Br _) | (simp[dg];done) | (simp[dg];omega)) (by first | rfl | omega | (rw[Nat.mul_one];exact Br _) | (simp[dg];done) | (simp[dg];omega)) (rfl) (by simp at hb;omega) (by rw[Ey hm,e,List.length_append];rfl) (by rw[Ey hm,e];exact Iw rfl) ?_)
   refine iQ 1 ?_
   let Z6:=zT [(3,.w (.sl ((Bg (ds.take (j+1))).length) (Ad (Bg (ds.take (j+1))))) (some ⟨3,0,27,6⟩))] []
   refine iE 33 (zT [(4,Ia z),(8,Ba true),(16,Ba false)] (zT Z6 Z1)) [] ?_
   refine Ar (Ag (Aq rfl (iQ 1 (jB .add 3 (.int .i64 z) (.int .i64 1) 10 ?_))))
   intro z10 hz10
   try replace hz10:=hz10.i64 (by omega)
   refine iQ 1 (iE 33 (zT [(4,Ia z10),(8,Ba true),(16,Ba false)] (zT Z6 Z1)) [] ?_)
   refine Bw (j+1,z10) (⟨by omega,by omega⟩) (by show ds.length-(j+1)<ds.length-j;omega) (by kernel_rfl) (by kernel_rfl)
  ·replace hc16:=bt hc16
   have hcl2:=Eu (Bg is')
   have e:Fg (.mk k' t' is' ns' p' q')=Bg is':=by rw[Fg,if_pos (by omega)]
   rw[Ey hm,e,List.length_append] at hb
   refine iT (Aq rfl (iQ 3 (Eh (q:=z) (n:=((ds).length)) (cs:=(Ad (ds))) (z:=6) (ds:=[.v (.int .i64 k'),.v (.string (tx t')),.sl ((is').length) (Ad (is')),.sl ((ns').length) (Av (ns')),.v (.bool p'),.v (.bool q')]) (dst:=(some 20)) (by kernel_rfl) (by omega) (by rw[h1,Int.toNat_natCast];exact hg) ?_)))
   refine iQ 2 (eC 20 [.sl ((is').length) (Ad (is'))] 23 (ih k' t' is' ns' p' q' (List.mem_of_getElem? hm) (by omega) (by omega)) (Dg (n:=((Bg (ds.take j)).length)) (cs:=(Ad (Bg (ds.take j)))) (m:=((Bg is').length)) (ds:=(Ad (Bg is'))) (N:=((Bg (ds.take (j+1))).length)) (es:=(Ad (Bg (ds.take (j+1))))) (j:=3) (e:=27) (z:=6) (dst:=(some 24)) (by kernel_rfl) (by first | rfl | omega | (rw[Nat.mul_one];exact Br _) | (simp[dg];done) | (simp[dg];omega)) (by first | rfl | omega | (rw[Nat.mul_one];exact Br _) | (simp[dg];done) | (simp[dg];omega)) (Fv _) (by omega) (by rw[Ey hm,e,List.length_append]) (by rw[Ey hm,e];exact (Ls _ _).symm) ?_))
   refine iQ 1 ?_
   let Z7:=zT [(3,.w (.sl ((Bg (ds.take (j+1))).length) (Ad (Bg (ds.take (j+1))))) (some ⟨3,0,27,6⟩))] []
   refine iE 33 (zT [(4,Ia z),(8,Ba true),(16,Ba true)] (zT Z7 Z1)) [] ?_
   refine Ar (Ag (Aq rfl (iQ 1 (jB .add 3 (.int .i64 z) (.int .i64 1) 10 ?_))))
   intro z10 hz10
   try replace hz10:=hz10.i64 (by omega)
   refine iQ 1 (iE 33 (zT [(4,Ia z10),(8,Ba true),(16,Ba true)] (zT Z7 Z1)) [] ?_)
   refine Bw (j+1,z10) (⟨by omega,by omega⟩) (by show ds.length-(j+1)<ds.length-j;omega) (by kernel_rfl) (by kernel_rfl)
theorem Ng (ds:List Dm) (hs:Hb ds) (hl:ds.length≤1073741824) (hf:(Bg ds).length≤1073741823):HasC Tryz.prog 20 [.sl ds.length (Ad ds)] (fun y=>y=.sl (Bg ds).length (Ad (Bg ds))) :=
 a9k hl hf fun k t is' ns p q hm hf' _=>Ng is' (by have:=Jx.1 hs _ hm;rw[Dm.lenD] at this;exact this.2.2) (by have:=Jx.1 hs _ hm;rw[Dm.lenD] at this;exact this.1) hf'
termination_by SizeOf.sizeOf ds
decreasing_by
 have:=List.sizeOf_lt_of_mem hm
 simp at this
 omega
mutual
theorem a6q : ∀ (v:Vl),Fg (plV v)=plL (Ch v)
 | .list xs=>by rw[plV,Fg,if_pos rfl,Ch];exact Ev xs
 | .null=>by simp[plV,Fg,Ch,plL]
 | .bool _=>by simp[plV,Fg,Ch,plL,Vl.kindI]
 | .num _ _ _=>by simp[plV,Fg,Ch,plL,Vl.kindI]
 | .text _=>by simp[plV,Fg,Ch,plL,Vl.kindI]
 | .day _ _ _=>by simp[plV,Fg,Ch,plL,Vl.kindI]
 | .time _ _ _=>by simp[plV,Fg,Ch,plL,Vl.kindI]
 | .mom _ _ _ _ _ _=>by simp[plV,Fg,Ch,plL,Vl.kindI]
 | .days _=>by simp[plV,Fg,Ch,plL,Vl.kindI]
 | .months _=>by simp[plV,Fg,Ch,plL,Vl.kindI]
 | .ctx _ _=>by simp[plV,Fg,Ch,plL]
 | .rng _ _ _ _=>by simp[plV,Fg,Ch,plL]
theorem Ev : ∀ (vs:List Vl),Bg (plL vs)=plL (Bm vs)
 | []=>by simp[Bg,Bm,plL]
 | v::r=>by rw[plL,Bg,a6q v,Ev r,Bm,Es,Es,Es,List.map_append]
end
theorem a63 {xs:List Vl} (h:xs.length≤1073741824):HasC Tryz.prog 11 [.agg [.bx (Vl.list xs).enc]] (fun r=>r=.tup [.sl xs.length (An xs),.v (.bool true)]):=by
 refine hO [] Tryz.f11 (fun a w=>Tryz.call11 a w) Tryz.func11 rfl (⟨_,rfl⟩) ?_
 refine Aa rfl (iQ 3 ?_)
 let Z1:=zT [(1,.p 1 0),(2,.w (.sl 0 []) none),(3,Ba false)] []
 refine iE 17 Z1 [(1,[.bx (Vl.list xs).enc])] ?_
 refine Af (Aa rfl (iQ 1 (eC 41 [.agg [.bx (Vl.list xs).enc]] 8 (Ud rfl h) (iQ 5 ?_))))
 let Z2:=zT [(4,.d (.sl ((xs).length) (An (xs)))),(5,Ba true)] []
 refine iE 17 (zT Z2 Z1) [(1,[.bx (Vl.list xs).enc])] ?_
 refine Aa rfl (iQ 1 ?_)
 let Z3:=zT [(4,.d (.sl ((xs).length) (An (xs)))),(11,Ba true)] []
 refine iE 17 (zT Z3 Z1) [(1,[.bx (Vl.list xs).enc])] ?_
 refine iT (Aa rfl (iQ 3 ?_))
 let Z4:=zT [(1,.p 1 0),(2,.d (.sl ((xs).length) (An (xs)))),(3,Ba true),(11,Ba true)] []
 refine iE 17 Z4 [(1,[.bx (Vl.list xs).enc])] ?_
 refine Ab (Ai (iS (.sl ((xs).length) (An (xs))) (Bv true) [] ?_))
 rfl
theorem a6c:HasC Tryz.prog 11 [.agg [.bx (Vl.null).enc]] (fun r=>r=.tup [.sl 0 [],.v (.bool false)]):=by
 refine hO [] Tryz.f11 (fun a w=>Tryz.call11 a w) Tryz.func11 rfl (⟨_,rfl⟩) ?_
 refine Aa rfl (iQ 3 ?_)
 let Z1:=zT [(1,.p 1 0),(2,.w (.sl 0 []) none),(3,Ba false)] []
 refine iE 17 Z1 [(1,[.bx (Vl.null).enc])] ?_
 refine Af (Aa rfl (iQ 1 (eC 41 [.agg [.bx (Vl.null).enc]] 8 (On rfl) (iQ 5 (iE 17 (zT [(4,.d (.sl 0 ([]))),(5,Ba false)] Z1) [(1,[.bx (Vl.null).enc])] ?_)))))
 refine Aa rfl (iQ 1 (iE 17 (zT [(4,.d (.sl 0 ([]))),(11,Ba false)] Z1) [(1,[.bx (Vl.null).enc])] ?_))
 refine iF (Ae (Ag (Af (Aa rfl (iQ 1 (eC 12 [.agg [.bx (Vl.null).enc]] 14 (b2n rfl) ?_))))))
 let Z2:=zT [(4,.d (.sl 0 ([]))),(11,Ba false),(14,Ba true)] []
 refine iE 17 (zT Z2 Z1) [(1,[.bx (Vl.null).enc])] ?_
 refine iT (Aa rfl (iQ 2 (iE 17 (zT Z1 Z2) [(1,[.bx (Vl.null).enc])] ?_)))
 refine Ab (Ai (iS (.sl 0 []) (Bv false) [] ?_))
 rfl
theorem a7y {v:Vl} (h:Iu v=none) (h1:v.kindI≠1):HasC Tryz.prog 11 [.agg [.bx (v).enc]] (fun r=>r=.tup [.sl 1 (An [v]),.v (.bool true)]):=by
 refine hO [] Tryz.f11 (fun a w=>Tryz.call11 a w) Tryz.func11 rfl (⟨_,rfl⟩) ?_
 refine Aa rfl (iQ 3 ?_)
 let Z1:=zT [(1,.p 1 0),(2,.w (.sl 0 []) none),(3,Ba false)] []
 refine iE 17 Z1 [(1,[.bx (v).enc])] ?_
 refine Af (Aa rfl (iQ 1 (eC 41 [.agg [.bx (v).enc]] 8 (On h) (iQ 5 (iE 17 (zT [(4,.d (.sl 0 ([]))),(5,Ba false)] Z1) [(1,[.bx (v).enc])] ?_)))))
 refine Aa rfl (iQ 1 (iE 17 (zT [(4,.d (.sl 0 ([]))),(11,Ba false)] Z1) [(1,[.bx (v).enc])] ?_))
 refine iF (Ae (Ag (Af (Aa rfl (iQ 1 (eC 12 [.agg [.bx (v).enc]] 14 (b2l h1) ?_))))))
 let Z2:=zT [(4,.d (.sl 0 ([]))),(11,Ba false),(14,Ba false)] []
 refine iE 17 (zT Z2 Z1) [(1,[.bx (v).enc])] ?_
 refine iF (Ae (Ag (Aa rfl (iQ 4 ?_))))
 let Z3:=zT [(1,.p 1 0),(2,.w (.sl 1 [.bx (v).enc]) none),(3,Ba true)] []
 refine iE 17 (zT Z3 Z2) [(1,[.bx (v).enc])] ?_
 refine Ab (iS (.sl 1 [.bx (v).enc]) (Bv true) [] ?_)
 rfl
open Go.RowKit
set_option linter.unusedVariables false
set_option linter.unusedSimpArgs false
set_option maxRecDepth 100000
theorem a9a {v:Vl} (ov:v.ok):HasC Tryz.prog 11 [VV v] (fun r => ∃ is ok,r=.tup [.sl is.length (An is),.v (.bool ok)]∧(ok=true↔v.kindI≠1)∧(v.kindI=10→v=.list is)∧(v.kindI≠10→ok=true→is=[v])):=by
 cases h:Iu v with
 | some xs =>
  have hx:v=.list xs:=by cases v<;>simp[Iu] at h<;>rw[h]
  subst hx
  rw[Vl.ok] at ov
  exact (a63 ov.1).mono fun r hr=>⟨xs,true,hr,by simp[Vl.kindI],fun _=>rfl,fun k=>absurd rfl k⟩
 | none =>
  have h10:v.kindI≠10:=by cases v<;>simp[Iu] at h<;>simp[Vl.kindI]
  by_cases h1:v.kindI=1
  ·rw[Gr] at h1
   subst h1
   exact a6c.mono fun r hr=>⟨[],false,hr,by simp[Vl.kindI],fun k=>absurd k h10,fun _ k=>by cases k⟩
  ·exact (a7y h h1).mono fun r hr=>⟨[v],true,hr,by simp[h1],fun k=>absurd k h10,fun _ _=>rfl⟩
theorem Xm {vs:List Vl} (h:okL vs):okL vs.reverse:=Dh.2 fun v hv=>Dh.1 h v (List.mem_reverse.1 hv)
mutual
theorem a8k : ∀ (v:Vl),v.ok→okL (Ch v)
 | .list xs,h=>by rw[Vl.ok] at h;rw[Ch];exact Jn xs h.2
 | .null,h=>by rw[Ct rfl,okL,okL];exact ⟨h,trivial⟩
 | .bool _,h=>by rw[Ct rfl,okL,okL];exact ⟨h,trivial⟩
 | .num _ _ _,h=>by rw[Ct rfl,okL,okL];exact ⟨h,trivial⟩
 | .text _,h=>by rw[Ct rfl,okL,okL];exact ⟨h,trivial⟩
 | .day _ _ _,h=>by rw[Ct rfl,okL,okL];exact ⟨h,trivial⟩
 | .time _ _ _,h=>by rw[Ct rfl,okL,okL];exact ⟨h,trivial⟩
 | .mom _ _ _ _ _ _,h=>by rw[Ct rfl,okL,okL];exact ⟨h,trivial⟩
 | .days _,h=>by rw[Ct rfl,okL,okL];exact ⟨h,trivial⟩
 | .months _,h=>by rw[Ct rfl,okL,okL];exact ⟨h,trivial⟩
 | .ctx _ _,h=>by rw[Ct rfl,okL,okL];exact ⟨h,trivial⟩
 | .rng _ _ _ _,h=>by rw[Ct rfl,okL,okL];exact ⟨h,trivial⟩
theorem Jn : ∀ (vs:List Vl),okL vs→okL (Bm vs)
 | [],_=>by rw[Bm,okL];trivial
 | v::r,h=>by rw[okL] at h;rw[Bm];exact Qr (a8k v h.1) (Jn r h.2)
end
theorem Wd (vs:List Vl):plL vs.reverse=(plL vs).reverse:=by simp[Es]
theorem Vo (vs ws:List Vl):plL (vs ++ ws)=plL vs ++ plL ws:=by simp[Es]
theorem Oq {vs ws:List Vl} (h:vs.length+ws.length≤1073741823):HasC Tryz.prog 17 [.sl 2 [.sl vs.length (An vs),.sl ws.length (An ws)]] (fun r=>r=VV (Ce (vs ++ ws))) :=
 (Zy (L:=[vs,ws]) (by simp) (by simpa using h)).mono fun r hr=>by rw[hr];simp
theorem Pd:HasC Tryz.prog 17 [.sl 0 []] (fun r=>r=VV (.list [])) :=
 (Zy (L:=[]) (by simp) (by simp)).mono fun r hr=>by rw[hr];rfl
theorem a8m:HasC Tryz.prog 16 [VV (.list []),.sl 0 []] (fun r=>r=.v (.bool true)):=Tj (zs:=[]) (v:=.list []) (ds:=[]) (by rw[okL];trivial) (by simp) rfl (by simp[plL])
theorem a5o {v:Vl} {is:List Vl} (h:v=.list is) (ov:v.ok):HasC Tryz.prog 15 [VV v] (fun r=>r=.sl (plL is).length (Ad (plL is))):=by
 subst h
 rw[Vl.ok] at ov
 have:=(Ob (Eg (.list is) (by rw[Vl.ok];exact ov)))
 exact this.mono fun r hr=>by rw[hr,a2s]
theorem Zc {L:List Dm} {j:Nat} {x:Dm} (h:L[L.length-1-j]? = some x) (hj:j<L.length):L.reverse.take (j+1)=L.reverse.take j ++ [x]:=by
 rw[List.take_add_one,List.getElem?_reverse hj,h];rfl
set_option maxHeartbeats 6400000 in
theorem Rr {ds es:List Dm} {k0:Int} {t0:L8} {is0:List Dm} {ns0:List L8} {p0 q0:Bool} (hd:Dn ds) (hl:ds.length≤1048576) (he:Dn es) (hle:es.length≤1048576) (hx0:(Dm.mk k0 t0 is0 ns0 p0 q0).small):HasC Tryz.prog 3 [.sl ((ds).length) (Ad (ds)),.sl ((es).length) (Ad (es)),.agg [.v (.int .i64 k0),.v (.string (tx t0)),.sl ((is0).length) (Ad (is0)),.sl ((ns0).length) (Av (ns0)),.v (.bool p0),.v (.bool q0)]] (fun r=>r=.v (.bool true)):=by
 refine hO [] Tryz.f3 (fun a w=>Tryz.call3 a w) Tryz.func3 rfl (⟨_,rfl⟩) ?_
 refine Aa rfl (iQ 2 ?_)
 let Z1:=zT [(0,.d (.sl ((ds).length) (Ad (ds)))),(1,.d (.sl ((es).length) (Ad (es)))),(5,.p 5 0),(6,Ba false)] []
 let Z2:=zH [(5,[Iv k0,Sv (tx t0),.sl ((is0).length) (Ad (is0)),.sl ((ns0).length) (Av (ns0)),Bv p0,Bv q0])] []
 refine iE 128 Z1 Z2 ?_
 refine Af (Aa rfl (eC 6 [] 17 (a5w) (jU .not (.bool true) 18 ?_)))
 refine Am ((by simp)) ?_
 refine iE 128 (zT [(18,Ba false)] Z1) Z2 ?_
 refine iF (Ae (Ag (Af (Aa rfl (iQ 2 (jC 7 [.agg [Iv 0,Sv (⟨#[]⟩),.sl ((ds).length) (Ad (ds)),.sl 0 [],Bv false,Bv false]] 21 (Ze hd hl) ?_))))))
 rintro _ ⟨g1,rfl,hg1⟩
 refine iQ 1 ?_
 cases g1
 ·refine iQ 2 (jC 7 [.agg [Iv 0,Sv (⟨#[]⟩),.sl ((es).length) (Ad (es)),.sl 0 [],Bv false,Bv false]] 25 (Ze he hle) ?_)
  rintro _ ⟨g2,rfl,hg2⟩
  refine iQ 2 ?_
  cases g2
  ·refine iQ 1 (jC 7 [.agg [Iv k0,Sv (tx t0),.sl ((is0).length) (Ad (is0)),.sl ((ns0).length) (Av (ns0)),Bv p0,Bv q0]] 29 (a23 hx0) ?_)
   rintro _ ⟨g3,rfl,hg3⟩
   refine iQ 1 (iE 128 (zT [(18,Ba false),(30,Ba g3)] Z1) Z2 ?_)
   cases g3
   ·refine iF (Ae (Ag (Aa rfl (iQ 1 (jC 8 [.sl ((ds).length) (Ad (ds))] 32 (Yy hd hl) ?_)))))
    rintro _ ⟨vs,rfl,hv,hvl,hvf⟩
    refine iQ 1 (jC 8 [.sl ((es).length) (Ad (es))] 34 (Yy he hle) ?_)
    rintro _ ⟨ws,rfl,hw,hwl,hwf⟩
    have hp : ∀ w ∈ vs,PlC w:=fun w hw=>Eg w (Dh.1 hv w hw)
    have hp2 : ∀ w ∈ ws,PlC w:=fun w h=>Eg w (Dh.1 hw w h)
    have hfl:(Bm vs).length≤20000:=by rw[Sk];have:=hg1 rfl;omega
    have hL:(plL vs).length=vs.length:=Ft vs
    have hL2:(plL ws).length=ws.length:=Ft ws
    have hcl:=Eu (plL vs)
    have hcl2:=Eu (plL ws)
    refine iQ 2 ?_
    let Z3:=zT [(7,.d (.sl ((vs).length) (An (vs)))),(8,.d (.sl ((ws).length) (An (ws)))),(18,Ba false),(30,Ba false)] []
    refine iE 128 (zT Z3 Z1) Z2 ?_
    refine Aa rfl (iQ 1 (eC 9 [.sl ((vs).length) (An (vs))] 36 (Ws (by omega) hp) (iQ 1 (eC 9 [.sl ((ws).length) (An (ws))] 38 (Ws (by omega) hp2) (iQ 2 ?_)))))
    let Z4:=zT [(9,.d (.sl ((plL vs).length) (Ad (plL vs))))] []
    let Z5:=zT [(10,.d (.sl ((plL ws).length) (Ad (plL ws))))] []
    let Z6:=zT Z5 (zT Z4 (zT Z1 Z3))
    refine iE 128 Z6 Z2 ?_
    refine Aa rfl (iQ 2 ?_)
    let Z7:=zT [(11,.w (.sl 0 []) none),(12,.w (.sl 0 []) none)] []
    refine iE 128 (zT Z7 Z6) Z2 ?_
    refine Aa rfl (iQ 2 (Dg (n:=0) (cs:=[]) (m:=((plL vs).length)) (ds:=(Ad (plL vs))) (N:=((plL vs).length)) (es:=(Ad (plL vs))) (j:=41) (e:=27) (z:=6) (dst:=(some 41)) (by kernel_rfl) (by first | rfl | omega | (rw[Nat.mul_one];exact Br _) | (simp[dg];done) | (simp[dg];omega)) (by first | rfl | omega | (rw[Nat.mul_one];exact Br _) | (simp[dg];done) | (simp[dg];omega)) (Fv _) (by omega) (by simp) (by simp) ?_))
    refine iQ 1 ?_
    let Z8:=zT [(11,.w (.sl ((plL vs).length) (Ad (plL vs))) (some ⟨41,0,27,6⟩))] []
    refine iE 128 (zT [(12,.w (.sl 0 []) none)] (zT Z8 Z6)) Z2 ?_
    refine Aa rfl (iQ 2 (Dg (n:=((plL vs).length)) (cs:=(Ad (plL vs))) (m:=((plL ws).length)) (ds:=(Ad (plL ws))) (N:=((plL vs ++ plL ws).length)) (es:=(Ad (plL vs ++ plL ws))) (j:=41) (e:=27) (z:=6) (dst:=(some 44)) (by kernel_rfl) (by first | rfl | omega | (rw[Nat.mul_one];exact Br _) | (simp[dg];done) | (simp[dg];omega)) (by first | rfl | omega | (rw[Nat.mul_one];exact Br _) | (simp[dg];done) | (simp[dg];omega)) (Fv _) (by omega) (by simp) ((Ls _ _).symm) ?_))
    refine iQ 1 ?_
    let Z9:=zT [(11,.w (.sl ((plL vs ++ plL ws).length) (Ad (plL vs ++ plL ws))) (some ⟨41,0,27,6⟩))] []
    let Z10:=zT [(12,.w (.sl 0 []) none)] (zT Z9 (zT Z1 (zT Z3 Z4)))
    refine iE 128 Z10 Z2 ?_
    refine Af (Aa rfl (iQ 2 (jB .sub 3 (.int .i64 ((((plL vs).length:Nat):Int))) (.int .i64 1) 47 ?_)))
    intro z47 hz47
    try replace hz47:=hz47.i64 (by omega)
    refine iQ 1 (iE 128 (zT [(13,Ia z47)] Z10) Z2 ?_)
    refine Al (Bq 128 (fun (vcx:Nat×Int)=>match vcx with | (j,y)=>[(0,.d (.sl ((ds).length) (Ad (ds)))),(1,.d (.sl ((es).length) (Ad (es)))),(5,.p 5 0),(6,Ba false),(7,.d (.sl ((vs).length) (An (vs)))),(8,.d (.sl ((ws).length) (An (ws)))),(9,.d (.sl ((plL vs).length) (Ad (plL vs)))),(11,.w (.sl ((plL vs ++ plL ws).length) (Ad (plL vs ++ plL ws))) (some ⟨41,0,27,6⟩)),(12,.w (.sl (((plL vs).reverse.take j).length) (Ad ((plL vs).reverse.take j))) (some ⟨12,0,27,6⟩)),(13,Ia y),(18,Ba false),(30,Ba false)]) (fun (vcx:Nat×Int)=>match vcx with | (j,y)=>[(5,[Iv k0,Sv (tx t0),.sl ((is0).length) (Ad (is0)),.sl ((ns0).length) (Av (ns0)),Bv p0,Bv q0])]) (fun (vcx:Nat×Int)=>match vcx with | (j,y)=>y=(vs.length:Int)-1-j∧j≤vs.length) (fun (vcx:Nat×Int)=>match vcx with | (j,y)=>vs.length-j) ((0,z47)) (⟨by omega,Nat.zero_le _⟩) (by kernel_rfl) (by kernel_rfl) ?_)
    rintro ⟨j,y⟩ hinv
    simp only at hinv
    obtain ⟨h1,h2⟩:=hinv
    refine Af (Aa rfl (iQ 1 (jB .geq 3 (.int .i64 y) (.int .i64 0) 49 ?_)))
    intro c49 hc49
    let Z11:=zT [(12,.w (.sl (((plL vs).reverse.take j).length) (Ad ((plL vs).reverse.take j))) (some ⟨12,0,27,6⟩))] []
    let Z12:=zT [(13,Ia y),(49,Ba c49)] (zT Z11 (zT Z1 (zT Z3 (zT Z9 Z4))))
    refine iE 128 Z12 Z2 ?_
    cases c49
    ·replace hc49:=bf hc49
     have hrv:(plL vs).reverse.take j=(plL vs).reverse:=List.take_of_length_le (by simp;omega)
     refine iF (Bj (Ck (Bt (Bk rfl (Ag (Aa rfl (iQ 1 (jC 10 [.agg [Iv k0,Sv (tx t0),.sl ((is0).length) (Ad (is0)),.sl ((ns0).length) (Av (ns0)),Bv p0,Bv q0]] 60 (a9o hx0) ?_))))))))
     rintro _ ⟨v,rfl,ov⟩
     refine iQ 2 ?_
     let Z13:=zT [(13,Ia y),(14,.p 14 0),(49,Ba false)] (zT Z1 (zT Z3 (zT Z11 (zT Z9 Z4))))
     refine iE 128 Z13 (zH [(14,[.bx (v).enc])] Z2) ?_
     refine Aa rfl (iQ 1 (jC 11 [.agg [.bx (v).enc]] 63 (a9a ov) ?_))
     rintro _ ⟨is,ok,rfl,hi1,hi2,hi3⟩
     refine iQ 5 ?_
     let Z14:=zT [(15,.d (.sl ((is).length) (An (is)))),(16,Ba ok)] []
     refine iE 128 (zT Z14 Z13) (zH [(14,[.bx (v).enc])] Z2) ?_
     refine Af (Aa rfl (iQ 2 (jC 12 [.agg [.bx (v).enc]] 68 (Bd (v:=v)) ?_)))
     rintro _ ⟨n,rfl,hn⟩
     refine jB .eql 4 (.bool ok) (.bool n) 69 ?_
     refine Am ((by cases ok<;>cases n<;>simp_all)) ?_
     refine iQ 2 (jC 13 [.agg [.bx (v).enc]] 72 (Eo (v:=v)) ?_)
     rintro _ ⟨kd,rfl,hkd⟩
     refine jB .eql 23 (.int .i64 kd) (.int .i64 10) 73 ?_
     intro c73 hc73
     refine iQ 1 ?_
     cases c73
     ·replace hc73:=bf hc73
      refine iQ 10 (jC 13 [.agg [.bx (v).enc]] 85 (Eo (v:=v)) ?_)
      rintro _ ⟨kd2,rfl,hkd2⟩
      refine jB .neq 23 (.int .i64 kd2) (.int .i64 10) 86 ?_
      refine Cg ((by omega)) ?_
      refine iQ 4 ?_
      cases ok
      ·refine iQ 14 (iE 128 (zT [(104,Ba false)] Z13) (zH [(14,[.bx (v).enc])] Z2) ?_)
       refine iF (Ae (Ag (Aa rfl (iQ 3 (eC 17 [.sl 2 [.sl ((vs).length) (An (vs)),.sl ((ws).length) (An (ws))]] 108 (Oq (vs:=vs) (ws:=ws) (by omega)) (iQ 1 (eC 16 [.agg [.bx (Ce (vs ++ ws)).enc],.sl ((plL vs ++ plL ws).length) (Ad (plL vs ++ plL ws))] 110 (Tj (zs:=vs ++ ws) (Qr hv hw) (by simp;omega) rfl (Vo vs ws).symm) (iQ 2 (eC 18 [.sl ((vs).length) (An (vs))] 113 (Oc (vs:=vs) (by omega)) (iQ 1 (eC 16 [.agg [.bx (Ce vs.reverse).enc],.sl (((plL vs).reverse.take j).length) (Ad ((plL vs).reverse.take j))] 115 (Tj (zs:=vs.reverse) (Xm hv) (by simp;omega) rfl (by rw[hrv,Wd])) ?_)))))))))))
       refine iQ 3 (eC 19 [.sl ((vs).length) (An (vs))] 119 (Ks (vs:=vs) hv (by omega) (by omega)) (iQ 1 (eC 20 [.sl ((plL vs).length) (Ad (plL vs))] 121 (Ng (plL vs) (Fk _ hv) (by omega) (by rw[Ev,Ft];omega)) (eC 16 [.agg [.bx (Ce (Bm vs)).enc],.sl ((Bg (plL vs)).length) (Ad (Bg (plL vs)))] 122 (Tj (zs:=Bm vs) (Jn vs hv) (by omega) rfl (Ev vs)) (iQ 2 (eC 17 [.sl 0 []] 125 (Pd) (eC 16 [.agg [.bx (Vl.list []).enc],.sl 0 []] 126 (a8m) (iQ 2 ?_))))))))
       let Z15:=zT [(0,.d (.sl ((ds).length) (Ad (ds)))),(1,.d (.sl ((es).length) (Ad (es)))),(5,.p 5 0),(6,Ba true),(13,Ia y),(14,.p 14 0),(49,Ba false),(104,Ba false)] []
       let Z16:=zT Z15 (zT Z3 (zT Z11 (zT Z9 Z4)))
       refine iE 128 Z16 (zH [(14,[.bx (v).enc])] Z2) ?_
       refine Ab (iR (Bv true) ?_)
       rfl
      ·refine iQ 2 (jB .neq 3 (.int .i64 ((((is).length:Nat):Int))) (.int .i64 1) 93 ?_)
       have hvi:=hi3 (by omega) rfl
       refine Am ((by rw[hvi];simp)) ?_
       refine iQ 2 (Bl (q:=0) (n:=((is).length)) (cs:=(An (is))) (d:=.bx (v).enc) (dst:=(some 96)) (by kernel_rfl) (by rw[hvi];simp) (by rw[hvi];rfl) ?_)
       refine iQ 1 (jC 13 [.agg [.bx (v).enc]] 98 (Eo (v:=v)) ?_)
       rintro _ ⟨kd3,rfl,hkd3⟩
       refine iQ 1 (jC 13 [.agg [.bx (v).enc]] 100 (Eo (v:=v)) ?_)
       rintro _ ⟨kd4,rfl,hkd4⟩
       refine jB .neq 23 (.int .i64 kd3) (.int .i64 kd4) 101 ?_
       refine Am ((by omega)) ?_
       refine iQ 3 (iE 128 (zT [(104,Ba false)] Z13) (zH [(14,[.bx (v).enc])] Z2) ?_)
       refine iF (Ae (Ag (Aa rfl (iQ 3 (eC 17 [.sl 2 [.sl ((vs).length) (An (vs)),.sl ((ws).length) (An (ws))]] 108 (Oq (vs:=vs) (ws:=ws) (by omega)) (iQ 1 (eC 16 [.agg [.bx (Ce (vs ++ ws)).enc],.sl ((plL vs ++ plL ws).length) (Ad (plL vs ++ plL ws))] 110 (Tj (zs:=vs ++ ws) (Qr hv hw) (by simp;omega) rfl (Vo vs ws).symm) (iQ 2 (eC 18 [.sl ((vs).length) (An (vs))] 113 (Oc (vs:=vs) (by omega)) (iQ 1 (eC 16 [.agg [.bx (Ce vs.reverse).enc],.sl (((plL vs).reverse.take j).length) (Ad ((plL vs).reverse.take j))] 115 (Tj (zs:=vs.reverse) (Xm hv) (by simp;omega) rfl (by rw[hrv,Wd])) ?_)))))))))))
       refine iQ 3 (eC 19 [.sl ((vs).length) (An (vs))] 119 (Ks (vs:=vs) hv (by omega) (by omega)) (iQ 1 (eC 20 [.sl ((plL vs).length) (Ad (plL vs))] 121 (Ng (plL vs) (Fk _ hv) (by omega) (by rw[Ev,Ft];omega)) (eC 16 [.agg [.bx (Ce (Bm vs)).enc],.sl ((Bg (plL vs)).length) (Ad (Bg (plL vs)))] 122 (Tj (zs:=Bm vs) (Jn vs hv) (by omega) rfl (Ev vs)) (iQ 2 (eC 17 [.sl 0 []] 125 (Pd) (eC 16 [.agg [.bx (Vl.list []).enc],.sl 0 []] 126 (a8m) (iQ 2 ?_))))))))
       let Z17:=zT [(0,.d (.sl ((ds).length) (Ad (ds)))),(1,.d (.sl ((es).length) (Ad (es)))),(5,.p 5 0),(6,Ba true),(13,Ia y),(14,.p 14 0),(49,Ba false),(104,Ba false)] []
       let Z18:=zT Z17 (zT Z3 (zT Z11 (zT Z9 Z4)))
       refine iE 128 Z18 (zH [(14,[.bx (v).enc])] Z2) ?_
       refine Ab (iR (Bv true) ?_)
       rfl
     ·replace hc73:=bt hc73
      refine iQ 1 ?_
      have hvi:=hi2 (by omega)
      have ovi:=ov
      rw[hvi,Vl.ok] at ovi
      refine eC 9 [.sl ((is).length) (An (is))] 76 (Ws (by omega) (fun w hw ↦ Eg w (Dh.1 ovi.2 w hw))) (iQ 1 (eC 15 [.agg [.bx (v).enc]] 78 (a5o hvi ov) (eC 14 [.sl ((plL is).length) (Ad (plL is)),.sl ((plL is).length) (Ad (plL is))] 79 (Qz (by rw[Ft];omega) (Fk _ ovi.2)) (jU .not (.bool true) 80 ?_))))
      refine Am ((by simp)) ?_
      refine iQ 4 (jC 13 [.agg [.bx (v).enc]] 85 (Eo (v:=v)) ?_)
      rintro _ ⟨kd2,rfl,hkd2⟩
      refine jB .neq 23 (.int .i64 kd2) (.int .i64 10) 86 ?_
      refine Am ((by omega)) ?_
      refine iQ 18 (iE 128 (zT [(104,Ba false)] Z13) (zH [(14,[.bx (v).enc])] Z2) ?_)
      refine iF (Ae (Ag (Aa rfl (iQ 3 (eC 17 [.sl 2 [.sl ((vs).length) (An (vs)),.sl ((ws).length) (An (ws))]] 108 (Oq (vs:=vs) (ws:=ws) (by omega)) (iQ 1 (eC 16 [.agg [.bx (Ce (vs ++ ws)).enc],.sl ((plL vs ++ plL ws).length) (Ad (plL vs ++ plL ws))] 110 (Tj (zs:=vs ++ ws) (Qr hv hw) (by simp;omega) rfl (Vo vs ws).symm) (iQ 2 (eC 18 [.sl ((vs).length) (An (vs))] 113 (Oc (vs:=vs) (by omega)) (iQ 1 (eC 16 [.agg [.bx (Ce vs.reverse).enc],.sl (((plL vs).reverse.take j).length) (Ad ((plL vs).reverse.take j))] 115 (Tj (zs:=vs.reverse) (Xm hv) (by simp;omega) rfl (by rw[hrv,Wd])) ?_)))))))))))
      refine iQ 3 (eC 19 [.sl ((vs).length) (An (vs))] 119 (Ks (vs:=vs) hv (by omega) (by omega)) (iQ 1 (eC 20 [.sl ((plL vs).length) (Ad (plL vs))] 121 (Ng (plL vs) (Fk _ hv) (by omega) (by rw[Ev,Ft];omega)) (eC 16 [.agg [.bx (Ce (Bm vs)).enc],.sl ((Bg (plL vs)).length) (Ad (Bg (plL vs)))] 122 (Tj (zs:=Bm vs) (Jn vs hv) (by omega) rfl (Ev vs)) (iQ 2 (eC 17 [.sl 0 []] 125 (Pd) (eC 16 [.agg [.bx (Vl.list []).enc],.sl 0 []] 126 (a8m) (iQ 2 ?_))))))))
      let Z19:=zT [(0,.d (.sl ((ds).length) (Ad (ds)))),(1,.d (.sl ((es).length) (Ad (es)))),(5,.p 5 0),(6,Ba true),(13,Ia y),(14,.p 14 0),(49,Ba false),(104,Ba false)] []
      let Z20:=zT Z19 (zT Z3 (zT Z11 (zT Z9 Z4)))
      refine iE 128 Z20 (zH [(14,[.bx (v).enc])] Z2) ?_
      refine Ab (iR (Bv true) ?_)
      rfl
    ·replace hc49:=bt hc49
     obtain ⟨⟨k',t',is',ns',p',q'⟩,hm⟩ : ∃ d,(plL vs)[(plL vs).length-1-j]? = some d:=⟨_,List.getElem?_eq_getElem (by omega)⟩
     have hcl3:=Eu ((plL vs).reverse.take j)
     have hy:y.toNat=(plL vs).length-1-j:=by omega
     refine iT (Ae (Ag (Af (Al (Aq rfl (iQ 3 (Eh (q:=y) (n:=((plL vs).length)) (cs:=(Ad (plL vs))) (z:=6) (ds:=[.v (.int .i64 k'),.v (.string (tx t')),.sl ((is').length) (Ad (is')),.sl ((ns').length) (Av (ns')),.v (.bool p'),.v (.bool q')]) (dst:=(some 55)) (by kernel_rfl) (by omega) (by rw[hy];exact (Co hm).trans (by rw[Dm.cells])) ?_)))))))
     refine iQ 2 (Dg (n:=(((plL vs).reverse.take j).length)) (cs:=(Ad ((plL vs).reverse.take j))) (m:=1) (ds:=[.v (.int .i64 k'),.v (.string (tx t')),.sl ((is').length) (Ad (is')),.sl ((ns').length) (Av (ns')),.v (.bool p'),.v (.bool q')]) (N:=(((plL vs).reverse.take (j+1)).length)) (es:=(Ad ((plL vs).reverse.take (j+1)))) (j:=12) (e:=27) (z:=6) (dst:=(some 58)) (by kernel_rfl) (by first | rfl | omega | (rw[Nat.mul_one];exact Br _) | (simp[dg];done) | (simp[dg];omega)) (by first | rfl | omega | (rw[Nat.mul_one];exact Br _) | (simp[dg];done) | (simp[dg];omega)) (rfl) (by simp;omega) (by rw[Zc hm (by omega)];simp) (by rw[Zc hm (by omega)];exact Iw rfl) ?_)
     refine iQ 1 ?_
     let Z21:=zT [(12,.w (.sl (((plL vs).reverse.take (j+1)).length) (Ad ((plL vs).reverse.take (j+1)))) (some ⟨12,0,27,6⟩))] []
     let Z22:=zT [(13,Ia y),(49,Ba true)] (zT Z21 (zT Z1 (zT Z3 (zT Z9 Z4))))
     refine iE 128 Z22 Z2 ?_
     refine Ar (Ag (Aq rfl (iQ 1 (jB .sub 3 (.int .i64 y) (.int .i64 1) 51 ?_))))
     intro z51 hz51
     try replace hz51:=hz51.i64 (by omega)
     refine iQ 1 ?_
     let Z23:=zT [(13,Ia z51),(49,Ba true)] (zT Z21 (zT Z1 (zT Z3 (zT Z9 Z4))))
     refine iE 128 Z23 Z2 ?_
     refine Bw (j+1,z51) (⟨by omega,by omega⟩) (by show vs.length-(j+1)<vs.length-j;omega) (by kernel_rfl) (by kernel_rfl)
   ·refine iT (Aa rfl (iQ 1 ?_))
    let Z24:=zT [(0,.d (.sl ((ds).length) (Ad (ds)))),(1,.d (.sl ((es).length) (Ad (es)))),(5,.p 5 0),(6,Ba true),(18,Ba false),(30,Ba true)] []
    refine iE 128 Z24 Z2 ?_
    refine Ab (Ai (iR (Bv true) ?_))
    rfl
  ·refine iQ 3 (iE 128 (zT [(18,Ba false),(30,Ba true)] Z1) Z2 ?_)
   refine iT (Aa rfl (iQ 1 ?_))
   let Z25:=zT [(0,.d (.sl ((ds).length) (Ad (ds)))),(1,.d (.sl ((es).length) (Ad (es)))),(5,.p 5 0),(6,Ba true),(18,Ba false),(30,Ba true)] []
   refine iE 128 Z25 Z2 ?_
   refine Ab (Ai (iR (Bv true) ?_))
   rfl
 ·refine iQ 8 (iE 128 (zT [(18,Ba false),(30,Ba true)] Z1) Z2 ?_)
  refine iT (Aa rfl (iQ 1 ?_))
  let Z26:=zT [(0,.d (.sl ((ds).length) (Ad (ds)))),(1,.d (.sl ((es).length) (Ad (es)))),(5,.p 5 0),(6,Ba true),(18,Ba false),(30,Ba true)] []
  refine iE 128 Z26 Z2 ?_
  refine Ab (Ai (iR (Bv true) ?_))
  rfl
end Go.Proofs.YtfkfpkhgoijfdaaGreatDoor
