/- ListfunPlaces. ListfunPlaces: the law. -/
import Derived.Test.YtfkfpkhgoijfdaaGreatDoorLfST
import Derived.Test.YtfkfpkhgoijfdaaGreatDoorLfVW
import Derived.Test.YtfkfpkhgoijfdaaGreatDoorPlB
namespace Go.Proofs.YtfkfpkhgoijfdaaGreatDoor
open Go.RowKit
set_option linter.unusedVariables false
set_option linter.unusedSimpArgs false
set_option maxRecDepth 100000
section
variable {α:Type}
def pA (L:List α) (k:Nat) (o:α):List α:=if k<L.length then L.take k ++ o::L.drop k else L
def pD (L:List α) (k:Nat) (n:Int):List α:=if n<0 then L.drop k else (L.drop k).take n.toNat
theorem b33 {M:List α} {k:Nat} {o x:α} (h:M.length=k):pA (M ++ [x]) k o=pA M k o ++ [o,x]:=by
 subst h
 simp[pA]
theorem b3o {M:List α} {k:Nat} {o x:α} (h:M.length≠k):pA (M ++ [x]) k o=pA M k o ++ [x]:=by
 rcases Nat.lt_or_ge k M.length with q | q
 ·rw[pA,pA,if_pos (by simp;omega),if_pos q,List.take_append_of_le_length (by omega),List.drop_append_of_le_length (by omega)]
  simp
 ·rw[pA,pA,if_neg (by simp;omega),if_neg (by omega)]
theorem b3u {M:List α} {k:Nat} {x:α} (h:M.length=k):Ei (M ++ [x]) k=Ei M k:=by
 subst h
 simp[Ei]
theorem b3x {M:List α} {k:Nat} {x:α} (h:M.length≠k):Ei (M ++ [x]) k=Ei M k ++ [x]:=by
 rcases Nat.lt_or_ge k M.length with q | q
 ·rw[Ei,Ei,List.take_append_of_le_length (by omega),List.drop_append_of_le_length (by omega),List.append_assoc]
 ·rw[Ei,Ei,List.take_of_length_le (by simp;omega),List.drop_of_length_le (by simp;omega),List.take_of_length_le (by omega),List.drop_of_length_le (by omega)]
  simp
theorem b39 {M:List α} {k:Nat} {o x:α} (h:M.length=k):(M ++ [x]).set k o=M.set k o ++ [o]:=by
 subst h
 simp
 exact (List.set_eq_of_length_le (Nat.le_refl _)).symm
theorem b5z {M:List α} {k:Nat} {o:α}:(pA M k o).length≤M.length+1:=by
 rw[pA]
 split
 ·simp;omega
 ·omega
theorem b15 {M:List α} {k:Nat}:(Ei M k).length≤M.length:=by simp[Ei];omega
theorem b35 {M:List α} {k:Nat} {n:Int}:(pD M k n).length≤M.length:=by
 rw[pD]
 split<;>simp<;>omega
theorem b49 {M:List α} {k:Nat} {o x:α} (h:M.length≠k):(M ++ [x]).set k o=M.set k o ++ [x]:=by
 rcases Nat.lt_or_ge k M.length with q | q
 ·rw[List.set_append_left _ _ q]
 ·rw[List.set_eq_of_length_le (by simp;omega),List.set_eq_of_length_le (by omega)]
theorem b42 {M:List α} {k:Nat} {n:Int} {x:α} (h:k≤M.length) (hn:n<0∨(M.length:Int)-k<n):pD (M ++ [x]) k n=pD M k n ++ [x]:=by
 rw[pD,pD,List.drop_append_of_le_length h]
 split
 ·rfl
 ·rw[List.take_of_length_le (by simp;omega),List.take_of_length_le (by simp;omega)]
theorem b1p {M:List α} {k:Nat} {n:Int} {x:α} (h:M.length<k ∨ ¬ (n<0∨(M.length:Int)-k<n)):pD (M ++ [x]) k n=pD M k n:=by
 rcases Nat.lt_or_ge M.length k with q | q
 ·rw[pD,pD,List.drop_of_length_le (by simp;omega),List.drop_of_length_le (by omega)]
 ·have hn : ¬ (n<0∨(M.length:Int)-k<n):=h.resolve_left (by omega)
  rw[pD,pD,if_neg (by omega),if_neg (by omega),List.drop_append_of_le_length q,List.take_append_of_le_length (by simp;omega)]
end
theorem b1t {vs:List Vl} {k:Nat} {v:Vl} (h:k<vs.length):plL (Fy vs k v)=pA (plL vs) k (plV v):=by
 rw[pA,if_pos (by rw[Kg];exact h)]
 simp[Ee,Fy,List.map_take,List.map_drop]
theorem b2v {vs:List Vl} {k:Nat}:plL (Ei vs k)=Ei (plL vs) k:=by simp[Ee,Ei,List.map_take,List.map_drop]
theorem b05 {vs:List Vl} {k:Nat} {v:Vl}:plL (vs.set k v)=(plL vs).set k (plV v):=by simp[Ee,List.map_set]
theorem Zh {vs:List Vl} {k:Nat}:plL (vs.drop k)=(plL vs).drop k:=by simp[Ee,List.map_drop]
theorem a96 {vs:List Vl} {k:Nat} {n:Int}:plL (if n<0 then vs.drop k else (vs.drop k).take n.toNat)=pD (plL vs) k n:=by
 rw[pD]
 split<;>simp[Ee,List.map_take,List.map_drop]
theorem Su : ∀ (a b:List Dm),Ad (a ++ b)=Ad a ++ Ad b
 | [],b=>by simp[Ad]
 | d::a,b=>by rw[List.cons_append,Ad,Ad,Su a b,List.append_assoc]
theorem Jv {vs:List Vl} (h:okL vs) (k:Nat):okL (vs.take k):=Ck.2 fun v hv=>Ck.1 h v (List.mem_of_mem_take hv)
theorem Fm {vs:List Vl} (h:okL vs) (k:Nat):okL (vs.drop k):=Ck.2 fun v hv=>Ck.1 h v (List.mem_of_mem_drop hv)
theorem Pz {vs ws:List Vl} (h:okL vs) (k:okL ws):okL (vs ++ ws):=Ck.2 fun v hv=>(List.mem_append.1 hv).elim (Ck.1 h v) (Ck.1 k v)
theorem b1u {zs:List Vl}:(plV (.list zs)).is=plL zs:=by rw[plV,Dm.is]
theorem a8t {zs:List Vl} (hz:okL zs) (hl:zs.length≤1073741823):HasC Tryz.prog 15 [VV (.list zs)] (fun r=>r=.sl (plL zs).length (Ad (plL zs))):=(Ug (Ed (.list zs) (by rw[Vl.ok];exact ⟨by omega,hz⟩))).mono fun r hr=>by rw[hr,b1u]
theorem b8i {zs:List Vl} (hz:okL zs) (hl:zs.length≤1073741823):HasC Tryz.prog 16 [.agg [.bx (Vl.list zs).enc],.sl ((plL zs).length) (Ad (plL zs))] (fun r=>r=.v (.bool true)):=by
 refine hO [] Tryz.f16 (fun a w=>Tryz.call16 a w) Tryz.func16 rfl (⟨_,rfl⟩) ?_
 refine Aa rfl (iQ 2 ?_)
 let Z1:=zT [(1,.d (.sl ((plL zs).length) (Ad (plL zs))))] []
 refine iE 14 (zT [(2,.p 2 0),(4,Ba false)] Z1) [(2,[.bx (Vl.list zs).enc])] ?_
 refine Aa rfl (iQ 1 (eC 13 [.agg [.bx (Vl.list zs).enc]] 6 (Ob (.list zs)) (jB .eql 23 (.int .i64 10) (.int .i64 10) 7 ?_)))
 refine Ce (rfl) ?_
 refine iQ 2 (eC 15 [.agg [.bx (Vl.list zs).enc]] 10 (a8t hz hl) (iQ 1 (eC 14 [.sl ((plL zs).length) (Ad (plL zs)),.sl ((plL zs).length) (Ad (plL zs))] 12 (Ru (by rw[Kg];omega) (Hn _ hz)) (iQ 2 (iE 14 [(4,Ba true)] [] ?_)))))
 refine Ab (iR (Bv true) ?_)
 rfl
theorem Wj {zs:List Vl} {v:Vl} {ds:List Dm} (hz:okL zs) (hl:zs.length≤65536) (hv:v=Dl zs) (hd:ds=plL zs):HasC Tryz.prog 16 [VV v,.sl ds.length (Ad ds)] (fun r=>r=.v (.bool true)):=by
 rw[hv,hd,Dl,if_pos hl]
 exact b8i hz (by omega)
theorem b4r (n:Nat) (a:Int) : ∃ y:DV,∃ z:Int,y=.v (.int .i64 z)∧((∃ k:Nat,plc n a=some k∧z=k∧k<n)∨(plc n a=none∧z = -1)):=by
 cases h:plc n a with
 | none=>exact ⟨_, -1,rfl,.inr ⟨rfl,rfl⟩⟩
 | some k =>
  refine ⟨_,k,rfl,.inl ⟨k,rfl,rfl,?_⟩⟩
  rw[plc] at h
  split at h
  ·cases h;omega
  ·split at h
   ·cases h;omega
   ·cases h
theorem b0l {n:Nat} {a:Int} (hn:n≤1073741824) (h0 : -9223372036854775808≤a) (h1:a≤9223372036854775807):HasC Tryz.prog 22 [.v (.int .i64 ((n:Int))),.v (.int .i64 a)] (fun r => ∃ z:Int,r=.v (.int .i64 z)∧((∃ k:Nat,plc n a=some k∧z=k∧k<n)∨(plc n a=none∧z = -1))):=by
 refine hO [] Tryz.f22 (fun a w=>Tryz.call22 a w) Tryz.func22 rfl (b4r n a) ?_
 refine Aa rfl (iQ 1 (iE 25 [(0,Ia ((n:Int))),(1,Ia a),(4,Ia 0)] [] ?_))
 refine Af (Aa rfl (iQ 1 (jB .gtr 3 (.int .i64 a) (.int .i64 0) 6 ?_)))
 intro c6 hc6
 refine iQ 1 ?_
 cases c6
 ·replace hc6:=bf hc6
  refine iQ 4 ?_
  let Z1:=zT [(0,Ia ((n:Int))),(1,Ia a),(4,Ia 0),(11,Ba false)] []
  refine iE 25 Z1 [] ?_
  refine iF (Ae (Ag (Af (Aa rfl (iQ 1 (jB .lss 3 (.int .i64 a) (.int .i64 0) 15 ?_))))))
  intro c15 hc15
  refine iQ 1 ?_
  cases c15
  ·replace hc15:=bf hc15
   refine iQ 5 (iE 25 (zT [(21,Ba false)] Z1) [] ?_)
   refine iF (Ae (Ag (Aa rfl (iQ 1 ?_))))
   let Z2:=zT [(0,Ia ((n:Int))),(1,Ia a),(4,Ia (-1)),(11,Ba false),(21,Ba false)] []
   refine iE 25 Z2 [] ?_
   refine Ab (iR (Iv (-1)) ?_)
   exact ⟨_,rfl,.inr ⟨by rw[plc,if_neg (by omega),if_neg (by omega)],rfl⟩⟩
  ·replace hc15:=bt hc15
   refine iQ 2 (jU .neg (.int .i64 ((n:Int))) 19 ?_)
   intro z19 hz19
   try replace hz19:=hz19.i64 (by omega)
   refine jB .geq 3 (.int .i64 a) (.int .i64 z19) 20 ?_
   intro c20 hc20
   refine iQ 1 (iE 25 (zT [(21,Ba c20)] Z1) [] ?_)
   cases c20
   ·replace hc20:=bf hc20
    refine iF (Ae (Ag (Aa rfl (iQ 1 ?_))))
    let Z3:=zT [(0,Ia ((n:Int))),(1,Ia a),(4,Ia (-1)),(11,Ba false),(21,Ba false)] []
    refine iE 25 Z3 [] ?_
    refine Ab (iR (Iv (-1)) ?_)
    exact ⟨_,rfl,.inr ⟨by rw[plc,if_neg (by omega),if_neg (by omega)],rfl⟩⟩
   ·replace hc20:=bt hc20
    refine iT (Aa rfl (iQ 2 (jB .add 3 (.int .i64 ((n:Int))) (.int .i64 a) 24 ?_)))
    intro z24 hz24
    try replace hz24:=hz24.i64 (by omega)
    refine iQ 1 ?_
    let Z4:=zT [(0,Ia ((n:Int))),(1,Ia a),(4,Ia z24),(11,Ba false),(21,Ba true)] []
    refine iE 25 Z4 [] ?_
    refine Ab (Ai (iR (Iv z24) ?_))
    exact ⟨_,rfl,.inl ⟨((n:Int)+a).toNat,by rw[plc,if_neg (by omega),if_pos (by omega)],by omega,by omega⟩⟩
 ·replace hc6:=bt hc6
  refine iQ 2 (jB .leq 3 (.int .i64 a) (.int .i64 ((n:Int))) 10 ?_)
  intro c10 hc10
  refine iQ 1 ?_
  let Z5:=zT [(0,Ia ((n:Int))),(1,Ia a),(4,Ia 0),(11,Ba c10)] []
  refine iE 25 Z5 [] ?_
  cases c10
  ·replace hc10:=bf hc10
   refine iF (Ae (Ag (Af (Aa rfl (iQ 1 (jB .lss 3 (.int .i64 a) (.int .i64 0) 15 ?_))))))
   intro c15 hc15
   refine iQ 1 ?_
   cases c15
   ·replace hc15:=bf hc15
    refine iQ 5 ?_
    let Z6:=zT [(0,Ia ((n:Int))),(1,Ia a),(4,Ia 0),(11,Ba false),(21,Ba false)] []
    refine iE 25 Z6 [] ?_
    refine iF (Ae (Ag (Aa rfl (iQ 1 ?_))))
    let Z7:=zT [(0,Ia ((n:Int))),(1,Ia a),(4,Ia (-1)),(11,Ba false),(21,Ba false)] []
    refine iE 25 Z7 [] ?_
    refine Ab (iR (Iv (-1)) ?_)
    exact ⟨_,rfl,.inr ⟨by rw[plc,if_neg (by omega),if_neg (by omega)],rfl⟩⟩
   ·replace hc15:=bt hc15
    refine iQ 2 (jU .neg (.int .i64 ((n:Int))) 19 ?_)
    intro z19 hz19
    try replace hz19:=hz19.i64 (by omega)
    refine jB .geq 3 (.int .i64 a) (.int .i64 z19) 20 ?_
    intro c20 hc20
    refine iQ 1 ?_
    let Z8:=zT [(0,Ia ((n:Int))),(1,Ia a),(4,Ia 0),(11,Ba false),(21,Ba c20)] []
    refine iE 25 Z8 [] ?_
    cases c20
    ·replace hc20:=bf hc20
     refine iF (Ae (Ag (Aa rfl (iQ 1 ?_))))
     let Z9:=zT [(0,Ia ((n:Int))),(1,Ia a),(4,Ia (-1)),(11,Ba false),(21,Ba false)] []
     refine iE 25 Z9 [] ?_
     refine Ab (iR (Iv (-1)) ?_)
     exact ⟨_,rfl,.inr ⟨by rw[plc,if_neg (by omega),if_neg (by omega)],rfl⟩⟩
    ·replace hc20:=bt hc20
     refine iT (Aa rfl (iQ 2 (jB .add 3 (.int .i64 ((n:Int))) (.int .i64 a) 24 ?_)))
     intro z24 hz24
     try replace hz24:=hz24.i64 (by omega)
     refine iQ 1 ?_
     let Z10:=zT [(0,Ia ((n:Int))),(1,Ia a),(4,Ia z24),(11,Ba false),(21,Ba true)] []
     refine iE 25 Z10 [] ?_
     refine Ab (Ai (iR (Iv z24) ?_))
     exact ⟨_,rfl,.inl ⟨((n:Int)+a).toNat,by rw[plc,if_neg (by omega),if_pos (by omega)],by omega,by omega⟩⟩
  ·replace hc10:=bt hc10
   refine iT (Aa rfl (iQ 1 (jB .sub 3 (.int .i64 a) (.int .i64 1) 13 ?_)))
   intro z13 hz13
   try replace hz13:=hz13.i64 (by omega)
   refine iQ 1 ?_
   let Z11:=zT [(0,Ia ((n:Int))),(1,Ia a),(4,Ia z13),(11,Ba true)] []
   refine iE 25 Z11 [] ?_
   refine Ab (Ai (iR (Iv z13) ?_))
   exact ⟨_,rfl,.inl ⟨(a-1).toNat,by rw[plc,if_pos (by omega)],by omega,by omega⟩⟩
theorem b1f {A:List Dm} {o:Dm} {k k':Int} {t t':L8} {is is':List Dm} {ns ns':List L8} {p q p' q':Bool} (h:o=.mk k t is ns p q) :
  Ad A ++ [.v (.int .i64 k),.v (.string (tx t)),.sl is.length (Ad is),.sl ns.length (At ns),.v (.bool p),.v (.bool q),.v (.int .i64 k'),.v (.string (tx t')),.sl is'.length (Ad is'),.sl ns'.length (At ns'),.v (.bool p'),.v (.bool q')]=Ad (A ++ [o,.mk k' t' is' ns' p' q']):=by
 rw[Su]
 simp only[Ad,h,Dm.cells,List.cons_append,List.nil_append]
theorem Ww {vs:List Vl} {a:Int} {K:Nat} {x:Vl} (h:plc vs.length a=some K) (hx:vs[K]? = some x):atV vs a=x:=a0l h hx
structure PI (L:List Dm) (K:Nat) (o:Dm) (n:Int) (j:Nat) (A B C D:List Dm):Prop where
 a:A=pA (L.take j) K o
 b:B=Ei (L.take j) K
 c:C=(L.take j).set K o
 d:D=pD (L.take j) K n
theorem PI.zero {L:List Dm} {K:Nat} {o:Dm} {n:Int}:PI L K o n 0 [] [] [] []:=by
 refine ⟨?_,?_,?_,?_⟩<;>simp[pA,Ei,pD]
theorem PI.len {L:List Dm} {K j:Nat} {o:Dm} {n:Int} {A B C D:List Dm} (h:PI L K o n j A B C D) (hj:j≤L.length):A.length≤j+1∧B.length≤j∧C.length≤j∧D.length≤j:=by
 have hm:(L.take j).length=j:=by rw[List.length_take];omega
 refine ⟨?_,?_,?_,?_⟩
 ·rw[h.a];have := @b5z _ (L.take j) K o;omega
 ·rw[h.b];have := @b15 _ (L.take j) K;omega
 ·rw[h.c,List.length_set];omega
 ·rw[h.d];have := @b35 _ (L.take j) K n;omega
theorem PI.eq {L:List Dm} {K j:Nat} {o x:Dm} {n:Int} {A B C D D':List Dm} (h:PI L K o n j A B C D) (hx:L[j]? = some x) (e:j=K) (hd:D'=pD (L.take (j+1)) K n):PI L K o n (j+1) (A ++ [o,x]) B (C ++ [o]) D':=by
 have hm:(L.take j).length=j:=by rw[List.length_take];have:=(List.getElem?_eq_some_iff.1 hx).1;omega
 have et:L.take (j+1)=L.take j ++ [x]:=by rw[List.take_add_one,hx];rfl
 refine ⟨?_,?_,?_,hd⟩
 ·rw[et,b33 (hm.trans e),h.a]
 ·rw[et,b3u (hm.trans e),h.b]
 ·rw[et,b39 (hm.trans e),h.c]
theorem PI.ne {L:List Dm} {K j:Nat} {o x:Dm} {n:Int} {A B C D D':List Dm} (h:PI L K o n j A B C D) (hx:L[j]? = some x) (e:j≠K) (hd:D'=pD (L.take (j+1)) K n):PI L K o n (j+1) (A ++ [x]) (B ++ [x]) (C ++ [x]) D':=by
 have hm:(L.take j).length=j:=by rw[List.length_take];have:=(List.getElem?_eq_some_iff.1 hx).1;omega
 have et:L.take (j+1)=L.take j ++ [x]:=by rw[List.take_add_one,hx];rfl
 refine ⟨?_,?_,?_,hd⟩
 ·rw[et,b3o (by omega),h.a]
 ·rw[et,b3x (by omega),h.b]
 ·rw[et,b49 (by omega),h.c]
theorem PI.din {L:List Dm} {K j:Nat} {o x:Dm} {n:Int} {A B C D:List Dm} (h:PI L K o n j A B C D) (hx:L[j]? = some x) (h1:K≤j) (h2:n<0∨(j:Int)-K<n):D ++ [x]=pD (L.take (j+1)) K n:=by
 have hm:(L.take j).length=j:=by rw[List.length_take];have:=(List.getElem?_eq_some_iff.1 hx).1;omega
 rw[List.take_add_one,hx,h.d]
 exact (b42 (by omega) (by rw[hm];exact h2)).symm
theorem PI.dout {L:List Dm} {K j:Nat} {o x:Dm} {n:Int} {A B C D:List Dm} (h:PI L K o n j A B C D) (hx:L[j]? = some x) (h1:j<K ∨ ¬ (n<0∨(j:Int)-K<n)):D=pD (L.take (j+1)) K n:=by
 have hm:(L.take j).length=j:=by rw[List.length_take];have:=(List.getElem?_eq_some_iff.1 hx).1;omega
 rw[List.take_add_one,hx,h.d]
 exact (b1p (by rw[hm];exact h1)).symm
open Go.RowKit
set_option linter.unusedVariables false
set_option linter.unusedSimpArgs false
set_option maxRecDepth 100000
theorem a2o {vs:List Vl} {v:Vl} {K:Nat} (h:okL vs) (ov:v.ok):okL (vs.set K v):=Ck.2 fun w hw=>(List.mem_or_eq_of_mem_set hw).elim (Ck.1 h w) fun e=>by rw[e];exact ov
theorem b3r {vs:List Vl} {a n:Int} {K:Nat} (h:plc vs.length a=some K) (hn:(vs.length:Int)-K<n):Gl vs a n=.null:=by rw[Gl,h];simp only;rw[if_pos hn]
theorem a2y {vs:List Vl} {a n:Int} {K:Nat} (h:plc vs.length a=some K) (hn : ¬ (vs.length:Int)-K<n):Gl vs a n=Dl (if n<0 then vs.drop K else (vs.drop K).take n.toNat):=by rw[Gl,h];simp only;rw[if_neg hn]
theorem b3c {vs:List Vl} {a:Int} {K:Nat} (h:plc vs.length a=some K) (hlt:K<vs.length):Gl vs a (-1)=Dl (vs.drop K):=by rw[a2y h (by omega),if_pos (by decide)]
theorem b3z {vs:List Vl} {n:Int} {K:Nat} (h:okL vs):okL (if n<0 then vs.drop K else (vs.drop K).take n.toNat):=by
 split
 ·exact Fm h K
 ·exact Jv (Fm h K) _
theorem b1r {vs:List Vl} {n:Int} {K:Nat} (h:vs.length≤65536):(if n<0 then vs.drop K else (vs.drop K).take n.toNat).length≤65536:=by
 split<;>simp<;>omega
theorem Ow : ∀ (L:List Dm) (K:Nat),(Ad L).drop (K*6)=Ad (L.drop K)
 | [],K=>by simp[Ad]
 | d::L,0=>by simp
 | d::L,K+1=>by
  have h:=Gj d
  rw[Ad,show (K+1)*6=d.cells.length+K*6 by omega,← List.drop_drop,List.drop_left,Ow L K,List.drop_succ_cons]
theorem Tz {L:List Dm} {z:Int} {K:Nat} (h:z=K):((Ad L).drop (z.toNat*6)).take ((L.drop K).length*6)=Ad (L.drop K):=by
 rw[h,Int.toNat_natCast,Ow,List.take_of_length_le (by rw[En];exact Nat.le_refl _)]
theorem Ih {v:Vl} (h:v=.null):v.kindI=1:=by rw[h];rfl
set_option maxHeartbeats 6400000 in
theorem Ph {ds:List Dm} {a n:Int} {k0:Int} {t0:L8} {is0:List Dm} {ns0:List L8} {p0 q0:Bool} (hd:Eo ds) (hl:ds.length≤1048576) (a0 : -9223372036854775808≤a) (a1:a≤9223372036854775807) (n0 : -9223372036854775808≤n) (n1:n≤9223372036854775807) (hx0:(Dm.mk k0 t0 is0 ns0 p0 q0).small):HasC Tryz.prog 4 [.sl ((ds).length) (Ad (ds)),.v (.int .i64 a),.v (.int .i64 n),.agg [.v (.int .i64 k0),.v (.string (tx t0)),.sl ((is0).length) (Ad (is0)),.sl ((ns0).length) (At (ns0)),.v (.bool p0),.v (.bool q0)]] (fun r=>r=.v (.bool true)):=by
 refine hO [] Tryz.f4 (fun a w=>Tryz.call4 a w) Tryz.func4 rfl (⟨_,rfl⟩) ?_
 refine Aa rfl (iQ 2 ?_)
 let Z1:=zT [(0,.d (.sl ((ds).length) (Ad (ds)))),(1,Ia a),(2,Ia n),(7,.p 7 0),(8,Ba false)] []
 let Z2:=zH [(7,[Iv k0,Sv (tx t0),.sl ((is0).length) (Ad (is0)),.sl ((ns0).length) (At (ns0)),Bv p0,Bv q0])] []
 refine iE 206 Z1 Z2 ?_
 refine Af (Aa rfl (eC 6 [] 24 (a5p) (jU .not (.bool true) 25 ?_)))
 refine Al ((by simp)) ?_
 refine iE 206 (zT [(25,Ba false)] Z1) Z2 ?_
 refine iF (Ae (Ag (Aa rfl (iQ 1 (jC 8 [.sl ((ds).length) (Ad (ds))] 27 (b1o hd hl) ?_)))))
 rintro _ ⟨vs,rfl,hv,hvl⟩
 refine iQ 1 ?_
 let Z3:=zT [(1,Ia a),(2,Ia n),(7,.p 7 0),(8,Ba false),(9,.d (.sl ((vs).length) (Aq (vs)))),(25,Ba false)] []
 refine iE 206 Z3 Z2 ?_
 refine Aa rfl (iQ 1 (jC 10 [.agg [Iv k0,Sv (tx t0),.sl ((is0).length) (Ad (is0)),.sl ((ns0).length) (At (ns0)),Bv p0,Bv q0]] 29 (Xw hx0) ?_))
 rintro _ ⟨v,rfl,ov⟩
 have hp : ∀ w ∈ vs,PlC w:=fun w hw=>Ed w (Ck.1 hv w hw)
 have hL:(plL vs).length=vs.length:=Kg vs
 refine iQ 2 ?_
 let Z4:=zT [(1,Ia a),(2,Ia n),(8,Ba false),(9,.d (.sl ((vs).length) (Aq (vs)))),(10,.p 10 0),(25,Ba false)] []
 refine iE 206 Z4 [(10,[.bx (v).enc])] ?_
 refine Aa rfl (iQ 1 (eC 9 [.sl ((vs).length) (Aq (vs))] 31 (a1p (by omega) hp) (iQ 1 (jC 21 [.agg [.bx (v).enc]] 33 (Iw (Ed v ov)) ?_))))
 rintro _ ⟨k,t,is,ns,p,q,rfl,ho⟩
 refine iQ 3 ?_
 let Z5:=zT [(11,.d (.sl ((plL vs).length) (Ad (plL vs))))] []
 let Z6:=zT [(1,Ia a),(2,Ia n),(8,Ba false),(9,.d (.sl ((vs).length) (Aq (vs)))),(10,.p 10 0),(12,.p 12 0),(25,Ba false)] []
 let Z7:=zH [(12,[Iv k,Sv (tx t),.sl ((is).length) (Ad (is)),.sl ((ns).length) (At (ns)),Bv p,Bv q])] []
 refine iE 206 (zT Z6 Z5) (zH [(10,[.bx (v).enc])] Z7) ?_
 refine Aa rfl (iQ 3 (jC 22 [Iv ((((vs).length:Nat):Int)),Iv a] 37 (b0l (n:=vs.length) (by omega) a0 a1) ?_))
 rintro _ ⟨z,rfl,hz⟩
 refine iQ 1 (iE 206 (zT [(13,Ia z)] (zT Z6 Z5)) (zH [(10,[.bx (v).enc])] Z7) ?_)
 refine Aa rfl (iQ 3 (eC 23 [.sl ((vs).length) (Aq (vs)),Iv a,.agg [.bx (v).enc]] 41 (Zg (x:=v) (by omega) a0 a1) (iQ 2 (eC 24 [.sl ((vs).length) (Aq (vs)),Iv a] 44 (a60 (by omega) a0 a1) (iQ 3 (eC 25 [.sl ((vs).length) (Aq (vs)),Iv a,.agg [.bx (v).enc]] 48 (a5m (x:=v) (by omega) a0 a1) (iQ 6 ?_)))))))
 let Z8:=zT [(13,Ia z),(14,.p 14 0),(15,.p 15 0),(16,.p 16 0)] []
 let Z9:=zT Z8 (zT Z6 Z5)
 let Z10:=zH [(10,[.bx (v).enc]),(14,[.bx (So vs a v).enc]),(15,[.bx (Ss vs a).enc]),(16,[.bx (Ro vs a v).enc])] []
 refine iE 206 Z9 (zH Z10 Z7) ?_
 refine Aa rfl (iQ 3 (eC 26 [.sl ((vs).length) (Aq (vs)),Iv a,Iv n] 52 (a83 (by omega) a0 a1 n0 n1) (iQ 2 (eC 26 [.sl ((vs).length) (Aq (vs)),Iv a,Iv (-1)] 55 (a83 (n := -1) (by omega) a0 a1 (by decide) (by decide)) (iQ 4 ?_)))))
 let Z11:=zH [(17,[.bx (Gl vs a n).enc]),(18,[.bx (Gl vs a (-1)).enc])] []
 let Z12:=zH Z11 (zH Z10 Z7)
 refine iE 206 (zT [(17,.p 17 0),(18,.p 18 0)] Z9) Z12 ?_
 refine Af (Aa rfl (iQ 1 (eC 9 [.sl ((vs).length) (Aq (vs))] 57 (a1p (by omega) hp) (iQ 1 (eC 14 [.sl ((plL vs).length) (Ad (plL vs)),.sl ((plL vs).length) (Ad (plL vs))] 59 (Ru (by omega) (Hn _ hv)) (jU .not (.bool true) 60 ?_))))))
 refine Al ((by simp)) ?_
 let Z13:=zT [(17,.p 17 0),(18,.p 18 0),(60,Ba false)] []
 refine iE 206 (zT Z13 Z9) Z12 ?_
 refine iF (Ae (Ag (Af (Aa rfl (iQ 1 (jB .lss 3 (.int .i64 z) (.int .i64 0) 62 ?_))))))
 intro c62 hc62
 refine iE 206 (zT [(62,Ba c62)] (zT Z9 Z13)) Z12 ?_
 cases c62
 ·replace hc62:=bf hc62
  obtain ⟨K,hK,hzK,hlt⟩ : ∃ K:Nat,plc vs.length a=some K∧z=K∧K<vs.length:=by rcases hz with h | h;exact h;omega
  refine iF (Ae (Ag (Aa rfl (iQ 4 ?_))))
  let Z14:=zT [(19,.w (.sl 0 []) none),(20,.w (.sl 0 []) none),(21,.w (.sl 0 []) none),(22,.w (.sl 0 []) none),(62,Ba false)] []
  let Z15:=zT Z14 (zT Z9 Z13)
  refine iE 206 Z15 Z12 ?_
  refine Af (Aa rfl (iQ 1 (iE 206 (zT [(23,Ia 0)] Z15) Z12 ?_)))
  refine Am (Bz 206 (fun (vcx:Nat×Int×(List Dm)×(List Dm)×(List Dm)×(List Dm))=>match vcx with | (j,y,A,B,C,D)=>[(1,Ia a),(2,Ia n),(8,Ba false),(9,.d (.sl ((vs).length) (Aq (vs)))),(10,.p 10 0),(11,.d (.sl ((plL vs).length) (Ad (plL vs)))),(12,.p 12 0),(13,Ia z),(14,.p 14 0),(15,.p 15 0),(16,.p 16 0),(17,.p 17 0),(18,.p 18 0),(19,.w (.sl ((A).length) (Ad (A))) (some ⟨19,0,27,6⟩)),(20,.w (.sl ((B).length) (Ad (B))) (some ⟨20,0,27,6⟩)),(21,.w (.sl ((C).length) (Ad (C))) (some ⟨21,0,27,6⟩)),(22,.w (.sl ((D).length) (Ad (D))) (some ⟨22,0,27,6⟩)),(23,Ia y),(25,Ba false),(60,Ba false),(62,Ba false)]) (fun (vcx:Nat×Int×(List Dm)×(List Dm)×(List Dm)×(List Dm))=>match vcx with | (j,y,A,B,C,D)=>[(10,[.bx (v).enc]),(12,[Iv k,Sv (tx t),.sl ((is).length) (Ad (is)),.sl ((ns).length) (At (ns)),Bv p,Bv q]),(14,[.bx (So vs a v).enc]),(15,[.bx (Ss vs a).enc]),(16,[.bx (Ro vs a v).enc]),(17,[.bx (Gl vs a n).enc]),(18,[.bx (Gl vs a (-1)).enc])]) (fun (vcx:Nat×Int×(List Dm)×(List Dm)×(List Dm)×(List Dm))=>match vcx with | (j,y,A,B,C,D)=>y=j∧j≤vs.length∧PI (plL vs) K (plV v) n j A B C D) (fun (vcx:Nat×Int×(List Dm)×(List Dm)×(List Dm)×(List Dm))=>match vcx with | (j,y,A,B,C,D)=>vs.length-j) ((0,0,[],[],[],[])) (⟨rfl,Nat.zero_le _,PI.zero⟩) (by kernel_rfl) (by kernel_rfl) ?_)
  rintro ⟨j,y,A,B,C,D⟩ hinv
  simp only at hinv
  obtain ⟨h1,h2,h3⟩:=hinv
  obtain ⟨lA,lB,lC,lD⟩:=h3.len (by omega)
  have xA:=En A
  have xB:=En B
  have xC:=En C
  have xD:=En D
  refine Af (Aa rfl (iQ 3 (jB .lss 3 (.int .i64 y) (.int .i64 ((((plL vs).length:Nat):Int))) 90 ?_)))
  intro c90 hc90
  let Z16:=zT [(19,.w (.sl ((A).length) (Ad (A))) (some ⟨19,0,27,6⟩))] []
  let Z17:=zT [(20,.w (.sl ((B).length) (Ad (B))) (some ⟨20,0,27,6⟩))] []
  let Z18:=zT [(21,.w (.sl ((C).length) (Ad (C))) (some ⟨21,0,27,6⟩))] []
  let Z19:=zT [(22,.w (.sl ((D).length) (Ad (D))) (some ⟨22,0,27,6⟩))] []
  let Z20:=zT [(23,Ia y),(62,Ba false),(90,Ba c90)] (zT Z19 (zT Z18 (zT Z17 (zT Z16 (zT Z9 Z13)))))
  refine iE 206 Z20 Z12 ?_
  cases c90
  ·replace hc90:=bf hc90
   have et:(plL vs).take j=plL vs:=List.take_of_length_le (by omega)
   have wA:A=plL (Fy vs K v):=by rw[h3.a,et,b1t hlt]
   have wB:B=plL (Ei vs K):=by rw[h3.b,et,b2v]
   have wC:C=plL (vs.set K v):=by rw[h3.c,et,b05]
   have wD:D=plL (if n<0 then vs.drop K else (vs.drop K).take n.toNat):=by rw[h3.d,et,a96]
   obtain ⟨x,hxx⟩ : ∃ x,vs[K]? = some x:=⟨_,List.getElem?_eq_getElem hlt⟩
   have ox:=Ck.1 hv x (List.mem_of_getElem? hxx)
   have hxl:(plL vs)[K]? = some (plV x):=by rw[Ee,List.getElem?_map,hxx];rfl
   refine iF (Bm (Da (Cb (Bn rfl (Ag (Af (Aa rfl (iQ 4 (jB .sub 3 (.int .i64 ((((plL vs).length:Nat):Int))) (.int .i64 z) 154 ?_)))))))))
   intro z154 hz154
   try replace hz154:=hz154.i64 (by omega)
   refine jB .gtr 3 (.int .i64 n) (.int .i64 z154) 155 ?_
   intro c155 hc155
   refine iQ 1 ?_
   cases c155
   ·replace hc155:=bf hc155
    refine iQ 9 (jB .sub 3 (.int .i64 ((((plL vs).length:Nat):Int))) (.int .i64 z) 166 ?_)
    intro z166 hz166
    try replace hz166:=hz166.i64 (by omega)
    refine jB .leq 3 (.int .i64 n) (.int .i64 z166) 167 ?_
    refine Ce ((by omega)) ?_
    refine iQ 3 (eC 16 [.agg [.bx (Gl vs a n).enc],.sl ((D).length) (Ad (D))] 171 (Wj (zs:=if n<0 then vs.drop K else (vs.drop K).take n.toNat) (b3z hv) (b1r (by omega)) (a2y hK (by omega)) wD) (jU .not (.bool true) 172 ?_))
    refine Al ((by simp)) ?_
    refine iQ 2 ?_
    let Z21:=zT [(23,Ia y),(62,Ba false),(90,Ba false),(174,Ba false)] []
    let Z22:=zT Z21 (zT Z9 (zT Z16 (zT Z17 (zT Z18 (zT Z19 Z13)))))
    refine iE 206 Z22 Z12 ?_
    refine iF (Ae (Ag (Aa rfl (iQ 2 (eC 16 [.agg [.bx (So vs a v).enc],.sl ((A).length) (Ad (A))] 177 (Wj (zs:=Fy vs K v) (Pz (Jv hv K) (by rw[okL];exact ⟨ov,Fm hv K⟩)) (by rw[Hq (by omega)];omega) (Qt hK) wA) (iQ 3 (eC 16 [.agg [.bx (Ss vs a).enc],.sl ((B).length) (Ad (B))] 181 (Wj (zs:=Ei vs K) (Pz (Jv hv K) (Fm hv _)) (by rw[Mu hlt];omega) (Rv hK) wB) (iQ 4 (eC 16 [.agg [.bx (Ro vs a v).enc],.sl ((C).length) (Ad (C))] 186 (Wj (zs:=vs.set K v) (a2o hv ov) (by rw[List.length_set];omega) (Qj hK) wC) (iQ 5 (Sn (l:=z) (u:=((((plL vs).length:Nat):Int))) (n:=((plL vs).length)) (cs:=(Ad (plL vs))) (z:=6) (m:=(((plL vs).drop K).length)) (ds:=(Ad ((plL vs).drop K))) (dst:=(some 192)) (by kernel_rfl) (by omega) (by simp;omega) (Tz hzK) ?_)))))))))))
    refine eC 16 [.agg [.bx (Gl vs a (-1)).enc],.sl (((plL vs).drop K).length) (Ad ((plL vs).drop K))] 193 (Wj (zs:=vs.drop K) (Fm hv K) (by rw[List.length_drop];omega) (b3c hK hlt) Zh.symm) (iQ 4 (eC 27 [.sl ((vs).length) (Aq (vs)),Iv a] 198 (a2c (by omega) a0 a1) (jC 21 [.agg [.bx (atV vs a).enc]] 199 (Iw (by rw[Ww hK hxx];exact Ed x ox)) ?_)))
    rintro _ ⟨k',t',is',ns',p',q',rfl,hm⟩
    rw[Ww hK hxx] at hm
    refine iQ 2 (Cr (q:=z) (n:=((plL vs).length)) (cs:=(Ad (plL vs))) (z:=6) (ds:=[.v (.int .i64 k'),.v (.string (tx t')),.sl ((is').length) (Ad (is')),.sl ((ns').length) (At (ns')),.v (.bool p'),.v (.bool q')]) (dst:=(some 202)) (by kernel_rfl) (by omega) (by rw[hzK,Int.toNat_natCast];exact (Bk hxl).trans (by rw[hm,Dm.cells])) ?_)
    refine iQ 1 (eC 28 [.agg [Iv k',Sv (tx t'),.sl ((is').length) (Ad (is')),.sl ((ns').length) (At (ns')),Bv p',Bv q'],.agg [Iv k',Sv (tx t'),.sl ((is').length) (Ad (is')),.sl ((ns').length) (At (ns')),Bv p',Bv q']] 204 (Lr k' t' is' ns' p' q' (by rw[← hm];exact Na x ox)) (iQ 2 ?_))
    let Z23:=zT [(1,Ia a),(2,Ia n),(8,Ba true),(9,.d (.sl ((vs).length) (Aq (vs)))),(10,.p 10 0),(12,.p 12 0),(25,Ba false)] []
    let Z24:=zT Z23 (zT Z16 (zT Z17 (zT Z18 (zT Z19 (zT Z21 (zT Z8 (zT Z5 Z13)))))))
    refine iE 206 Z24 Z12 ?_
    refine Ab (iR (Bv true) ?_)
    rfl
   ·replace hc155:=bt hc155
    refine iQ 1 (eC 12 [.agg [.bx (Gl vs a n).enc]] 158 (Ig (Ih (b3r hK (by omega)))) (jU .not (.bool true) 159 ?_))
    refine Al ((by simp)) ?_
    refine iQ 6 (jB .sub 3 (.int .i64 ((((plL vs).length:Nat):Int))) (.int .i64 z) 166 ?_)
    intro z166 hz166
    try replace hz166:=hz166.i64 (by omega)
    refine jB .leq 3 (.int .i64 n) (.int .i64 z166) 167 ?_
    refine Al ((by omega)) ?_
    refine iQ 7 ?_
    let Z25:=zT [(23,Ia y),(62,Ba false),(90,Ba false),(174,Ba false)] []
    let Z26:=zT Z25 (zT Z9 (zT Z16 (zT Z17 (zT Z18 (zT Z19 Z13)))))
    refine iE 206 Z26 Z12 ?_
    refine iF (Ae (Ag (Aa rfl (iQ 2 (eC 16 [.agg [.bx (So vs a v).enc],.sl ((A).length) (Ad (A))] 177 (Wj (zs:=Fy vs K v) (Pz (Jv hv K) (by rw[okL];exact ⟨ov,Fm hv K⟩)) (by rw[Hq (by omega)];omega) (Qt hK) wA) (iQ 3 (eC 16 [.agg [.bx (Ss vs a).enc],.sl ((B).length) (Ad (B))] 181 (Wj (zs:=Ei vs K) (Pz (Jv hv K) (Fm hv _)) (by rw[Mu hlt];omega) (Rv hK) wB) (iQ 4 (eC 16 [.agg [.bx (Ro vs a v).enc],.sl ((C).length) (Ad (C))] 186 (Wj (zs:=vs.set K v) (a2o hv ov) (by rw[List.length_set];omega) (Qj hK) wC) (iQ 5 (Sn (l:=z) (u:=((((plL vs).length:Nat):Int))) (n:=((plL vs).length)) (cs:=(Ad (plL vs))) (z:=6) (m:=(((plL vs).drop K).length)) (ds:=(Ad ((plL vs).drop K))) (dst:=(some 192)) (by kernel_rfl) (by omega) (by simp;omega) (Tz hzK) ?_)))))))))))
    refine eC 16 [.agg [.bx (Gl vs a (-1)).enc],.sl (((plL vs).drop K).length) (Ad ((plL vs).drop K))] 193 (Wj (zs:=vs.drop K) (Fm hv K) (by rw[List.length_drop];omega) (b3c hK hlt) Zh.symm) (iQ 4 (eC 27 [.sl ((vs).length) (Aq (vs)),Iv a] 198 (a2c (by omega) a0 a1) (jC 21 [.agg [.bx (atV vs a).enc]] 199 (Iw (by rw[Ww hK hxx];exact Ed x ox)) ?_)))
    rintro _ ⟨k',t',is',ns',p',q',rfl,hm⟩
    rw[Ww hK hxx] at hm
    refine iQ 2 (Cr (q:=z) (n:=((plL vs).length)) (cs:=(Ad (plL vs))) (z:=6) (ds:=[.v (.int .i64 k'),.v (.string (tx t')),.sl ((is').length) (Ad (is')),.sl ((ns').length) (At (ns')),.v (.bool p'),.v (.bool q')]) (dst:=(some 202)) (by kernel_rfl) (by omega) (by rw[hzK,Int.toNat_natCast];exact (Bk hxl).trans (by rw[hm,Dm.cells])) ?_)
    refine iQ 1 (eC 28 [.agg [Iv k',Sv (tx t'),.sl ((is').length) (Ad (is')),.sl ((ns').length) (At (ns')),Bv p',Bv q'],.agg [Iv k',Sv (tx t'),.sl ((is').length) (Ad (is')),.sl ((ns').length) (At (ns')),Bv p',Bv q']] 204 (Lr k' t' is' ns' p' q' (by rw[← hm];exact Na x ox)) (iQ 2 ?_))
    let Z27:=zT [(1,Ia a),(2,Ia n),(8,Ba true),(9,.d (.sl ((vs).length) (Aq (vs)))),(10,.p 10 0),(12,.p 12 0),(25,Ba false)] []
    let Z28:=zT Z27 (zT Z16 (zT Z17 (zT Z18 (zT Z19 (zT Z25 (zT Z8 (zT Z5 Z13)))))))
    refine iE 206 Z28 Z12 ?_
    refine Ab (iR (Bv true) ?_)
    rfl
  ·replace hc90:=bt hc90
   obtain ⟨⟨k',t',is',ns',p',q'⟩,hm⟩ : ∃ d,(plL vs)[j]? = some d:=⟨_,List.getElem?_eq_getElem (by omega)⟩
   refine iT (Ae (Ag (Af (Am (Af (Aa rfl (iQ 2 (jB .eql 3 (.int .i64 y) (.int .i64 z) 95 ?_))))))))
   intro c95 hc95
   let Z29:=zT [(23,Ia y),(62,Ba false),(90,Ba true),(95,Ba c95)] []
   let Z30:=zT Z29 (zT Z9 (zT Z16 (zT Z17 (zT Z18 (zT Z19 Z13)))))
   refine iE 206 Z30 Z12 ?_
   cases c95
   ·replace hc95:=bf hc95
    refine iF (Aa rfl (iQ 3 (Cr (q:=y) (n:=((plL vs).length)) (cs:=(Ad (plL vs))) (z:=6) (ds:=[.v (.int .i64 k'),.v (.string (tx t')),.sl ((is').length) (Ad (is')),.sl ((ns').length) (At (ns')),.v (.bool p'),.v (.bool q')]) (dst:=(some 111)) (by kernel_rfl) (by omega) (by rw[h1,Int.toNat_natCast];exact (Bk hm).trans (by rw[Dm.cells])) ?_)))
    refine iQ 2 (Cm (n:=((A).length)) (cs:=(Ad (A))) (m:=1) (ds:=[.v (.int .i64 k'),.v (.string (tx t')),.sl ((is').length) (Ad (is')),.sl ((ns').length) (At (ns')),.v (.bool p'),.v (.bool q')]) (N:=((A ++ [Dm.mk k' t' is' ns' p' q']).length)) (es:=(Ad (A ++ [Dm.mk k' t' is' ns' p' q']))) (j:=19) (e:=27) (z:=6) (dst:=(some 114)) (by kernel_rfl) (by first | rfl | omega | (rw[Nat.mul_one];exact Bj _) | (simp[dg];done) | (simp[dg];omega)) (by first | rfl | omega | (rw[Nat.mul_one];exact Bj _) | (simp[dg];done) | (simp[dg];omega)) (rfl) (by simp;omega) (by simp) (Cj rfl) ?_)
    refine iQ 1 ?_
    let Z31:=zT [(19,.w (.sl ((A ++ [Dm.mk k' t' is' ns' p' q']).length) (Ad (A ++ [Dm.mk k' t' is' ns' p' q']))) (some ⟨19,0,27,6⟩))] []
    let Z32:=zT [(23,Ia y),(62,Ba false),(90,Ba true),(95,Ba false)] []
    let Z33:=zT Z32 (zT Z31 (zT Z9 (zT Z17 (zT Z18 (zT Z19 Z13)))))
    refine iE 206 Z33 Z12 ?_
    refine Aa rfl (iQ 3 (Cr (q:=y) (n:=((plL vs).length)) (cs:=(Ad (plL vs))) (z:=6) (ds:=[.v (.int .i64 k'),.v (.string (tx t')),.sl ((is').length) (Ad (is')),.sl ((ns').length) (At (ns')),.v (.bool p'),.v (.bool q')]) (dst:=(some 118)) (by kernel_rfl) (by omega) (by rw[h1,Int.toNat_natCast];exact (Bk hm).trans (by rw[Dm.cells])) ?_))
    refine iQ 2 (Cm (n:=((B).length)) (cs:=(Ad (B))) (m:=1) (ds:=[.v (.int .i64 k'),.v (.string (tx t')),.sl ((is').length) (Ad (is')),.sl ((ns').length) (At (ns')),.v (.bool p'),.v (.bool q')]) (N:=((B ++ [Dm.mk k' t' is' ns' p' q']).length)) (es:=(Ad (B ++ [Dm.mk k' t' is' ns' p' q']))) (j:=20) (e:=27) (z:=6) (dst:=(some 121)) (by kernel_rfl) (by first | rfl | omega | (rw[Nat.mul_one];exact Bj _) | (simp[dg];done) | (simp[dg];omega)) (by first | rfl | omega | (rw[Nat.mul_one];exact Bj _) | (simp[dg];done) | (simp[dg];omega)) (rfl) (by simp;omega) (by simp) (Cj rfl) ?_)
    refine iQ 1 ?_
    let Z34:=zT [(20,.w (.sl ((B ++ [Dm.mk k' t' is' ns' p' q']).length) (Ad (B ++ [Dm.mk k' t' is' ns' p' q']))) (some ⟨20,0,27,6⟩))] []
    let Z35:=zT Z34 (zT Z9 (zT Z31 (zT Z18 (zT Z19 (zT Z32 Z13)))))
    refine iE 206 Z35 Z12 ?_
    refine Ap rfl (iQ 3 (Cr (q:=y) (n:=((plL vs).length)) (cs:=(Ad (plL vs))) (z:=6) (ds:=[.v (.int .i64 k'),.v (.string (tx t')),.sl ((is').length) (Ad (is')),.sl ((ns').length) (At (ns')),.v (.bool p'),.v (.bool q')]) (dst:=(some 125)) (by kernel_rfl) (by omega) (by rw[h1,Int.toNat_natCast];exact (Bk hm).trans (by rw[Dm.cells])) ?_))
    refine iQ 2 (Cm (n:=((C).length)) (cs:=(Ad (C))) (m:=1) (ds:=[.v (.int .i64 k'),.v (.string (tx t')),.sl ((is').length) (Ad (is')),.sl ((ns').length) (At (ns')),.v (.bool p'),.v (.bool q')]) (N:=((C ++ [Dm.mk k' t' is' ns' p' q']).length)) (es:=(Ad (C ++ [Dm.mk k' t' is' ns' p' q']))) (j:=21) (e:=27) (z:=6) (dst:=(some 128)) (by kernel_rfl) (by first | rfl | omega | (rw[Nat.mul_one];exact Bj _) | (simp[dg];done) | (simp[dg];omega)) (by first | rfl | omega | (rw[Nat.mul_one];exact Bj _) | (simp[dg];done) | (simp[dg];omega)) (rfl) (by simp;omega) (by simp) (Cj rfl) ?_)
    refine iQ 1 ?_
    let Z36:=zT [(21,.w (.sl ((C ++ [Dm.mk k' t' is' ns' p' q']).length) (Ad (C ++ [Dm.mk k' t' is' ns' p' q']))) (some ⟨21,0,27,6⟩))] []
    let Z37:=zT Z36 (zT Z9 (zT Z31 (zT Z34 (zT Z19 (zT Z32 Z13)))))
    refine iE 206 Z37 Z12 ?_
    refine Ag (Aa rfl (iQ 2 (jB .geq 3 (.int .i64 y) (.int .i64 z) 131 ?_)))
    intro c131 hc131
    refine iQ 1 ?_
    cases c131
    ·replace hc131:=bf hc131
     refine iQ 10 (iE 206 (zT [(142,Ba false)] Z37) Z12 ?_)
     refine iF (Ae (Ar (Ag (Ap rfl (iQ 1 (jB .add 3 (.int .i64 y) (.int .i64 1) 92 ?_))))))
     intro z92 hz92
     try replace hz92:=hz92.i64 (by omega)
     refine iQ 1 ?_
     let Z38:=zT [(23,Ia z92),(62,Ba false),(90,Ba true),(95,Ba false),(142,Ba false)] []
     let Z39:=zT Z38 (zT Z9 (zT Z31 (zT Z34 (zT Z36 (zT Z19 Z13)))))
     refine iE 206 Z39 Z12 ?_
     refine Br (j+1,z92,A ++ [Dm.mk k' t' is' ns' p' q'],B ++ [Dm.mk k' t' is' ns' p' q'],C ++ [Dm.mk k' t' is' ns' p' q'],D) (⟨by omega,by omega,h3.ne hm (by omega) (h3.dout hm (by omega))⟩) (by simp only;omega) (by kernel_rfl) (by kernel_rfl)
    ·replace hc131:=bt hc131
     refine iQ 1 (jB .lss 3 (.int .i64 n) (.int .i64 0) 134 ?_)
     intro c134 hc134
     refine iQ 1 ?_
     cases c134
     ·replace hc134:=bf hc134
      refine iQ 2 (jB .sub 3 (.int .i64 y) (.int .i64 z) 138 ?_)
      intro z138 hz138
      try replace hz138:=hz138.i64 (by omega)
      refine iQ 1 (jB .lss 3 (.int .i64 z138) (.int .i64 n) 140 ?_)
      intro c140 hc140
      refine iQ 2 (iE 206 (zT [(142,Ba c140)] Z37) Z12 ?_)
      cases c140
      ·replace hc140:=bf hc140
       refine iF (Ae (Ar (Ag (Ap rfl (iQ 1 (jB .add 3 (.int .i64 y) (.int .i64 1) 92 ?_))))))
       intro z92 hz92
       try replace hz92:=hz92.i64 (by omega)
       refine iQ 1 ?_
       let Z40:=zT [(23,Ia z92),(62,Ba false),(90,Ba true),(95,Ba false),(142,Ba false)] []
       let Z41:=zT Z40 (zT Z9 (zT Z31 (zT Z34 (zT Z36 (zT Z19 Z13)))))
       refine iE 206 Z41 Z12 ?_
       refine Br (j+1,z92,A ++ [Dm.mk k' t' is' ns' p' q'],B ++ [Dm.mk k' t' is' ns' p' q'],C ++ [Dm.mk k' t' is' ns' p' q'],D) (⟨by omega,by omega,h3.ne hm (by omega) (h3.dout hm (by omega))⟩) (by simp only;omega) (by kernel_rfl) (by kernel_rfl)
      ·replace hc140:=bt hc140
       refine iT (Ap rfl (iQ 3 (Cr (q:=y) (n:=((plL vs).length)) (cs:=(Ad (plL vs))) (z:=6) (ds:=[.v (.int .i64 k'),.v (.string (tx t')),.sl ((is').length) (Ad (is')),.sl ((ns').length) (At (ns')),.v (.bool p'),.v (.bool q')]) (dst:=(some 146)) (by kernel_rfl) (by omega) (by rw[h1,Int.toNat_natCast];exact (Bk hm).trans (by rw[Dm.cells])) ?_)))
       refine iQ 2 (Cm (n:=((D).length)) (cs:=(Ad (D))) (m:=1) (ds:=[.v (.int .i64 k'),.v (.string (tx t')),.sl ((is').length) (Ad (is')),.sl ((ns').length) (At (ns')),.v (.bool p'),.v (.bool q')]) (N:=((D ++ [Dm.mk k' t' is' ns' p' q']).length)) (es:=(Ad (D ++ [Dm.mk k' t' is' ns' p' q']))) (j:=22) (e:=27) (z:=6) (dst:=(some 149)) (by kernel_rfl) (by first | rfl | omega | (rw[Nat.mul_one];exact Bj _) | (simp[dg];done) | (simp[dg];omega)) (by first | rfl | omega | (rw[Nat.mul_one];exact Bj _) | (simp[dg];done) | (simp[dg];omega)) (rfl) (by simp;omega) (by simp) (Cj rfl) ?_)
       refine iQ 1 ?_
       let Z42:=zT [(22,.w (.sl ((D ++ [Dm.mk k' t' is' ns' p' q']).length) (Ad (D ++ [Dm.mk k' t' is' ns' p' q']))) (some ⟨22,0,27,6⟩))] []
       let Z43:=zT [(142,Ba true)] (zT Z42 (zT Z9 (zT Z31 (zT Z34 (zT Z36 (zT Z32 Z13))))))
       refine iE 206 Z43 Z12 ?_
       refine Ar (Ag (Ap rfl (iQ 1 (jB .add 3 (.int .i64 y) (.int .i64 1) 92 ?_))))
       intro z92 hz92
       try replace hz92:=hz92.i64 (by omega)
       refine iQ 1 ?_
       let Z44:=zT [(23,Ia z92),(62,Ba false),(90,Ba true),(95,Ba false),(142,Ba true)] []
       let Z45:=zT Z44 (zT Z9 (zT Z31 (zT Z34 (zT Z36 (zT Z42 Z13)))))
       refine iE 206 Z45 Z12 ?_
       refine Br (j+1,z92,A ++ [Dm.mk k' t' is' ns' p' q'],B ++ [Dm.mk k' t' is' ns' p' q'],C ++ [Dm.mk k' t' is' ns' p' q'],D ++ [Dm.mk k' t' is' ns' p' q']) (⟨by omega,by omega,h3.ne hm (by omega) (h3.din hm (by omega) (by omega))⟩) (by simp only;omega) (by kernel_rfl) (by kernel_rfl)
     ·replace hc134:=bt hc134
      refine iQ 7 (iE 206 (zT [(142,Ba true)] Z37) Z12 ?_)
      refine iT (Ap rfl (iQ 3 (Cr (q:=y) (n:=((plL vs).length)) (cs:=(Ad (plL vs))) (z:=6) (ds:=[.v (.int .i64 k'),.v (.string (tx t')),.sl ((is').length) (Ad (is')),.sl ((ns').length) (At (ns')),.v (.bool p'),.v (.bool q')]) (dst:=(some 146)) (by kernel_rfl) (by omega) (by rw[h1,Int.toNat_natCast];exact (Bk hm).trans (by rw[Dm.cells])) ?_)))
      refine iQ 2 (Cm (n:=((D).length)) (cs:=(Ad (D))) (m:=1) (ds:=[.v (.int .i64 k'),.v (.string (tx t')),.sl ((is').length) (Ad (is')),.sl ((ns').length) (At (ns')),.v (.bool p'),.v (.bool q')]) (N:=((D ++ [Dm.mk k' t' is' ns' p' q']).length)) (es:=(Ad (D ++ [Dm.mk k' t' is' ns' p' q']))) (j:=22) (e:=27) (z:=6) (dst:=(some 149)) (by kernel_rfl) (by first | rfl | omega | (rw[Nat.mul_one];exact Bj _) | (simp[dg];done) | (simp[dg];omega)) (by first | rfl | omega | (rw[Nat.mul_one];exact Bj _) | (simp[dg];done) | (simp[dg];omega)) (rfl) (by simp;omega) (by simp) (Cj rfl) ?_)
      refine iQ 1 ?_
      let Z46:=zT [(22,.w (.sl ((D ++ [Dm.mk k' t' is' ns' p' q']).length) (Ad (D ++ [Dm.mk k' t' is' ns' p' q']))) (some ⟨22,0,27,6⟩))] []
      let Z47:=zT [(142,Ba true)] (zT Z46 (zT Z9 (zT Z31 (zT Z34 (zT Z36 (zT Z32 Z13))))))
      refine iE 206 Z47 Z12 ?_
      refine Ar (Ag (Ap rfl (iQ 1 (jB .add 3 (.int .i64 y) (.int .i64 1) 92 ?_))))
      intro z92 hz92
      try replace hz92:=hz92.i64 (by omega)
      refine iQ 1 ?_
      let Z48:=zT [(23,Ia z92),(62,Ba false),(90,Ba true),(95,Ba false),(142,Ba true)] []
      let Z49:=zT Z48 (zT Z9 (zT Z31 (zT Z34 (zT Z36 (zT Z46 Z13)))))
      refine iE 206 Z49 Z12 ?_
      refine Br (j+1,z92,A ++ [Dm.mk k' t' is' ns' p' q'],B ++ [Dm.mk k' t' is' ns' p' q'],C ++ [Dm.mk k' t' is' ns' p' q'],D ++ [Dm.mk k' t' is' ns' p' q']) (⟨by omega,by omega,h3.ne hm (by omega) (h3.din hm (by omega) (by omega))⟩) (by simp only;omega) (by kernel_rfl) (by kernel_rfl)
   ·replace hc95:=bt hc95
    refine iT (Aa rfl (iQ 4 (Cr (q:=y) (n:=((plL vs).length)) (cs:=(Ad (plL vs))) (z:=6) (ds:=[.v (.int .i64 k'),.v (.string (tx t')),.sl ((is').length) (Ad (is')),.sl ((ns').length) (At (ns')),.v (.bool p'),.v (.bool q')]) (dst:=(some 100)) (by kernel_rfl) (by omega) (by rw[h1,Int.toNat_natCast];exact (Bk hm).trans (by rw[Dm.cells])) ?_)))
    refine iQ 2 (Cm (n:=((A).length)) (cs:=(Ad (A))) (m:=2) (ds:=[.v (.int .i64 k),.v (.string (tx t)),.sl ((is).length) (Ad (is)),.sl ((ns).length) (At (ns)),.v (.bool p),.v (.bool q),.v (.int .i64 k'),.v (.string (tx t')),.sl ((is').length) (Ad (is')),.sl ((ns').length) (At (ns')),.v (.bool p'),.v (.bool q')]) (N:=((A ++ [plV v,Dm.mk k' t' is' ns' p' q']).length)) (es:=(Ad (A ++ [plV v,Dm.mk k' t' is' ns' p' q']))) (j:=19) (e:=27) (z:=6) (dst:=(some 103)) (by kernel_rfl) (by first | rfl | omega | (rw[Nat.mul_one];exact Bj _) | (simp[dg];done) | (simp[dg];omega)) (by first | rfl | omega | (rw[Nat.mul_one];exact Bj _) | (simp[dg];done) | (simp[dg];omega)) (rfl) (by simp;omega) (by simp) (b1f ho) ?_)
    refine iQ 1 ?_
    let Z50:=zT [(19,.w (.sl ((A ++ [plV v,Dm.mk k' t' is' ns' p' q']).length) (Ad (A ++ [plV v,Dm.mk k' t' is' ns' p' q']))) (some ⟨19,0,27,6⟩))] []
    let Z51:=zT [(23,Ia y),(62,Ba false),(90,Ba true),(95,Ba true)] []
    let Z52:=zT Z51 (zT Z50 (zT Z9 (zT Z17 (zT Z18 (zT Z19 Z13)))))
    refine iE 206 Z52 Z12 ?_
    refine Ap rfl (iQ 3 (Cm (n:=((C).length)) (cs:=(Ad (C))) (m:=1) (ds:=[.v (.int .i64 k),.v (.string (tx t)),.sl ((is).length) (Ad (is)),.sl ((ns).length) (At (ns)),.v (.bool p),.v (.bool q)]) (N:=((C ++ [plV v]).length)) (es:=(Ad (C ++ [plV v]))) (j:=21) (e:=27) (z:=6) (dst:=(some 107)) (by kernel_rfl) (by first | rfl | omega | (rw[Nat.mul_one];exact Bj _) | (simp[dg];done) | (simp[dg];omega)) (by first | rfl | omega | (rw[Nat.mul_one];exact Bj _) | (simp[dg];done) | (simp[dg];omega)) (rfl) (by simp;omega) (by simp) (Cj ho) ?_))
    refine iQ 1 ?_
    let Z53:=zT [(21,.w (.sl ((C ++ [plV v]).length) (Ad (C ++ [plV v]))) (some ⟨21,0,27,6⟩))] []
    let Z54:=zT Z53 (zT Z9 (zT Z50 (zT Z17 (zT Z19 (zT Z51 Z13)))))
    refine iE 206 Z54 Z12 ?_
    refine Ag (Aa rfl (iQ 2 (jB .geq 3 (.int .i64 y) (.int .i64 z) 131 ?_)))
    intro c131 hc131
    refine iQ 1 ?_
    cases c131
    ·replace hc131:=bf hc131
     refine iQ 10 (iE 206 (zT [(142,Ba false)] Z54) Z12 ?_)
     exfalso;omega
     skip
    ·replace hc131:=bt hc131
     refine iQ 1 (jB .lss 3 (.int .i64 n) (.int .i64 0) 134 ?_)
     intro c134 hc134
     refine iQ 1 ?_
     cases c134
     ·replace hc134:=bf hc134
      refine iQ 2 (jB .sub 3 (.int .i64 y) (.int .i64 z) 138 ?_)
      intro z138 hz138
      try replace hz138:=hz138.i64 (by omega)
      refine iQ 1 (jB .lss 3 (.int .i64 z138) (.int .i64 n) 140 ?_)
      intro c140 hc140
      refine iQ 2 (iE 206 (zT [(142,Ba c140)] Z54) Z12 ?_)
      cases c140
      ·replace hc140:=bf hc140
       refine iF (Ae (Ar (Ag (Ap rfl (iQ 1 (jB .add 3 (.int .i64 y) (.int .i64 1) 92 ?_))))))
       intro z92 hz92
       try replace hz92:=hz92.i64 (by omega)
       refine iQ 1 ?_
       let Z55:=zT [(23,Ia z92),(62,Ba false),(90,Ba true),(95,Ba true),(142,Ba false)] []
       let Z56:=zT Z55 (zT Z9 (zT Z50 (zT Z53 (zT Z17 (zT Z19 Z13)))))
       refine iE 206 Z56 Z12 ?_
       refine Br (j+1,z92,A ++ [plV v,Dm.mk k' t' is' ns' p' q'],B,C ++ [plV v],D) (⟨by omega,by omega,h3.eq hm (by omega) (h3.dout hm (by omega))⟩) (by simp only;omega) (by kernel_rfl) (by kernel_rfl)
      ·replace hc140:=bt hc140
       refine iT (Ap rfl (iQ 3 (Cr (q:=y) (n:=((plL vs).length)) (cs:=(Ad (plL vs))) (z:=6) (ds:=[.v (.int .i64 k'),.v (.string (tx t')),.sl ((is').length) (Ad (is')),.sl ((ns').length) (At (ns')),.v (.bool p'),.v (.bool q')]) (dst:=(some 146)) (by kernel_rfl) (by omega) (by rw[h1,Int.toNat_natCast];exact (Bk hm).trans (by rw[Dm.cells])) ?_)))
       refine iQ 2 (Cm (n:=((D).length)) (cs:=(Ad (D))) (m:=1) (ds:=[.v (.int .i64 k'),.v (.string (tx t')),.sl ((is').length) (Ad (is')),.sl ((ns').length) (At (ns')),.v (.bool p'),.v (.bool q')]) (N:=((D ++ [Dm.mk k' t' is' ns' p' q']).length)) (es:=(Ad (D ++ [Dm.mk k' t' is' ns' p' q']))) (j:=22) (e:=27) (z:=6) (dst:=(some 149)) (by kernel_rfl) (by first | rfl | omega | (rw[Nat.mul_one];exact Bj _) | (simp[dg];done) | (simp[dg];omega)) (by first | rfl | omega | (rw[Nat.mul_one];exact Bj _) | (simp[dg];done) | (simp[dg];omega)) (rfl) (by simp;omega) (by simp) (Cj rfl) ?_)
       refine iQ 1 ?_
       let Z57:=zT [(22,.w (.sl ((D ++ [Dm.mk k' t' is' ns' p' q']).length) (Ad (D ++ [Dm.mk k' t' is' ns' p' q']))) (some ⟨22,0,27,6⟩))] []
       let Z58:=zT [(142,Ba true)] (zT Z57 (zT Z9 (zT Z50 (zT Z53 (zT Z17 (zT Z51 Z13))))))
       refine iE 206 Z58 Z12 ?_
       refine Ar (Ag (Ap rfl (iQ 1 (jB .add 3 (.int .i64 y) (.int .i64 1) 92 ?_))))
       intro z92 hz92
       try replace hz92:=hz92.i64 (by omega)
       refine iQ 1 ?_
       let Z59:=zT [(23,Ia z92),(62,Ba false),(90,Ba true),(95,Ba true),(142,Ba true)] []
       let Z60:=zT Z59 (zT Z9 (zT Z50 (zT Z57 (zT Z53 (zT Z17 Z13)))))
       refine iE 206 Z60 Z12 ?_
       refine Br (j+1,z92,A ++ [plV v,Dm.mk k' t' is' ns' p' q'],B,C ++ [plV v],D ++ [Dm.mk k' t' is' ns' p' q']) (⟨by omega,by omega,h3.eq hm (by omega) (h3.din hm (by omega) (by omega))⟩) (by simp only;omega) (by kernel_rfl) (by kernel_rfl)
     ·replace hc134:=bt hc134
      refine iQ 7 (iE 206 (zT [(142,Ba true)] Z54) Z12 ?_)
      refine iT (Ap rfl (iQ 3 (Cr (q:=y) (n:=((plL vs).length)) (cs:=(Ad (plL vs))) (z:=6) (ds:=[.v (.int .i64 k'),.v (.string (tx t')),.sl ((is').length) (Ad (is')),.sl ((ns').length) (At (ns')),.v (.bool p'),.v (.bool q')]) (dst:=(some 146)) (by kernel_rfl) (by omega) (by rw[h1,Int.toNat_natCast];exact (Bk hm).trans (by rw[Dm.cells])) ?_)))
      refine iQ 2 (Cm (n:=((D).length)) (cs:=(Ad (D))) (m:=1) (ds:=[.v (.int .i64 k'),.v (.string (tx t')),.sl ((is').length) (Ad (is')),.sl ((ns').length) (At (ns')),.v (.bool p'),.v (.bool q')]) (N:=((D ++ [Dm.mk k' t' is' ns' p' q']).length)) (es:=(Ad (D ++ [Dm.mk k' t' is' ns' p' q']))) (j:=22) (e:=27) (z:=6) (dst:=(some 149)) (by kernel_rfl) (by first | rfl | omega | (rw[Nat.mul_one];exact Bj _) | (simp[dg];done) | (simp[dg];omega)) (by first | rfl | omega | (rw[Nat.mul_one];exact Bj _) | (simp[dg];done) | (simp[dg];omega)) (rfl) (by simp;omega) (by simp) (Cj rfl) ?_)
      refine iQ 1 ?_
      let Z61:=zT [(22,.w (.sl ((D ++ [Dm.mk k' t' is' ns' p' q']).length) (Ad (D ++ [Dm.mk k' t' is' ns' p' q']))) (some ⟨22,0,27,6⟩))] []
      let Z62:=zT [(142,Ba true)] (zT Z61 (zT Z9 (zT Z50 (zT Z53 (zT Z17 (zT Z51 Z13))))))
      refine iE 206 Z62 Z12 ?_
      refine Ar (Ag (Ap rfl (iQ 1 (jB .add 3 (.int .i64 y) (.int .i64 1) 92 ?_))))
      intro z92 hz92
      try replace hz92:=hz92.i64 (by omega)
      refine iQ 1 ?_
      let Z63:=zT [(23,Ia z92),(62,Ba false),(90,Ba true),(95,Ba true),(142,Ba true)] []
      let Z64:=zT Z63 (zT Z9 (zT Z50 (zT Z61 (zT Z53 (zT Z17 Z13)))))
      refine iE 206 Z64 Z12 ?_
      refine Br (j+1,z92,A ++ [plV v,Dm.mk k' t' is' ns' p' q'],B,C ++ [plV v],D ++ [Dm.mk k' t' is' ns' p' q']) (⟨by omega,by omega,h3.eq hm (by omega) (h3.din hm (by omega) (by omega))⟩) (by simp only;omega) (by kernel_rfl) (by kernel_rfl)
 ·replace hc62:=bt hc62
  have hn:plc vs.length a=none:=by rcases hz with ⟨K,_,h,_⟩ | h;omega;exact h.1
  refine iT (Aa rfl (iQ 1 (eC 12 [.agg [.bx (So vs a v).enc]] 64 (Ig (Ih (a2a hn))) (iQ 2 (eC 12 [.agg [.bx (Ss vs a).enc]] 67 (Ig (Ih (a2v hn))) (iQ 3 (eC 12 [.agg [.bx (Ro vs a v).enc]] 71 (Ig (Ih (a16 hn))) (iQ 3 (eC 12 [.agg [.bx (Gl vs a n).enc]] 75 (Ig (Ih (by rw[Gl,hn]))) (iQ 3 (eC 12 [.agg [.bx (Gl vs a (-1)).enc]] 79 (Ig (Ih (by rw[Gl,hn]))) ?_)))))))))))
  refine iQ 4 (eC 27 [.sl ((vs).length) (Aq (vs)),Iv a] 84 (a2c (by omega) a0 a1) (eC 12 [.agg [.bx (atV vs a).enc]] 85 (Ig (Ih (by rw[atV,hn]))) (iQ 2 ?_)))
  let Z65:=zT [(1,Ia a),(2,Ia n),(8,Ba true),(9,.d (.sl ((vs).length) (Aq (vs)))),(10,.p 10 0),(12,.p 12 0),(25,Ba false),(62,Ba true)] []
  let Z66:=zT Z65 (zT Z8 (zT Z5 Z13))
  refine iE 206 Z66 Z12 ?_
  refine Ab (Ai (iR (Bv true) ?_))
  rfl
end Go.Proofs.YtfkfpkhgoijfdaaGreatDoor
