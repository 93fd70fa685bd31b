/- value.Plain of lists; plain data and their sameness; small numbers. -/
import Derived.Test.YtfkfpkhgoijfdaaGreatDoorLfQ
import Derived.Test.YtfkfpkhgoijfdaaGreatDoorLfZ
import Derived.Test.YtfkfpkhgoijfdaaGreatDoorMkV
namespace Go.Proofs.YtfkfpkhgoijfdaaGreatDoor
open Go.RowKit
set_option linter.unusedVariables false
set_option linter.unusedSimpArgs false
set_option maxRecDepth 100000
theorem Vj {xs:List Vl} (hl:xs.length≤1073741824) (ih : ∀ x ∈ xs,PlC x):HasC Tryz.prog 66 [VV (.list xs),.v (.int .i64 10)] (fun r=>r=.tup [.agg [.v (.int .i64 10),.v (.string (tx [])),.sl (plL xs).length (Ad (plL xs)),.sl 0 [],.v (.bool false),.v (.bool false)],.v (.bool true)]):=(Ym hl ih).mono fun r hr=>by
 rw[show plV (.list xs)=.mk 10 [] (plL xs) [] false false by rw[plV],Ju,Dm.cells] at hr
 exact hr
theorem a8d {xs:List Vl} (hl:xs.length≤1073741824) (ih : ∀ x ∈ xs,PlC x):HasC Tryz.prog 46 [.agg [.bx (Vl.list xs).enc]] (fun r=>r=.tup [Ju (.mk 10 [] (plL xs) [] false false),.v (.bool true)]):=by
 refine hO [] Tryz.f46 (fun a w=>Tryz.call46 a w) Tryz.func46 rfl (⟨_,rfl⟩) ?_
 refine Aa rfl (iQ 3 ?_)
 let Z1:=zH [(2,[Iv 0,Sv (⟨#[]⟩),.sl 0 [],.sl 0 [],Bv false,Bv false])] []
 refine iE 25 [(1,.p 1 0),(2,.p 2 0),(3,Ba false)] (zH [(1,[.bx (Vl.list xs).enc])] Z1) ?_
 refine Aa rfl (iQ 1 (eC 13 [.agg [.bx (Vl.list xs).enc]] 6 (Ob (.list xs)) (iQ 1 ?_)))
 let Z2:=zT [(1,.p 1 0),(2,.p 2 0),(3,Ba false),(4,Ia 10)] []
 refine iE 25 Z2 (zH [(1,[.bx (Vl.list xs).enc])] Z1) ?_
 refine Af (Aa rfl (iQ 1 (iE 25 (zT [(7,Ia 10)] Z2) (zH [(1,[.bx (Vl.list xs).enc])] Z1) ?_)))
 refine Am (Af (Aa rfl (jB .eql 23 (.int .i64 10) (.int .i64 10) 9 ?_)))
 refine Ce (rfl) ?_
 refine iQ 1 (iE 25 (zT [(7,Ia 10),(8,Ba true)] Z2) (zH [(1,[.bx (Vl.list xs).enc])] Z1) ?_)
 refine iT (Ae (Ag (iT (Aa rfl (iQ 2 (eC 66 [.agg [.bx (Vl.list xs).enc],Iv 10] 14 (Vj hl ih) (iQ 4 ?_)))))))
 let Z3:=zT [(1,.p 1 0),(2,.p 2 0),(3,Ba true),(4,Ia 10),(7,Ia 10),(8,Ba true)] []
 let Z4:=zH [(2,[Iv 10,Sv (tx []),.sl ((plL xs).length) (Ad (plL xs)),.sl 0 ([]),Bv false,Bv false])] []
 refine iE 25 Z3 (zH [(1,[.bx (Vl.list xs).enc])] Z4) ?_
 refine Ab (Aj (Ai (iS (.agg [Iv 10,Sv (tx []),.sl ((plL xs).length) (Ad (plL xs)),.sl 0 ([]),Bv false,Bv false]) (Bv true) [] ?_)))
 rfl
theorem Yn {xs:List Vl} (hl:xs.length≤1073741824) (ih : ∀ x ∈ xs,PlC x):PlC (.list xs):=by
 rw[PlC,show plV (.list xs)=.mk 10 [] (plL xs) [] false false by rw[plV]]
 exact a8d hl ih
theorem a5g {v:Vl} {k:Int} {t:L8} {is:List Dm} {ns:List L8} {p q:Bool} (h:HasC Tryz.prog 46 [VV v] (fun r=>r=.tup [.agg [.v (.int .i64 k),.v (.string (tx t)),.sl is.length (Ad is),.sl ns.length (At ns),.v (.bool p),.v (.bool q)],.v (.bool true)])):HasC Tryz.prog 21 [.agg [.bx (v).enc]] (fun r=>r=.agg [.v (.int .i64 k),.v (.string (tx t)),.sl is.length (Ad is),.sl ns.length (At ns),.v (.bool p),.v (.bool q)]):=by
 refine hO [] Tryz.f21 (fun a w=>Tryz.call21 a w) Tryz.func21 rfl (⟨_,rfl⟩) ?_
 refine Aa rfl (iQ 2 ?_)
 let Z1:=zH [(2,[Iv 0,Sv (⟨#[]⟩),.sl 0 [],.sl 0 [],Bv false,Bv false])] []
 refine iE 11 [(1,.p 1 0),(2,.p 2 0)] (zH [(1,[.bx (v).enc])] Z1) ?_
 refine Aa rfl (iQ 1 (eC 46 [.agg [.bx (v).enc]] 7 (h) (iQ 6 ?_)))
 let Z2:=zH [(3,[Iv k,Sv (tx t),.sl ((is).length) (Ad (is)),.sl ((ns).length) (At (ns)),Bv p,Bv q])] []
 refine iE 11 [(2,.p 2 0),(3,.p 3 0)] (zH Z2 Z1) ?_
 refine Aa rfl (iQ 2 ?_)
 let Z3:=zH [(2,[Iv k,Sv (tx t),.sl ((is).length) (Ad (is)),.sl ((ns).length) (At (ns)),Bv p,Bv q])] []
 refine iE 11 [(2,.p 2 0),(3,.p 3 0)] (zH Z3 Z2) ?_
 refine Ab (iR (.agg [Iv k,Sv (tx t),.sl ((is).length) (Ad (is)),.sl ((ns).length) (At (ns)),Bv p,Bv q]) ?_)
 rfl
theorem Tx {v:Vl} (h:PlC v):HasC Tryz.prog 21 [VV v] (fun r=>r=Ju (plV v)):=by
 rw[PlC] at h
 cases e:plV v with
 | mk k t is ns p q =>
  rw[e] at h
  simp only[Ju,Dm.cells] at h ⊢
  exact a5g h
def Dm.is:Dm→List Dm
 | .mk _ _ is _ _ _=>is
theorem a3m {v:Vl} {k:Int} {t:L8} {is:List Dm} {ns:List L8} {p q:Bool} (h:HasC Tryz.prog 21 [VV v] (fun r=>r=.agg [.v (.int .i64 k),.v (.string (tx t)),.sl is.length (Ad is),.sl ns.length (At ns),.v (.bool p),.v (.bool q)])):HasC Tryz.prog 15 [.agg [.bx (v).enc]] (fun r=>r=.sl is.length (Ad is)):=by
 refine hO [] Tryz.f15 (fun a w=>Tryz.call15 a w) Tryz.func15 rfl (⟨_,rfl⟩) ?_
 refine Aa rfl (iQ 2 (iE 6 [(1,.p 1 0),(2,.w (.sl 0 []) none)] [(1,[.bx (v).enc])] ?_))
 refine Aa rfl (iQ 1 (eC 21 [.agg [.bx (v).enc]] 4 (h) (iQ 2 (iE 6 [(2,.d (.sl ((is).length) (Ad (is))))] [] ?_))))
 refine Ab (iR (.sl ((is).length) (Ad (is))) ?_)
 rfl
theorem Ug {v:Vl} (h:PlC v):HasC Tryz.prog 15 [VV v] (fun r=>r=.sl (plV v).is.length (Ad (plV v).is)):=by
 have h:=Tx h
 cases e:plV v with
 | mk k t is ns p q =>
  rw[e] at h
  simp only[Ju,Dm.cells] at h
  exact a3m h
theorem Iw {v:Vl} (h:PlC v):HasC Tryz.prog 21 [VV v] (fun r => ∃ k t is ns p q,r=.agg [.v (.int .i64 k),.v (.string (tx t)),.sl is.length (Ad is),.sl ns.length (At ns),.v (.bool p),.v (.bool q)]∧plV v=.mk k t is ns p q):=(Tx h).mono fun r hr=>by
 cases e:plV v with
 | mk k t is ns p q =>
  rw[e,Ju,Dm.cells] at hr
  exact ⟨k,t,is,ns,p,q,hr,rfl⟩
theorem Cj {ds:List Dm} {k:Int} {t:L8} {is:List Dm} {ns:List L8} {p q:Bool} {d:Dm} (h:d=.mk k t is ns p q):Ad ds ++ [.v (.int .i64 k),.v (.string (tx t)),.sl is.length (Ad is),.sl ns.length (At ns),.v (.bool p),.v (.bool q)]=Ad (ds ++ [d]):=by rw[h,Gx,Dm.cells]
theorem Kg (vs:List Vl):(plL vs).length=vs.length:=by rw[Ee,List.length_map]
theorem a1p {vs:List Vl} (hl:vs.length≤1073741823) (ih : ∀ v ∈ vs,PlC v):HasC Tryz.prog 9 [.sl ((vs).length) (Aq (vs))] (fun r=>r=.sl (plL vs).length (Ad (plL vs))):=by
 refine hO [] Tryz.f9 (fun a w=>Tryz.call9 a w) Tryz.func9 rfl (⟨_,rfl⟩) ?_
 refine Aa rfl (iQ 1 ?_)
 let Z1:=zT [(0,.d (.sl ((vs).length) (Aq (vs)))),(2,.w (.sl 0 []) none)] []
 refine iE 20 Z1 [] ?_
 refine Aa rfl (iQ 1 (iE 20 (zT [(3,.w (.sl 0 []) none)] Z1) [] ?_))
 refine Af (Aa rfl (iQ 1 (iE 20 (zT [(3,.w (.sl 0 []) none),(4,Ia 0)] Z1) [] ?_)))
 refine Am (Bz 20 (fun (vcx:Nat×(List Dm)×Int)=>match vcx with | (j,ds,z)=>[(0,.d (.sl ((vs).length) (Aq (vs)))),(2,.w (.sl 0 []) none),(3,.w (.sl ((ds).length) (Ad (ds))) (some ⟨3,0,27,6⟩)),(4,Ia z)]) (fun (vcx:Nat×(List Dm)×Int)=>match vcx with | (j,ds,z)=>[]) (fun (vcx:Nat×(List Dm)×Int)=>match vcx with | (j,ds,z)=>z=j∧j≤vs.length∧ds=plL (vs.take j)∧ds.length=j) (fun (vcx:Nat×(List Dm)×Int)=>match vcx with | (j,ds,z)=>vs.length-j) ((0,[],0)) (⟨rfl,Nat.zero_le _,rfl,rfl⟩) (by kernel_rfl) (by kernel_rfl) ?_)
 rintro ⟨j,ds,z⟩ hinv
 simp only at hinv
 obtain ⟨h1,h2,h3,h4⟩:=hinv
 refine Af (Aa rfl (iQ 3 (jB .lss 3 (.int .i64 z) (.int .i64 ((((vs).length:Nat):Int))) 8 ?_)))
 intro c8 hc8
 let Z2:=zT [(3,.w (.sl ((ds).length) (Ad (ds))) (some ⟨3,0,27,6⟩))] []
 refine iE 20 (zT [(4,Ia z),(8,Ba c8)] (zT Z2 Z1)) [] ?_
 cases c8
 ·replace hc8:=bf hc8
  have e:ds=plL vs:=by rw[h3,List.take_of_length_le (by omega)]
  refine iF (Bm (Da (Cb (Bn rfl (Ag (Aa rfl (iQ 2 ?_)))))))
  let Z3:=zT [(2,.w (.sl ((ds).length) (Ad (ds))) (some ⟨3,0,27,6⟩))] []
  let Z4:=zT [(0,.d (.sl ((vs).length) (Aq (vs)))),(4,Ia z),(8,Ba false)] []
  let Z5:=zT Z4 (zT Z3 Z2)
  refine iE 20 Z5 [] ?_
  refine Ab (iR (.sl ((ds).length) (Ad (ds))) ?_)
  rw[e]
 ·replace hc8:=bt hc8
  obtain ⟨v,hm⟩ : ∃ d,vs[j]? = some d:=⟨_,List.getElem?_eq_getElem (by omega)⟩
  refine iT (Ae (Ag (Af (Am (Ap rfl (iQ 3 (Bl (q:=z) (n:=((vs).length)) (cs:=(Aq (vs))) (d:=.bx (v).enc) (dst:=(some 14)) (by kernel_rfl) (by omega) (by rw[h1,Int.toNat_natCast];exact Hx hm) ?_)))))))
  have hcl:=En ds
  refine iQ 1 (jC 21 [.agg [.bx (v).enc]] 16 (Iw (ih v (List.mem_of_getElem? hm))) ?_)
  rintro _ ⟨k,t,is,ns,p,q,rfl,hp⟩
  refine iQ 1 (Cm (n:=((ds).length)) (cs:=(Ad (ds))) (m:=1) (ds:=[.v (.int .i64 k),.v (.string (tx t)),.sl ((is).length) (Ad (is)),.sl ((ns).length) (At (ns)),.v (.bool p),.v (.bool q)]) (N:=((ds ++ [plV v]).length)) (es:=(Ad (ds ++ [plV v]))) (j:=3) (e:=27) (z:=6) (dst:=(some 18)) (by kernel_rfl) (by first | rfl | omega | (rw[Nat.mul_one];exact Bj _) | (simp[dg];done) | (simp[dg];omega)) (by first | rfl | omega | (rw[Nat.mul_one];exact Bj _) | (simp[dg];done) | (simp[dg];omega)) (rfl) (by omega) (by simp) (Cj hp) ?_)
  refine iQ 1 ?_
  let Z6:=zT [(3,.w (.sl ((ds ++ [plV v]).length) (Ad (ds ++ [plV v]))) (some ⟨3,0,27,6⟩))] []
  refine iE 20 (zT [(4,Ia z),(8,Ba true)] (zT Z6 Z1)) [] ?_
  refine Ar (Ag (Ap rfl (iQ 1 (jB .add 3 (.int .i64 z) (.int .i64 1) 10 ?_))))
  intro z10 hz10
  try replace hz10:=hz10.i64 (by omega)
  refine iQ 1 (iE 20 (zT [(4,Ia z10),(8,Ba true)] (zT Z6 Z1)) [] ?_)
  refine Br (j+1,ds ++ [plV v],z10) (⟨by omega,by omega,by rw[Nh hm,h3],by simp;omega⟩) (by show vs.length-(j+1)<vs.length-j;omega) (by kernel_rfl) (by kernel_rfl)
def Je (zs:List Int):List DV:=zs.map fun z=>.v (.int .i64 z)
abbrev Bd (zs:List Int):List Vl:=zs.map Bs
theorem a47 {zs:List Int} {k:Nat} {z:Int} (h:zs[k]? = some z):(Je zs)[k]? = some (.v (.int .i64 z)):=by rw[Je,List.getElem?_map,h];rfl
theorem Uk {zs:List Int} {j:Nat} {x:Int} (h:zs[j]? = some x):Bd (zs.take (j+1))=Bd (zs.take j) ++ [Bs x]:=by rw[Bd,Bd,List.take_add_one,h];simp
theorem a6e {zs:List Int} {j:Nat} (h:j≤zs.length):(Bd (zs.take j)).length=j:=by rw[Bd,List.length_map,List.length_take];omega
theorem La {zs:List Int} (hl:zs.length≤1073741823) (hz : ∀ z ∈ zs, -9223372036854775808≤z∧z≤9223372036854775807):HasC Tryz.prog 36 [.sl ((zs).length) (Je (zs))] (fun r=>r=.sl (Bd zs).length (Aq (Bd zs))):=by
 refine hO [] Tryz.f36 (fun a w=>Tryz.call36 a w) Tryz.func36 rfl (⟨_,rfl⟩) ?_
 refine Aa rfl (iQ 1 ?_)
 let Z1:=zT [(0,.d (.sl ((zs).length) (Je (zs)))),(2,.w (.sl 0 []) none)] []
 refine iE 19 Z1 [] ?_
 refine Aa rfl (iQ 1 (iE 19 (zT [(3,.w (.sl 0 []) none)] Z1) [] ?_))
 refine Af (Aa rfl (iQ 3 ?_))
 let Z2:=zT [(2,.w (.sl 0 []) none),(3,.w (.sl 0 []) none),(6,.d (.sl ((zs).length) (Je (zs)))),(7,Ia ((((zs).length:Nat):Int))),(8,Ia 0)] []
 refine iE 19 Z2 [] ?_
 refine Am (Bz 19 (fun (vcx:Nat×Int)=>match vcx with | (j,c)=>[(2,.w (.sl 0 []) none),(3,.w (.sl ((Bd (zs.take j)).length) (Aq (Bd (zs.take j)))) (some ⟨3,0,36,1⟩)),(6,.d (.sl ((zs).length) (Je (zs)))),(7,Ia ((((zs).length:Nat):Int))),(8,Ia c)]) (fun (vcx:Nat×Int)=>match vcx with | (j,c)=>[]) (fun (vcx:Nat×Int)=>match vcx with | (j,c)=>c=j∧j≤zs.length) (fun (vcx:Nat×Int)=>match vcx with | (j,c)=>zs.length-j) ((0,0)) (⟨rfl,Nat.zero_le _⟩) (by kernel_rfl) (by kernel_rfl) ?_)
 rintro ⟨j,c⟩ hinv
 simp only at hinv
 obtain ⟨h1,h2⟩:=hinv
 refine Aa rfl (jB .lss 3 (.int .i64 c) (.int .i64 ((((zs).length:Nat):Int))) 9 ?_)
 intro c9 hc9
 let Z3:=zT [(3,.w (.sl ((Bd (zs.take j)).length) (Aq (Bd (zs.take j)))) (some ⟨3,0,36,1⟩))] []
 let Z4:=zT [(2,.w (.sl 0 []) none),(6,.d (.sl ((zs).length) (Je (zs)))),(7,Ia ((((zs).length:Nat):Int))),(8,Ia c),(9,Ba c9)] []
 refine iE 19 (zT Z4 Z3) [] ?_
 refine Af ?_
 cases c9
 ·replace hc9:=bf hc9
  have e:zs.take j=zs:=List.take_of_length_le (by omega)
  refine iF (Bm (Da (Cb (Bn rfl (Ag (Aa rfl (iQ 2 ?_)))))))
  let Z5:=zT [(2,.w (.sl ((Bd (zs.take j)).length) (Aq (Bd (zs.take j)))) (some ⟨3,0,36,1⟩))] []
  let Z6:=zT [(6,.d (.sl ((zs).length) (Je (zs)))),(7,Ia ((((zs).length:Nat):Int))),(8,Ia c),(9,Ba false)] []
  let Z7:=zT Z6 (zT Z5 Z3)
  refine iE 19 Z7 [] ?_
  refine Ab (iR (.sl ((Bd (zs.take j)).length) (Aq (Bd (zs.take j)))) ?_)
  rw[e]
 ·replace hc9:=bt hc9
  obtain ⟨x,hm⟩ : ∃ d,zs[j]? = some d:=⟨_,List.getElem?_eq_getElem (by omega)⟩
  have hx:=hz x (List.mem_of_getElem? hm)
  refine iT (Ae (Ag (Af (Am (Aa rfl (Bl (q:=c) (n:=((zs).length)) (cs:=(Je (zs))) (d:=.v (.int .i64 x)) (dst:=(some 10)) (by kernel_rfl) (by omega) (by rw[h1,Int.toNat_natCast];exact a47 hm) ?_))))))
  refine iQ 2 ?_
  let Z8:=zT [(2,.w (.sl 0 []) none),(5,Ia x),(6,.d (.sl ((zs).length) (Je (zs)))),(7,Ia ((((zs).length:Nat):Int))),(8,Ia c),(9,Ba true)] []
  refine iE 19 (zT Z8 Z3) [] ?_
  refine Ap rfl (iQ 2 (eC 32 [Iv x] 14 (Np hx.1 hx.2) (iQ 1 (Cm (n:=((Bd (zs.take j)).length)) (cs:=(Aq (Bd (zs.take j)))) (m:=1) (ds:=[.bx (Bs x).enc]) (N:=((Bd (zs.take (j+1))).length)) (es:=(Aq (Bd (zs.take (j+1))))) (j:=3) (e:=36) (z:=1) (dst:=(some 16)) (by kernel_rfl) (by first | rfl | omega | (rw[Nat.mul_one];exact Bj _) | (simp[dg];done) | (simp[dg];omega)) (by first | rfl | omega | (rw[Nat.mul_one];exact Bj _) | (simp[dg];done) | (simp[dg];omega)) (rfl) (by rw[a6e h2];omega) (by rw[Uk hm];simp) (by rw[Uk hm];exact Kb) ?_))))
  refine iQ 1 ?_
  let Z9:=zT [(3,.w (.sl ((Bd (zs.take (j+1))).length) (Aq (Bd (zs.take (j+1))))) (some ⟨3,0,36,1⟩))] []
  refine iE 19 (zT Z9 Z8) [] ?_
  refine Ar (Ag (Ap rfl (jB .add 3 (.int .i64 c) (.int .i64 1) 17 ?_)))
  intro z17 hz17
  try replace hz17:=hz17.i64 (by omega)
  refine iQ 1 ?_
  let Z10:=zT [(2,.w (.sl 0 []) none),(5,Ia x),(6,.d (.sl ((zs).length) (Je (zs)))),(7,Ia ((((zs).length:Nat):Int))),(8,Ia z17),(9,Ba true)] []
  refine iE 19 (zT Z10 Z9) [] ?_
  refine Br (j+1,z17) (⟨by omega,by omega⟩) (by show zs.length-(j+1)<zs.length-j;omega) (by kernel_rfl) (by kernel_rfl)
theorem a6f {n:Nat} (hh:hiW n=0) (hl:loW n=(n:Int)) (h:n<9223372036854775808):HasC Tryz.prog 63 [.agg [.v (.bool false),.v (.int .u64 (hiW (n))),.v (.int .u64 (loW (n))),.v (.int .i64 0)]] (fun y=>y=.tup [.v (.int .i64 (n:Int)),.v (.bool true)]):=by
 refine hO [] Tryz.f63 (fun a w=>Tryz.call63 a w) Tryz.func63 rfl (⟨_,rfl⟩) ?_
 refine Aa rfl (iQ 3 (iE 98 [(1,.p 1 0),(2,Ia 0),(3,Ba false)] [(1,[Bv false,Hw n,Lw n,Iv 0])] ?_))
 refine Aa rfl (iQ 3 ?_)
 let Z1:=zT [(1,.p 1 0),(2,Ia 0),(3,Ba false),(4,.p 4 0)] []
 let Z2:=zH [(1,[Bv false,Hw n,Lw n,Iv 0]),(4,[Bv false,Hw n,Lw n,Iv 0])] []
 refine iE 98 Z1 Z2 ?_
 refine Af (Am (Bz 98 (fun (vcx:Nat)=>match vcx with | j=>[(1,.p 1 0),(2,Ia 0),(3,Ba false),(4,.p 4 0)]) (fun (vcx:Nat)=>match vcx with | j=>[(1,[Bv false,Hw n,Lw n,Iv 0]),(4,[Bv false,Hw n,Lw n,Iv 0])]) (fun (vcx:Nat)=>match vcx with | j=>j=0) (fun (vcx:Nat)=>match vcx with | j=>0) 0 (rfl) (by kernel_rfl) (by kernel_rfl) ?_))
 rintro j hinv
 simp only at hinv
 refine Af (Aa rfl (iQ 2 (jB .lss 3 (.int .i64 0) (.int .i64 0) 14 ?_)))
 refine Al ((by decide)) ?_
 refine iQ 5 (iE 98 (zT [(19,Ba false)] Z1) Z2 ?_)
 refine iF (Bm (Da (Cb (Bn rfl (Ag (Af (Am (Bz 98 (fun (vcx:Nat)=>match vcx with | i=>[(1,.p 1 0),(2,Ia 0),(3,Ba false),(4,.p 4 0),(19,Ba false)]) (fun (vcx:Nat)=>match vcx with | i=>[(1,[Bv false,Hw n,Lw n,Iv 0]),(4,[Bv false,Hw n,Lw n,Iv 0])]) (fun (vcx:Nat)=>match vcx with | i=>i=0) (fun (vcx:Nat)=>match vcx with | i=>0) 0 (rfl) (by kernel_rfl) (by kernel_rfl) ?_))))))))
 rintro i hinv
 simp only at hinv
 refine Af (Aa rfl (iQ 2 (jB .gtr 3 (.int .i64 0) (.int .i64 0) 39 ?_)))
 refine Al ((by decide)) ?_
 refine iQ 5 (iE 98 (zT [(19,Ba false),(44,Ba false)] Z1) Z2 ?_)
 refine iF (Bm (Da (Cb (Bn rfl (Ag (Af (Am (Aa rfl (iQ 3 (jB .neq 85 (.int .u64 (hiW (n))) (.int .u64 0) 68 ?_))))))))))
 refine Al ((by rw[hh];decide)) ?_
 refine iQ 4 (jB .gtr 85 (.int .u64 (loW (n))) (.int .u64 9223372036854775808) 73 ?_)
 refine Al ((by rw[hl];omega)) ?_
 refine iQ 5 (jB .eql 85 (.int .u64 (loW (n))) (.int .u64 9223372036854775808) 79 ?_)
 refine Al ((by rw[hl];omega)) ?_
 refine iQ 7 ?_
 let Z3:=zT [(19,Ba false),(44,Ba false),(64,Ba false)] []
 refine iE 98 (zT Z3 Z1) Z2 ?_
 refine iF (Aa rfl (iQ 3 (iE 98 (zT [(86,Ba false)] (zT Z1 Z3)) Z2 ?_)))
 refine iF (Ae (Ar (Ag (Aa rfl (iQ 3 (jV 85 3 (.int .u64 (loW (n))) 97 ?_))))))
 intro z97 hz97
 try replace hz97:=hz97.i64 (by omega)
 refine iQ 2 ?_
 let Z4:=zT [(1,.p 1 0),(2,Ia z97),(3,Ba true),(4,.p 4 0),(86,Ba false)] []
 refine iE 98 (zT Z4 Z3) Z2 ?_
 refine Ab (iS (Iv z97) (Bv true) [] ?_)
 rw[hz97,hl]
theorem a65 {n:Nat} (hh:hiW n=0) (hl:loW n=(n:Int)) (h:n<9223372036854775808):HasC Tryz.prog 38 [.agg [.ifc 102 (.agg [.v (.bool false),.v (.int .u64 (hiW (n))),.v (.int .u64 (loW (n))),.v (.int .i64 0)])]] (fun r=>r=.tup [.v (.int .i64 (n:Int)),.v (.bool true)]):=by
 refine hO [] Tryz.f38 (fun a w=>Tryz.call38 a w) Tryz.func38 rfl (⟨_,rfl⟩) ?_
 refine Aa rfl (iQ 3 ?_)
 let Z1:=zH [(1,[.ifc 102 (.agg [Bv false,Hw n,Lw n,Iv 0])])] []
 refine iE 18 [(1,.p 1 0),(2,Ia 0),(3,Ba false)] Z1 ?_
 refine Aa rfl (iQ 9 ?_)
 let Z2:=zT [(2,Ia 0),(3,Ba false),(4,.p 4 0),(5,Ba true)] []
 refine iE 18 Z2 [(4,[Bv false,Hw n,Lw n,Iv 0])] ?_
 refine Af (Aa rfl (iQ 1 (jU .not (.bool true) 13 ?_)))
 refine Al ((by simp)) ?_
 let Z3:=zT [(2,Ia 0),(3,Ba false),(4,.p 4 0),(13,Ba false)] []
 refine iE 18 Z3 [(4,[Bv false,Hw n,Lw n,Iv 0])] ?_
 refine iF (Ae (Ag (Aa rfl (iQ 1 (eC 63 [.agg [Bv false,Hw n,Lw n,Iv 0]] 15 (a6f hh hl h) (iQ 4 ?_))))))
 let Z4:=zT [(2,Ia ((n:Int))),(3,Ba true),(4,.p 4 0),(13,Ba false)] []
 refine iE 18 Z4 [(4,[Bv false,Hw n,Lw n,Iv 0])] ?_
 refine Ab (iS (Iv ((n:Int))) (Bv true) [] ?_)
 rfl
theorem Zy:HasC Tryz.prog 38 [VV (Bs 2)] (fun r=>r=.tup [.v (.int .i64 2),.v (.bool true)]) :=
 HasC.ub (a65 (n:=2) (by decide) (by decide) (by decide))
theorem b8h {l:L8} {ns:List L8} {vs:List Vl} (h:vs.length≤1073741824) (h':ns.length=vs.length):HasC Tryz.prog 37 [.agg [.bx (Vl.ctx ns vs).enc],.v (.string (tx l))] (fun r=>r=VV (Pl l ns vs)):=by
 refine hO [] Tryz.f37 (fun a w=>Tryz.call37 a w) Tryz.func37 rfl (⟨_,rfl⟩) ?_
 refine Aa rfl (iQ 2 ?_)
 let Z1:=zT [(1,.d (Sv (tx l))),(2,.p 2 0),(4,.p 4 0)] []
 let Z2:=zH [(2,[.bx (Vl.ctx ns vs).enc]),(4,[.v (.nilIface)])] []
 refine iE 14 Z1 Z2 ?_
 refine Aa rfl (iQ 2 (jC 62 [.agg [.bx (Vl.ctx ns vs).enc],Sv (tx l)] 10 (a79 (v:=.ctx ns vs) (n:=l) rfl h h') ?_))
 rintro _ ⟨f,rfl,hf⟩
 refine iQ 6 ?_
 let Z3:=zH [(4,[.v (.nilIface)]),(5,[.bx (Pl l ns vs).enc])] []
 refine iE 14 [(4,.p 4 0),(5,.p 5 0)] Z3 ?_
 refine Aa rfl (iQ 2 ?_)
 let Z4:=zH [(4,[.bx (Pl l ns vs).enc]),(5,[.bx (Pl l ns vs).enc])] []
 refine iE 14 [(4,.p 4 0),(5,.p 5 0)] Z4 ?_
 refine Ab (iR (.agg [.bx (Pl l ns vs).enc]) ?_)
 rfl
mutual
def Dm.lenD:Dm→Prop
 | .mk _ _ is ns _ _=>is.length≤1073741824∧ns.length≤1073741824∧Hf is
def Hf:List Dm→Prop
 | []=>True
 | d::ds=>d.lenD∧Hf ds
end
theorem Rb : ∀ {ds:List Dm},Hf ds ↔ ∀ d ∈ ds,d.lenD
 | []=>by simp[Hf]
 | d::ds=>by rw[Hf,Rb];simp
mutual
theorem Na : ∀ (v:Vl),v.ok→(plV v).lenD
 | .list vs,h=>by rw[Vl.ok] at h;rw[plV,Dm.lenD,Kg];exact ⟨h.1,by simp,Hn vs h.2⟩
 | .ctx ns vs,h=>by rw[Vl.ok] at h;rw[plV,Dm.lenD,Kg];exact ⟨h.2.2.1,by omega,Hn vs h.2.2.2⟩
 | .rng lo hi p q,h=>by rw[Vl.ok] at h;rw[plV,Dm.lenD,Hf,Hf,Hf];exact ⟨by simp,by simp,Na lo h.1,Na hi h.2.1,trivial⟩
 | .null,_=>by simp[plV,Dm.lenD,Hf]
 | .bool _,_=>by simp[plV,Dm.lenD,Hf]
 | .num _ _ _,_=>by simp[plV,Dm.lenD,Hf]
 | .text _,_=>by simp[plV,Dm.lenD,Hf]
 | .day _ _ _,_=>by simp[plV,Dm.lenD,Hf]
 | .time _ _ _,_=>by simp[plV,Dm.lenD,Hf]
 | .mom _ _ _ _ _ _,_=>by simp[plV,Dm.lenD,Hf]
 | .days _,_=>by simp[plV,Dm.lenD,Hf]
 | .months _,_=>by simp[plV,Dm.lenD,Hf]
theorem Hn : ∀ (vs:List Vl),okL vs→Hf (plL vs)
 | [],_=>by simp[plL,Hf]
 | v::r,h=>by rw[okL] at h;rw[plL,Hf];exact ⟨Na v h.1,Hn r h.2⟩
end
theorem a9d {k:Int} {t:L8} {is:List Dm} {ns:List L8} {p q:Bool} (hs:(Dm.mk k t is ns p q).lenD) (ih : ∀ (k:Int) (t:L8) (is':List Dm) (ns:List L8) (p q:Bool),Dm.mk k t is' ns p q ∈ is→HasC Tryz.prog 28 [Wn k t is' ns p q,Wn k t is' ns p q] (fun y=>y=.v (.bool true))):HasC Tryz.prog 28 [.agg [.v (.int .i64 k),.v (.string (tx t)),.sl ((is).length) (Ad (is)),.sl ((ns).length) (At (ns)),.v (.bool p),.v (.bool q)],.agg [.v (.int .i64 k),.v (.string (tx t)),.sl ((is).length) (Ad (is)),.sl ((ns).length) (At (ns)),.v (.bool p),.v (.bool q)]] (fun y=>y=.v (.bool true)):=by
 refine hO [] Tryz.f28 (fun a w=>Tryz.call28 a w) Tryz.func28 rfl (⟨_,rfl⟩) ?_
 rw[Dm.lenD] at hs
 obtain ⟨hs1,hs2,hs3⟩:=hs
 refine Aa rfl (iQ 3 ?_)
 let Z1:=zH [(2,[Iv k,Sv (tx t),.sl ((is).length) (Ad (is)),.sl ((ns).length) (At (ns)),Bv p,Bv q])] []
 let Z2:=zH [(3,[Iv k,Sv (tx t),.sl ((is).length) (Ad (is)),.sl ((ns).length) (At (ns)),Bv p,Bv q])] []
 refine iE 81 [(2,.p 2 0),(3,.p 3 0),(4,Ba false)] (zH Z2 Z1) ?_
 refine Af (Aa rfl (iQ 4 (jB .neq 23 (.int .i64 k) (.int .i64 k) 11 ?_)))
 refine Al ((by simp)) ?_
 refine iQ 5 (jB .neq 9 (.string (tx t)) (.string (tx t)) 17 ?_)
 refine Al ((by simp)) ?_
 refine iQ 8 (jB .neq 3 (.int .i64 ((((is).length:Nat):Int))) (.int .i64 ((((is).length:Nat):Int))) 26 ?_)
 refine Al ((by simp)) ?_
 refine iQ 8 (jB .neq 3 (.int .i64 ((((ns).length:Nat):Int))) (.int .i64 ((((ns).length:Nat):Int))) 35 ?_)
 refine Al ((by simp)) ?_
 refine iQ 6 (jB .neq 25 (.agg #[.bool p,.bool q]) (.agg #[.bool p,.bool q]) 42 ?_)
 refine Al ((by simp)) ?_
 refine iQ 1 ?_
 let Z3:=zT [(2,.p 2 0),(3,.p 3 0),(4,Ba false),(43,Ba false)] []
 refine iE 81 Z3 (zH Z1 Z2) ?_
 refine iF (Ae (Ag (Af (Aa rfl (iQ 1 (iE 81 (zT [(5,Ia 0)] Z3) (zH Z1 Z2) ?_))))))
 refine Am (Bz 81 (fun (vcx:Nat×Int)=>match vcx with | (j,z)=>[(2,.p 2 0),(3,.p 3 0),(4,Ba false),(5,Ia z),(43,Ba false)]) (fun (vcx:Nat×Int)=>match vcx with | (j,z)=>[(2,[Iv k,Sv (tx t),.sl ((is).length) (Ad (is)),.sl ((ns).length) (At (ns)),Bv p,Bv q]),(3,[Iv k,Sv (tx t),.sl ((is).length) (Ad (is)),.sl ((ns).length) (At (ns)),Bv p,Bv q])]) (fun (vcx:Nat×Int)=>match vcx with | (j,z)=>z=j∧j≤ns.length) (fun (vcx:Nat×Int)=>match vcx with | (j,z)=>ns.length-j) ((0,0)) (⟨rfl,Nat.zero_le _⟩) (by kernel_rfl) (by kernel_rfl) ?_)
 rintro ⟨j,z⟩ hinv
 simp only at hinv
 obtain ⟨h1,h2⟩:=hinv
 refine Af (Aa rfl (iQ 4 (jB .lss 3 (.int .i64 z) (.int .i64 ((((ns).length:Nat):Int))) 48 ?_)))
 intro c48 hc48
 refine iE 81 (zT [(5,Ia z),(48,Ba c48)] Z3) (zH Z1 Z2) ?_
 cases c48
 ·replace hc48:=bf hc48
  refine iF (Bm (Da (Cb (Bn rfl (Ag (Af (Aa rfl (iQ 1 (iE 81 (zT [(5,Ia z),(6,Ia 0),(48,Ba false)] Z3) (zH Z1 Z2) ?_)))))))))
  refine Am (Bz 81 (fun (vcx:Nat×Int)=>match vcx with | (i,y)=>[(2,.p 2 0),(3,.p 3 0),(4,Ba false),(5,Ia z),(6,Ia y),(43,Ba false),(48,Ba false)]) (fun (vcx:Nat×Int)=>match vcx with | (i,y)=>[(2,[Iv k,Sv (tx t),.sl ((is).length) (Ad (is)),.sl ((ns).length) (At (ns)),Bv p,Bv q]),(3,[Iv k,Sv (tx t),.sl ((is).length) (Ad (is)),.sl ((ns).length) (At (ns)),Bv p,Bv q])]) (fun (vcx:Nat×Int)=>match vcx with | (i,y)=>y=i∧i≤is.length) (fun (vcx:Nat×Int)=>match vcx with | (i,y)=>is.length-i) ((0,0)) (⟨rfl,Nat.zero_le _⟩) (by kernel_rfl) (by kernel_rfl) ?_)
  rintro ⟨i,y⟩ hinv
  simp only at hinv
  obtain ⟨g1,g2⟩:=hinv
  refine Af (Aa rfl (iQ 4 (jB .lss 3 (.int .i64 y) (.int .i64 ((((is).length:Nat):Int))) 66 ?_)))
  intro c66 hc66
  let Z4:=zT [(5,Ia z),(6,Ia y),(48,Ba false),(66,Ba c66)] []
  refine iE 81 (zT Z4 Z3) (zH Z1 Z2) ?_
  cases c66
  ·replace hc66:=bf hc66
   refine iF (Bm (Da (Cb (Bn rfl (Ag (Aa rfl (iQ 1 ?_)))))))
   let Z5:=zT [(2,.p 2 0),(3,.p 3 0),(4,Ba true),(5,Ia z),(6,Ia y),(43,Ba false),(48,Ba false),(66,Ba false)] []
   refine iE 81 Z5 (zH Z1 Z2) ?_
   refine Ab (iR (Bv true) ?_)
   rfl
  ·replace hc66:=bt hc66
   obtain ⟨⟨k',t',is',ns',p',q'⟩,hm⟩ : ∃ d,is[i]? = some d:=⟨_,List.getElem?_eq_getElem (by omega)⟩
   refine iT (Ae (Ag (Af (Am (Aa rfl (iQ 3 (Cr (q:=y) (n:=((is).length)) (cs:=(Ad (is))) (z:=6) (ds:=[.v (.int .i64 k'),.v (.string (tx t')),.sl ((is').length) (Ad (is')),.sl ((ns').length) (At (ns')),.v (.bool p'),.v (.bool q')]) (dst:=(some 72)) (by kernel_rfl) (by omega) (by rw[g1,Int.toNat_natCast];exact (Bk hm).trans (by rw[Dm.cells])) ?_)))))))
   refine iQ 4 (Cr (q:=y) (n:=((is).length)) (cs:=(Ad (is))) (z:=6) (ds:=[.v (.int .i64 k'),.v (.string (tx t')),.sl ((is').length) (Ad (is')),.sl ((ns').length) (At (ns')),.v (.bool p'),.v (.bool q')]) (dst:=(some 77)) (by kernel_rfl) (by omega) (by rw[g1,Int.toNat_natCast];exact (Bk hm).trans (by rw[Dm.cells])) ?_)
   refine iQ 1 (eC 28 [.agg [Iv k',Sv (tx t'),.sl ((is').length) (Ad (is')),.sl ((ns').length) (At (ns')),Bv p',Bv q'],.agg [Iv k',Sv (tx t'),.sl ((is').length) (Ad (is')),.sl ((ns').length) (At (ns')),Bv p',Bv q']] 79 (ih k' t' is' ns' p' q' (List.mem_of_getElem? hm)) (jU .not (.bool true) 80 ?_))
   refine Al ((by simp)) ?_
   let Z6:=zT [(5,Ia z),(6,Ia y),(48,Ba false),(66,Ba true),(80,Ba false)] []
   refine iE 81 (zT Z6 Z3) (zH Z1 Z2) ?_
   refine iF (Ae (Ar (Ag (Ap rfl (iQ 1 (jB .add 3 (.int .i64 y) (.int .i64 1) 68 ?_))))))
   intro z68 hz68
   try replace hz68:=hz68.i64 (by omega)
   refine iQ 1 ?_
   let Z7:=zT [(5,Ia z),(6,Ia z68),(48,Ba false),(66,Ba true),(80,Ba false)] []
   refine iE 81 (zT Z7 Z3) (zH Z1 Z2) ?_
   refine Br (i+1,z68) (⟨by omega,by omega⟩) (by show is.length-(i+1)<is.length-i;omega) (by kernel_rfl) (by kernel_rfl)
 ·replace hc48:=bt hc48
  obtain ⟨x,hm⟩ : ∃ d,ns[j]? = some d:=⟨_,List.getElem?_eq_getElem (by omega)⟩
  refine iT (Ae (Ag (Af (Am (Aa rfl (iQ 3 (Bl (q:=z) (n:=((ns).length)) (cs:=(At (ns))) (d:=.v (.string (tx x))) (dst:=(some 54)) (by kernel_rfl) (by omega) (by rw[h1,Int.toNat_natCast];exact Gg hm) ?_)))))))
  refine iQ 4 (Bl (q:=z) (n:=((ns).length)) (cs:=(At (ns))) (d:=.v (.string (tx x))) (dst:=(some 59)) (by kernel_rfl) (by omega) (by rw[h1,Int.toNat_natCast];exact Gg hm) ?_)
  refine iQ 1 (jB .neq 9 (.string (tx x)) (.string (tx x)) 61 ?_)
  refine Al ((by simp)) ?_
  refine iE 81 (zT [(5,Ia z),(48,Ba true),(61,Ba false)] Z3) (zH Z1 Z2) ?_
  refine iF (Ae (Ar (Ag (Ap rfl (iQ 1 (jB .add 3 (.int .i64 z) (.int .i64 1) 50 ?_))))))
  intro z50 hz50
  try replace hz50:=hz50.i64 (by omega)
  refine iQ 1 (iE 81 (zT [(5,Ia z50),(48,Ba true),(61,Ba false)] Z3) (zH Z1 Z2) ?_)
  refine Br (j+1,z50) (⟨by omega,by omega⟩) (by show ns.length-(j+1)<ns.length-j;omega) (by kernel_rfl) (by kernel_rfl)
end Go.Proofs.YtfkfpkhgoijfdaaGreatDoor
