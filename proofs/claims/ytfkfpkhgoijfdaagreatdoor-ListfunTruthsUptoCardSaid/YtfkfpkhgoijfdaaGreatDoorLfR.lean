/- value.Plain of lists; plain data and their sameness; small numbers. -/
import Derived.Test.YtfkfpkhgoijfdaaGreatDoorLfQ
import Derived.Test.YtfkfpkhgoijfdaaGreatDoorLfZ
import Derived.Test.YtfkfpkhgoijfdaaGreatDoorMkV
namespace Go.Proofs.YtfkfpkhgoijfdaaGreatDoor
open Go.RowKit
set_option linter.unusedVariables false
set_option linter.unusedSimpArgs false
set_option maxRecDepth 100000
theorem Uc {xs:List Vl} (hl:xs.length≤1073741824) (ih : ∀ x ∈ xs,PlC x):HasC Tryz.prog 66 [VV (.list xs),.v (.int .i64 10)] (fun r=>r=.tup [.agg [.v (.int .i64 10),.v (.string (tx [])),.sl (plL xs).length (Ai (plL xs)),.sl 0 [],.v (.bool false),.v (.bool false)],.v (.bool true)]):=(Xh hl ih).mono fun r hr=>by
 rw[show plV (.list xs)=.mk 10 [] (plL xs) [] false false by rw[plV],Rs,Dm.cells] at hr
 exact hr
theorem a9b {xs:List Vl} (hl:xs.length≤1073741824) (ih : ∀ x ∈ xs,PlC x):HasC Tryz.prog 46 [.agg [.bx (Vl.list xs).enc]] (fun r=>r=.tup [Rs (.mk 10 [] (plL xs) [] false false),.v (.bool true)]):=by
 refine hO [] Tryz.f46 (fun a w=>Tryz.call46 a w) Tryz.func46 rfl (⟨_,rfl⟩) ?_
 refine Aa rfl (iQ 3 ?_)
 let Z1:=zH [(2,[Iv 0,Sv (⟨#[]⟩),.sl 0 [],.sl 0 [],Bv false,Bv false])] []
 refine iE 25 [(1,.p 1 0),(2,.p 2 0),(3,Ba false)] (zH [(1,[.bx (Vl.list xs).enc])] Z1) ?_
 refine Aa rfl (iQ 1 (eC 13 [.agg [.bx (Vl.list xs).enc]] 6 (a0t (.list xs)) (iQ 1 ?_)))
 let Z2:=zT [(1,.p 1 0),(2,.p 2 0),(3,Ba false),(4,Ia 10)] []
 refine iE 25 Z2 (zH [(1,[.bx (Vl.list xs).enc])] Z1) ?_
 refine Af (Aa rfl (iQ 1 (iE 25 (zT [(7,Ia 10)] Z2) (zH [(1,[.bx (Vl.list xs).enc])] Z1) ?_)))
 refine An (Af (Aa rfl (jB .eql 23 (.int .i64 10) (.int .i64 10) 9 ?_)))
 refine Bg (rfl) ?_
 refine iQ 1 (iE 25 (zT [(7,Ia 10),(8,Ba true)] Z2) (zH [(1,[.bx (Vl.list xs).enc])] Z1) ?_)
 refine iT (Ad (Ae (iT (Aa rfl (iQ 2 (eC 66 [.agg [.bx (Vl.list xs).enc],Iv 10] 14 (Uc hl ih) (iQ 4 ?_)))))))
 let Z3:=zT [(1,.p 1 0),(2,.p 2 0),(3,Ba true),(4,Ia 10),(7,Ia 10),(8,Ba true)] []
 let Z4:=zH [(2,[Iv 10,Sv (tx []),.sl ((plL xs).length) (Ai (plL xs)),.sl 0 ([]),Bv false,Bv false])] []
 refine iE 25 Z3 (zH [(1,[.bx (Vl.list xs).enc])] Z4) ?_
 refine Ab (Aj (Ah (iS (.agg [Iv 10,Sv (tx []),.sl ((plL xs).length) (Ai (plL xs)),.sl 0 ([]),Bv false,Bv false]) (Bv true) [] ?_)))
 rfl
theorem a6a {xs:List Vl} (hl:xs.length≤1073741824) (ih : ∀ x ∈ xs,PlC x):PlC (.list xs):=by
 rw[PlC,show plV (.list xs)=.mk 10 [] (plL xs) [] false false by rw[plV]]
 exact a9b hl ih
theorem a4j {v:Vl} {k:Int} {t:L8} {is:List Dm} {ns:List L8} {p q:Bool} (h:HasC Tryz.prog 46 [VV v] (fun r=>r=.tup [.agg [.v (.int .i64 k),.v (.string (tx t)),.sl is.length (Ai is),.sl ns.length (Ax ns),.v (.bool p),.v (.bool q)],.v (.bool true)])):HasC Tryz.prog 21 [.agg [.bx (v).enc]] (fun r=>r=.agg [.v (.int .i64 k),.v (.string (tx t)),.sl is.length (Ai is),.sl ns.length (Ax ns),.v (.bool p),.v (.bool q)]):=by
 refine hO [] Tryz.f21 (fun a w=>Tryz.call21 a w) Tryz.func21 rfl (⟨_,rfl⟩) ?_
 refine Aa rfl (iQ 2 ?_)
 let Z1:=zH [(2,[Iv 0,Sv (⟨#[]⟩),.sl 0 [],.sl 0 [],Bv false,Bv false])] []
 refine iE 11 [(1,.p 1 0),(2,.p 2 0)] (zH [(1,[.bx (v).enc])] Z1) ?_
 refine Aa rfl (iQ 1 (eC 46 [.agg [.bx (v).enc]] 7 (h) (iQ 6 ?_)))
 let Z2:=zH [(3,[Iv k,Sv (tx t),.sl ((is).length) (Ai (is)),.sl ((ns).length) (Ax (ns)),Bv p,Bv q])] []
 refine iE 11 [(2,.p 2 0),(3,.p 3 0)] (zH Z2 Z1) ?_
 refine Aa rfl (iQ 2 ?_)
 let Z3:=zH [(2,[Iv k,Sv (tx t),.sl ((is).length) (Ai (is)),.sl ((ns).length) (Ax (ns)),Bv p,Bv q])] []
 refine iE 11 [(2,.p 2 0),(3,.p 3 0)] (zH Z3 Z2) ?_
 refine Ab (iR (.agg [Iv k,Sv (tx t),.sl ((is).length) (Ai (is)),.sl ((ns).length) (Ax (ns)),Bv p,Bv q]) ?_)
 rfl
theorem Ti {v:Vl} (h:PlC v):HasC Tryz.prog 21 [VV v] (fun r=>r=Rs (plV v)):=by
 rw[PlC] at h
 cases e:plV v with
 | mk k t is ns p q =>
  rw[e] at h
  simp only[Rs,Dm.cells] at h ⊢
  exact a4j h
def Dm.is:Dm→List Dm
 | .mk _ _ is _ _ _=>is
theorem a2z {v:Vl} {k:Int} {t:L8} {is:List Dm} {ns:List L8} {p q:Bool} (h:HasC Tryz.prog 21 [VV v] (fun r=>r=.agg [.v (.int .i64 k),.v (.string (tx t)),.sl is.length (Ai is),.sl ns.length (Ax ns),.v (.bool p),.v (.bool q)])):HasC Tryz.prog 15 [.agg [.bx (v).enc]] (fun r=>r=.sl is.length (Ai is)):=by
 refine hO [] Tryz.f15 (fun a w=>Tryz.call15 a w) Tryz.func15 rfl (⟨_,rfl⟩) ?_
 refine Aa rfl (iQ 2 (iE 6 [(1,.p 1 0),(2,.w (.sl 0 []) none)] [(1,[.bx (v).enc])] ?_))
 refine Aa rfl (iQ 1 (eC 21 [.agg [.bx (v).enc]] 4 (h) (iQ 2 (iE 6 [(2,.d (.sl ((is).length) (Ai (is))))] [] ?_))))
 refine Ab (iR (.sl ((is).length) (Ai (is))) ?_)
 rfl
theorem a3h {v:Vl} (h:PlC v):HasC Tryz.prog 15 [VV v] (fun r=>r=.sl (plV v).is.length (Ai (plV v).is)):=by
 have h:=Ti h
 cases e:plV v with
 | mk k t is ns p q =>
  rw[e] at h
  simp only[Rs,Dm.cells] at h
  exact a2z h
theorem a0h {v:Vl} (h:PlC v):HasC Tryz.prog 21 [VV v] (fun r => ∃ k t is ns p q,r=.agg [.v (.int .i64 k),.v (.string (tx t)),.sl is.length (Ai is),.sl ns.length (Ax ns),.v (.bool p),.v (.bool q)]∧plV v=.mk k t is ns p q):=(Ti h).mono fun r hr=>by
 cases e:plV v with
 | mk k t is ns p q =>
  rw[e,Rs,Dm.cells] at hr
  exact ⟨k,t,is,ns,p,q,hr,rfl⟩
theorem Wa {ds:List Dm} {k:Int} {t:L8} {is:List Dm} {ns:List L8} {p q:Bool} {d:Dm} (h:d=.mk k t is ns p q):Ai ds ++ [.v (.int .i64 k),.v (.string (tx t)),.sl is.length (Ai is),.sl ns.length (Ax ns),.v (.bool p),.v (.bool q)]=Ai (ds ++ [d]):=by rw[h,Gp,Dm.cells]
theorem Wf (vs:List Vl):(plL vs).length=vs.length:=by rw[Ml,List.length_map]
theorem b3c {vs:List Vl} (hl:vs.length≤1073741823) (ih : ∀ v ∈ vs,PlC v):HasC Tryz.prog 9 [.sl ((vs).length) (Aq (vs))] (fun r=>r=.sl (plL vs).length (Ai (plL vs))):=by
 refine hO [] Tryz.f9 (fun a w=>Tryz.call9 a w) Tryz.func9 rfl (⟨_,rfl⟩) ?_
 refine Aa rfl (iQ 1 ?_)
 let Z1:=zT [(0,.d (.sl ((vs).length) (Aq (vs)))),(2,.w (.sl 0 []) none)] []
 refine iE 20 Z1 [] ?_
 refine Aa rfl (iQ 1 (iE 20 (zT [(3,.w (.sl 0 []) none)] Z1) [] ?_))
 refine Af (Aa rfl (iQ 1 (iE 20 (zT [(3,.w (.sl 0 []) none),(4,Ia 0)] Z1) [] ?_)))
 refine An (Bp 20 (fun (vcx:Nat×(List Dm)×Int)=>match vcx with | (j,ds,z)=>[(0,.d (.sl ((vs).length) (Aq (vs)))),(2,.w (.sl 0 []) none),(3,.w (.sl ((ds).length) (Ai (ds))) (some ⟨3,0,27,6⟩)),(4,Ia z)]) (fun (vcx:Nat×(List Dm)×Int)=>match vcx with | (j,ds,z)=>[]) (fun (vcx:Nat×(List Dm)×Int)=>match vcx with | (j,ds,z)=>z=j∧j≤vs.length∧ds=plL (vs.take j)∧ds.length=j) (fun (vcx:Nat×(List Dm)×Int)=>match vcx with | (j,ds,z)=>vs.length-j) ((0,[],0)) (⟨rfl,Nat.zero_le _,rfl,rfl⟩) (by kernel_rfl) (by kernel_rfl) ?_)
 rintro ⟨j,ds,z⟩ hinv
 simp only at hinv
 obtain ⟨h1,h2,h3,h4⟩:=hinv
 refine Af (Aa rfl (iQ 3 (jB .lss 3 (.int .i64 z) (.int .i64 ((((vs).length:Nat):Int))) 8 ?_)))
 intro c8 hc8
 let Z2:=zT [(3,.w (.sl ((ds).length) (Ai (ds))) (some ⟨3,0,27,6⟩))] []
 refine iE 20 (zT [(4,Ia z),(8,Ba c8)] (zT Z2 Z1)) [] ?_
 cases c8
 ·replace hc8:=bf hc8
  have e:ds=plL vs:=by rw[h3,List.take_of_length_le (by omega)]
  refine iF (Bk (Cj (Bt (Bl rfl (Ae (Aa rfl (iQ 2 ?_)))))))
  let Z3:=zT [(2,.w (.sl ((ds).length) (Ai (ds))) (some ⟨3,0,27,6⟩))] []
  let Z4:=zT [(0,.d (.sl ((vs).length) (Aq (vs)))),(4,Ia z),(8,Ba false)] []
  let Z5:=zT Z4 (zT Z3 Z2)
  refine iE 20 Z5 [] ?_
  refine Ab (iR (.sl ((ds).length) (Ai (ds))) ?_)
  rw[e]
 ·replace hc8:=bt hc8
  obtain ⟨v,hm⟩ : ∃ d,vs[j]? = some d:=⟨_,List.getElem?_eq_getElem (by omega)⟩
  refine iT (Ad (Ae (Af (An (Am rfl (iQ 3 (Bj (q:=z) (n:=((vs).length)) (cs:=(Aq (vs))) (d:=.bx (v).enc) (dst:=(some 14)) (by kernel_rfl) (by omega) (by rw[h1,Int.toNat_natCast];exact Ek hm) ?_)))))))
  have hcl:=Ri ds
  refine iQ 1 (jC 21 [.agg [.bx (v).enc]] 16 (a0h (ih v (List.mem_of_getElem? hm))) ?_)
  rintro _ ⟨k,t,is,ns,p,q,rfl,hp⟩
  refine iQ 1 (Fc (n:=((ds).length)) (cs:=(Ai (ds))) (m:=1) (ds:=[.v (.int .i64 k),.v (.string (tx t)),.sl ((is).length) (Ai (is)),.sl ((ns).length) (Ax (ns)),.v (.bool p),.v (.bool q)]) (N:=((ds ++ [plV v]).length)) (es:=(Ai (ds ++ [plV v]))) (j:=3) (e:=27) (z:=6) (dst:=(some 18)) (by kernel_rfl) (by first | rfl | omega | (rw[Nat.mul_one];exact Cl _) | (simp[dg];done) | (simp[dg];omega)) (by first | rfl | omega | (rw[Nat.mul_one];exact Cl _) | (simp[dg];done) | (simp[dg];omega)) (rfl) (by omega) (by simp) (Wa hp) ?_)
  refine iQ 1 ?_
  let Z6:=zT [(3,.w (.sl ((ds ++ [plV v]).length) (Ai (ds ++ [plV v]))) (some ⟨3,0,27,6⟩))] []
  refine iE 20 (zT [(4,Ia z),(8,Ba true)] (zT Z6 Z1)) [] ?_
  refine Ao (Ae (Am rfl (iQ 1 (jB .add 3 (.int .i64 z) (.int .i64 1) 10 ?_))))
  intro z10 hz10
  try replace hz10:=hz10.i64 (by omega)
  refine iQ 1 (iE 20 (zT [(4,Ia z10),(8,Ba true)] (zT Z6 Z1)) [] ?_)
  refine Be (j+1,ds ++ [plV v],z10) (⟨by omega,by omega,by rw[Zj hm,h3],by simp;omega⟩) (by show vs.length-(j+1)<vs.length-j;omega) (by kernel_rfl) (by kernel_rfl)
def Ix (zs:List Int):List DV:=zs.map fun z=>.v (.int .i64 z)
abbrev Bb (zs:List Int):List Vl:=zs.map Bq
theorem a4i {zs:List Int} {k:Nat} {z:Int} (h:zs[k]? = some z):(Ix zs)[k]? = some (.v (.int .i64 z)):=by rw[Ix,List.getElem?_map,h];rfl
theorem Tv {zs:List Int} {j:Nat} {x:Int} (h:zs[j]? = some x):Bb (zs.take (j+1))=Bb (zs.take j) ++ [Bq x]:=by rw[Bb,Bb,List.take_add_one,h];simp
theorem a48 {zs:List Int} {j:Nat} (h:j≤zs.length):(Bb (zs.take j)).length=j:=by rw[Bb,List.length_map,List.length_take];omega
theorem Ku {zs:List Int} (hl:zs.length≤1073741823) (hz : ∀ z ∈ zs, -9223372036854775808≤z∧z≤9223372036854775807):HasC Tryz.prog 36 [.sl ((zs).length) (Ix (zs))] (fun r=>r=.sl (Bb zs).length (Aq (Bb zs))):=by
 refine hO [] Tryz.f36 (fun a w=>Tryz.call36 a w) Tryz.func36 rfl (⟨_,rfl⟩) ?_
 refine Aa rfl (iQ 1 ?_)
 let Z1:=zT [(0,.d (.sl ((zs).length) (Ix (zs)))),(2,.w (.sl 0 []) none)] []
 refine iE 19 Z1 [] ?_
 refine Aa rfl (iQ 1 (iE 19 (zT [(3,.w (.sl 0 []) none)] Z1) [] ?_))
 refine Af (Aa rfl (iQ 3 ?_))
 let Z2:=zT [(2,.w (.sl 0 []) none),(3,.w (.sl 0 []) none),(6,.d (.sl ((zs).length) (Ix (zs)))),(7,Ia ((((zs).length:Nat):Int))),(8,Ia 0)] []
 refine iE 19 Z2 [] ?_
 refine An (Bp 19 (fun (vcx:Nat×Int)=>match vcx with | (j,c)=>[(2,.w (.sl 0 []) none),(3,.w (.sl ((Bb (zs.take j)).length) (Aq (Bb (zs.take j)))) (some ⟨3,0,36,1⟩)),(6,.d (.sl ((zs).length) (Ix (zs)))),(7,Ia ((((zs).length:Nat):Int))),(8,Ia c)]) (fun (vcx:Nat×Int)=>match vcx with | (j,c)=>[]) (fun (vcx:Nat×Int)=>match vcx with | (j,c)=>c=j∧j≤zs.length) (fun (vcx:Nat×Int)=>match vcx with | (j,c)=>zs.length-j) ((0,0)) (⟨rfl,Nat.zero_le _⟩) (by kernel_rfl) (by kernel_rfl) ?_)
 rintro ⟨j,c⟩ hinv
 simp only at hinv
 obtain ⟨h1,h2⟩:=hinv
 refine Aa rfl (jB .lss 3 (.int .i64 c) (.int .i64 ((((zs).length:Nat):Int))) 9 ?_)
 intro c9 hc9
 let Z3:=zT [(3,.w (.sl ((Bb (zs.take j)).length) (Aq (Bb (zs.take j)))) (some ⟨3,0,36,1⟩))] []
 let Z4:=zT [(2,.w (.sl 0 []) none),(6,.d (.sl ((zs).length) (Ix (zs)))),(7,Ia ((((zs).length:Nat):Int))),(8,Ia c),(9,Ba c9)] []
 refine iE 19 (zT Z4 Z3) [] ?_
 refine Af ?_
 cases c9
 ·replace hc9:=bf hc9
  have e:zs.take j=zs:=List.take_of_length_le (by omega)
  refine iF (Bk (Cj (Bt (Bl rfl (Ae (Aa rfl (iQ 2 ?_)))))))
  let Z5:=zT [(2,.w (.sl ((Bb (zs.take j)).length) (Aq (Bb (zs.take j)))) (some ⟨3,0,36,1⟩))] []
  let Z6:=zT [(6,.d (.sl ((zs).length) (Ix (zs)))),(7,Ia ((((zs).length:Nat):Int))),(8,Ia c),(9,Ba false)] []
  let Z7:=zT Z6 (zT Z5 Z3)
  refine iE 19 Z7 [] ?_
  refine Ab (iR (.sl ((Bb (zs.take j)).length) (Aq (Bb (zs.take j)))) ?_)
  rw[e]
 ·replace hc9:=bt hc9
  obtain ⟨x,hm⟩ : ∃ d,zs[j]? = some d:=⟨_,List.getElem?_eq_getElem (by omega)⟩
  have hx:=hz x (List.mem_of_getElem? hm)
  refine iT (Ad (Ae (Af (An (Aa rfl (Bj (q:=c) (n:=((zs).length)) (cs:=(Ix (zs))) (d:=.v (.int .i64 x)) (dst:=(some 10)) (by kernel_rfl) (by omega) (by rw[h1,Int.toNat_natCast];exact a4i hm) ?_))))))
  refine iQ 2 ?_
  let Z8:=zT [(2,.w (.sl 0 []) none),(5,Ia x),(6,.d (.sl ((zs).length) (Ix (zs)))),(7,Ia ((((zs).length:Nat):Int))),(8,Ia c),(9,Ba true)] []
  refine iE 19 (zT Z8 Z3) [] ?_
  refine Am rfl (iQ 2 (eC 32 [Iv x] 14 (Nr hx.1 hx.2) (iQ 1 (Fc (n:=((Bb (zs.take j)).length)) (cs:=(Aq (Bb (zs.take j)))) (m:=1) (ds:=[.bx (Bq x).enc]) (N:=((Bb (zs.take (j+1))).length)) (es:=(Aq (Bb (zs.take (j+1))))) (j:=3) (e:=36) (z:=1) (dst:=(some 16)) (by kernel_rfl) (by first | rfl | omega | (rw[Nat.mul_one];exact Cl _) | (simp[dg];done) | (simp[dg];omega)) (by first | rfl | omega | (rw[Nat.mul_one];exact Cl _) | (simp[dg];done) | (simp[dg];omega)) (rfl) (by rw[a48 h2];omega) (by rw[Tv hm];simp) (by rw[Tv hm];exact Jh) ?_))))
  refine iQ 1 ?_
  let Z9:=zT [(3,.w (.sl ((Bb (zs.take (j+1))).length) (Aq (Bb (zs.take (j+1))))) (some ⟨3,0,36,1⟩))] []
  refine iE 19 (zT Z9 Z8) [] ?_
  refine Ao (Ae (Am rfl (jB .add 3 (.int .i64 c) (.int .i64 1) 17 ?_)))
  intro z17 hz17
  try replace hz17:=hz17.i64 (by omega)
  refine iQ 1 ?_
  let Z10:=zT [(2,.w (.sl 0 []) none),(5,Ia x),(6,.d (.sl ((zs).length) (Ix (zs)))),(7,Ia ((((zs).length:Nat):Int))),(8,Ia z17),(9,Ba true)] []
  refine iE 19 (zT Z10 Z9) [] ?_
  refine Be (j+1,z17) (⟨by omega,by omega⟩) (by show zs.length-(j+1)<zs.length-j;omega) (by kernel_rfl) (by kernel_rfl)
theorem a4y {n:Nat} (hh:hiW n=0) (hl:loW n=(n:Int)) (h:n<9223372036854775808):HasC Tryz.prog 63 [.agg [.v (.bool false),.v (.int .u64 (hiW (n))),.v (.int .u64 (loW (n))),.v (.int .i64 0)]] (fun y=>y=.tup [.v (.int .i64 (n:Int)),.v (.bool true)]):=by
 refine hO [] Tryz.f63 (fun a w=>Tryz.call63 a w) Tryz.func63 rfl (⟨_,rfl⟩) ?_
 refine Aa rfl (iQ 3 (iE 98 [(1,.p 1 0),(2,Ia 0),(3,Ba false)] [(1,[Bv false,Hw n,Lw n,Iv 0])] ?_))
 refine Aa rfl (iQ 3 ?_)
 let Z1:=zT [(1,.p 1 0),(2,Ia 0),(3,Ba false),(4,.p 4 0)] []
 let Z2:=zH [(1,[Bv false,Hw n,Lw n,Iv 0]),(4,[Bv false,Hw n,Lw n,Iv 0])] []
 refine iE 98 Z1 Z2 ?_
 refine Af (An (Bp 98 (fun (vcx:Nat)=>match vcx with | j=>[(1,.p 1 0),(2,Ia 0),(3,Ba false),(4,.p 4 0)]) (fun (vcx:Nat)=>match vcx with | j=>[(1,[Bv false,Hw n,Lw n,Iv 0]),(4,[Bv false,Hw n,Lw n,Iv 0])]) (fun (vcx:Nat)=>match vcx with | j=>j=0) (fun (vcx:Nat)=>match vcx with | j=>0) 0 (rfl) (by kernel_rfl) (by kernel_rfl) ?_))
 rintro j hinv
 simp only at hinv
 refine Af (Aa rfl (iQ 2 (jB .lss 3 (.int .i64 0) (.int .i64 0) 14 ?_)))
 refine Al ((by decide)) ?_
 refine iQ 5 (iE 98 (zT [(19,Ba false)] Z1) Z2 ?_)
 refine iF (Bk (Cj (Bt (Bl rfl (Ae (Af (An (Bp 98 (fun (vcx:Nat)=>match vcx with | i=>[(1,.p 1 0),(2,Ia 0),(3,Ba false),(4,.p 4 0),(19,Ba false)]) (fun (vcx:Nat)=>match vcx with | i=>[(1,[Bv false,Hw n,Lw n,Iv 0]),(4,[Bv false,Hw n,Lw n,Iv 0])]) (fun (vcx:Nat)=>match vcx with | i=>i=0) (fun (vcx:Nat)=>match vcx with | i=>0) 0 (rfl) (by kernel_rfl) (by kernel_rfl) ?_))))))))
 rintro i hinv
 simp only at hinv
 refine Af (Aa rfl (iQ 2 (jB .gtr 3 (.int .i64 0) (.int .i64 0) 39 ?_)))
 refine Al ((by decide)) ?_
 refine iQ 5 (iE 98 (zT [(19,Ba false),(44,Ba false)] Z1) Z2 ?_)
 refine iF (Bk (Cj (Bt (Bl rfl (Ae (Af (An (Aa rfl (iQ 3 (jB .neq 85 (.int .u64 (hiW (n))) (.int .u64 0) 68 ?_))))))))))
 refine Al ((by rw[hh];decide)) ?_
 refine iQ 4 (jB .gtr 85 (.int .u64 (loW (n))) (.int .u64 9223372036854775808) 73 ?_)
 refine Al ((by rw[hl];omega)) ?_
 refine iQ 5 (jB .eql 85 (.int .u64 (loW (n))) (.int .u64 9223372036854775808) 79 ?_)
 refine Al ((by rw[hl];omega)) ?_
 refine iQ 7 ?_
 let Z3:=zT [(19,Ba false),(44,Ba false),(64,Ba false)] []
 refine iE 98 (zT Z3 Z1) Z2 ?_
 refine iF (Aa rfl (iQ 3 (iE 98 (zT [(86,Ba false)] (zT Z1 Z3)) Z2 ?_)))
 refine iF (Ad (Ao (Ae (Aa rfl (iQ 3 (jV 85 3 (.int .u64 (loW (n))) 97 ?_))))))
 intro z97 hz97
 try replace hz97:=hz97.i64 (by omega)
 refine iQ 2 ?_
 let Z4:=zT [(1,.p 1 0),(2,Ia z97),(3,Ba true),(4,.p 4 0),(86,Ba false)] []
 refine iE 98 (zT Z4 Z3) Z2 ?_
 refine Ab (iS (Iv z97) (Bv true) [] ?_)
 rw[hz97,hl]
theorem a5q {n:Nat} (hh:hiW n=0) (hl:loW n=(n:Int)) (h:n<9223372036854775808):HasC Tryz.prog 38 [.agg [.ifc 102 (.agg [.v (.bool false),.v (.int .u64 (hiW (n))),.v (.int .u64 (loW (n))),.v (.int .i64 0)])]] (fun r=>r=.tup [.v (.int .i64 (n:Int)),.v (.bool true)]):=by
 refine hO [] Tryz.f38 (fun a w=>Tryz.call38 a w) Tryz.func38 rfl (⟨_,rfl⟩) ?_
 refine Aa rfl (iQ 3 ?_)
 let Z1:=zH [(1,[.ifc 102 (.agg [Bv false,Hw n,Lw n,Iv 0])])] []
 refine iE 18 [(1,.p 1 0),(2,Ia 0),(3,Ba false)] Z1 ?_
 refine Aa rfl (iQ 9 ?_)
 let Z2:=zT [(2,Ia 0),(3,Ba false),(4,.p 4 0),(5,Ba true)] []
 refine iE 18 Z2 [(4,[Bv false,Hw n,Lw n,Iv 0])] ?_
 refine Af (Aa rfl (iQ 1 (jU .not (.bool true) 13 ?_)))
 refine Al ((by simp)) ?_
 let Z3:=zT [(2,Ia 0),(3,Ba false),(4,.p 4 0),(13,Ba false)] []
 refine iE 18 Z3 [(4,[Bv false,Hw n,Lw n,Iv 0])] ?_
 refine iF (Ad (Ae (Aa rfl (iQ 1 (eC 63 [.agg [Bv false,Hw n,Lw n,Iv 0]] 15 (a4y hh hl h) (iQ 4 ?_))))))
 let Z4:=zT [(2,Ia ((n:Int))),(3,Ba true),(4,.p 4 0),(13,Ba false)] []
 refine iE 18 Z4 [(4,[Bv false,Hw n,Lw n,Iv 0])] ?_
 refine Ab (iS (Iv ((n:Int))) (Bv true) [] ?_)
 rfl
theorem Yo:HasC Tryz.prog 38 [VV (Bq 2)] (fun r=>r=.tup [.v (.int .i64 2),.v (.bool true)]) :=
 HasC.ub (a5q (n:=2) (by decide) (by decide) (by decide))
theorem b51 {l:L8} {ns:List L8} {vs:List Vl} (h:vs.length≤1073741824) (h':ns.length=vs.length):HasC Tryz.prog 37 [.agg [.bx (Vl.ctx ns vs).enc],.v (.string (tx l))] (fun r=>r=VV (Om l ns vs)):=by
 refine hO [] Tryz.f37 (fun a w=>Tryz.call37 a w) Tryz.func37 rfl (⟨_,rfl⟩) ?_
 refine Aa rfl (iQ 2 ?_)
 let Z1:=zT [(1,.d (Sv (tx l))),(2,.p 2 0),(4,.p 4 0)] []
 let Z2:=zH [(2,[.bx (Vl.ctx ns vs).enc]),(4,[.v (.nilIface)])] []
 refine iE 14 Z1 Z2 ?_
 refine Aa rfl (iQ 2 (jC 62 [.agg [.bx (Vl.ctx ns vs).enc],Sv (tx l)] 10 (a44 (v:=.ctx ns vs) (n:=l) rfl h h') ?_))
 rintro _ ⟨f,rfl,hf⟩
 refine iQ 6 ?_
 let Z3:=zH [(4,[.v (.nilIface)]),(5,[.bx (Om l ns vs).enc])] []
 refine iE 14 [(4,.p 4 0),(5,.p 5 0)] Z3 ?_
 refine Aa rfl (iQ 2 ?_)
 let Z4:=zH [(4,[.bx (Om l ns vs).enc]),(5,[.bx (Om l ns vs).enc])] []
 refine iE 14 [(4,.p 4 0),(5,.p 5 0)] Z4 ?_
 refine Ab (iR (.agg [.bx (Om l ns vs).enc]) ?_)
 rfl
mutual
def Dm.lenD:Dm→Prop
 | .mk _ _ is ns _ _=>is.length≤1073741824∧ns.length≤1073741824∧Gv is
def Gv:List Dm→Prop
 | []=>True
 | d::ds=>d.lenD∧Gv ds
end
theorem Pn : ∀ {ds:List Dm},Gv ds ↔ ∀ d ∈ ds,d.lenD
 | []=>by simp[Gv]
 | d::ds=>by rw[Gv,Pn];simp
mutual
theorem Vx : ∀ (v:Vl),v.ok→(plV v).lenD
 | .list vs,h=>by rw[Vl.ok] at h;rw[plV,Dm.lenD,Wf];exact ⟨h.1,by simp,Lc vs h.2⟩
 | .ctx ns vs,h=>by rw[Vl.ok] at h;rw[plV,Dm.lenD,Wf];exact ⟨h.2.2.1,by omega,Lc vs h.2.2.2⟩
 | .rng lo hi p q,h=>by rw[Vl.ok] at h;rw[plV,Dm.lenD,Gv,Gv,Gv];exact ⟨by simp,by simp,Vx lo h.1,Vx hi h.2.1,trivial⟩
 | .null,_=>by simp[plV,Dm.lenD,Gv]
 | .bool _,_=>by simp[plV,Dm.lenD,Gv]
 | .num _ _ _,_=>by simp[plV,Dm.lenD,Gv]
 | .text _,_=>by simp[plV,Dm.lenD,Gv]
 | .day _ _ _,_=>by simp[plV,Dm.lenD,Gv]
 | .time _ _ _,_=>by simp[plV,Dm.lenD,Gv]
 | .mom _ _ _ _ _ _,_=>by simp[plV,Dm.lenD,Gv]
 | .days _,_=>by simp[plV,Dm.lenD,Gv]
 | .months _,_=>by simp[plV,Dm.lenD,Gv]
theorem Lc : ∀ (vs:List Vl),okL vs→Gv (plL vs)
 | [],_=>by simp[plL,Gv]
 | v::r,h=>by rw[okL] at h;rw[plL,Gv];exact ⟨Vx v h.1,Lc r h.2⟩
end
theorem a7s {k:Int} {t:L8} {is:List Dm} {ns:List L8} {p q:Bool} (hs:(Dm.mk k t is ns p q).lenD) (ih : ∀ (k:Int) (t:L8) (is':List Dm) (ns:List L8) (p q:Bool),Dm.mk k t is' ns p q ∈ is→HasC Tryz.prog 28 [a0c k t is' ns p q,a0c k t is' ns p q] (fun y=>y=.v (.bool true))):HasC Tryz.prog 28 [.agg [.v (.int .i64 k),.v (.string (tx t)),.sl ((is).length) (Ai (is)),.sl ((ns).length) (Ax (ns)),.v (.bool p),.v (.bool q)],.agg [.v (.int .i64 k),.v (.string (tx t)),.sl ((is).length) (Ai (is)),.sl ((ns).length) (Ax (ns)),.v (.bool p),.v (.bool q)]] (fun y=>y=.v (.bool true)):=by
 refine hO [] Tryz.f28 (fun a w=>Tryz.call28 a w) Tryz.func28 rfl (⟨_,rfl⟩) ?_
 rw[Dm.lenD] at hs
 obtain ⟨hs1,hs2,hs3⟩:=hs
 refine Aa rfl (iQ 3 ?_)
 let Z1:=zH [(2,[Iv k,Sv (tx t),.sl ((is).length) (Ai (is)),.sl ((ns).length) (Ax (ns)),Bv p,Bv q])] []
 let Z2:=zH [(3,[Iv k,Sv (tx t),.sl ((is).length) (Ai (is)),.sl ((ns).length) (Ax (ns)),Bv p,Bv q])] []
 refine iE 81 [(2,.p 2 0),(3,.p 3 0),(4,Ba false)] (zH Z2 Z1) ?_
 refine Af (Aa rfl (iQ 4 (jB .neq 23 (.int .i64 k) (.int .i64 k) 11 ?_)))
 refine Al ((by simp)) ?_
 refine iQ 5 (jB .neq 9 (.string (tx t)) (.string (tx t)) 17 ?_)
 refine Al ((by simp)) ?_
 refine iQ 8 (jB .neq 3 (.int .i64 ((((is).length:Nat):Int))) (.int .i64 ((((is).length:Nat):Int))) 26 ?_)
 refine Al ((by simp)) ?_
 refine iQ 8 (jB .neq 3 (.int .i64 ((((ns).length:Nat):Int))) (.int .i64 ((((ns).length:Nat):Int))) 35 ?_)
 refine Al ((by simp)) ?_
 refine iQ 6 (jB .neq 25 (.agg #[.bool p,.bool q]) (.agg #[.bool p,.bool q]) 42 ?_)
 refine Al ((by simp)) ?_
 refine iQ 1 ?_
 let Z3:=zT [(2,.p 2 0),(3,.p 3 0),(4,Ba false),(43,Ba false)] []
 refine iE 81 Z3 (zH Z1 Z2) ?_
 refine iF (Ad (Ae (Af (Aa rfl (iQ 1 (iE 81 (zT [(5,Ia 0)] Z3) (zH Z1 Z2) ?_))))))
 refine An (Bp 81 (fun (vcx:Nat×Int)=>match vcx with | (j,z)=>[(2,.p 2 0),(3,.p 3 0),(4,Ba false),(5,Ia z),(43,Ba false)]) (fun (vcx:Nat×Int)=>match vcx with | (j,z)=>[(2,[Iv k,Sv (tx t),.sl ((is).length) (Ai (is)),.sl ((ns).length) (Ax (ns)),Bv p,Bv q]),(3,[Iv k,Sv (tx t),.sl ((is).length) (Ai (is)),.sl ((ns).length) (Ax (ns)),Bv p,Bv q])]) (fun (vcx:Nat×Int)=>match vcx with | (j,z)=>z=j∧j≤ns.length) (fun (vcx:Nat×Int)=>match vcx with | (j,z)=>ns.length-j) ((0,0)) (⟨rfl,Nat.zero_le _⟩) (by kernel_rfl) (by kernel_rfl) ?_)
 rintro ⟨j,z⟩ hinv
 simp only at hinv
 obtain ⟨h1,h2⟩:=hinv
 refine Af (Aa rfl (iQ 4 (jB .lss 3 (.int .i64 z) (.int .i64 ((((ns).length:Nat):Int))) 48 ?_)))
 intro c48 hc48
 refine iE 81 (zT [(5,Ia z),(48,Ba c48)] Z3) (zH Z1 Z2) ?_
 cases c48
 ·replace hc48:=bf hc48
  refine iF (Bk (Cj (Bt (Bl rfl (Ae (Af (Aa rfl (iQ 1 (iE 81 (zT [(5,Ia z),(6,Ia 0),(48,Ba false)] Z3) (zH Z1 Z2) ?_)))))))))
  refine An (Bp 81 (fun (vcx:Nat×Int)=>match vcx with | (i,y)=>[(2,.p 2 0),(3,.p 3 0),(4,Ba false),(5,Ia z),(6,Ia y),(43,Ba false),(48,Ba false)]) (fun (vcx:Nat×Int)=>match vcx with | (i,y)=>[(2,[Iv k,Sv (tx t),.sl ((is).length) (Ai (is)),.sl ((ns).length) (Ax (ns)),Bv p,Bv q]),(3,[Iv k,Sv (tx t),.sl ((is).length) (Ai (is)),.sl ((ns).length) (Ax (ns)),Bv p,Bv q])]) (fun (vcx:Nat×Int)=>match vcx with | (i,y)=>y=i∧i≤is.length) (fun (vcx:Nat×Int)=>match vcx with | (i,y)=>is.length-i) ((0,0)) (⟨rfl,Nat.zero_le _⟩) (by kernel_rfl) (by kernel_rfl) ?_)
  rintro ⟨i,y⟩ hinv
  simp only at hinv
  obtain ⟨g1,g2⟩:=hinv
  refine Af (Aa rfl (iQ 4 (jB .lss 3 (.int .i64 y) (.int .i64 ((((is).length:Nat):Int))) 66 ?_)))
  intro c66 hc66
  let Z4:=zT [(5,Ia z),(6,Ia y),(48,Ba false),(66,Ba c66)] []
  refine iE 81 (zT Z4 Z3) (zH Z1 Z2) ?_
  cases c66
  ·replace hc66:=bf hc66
   refine iF (Bk (Cj (Bt (Bl rfl (Ae (Aa rfl (iQ 1 ?_)))))))
   let Z5:=zT [(2,.p 2 0),(3,.p 3 0),(4,Ba true),(5,Ia z),(6,Ia y),(43,Ba false),(48,Ba false),(66,Ba false)] []
   refine iE 81 Z5 (zH Z1 Z2) ?_
   refine Ab (iR (Bv true) ?_)
   rfl
  ·replace hc66:=bt hc66
   obtain ⟨⟨k',t',is',ns',p',q'⟩,hm⟩ : ∃ d,is[i]? = some d:=⟨_,List.getElem?_eq_getElem (by omega)⟩
   refine iT (Ad (Ae (Af (An (Aa rfl (iQ 3 (Gl (q:=y) (n:=((is).length)) (cs:=(Ai (is))) (z:=6) (ds:=[.v (.int .i64 k'),.v (.string (tx t')),.sl ((is').length) (Ai (is')),.sl ((ns').length) (Ax (ns')),.v (.bool p'),.v (.bool q')]) (dst:=(some 72)) (by kernel_rfl) (by omega) (by rw[g1,Int.toNat_natCast];exact (Du hm).trans (by rw[Dm.cells])) ?_)))))))
   refine iQ 4 (Gl (q:=y) (n:=((is).length)) (cs:=(Ai (is))) (z:=6) (ds:=[.v (.int .i64 k'),.v (.string (tx t')),.sl ((is').length) (Ai (is')),.sl ((ns').length) (Ax (ns')),.v (.bool p'),.v (.bool q')]) (dst:=(some 77)) (by kernel_rfl) (by omega) (by rw[g1,Int.toNat_natCast];exact (Du hm).trans (by rw[Dm.cells])) ?_)
   refine iQ 1 (eC 28 [.agg [Iv k',Sv (tx t'),.sl ((is').length) (Ai (is')),.sl ((ns').length) (Ax (ns')),Bv p',Bv q'],.agg [Iv k',Sv (tx t'),.sl ((is').length) (Ai (is')),.sl ((ns').length) (Ax (ns')),Bv p',Bv q']] 79 (ih k' t' is' ns' p' q' (List.mem_of_getElem? hm)) (jU .not (.bool true) 80 ?_))
   refine Al ((by simp)) ?_
   let Z6:=zT [(5,Ia z),(6,Ia y),(48,Ba false),(66,Ba true),(80,Ba false)] []
   refine iE 81 (zT Z6 Z3) (zH Z1 Z2) ?_
   refine iF (Ad (Ao (Ae (Am rfl (iQ 1 (jB .add 3 (.int .i64 y) (.int .i64 1) 68 ?_))))))
   intro z68 hz68
   try replace hz68:=hz68.i64 (by omega)
   refine iQ 1 ?_
   let Z7:=zT [(5,Ia z),(6,Ia z68),(48,Ba false),(66,Ba true),(80,Ba false)] []
   refine iE 81 (zT Z7 Z3) (zH Z1 Z2) ?_
   refine Be (i+1,z68) (⟨by omega,by omega⟩) (by show is.length-(i+1)<is.length-i;omega) (by kernel_rfl) (by kernel_rfl)
 ·replace hc48:=bt hc48
  obtain ⟨x,hm⟩ : ∃ d,ns[j]? = some d:=⟨_,List.getElem?_eq_getElem (by omega)⟩
  refine iT (Ad (Ae (Af (An (Aa rfl (iQ 3 (Bj (q:=z) (n:=((ns).length)) (cs:=(Ax (ns))) (d:=.v (.string (tx x))) (dst:=(some 54)) (by kernel_rfl) (by omega) (by rw[h1,Int.toNat_natCast];exact Fx hm) ?_)))))))
  refine iQ 4 (Bj (q:=z) (n:=((ns).length)) (cs:=(Ax (ns))) (d:=.v (.string (tx x))) (dst:=(some 59)) (by kernel_rfl) (by omega) (by rw[h1,Int.toNat_natCast];exact Fx hm) ?_)
  refine iQ 1 (jB .neq 9 (.string (tx x)) (.string (tx x)) 61 ?_)
  refine Al ((by simp)) ?_
  refine iE 81 (zT [(5,Ia z),(48,Ba true),(61,Ba false)] Z3) (zH Z1 Z2) ?_
  refine iF (Ad (Ao (Ae (Am rfl (iQ 1 (jB .add 3 (.int .i64 z) (.int .i64 1) 50 ?_))))))
  intro z50 hz50
  try replace hz50:=hz50.i64 (by omega)
  refine iQ 1 (iE 81 (zT [(5,Ia z50),(48,Ba true),(61,Ba false)] Z3) (zH Z1 Z2) ?_)
  refine Be (j+1,z50) (⟨by omega,by omega⟩) (by show ns.length-(j+1)<ns.length-j;omega) (by kernel_rfl) (by kernel_rfl)
end Go.Proofs.YtfkfpkhgoijfdaaGreatDoor
