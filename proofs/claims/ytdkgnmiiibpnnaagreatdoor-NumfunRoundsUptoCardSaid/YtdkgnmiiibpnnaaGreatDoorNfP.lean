/- numfun: the numbers of some values. numfun.Arith of two numbers. numfun.Median, Mode of numbers. -/
import Derived.Test.YtdkgnmiiibpnnaaGreatDoorVlY
import Derived.Test.YtdkgnmiiibpnnaaGreatDoorVcK
import Derived.Test.YtdkgnmiiibpnnaaGreatDoorSrtZ
namespace Go.Proofs.YtdkgnmiiibpnnaaGreatDoor
open Go.RowKit
set_option linter.unusedVariables false
set_option linter.unusedSimpArgs false
set_option maxRecDepth 100000
def Rg (x:D3):List DV:=[.v (.bool x.g),.v (.int .u64 (hiW x.n)),.v (.int .u64 (loW x.n)),.v (.int .i64 x.e)]
def Cn (ds:List D3):List DV:=ds.flatMap Rg
def D3.vl (x:D3):Vl:=.num x.g x.n x.e
def At (ds:List D3):List Vl:=ds.map D3.vl
@[simp] theorem Mt (ds:List D3):(At ds).length=ds.length:=by simp[At]
@[simp] theorem b0f : ∀ ds:List D3,(Cn ds).length=ds.length*4
 | []=>rfl
 | x::ds=>by
  have:=b0f ds
  simp only[Cn,List.flatMap_cons,List.length_append,List.length_cons] at this ⊢
  rw[this]
  simp only[Rg,List.length_cons,List.length_nil]
  omega
theorem a9l (a b:List D3):Cn a ++ Cn b=Cn (a ++ b):=by simp[Cn]
theorem b1w (x:D3):Cn [x]=Rg x:=by simp[Cn]
theorem Eh : ∀ {ds:List D3} {k:Nat} {x:D3},ds[k]? = some x→((Cn ds).drop (k*4)).take 4=Rg x
 | [],k,x,h=>by simp at h
 | y::ds,0,x,h=>by
  have:y=x:=by simpa using h
  subst this
  simp[Cn,Rg]
 | y::ds,k+1,x,h=>by
  have e:(k+1)*4=4+k*4:=by omega
  have:Cn (y::ds)=Rg y ++ Cn ds:=by simp[Cn]
  rw[e,this,← List.drop_drop,List.drop_left' (by rfl)]
  exact Eh (by simpa using h)
theorem Tc {ds:List D3} {k:Nat} {x:D3} (h:ds[k]? = some x):(At ds)[k]? = some (.num x.g x.n x.e):=by simp[At,h,D3.vl]
theorem a63 {α:Type} {ds:List α} {k:Nat} {x:α} (h:ds[k]? = some x):ds.take k ++ [x]=ds.take (k+1):=by
 rw[List.take_add_one,h];rfl
theorem Ur {ds:List D3} (h:ds.length≤1000000):HasO Tryz.prog 81 [.sl ((At ds).length) (Av (At ds))] (ds.length) (fun r=>r=.tup [.sl ds.length (Cn ds),.v (.bool (decide (0<ds.length)))]):=by
 refine HasO.of [] (k:=2) (n:=ds.length) (fn:=Tryz.f81) a9t mixed (fun args w=>Tryz.call81 args w) Tryz.func81 rfl (by kernel_rfl) (Nat.le_of_ble_eq_true rfl) (⟨_,rfl⟩) (.inr ⟨_,rfl⟩) (fun y hy=>⟨_,.inr ⟨_,hy⟩⟩) ?_
 refine Aa rfl (iQ 2 ?_)
 let Z1:=zT [(0,.d (.sl ((At ds).length) (Av (At ds))))] []
 refine iE 31 (zT [(2,.w (.sl 0 []) none),(3,Ba false)] Z1) [] ?_
 refine Aa rfl (iQ 1 ?_)
 let Z2:=zT [(2,.w (.sl 0 []) none),(3,Ba false),(4,.w (.sl 0 []) none)] []
 refine iE 31 (zT Z2 Z1) [] ?_
 refine Ae (Aa rfl (iQ 3 ?_))
 let Z3:=zT [(9,.d (.sl ((At ds).length) (Av (At ds))))] []
 let Z4:=zT [(10,Ia ((((At ds).length:Nat):Int))),(11,Ia 0)] []
 let Z5:=zT Z4 (zT Z3 Z2)
 refine iE 31 Z5 [] ?_
 refine Ak (Bq 31 (fun (vcx:Nat×Int)=>match vcx with | (k,z)=>[(2,.w (.sl 0 []) none),(3,Ba false),(4,.w (.sl ((ds.take k).length) (Cn (ds.take k))) (some ⟨4,0,34,4⟩)),(9,.d (.sl ((At ds).length) (Av (At ds)))),(10,Ia ((((At ds).length:Nat):Int))),(11,Ia z)]) (fun (vcx:Nat×Int)=>match vcx with | (k,z)=>[]) (fun (vcx:Nat×Int)=>match vcx with | (k,z)=>z=k∧k≤ds.length) (fun (vcx:Nat×Int)=>match vcx with | (k,z)=>ds.length-k) ((0,0)) (⟨rfl,Nat.zero_le _⟩) (by kernel_rfl) (by kernel_rfl) ?_)
 rintro ⟨k,z⟩ hinv
 simp only at hinv
 obtain ⟨h1,h2⟩:=hinv
 have hl:=Mt ds
 have ht:(ds.take k).length=k:=by simp;omega
 refine Aa rfl (jB .lss 3 (.int .i64 z) (.int .i64 ((((At ds).length:Nat):Int))) 12 ?_)
 intro c12 hc12
 let Z6:=zT [(4,.w (.sl ((ds.take k).length) (Cn (ds.take k))) (some ⟨4,0,34,4⟩))] []
 let Z7:=zT [(2,.w (.sl 0 []) none),(3,Ba false),(10,Ia ((((At ds).length:Nat):Int))),(11,Ia z),(12,Ba c12)] []
 let Z8:=zT Z7 (zT Z6 Z3)
 refine iE 31 Z8 [] ?_
 refine Ae ?_
 cases c12
 ·replace hc12:=bf hc12
  have hk:k=ds.length:=by omega
  refine iF (Be (Ce (Bj (Bd rfl (Af (Aa rfl (iQ 3 (jB .gtr 3 (.int .i64 ((((ds.take k).length:Nat):Int))) (.int .i64 0) 30 ?_))))))))
  intro c30 hc30
  refine iQ 2 ?_
  let Z9:=zT [(2,.w (.sl ((ds.take k).length) (Cn (ds.take k))) (some ⟨4,0,34,4⟩))] []
  let Z10:=zT [(3,Ba c30),(10,Ia ((((At ds).length:Nat):Int))),(11,Ia z),(12,Ba false)] []
  let Z11:=zT Z10 (zT Z9 (zT Z6 Z3))
  refine iE 31 Z11 [] ?_
  refine Ab (iSO (.sl ((ds.take k).length) (Cn (ds.take k))) (Bv c30) [] ?_)
  have e:ds.take k=ds:=by rw[hk,List.take_length]
  have e2:c30=decide (0<ds.length):=by rw[Bool.eq_iff_iff,hc30];simp;omega
  rw[e2,e]
 ·replace hc12:=bt hc12
  have hk:k<ds.length:=by omega
  obtain ⟨x,hx⟩ : ∃ x,ds[k]? = some x:=⟨_,List.getElem?_eq_getElem hk⟩
  refine iT (Ad (Af (Ae (Ak (Aa rfl (Bi (q:=z) (n:=((At ds).length)) (cs:=(Av (At ds))) (d:=.bx (Vl.num x.g x.n x.e).enc) (dst:=(some 13)) (by kernel_rfl) (by omega) (by rw[h1,Int.toNat_natCast];exact Ou (Tc hx)) ?_))))))
  refine iQ 3 ?_
  let Z12:=zT [(2,.w (.sl 0 []) none),(3,Ba false),(6,.p 6 0),(10,Ia ((((At ds).length:Nat):Int))),(11,Ia z),(12,Ba true)] []
  let Z13:=zT Z12 (zT Z6 Z3)
  refine iE 31 Z13 [(6,[.bx (Vl.num x.g x.n x.e).enc])] ?_
  refine Aa rfl (iQ 1 (eC 67 [.agg [.bx (Vl.num x.g x.n x.e).enc]] 17 (Dv) (iQ 6 ?_)))
  let Z14:=zH [(6,[.bx (Vl.num x.g x.n x.e).enc]),(7,[Bv x.g,Hw x.n,Lw x.n,Iv x.e])] []
  refine iE 31 (zT [(7,.p 7 0),(8,Ba true)] Z13) Z14 ?_
  refine Ae (Aa rfl (iQ 1 (jU .not (.bool true) 21 ?_)))
  refine An ((by simp)) ?_
  refine iE 31 (zT [(7,.p 7 0),(8,Ba true),(21,Ba false)] Z13) Z14 ?_
  refine iF (Ad (Af (Am rfl (iQ 3 (Fo (n:=((ds.take k).length)) (cs:=(Cn (ds.take k))) (m:=1) (ds:=[.v (.bool x.g),.v (.int .u64 (hiW (x.n))),.v (.int .u64 (loW (x.n))),.v (.int .i64 x.e)]) (N:=((ds.take (k+1)).length)) (es:=(Cn (ds.take (k+1)))) (j:=4) (e:=34) (z:=4) (dst:=(some 25)) (by kernel_rfl) (by first | rfl | omega | (rw[Nat.mul_one];exact Cr _) | (simp[dg];done) | (simp[dg];omega)) (by first | rfl | omega | (rw[Nat.mul_one];exact Cr _) | (simp[dg];done) | (simp[dg];omega)) (rfl) (by omega) (by simp;omega) (by show Cn (ds.take k) ++ Rg x=_;rw[← b1w,a9l,a63 hx]) ?_)))))
  refine iQ 1 ?_
  let Z15:=zT [(4,.w (.sl ((ds.take (k+1)).length) (Cn (ds.take (k+1)))) (some ⟨4,0,34,4⟩))] []
  let Z16:=zT [(7,.p 7 0),(8,Ba true),(21,Ba false)] (zT Z15 (zT Z12 Z3))
  refine iE 31 Z16 Z14 ?_
  refine Ap (Af (Am rfl (jB .add 3 (.int .i64 z) (.int .i64 1) 26 ?_)))
  intro z26 hz26
  try replace hz26:=hz26.i64 (by omega)
  refine iQ 1 ?_
  let Z17:=zT [(2,.w (.sl 0 []) none),(3,Ba false),(6,.p 6 0),(7,.p 7 0),(8,Ba true),(10,Ia ((((At ds).length:Nat):Int))),(11,Ia z26),(12,Ba true),(21,Ba false)] []
  let Z18:=zT Z17 (zT Z15 Z3)
  refine iE 31 Z18 Z14 ?_
  refine Bm (k+1,z26) (⟨by omega,by omega⟩) (by simp only;omega) (by kernel_rfl) (by kernel_rfl)
open Go.RowKit
set_option linter.unusedVariables false
set_option linter.unusedSimpArgs false
set_option maxRecDepth 100000
theorem D3.lt (x:D3):x.n<E34:=x.2.1
theorem D3.ltB (x:D3):x.n<B128:=Nat.lt_trans x.2.1 Br
theorem D3.lo (x:D3) : -6176≤x.e:=x.2.2.1
theorem D3.hi (x:D3):x.e≤6111:=x.2.2.2.1
theorem Tm {g:Bool} {n:Nat} {e:Int} (h:May g n e):Jc g n e=.num g n e:=by rw[Jc,if_pos h]
open Classical in
noncomputable def Cf (t:T4):Option D3:=if h:t.2.2.2=true∧May t.1 t.2.1 t.2.2.1 then some ⟨(t.1,t.2.1,t.2.2.1),h.2⟩ else none
def Dz:Option D3→Vl
 | some d=>d.vl
 | none=>.null
theorem Dw {g:Bool} {k:Nat} {x:Int} (h:May g k x):Cf (g,k,x,true)=some ⟨(g,k,x),h⟩:=by rw[Cf,dif_pos ⟨rfl,h⟩]
theorem Eq {g:Bool} {k:Nat} {x:Int}:Cf (g,k,x,false)=none:=by rw[Cf,dif_neg (by simp)]
theorem a1c {x y:D3}:HasC Tryz.prog 49 [.agg [.bx (Vl.num (x).g (x).n (x).e).enc],.agg [.bx (Vl.num (y).g (y).n (y).e).enc]] (fun r=>r=.tup [Bk x.g x.n x.e,Bk y.g y.n y.e,.v (.bool true)]):=by
 refine hO [3] Tryz.f49 (fun a w=>Tryz.call49 a w) Tryz.func49 rfl (⟨_,rfl⟩) ?_
 refine Aa rfl (iQ 5 ?_)
 let Z1:=zT [(2,.p 2 0),(3,.p 3 0),(4,.p 4 0),(5,.p 5 0),(6,Ba false)] []
 let Z2:=zH [(2,[.bx (Vl.num (x).g (x).n (x).e).enc]),(3,[.bx (Vl.num (y).g (y).n (y).e).enc]),(4,[Bv false,Uv 0,Uv 0,Iv 0]),(5,[Bv false,Uv 0,Uv 0,Iv 0])] []
 refine iE 27 Z1 Z2 ?_
 refine Aa rfl (iQ 1 (eC 67 [.agg [.bx (Vl.num (x).g (x).n (x).e).enc]] 13 (Dv) (iQ 6 ?_)))
 let Z3:=zT [(3,.p 3 0),(4,.p 4 0),(5,.p 5 0),(6,Ba false),(7,.p 7 0),(8,Ba true)] []
 let Z4:=zH [(7,[Bv ((x).g),Hw ((x).n),Lw ((x).n),Iv ((x).e)])] []
 let Z5:=zH [(3,[.bx (Vl.num (y).g (y).n (y).e).enc]),(4,[Bv false,Uv 0,Uv 0,Iv 0]),(5,[Bv false,Uv 0,Uv 0,Iv 0])] []
 refine iE 27 Z3 (zH Z5 Z4) ?_
 refine Aa rfl (iQ 1 (eC 67 [.agg [.bx (Vl.num (y).g (y).n (y).e).enc]] 18 (Dv) (iQ 6 ?_)))
 let Z6:=zT [(4,.p 4 0),(5,.p 5 0),(6,Ba false),(7,.p 7 0),(8,Ba true),(9,.p 9 0),(10,Ba true)] []
 let Z7:=zH [(9,[Bv ((y).g),Hw ((y).n),Lw ((y).n),Iv ((y).e)])] []
 let Z8:=zH [(4,[Bv false,Uv 0,Uv 0,Iv 0]),(5,[Bv false,Uv 0,Uv 0,Iv 0])] []
 let Z9:=zH Z8 (zH Z7 Z4)
 refine iE 27 Z6 Z9 ?_
 refine Rw rfl (by kernel_rfl) ?_
 refine iQ 9 ?_
 let Z10:=zT [(4,.p 4 0),(5,.p 5 0),(6,Ba true),(7,.p 7 0),(9,.p 9 0)] []
 let Z11:=zH [(4,[Bv ((x).g),Hw ((x).n),Lw ((x).n),Iv ((x).e)])] []
 let Z12:=zH [(5,[Bv ((y).g),Hw ((y).n),Lw ((y).n),Iv ((y).e)])] []
 let Z13:=zH Z12 (zH Z11 (zH Z4 Z7))
 refine iE 27 Z10 Z13 ?_
 refine Ab (iS (.agg [Bv ((x).g),Hw ((x).n),Lw ((x).n),Iv ((x).e)]) (.agg [Bv ((y).g),Hw ((y).n),Lw ((y).n),Iv ((y).e)]) [Bv true] ?_)
 rfl
theorem a70 {g:Bool} {k:Nat} {e:Int} {ok:Bool} (h:ok=true→May g k e):HasC Tryz.prog 50 [.agg [.v (.bool g),.v (.int .u64 (hiW (k))),.v (.int .u64 (loW (k))),.v (.int .i64 e)],.v (.bool ok)] (fun r => ∃ x v o,r=.tup [x,.v (.bool o)]∧IsV x v∧v=Dz (Cf (g,k,e,ok))∧o=(Cf (g,k,e,ok)).isSome):=by
 refine hO [] Tryz.f50 (fun a w=>Tryz.call50 a w) Tryz.func50 rfl (⟨_,_,_,_,rfl,.inl rfl,rfl,rfl⟩) ?_
 refine Aa rfl (iQ 3 ?_)
 let Z1:=zT [(1,Ba ok),(2,.p 2 0),(4,.p 4 0),(5,Ba false)] []
 let Z2:=zH [(2,[Bv g,Hw k,Lw k,Iv e]),(4,[.v (.nilIface)])] []
 refine iE 11 Z1 Z2 ?_
 refine Ae (Aa rfl (iQ 1 (jU .not (.bool ok) 7 ?_)))
 intro c7 hc7
 let Z3:=zT [(2,.p 2 0),(4,.p 4 0),(5,Ba false),(7,Ba c7)] []
 refine iE 11 Z3 Z2 ?_
 cases c7
 ·replace hc7:=bf hc7
  have hk:ok=true:=by simpa using hc7
  have hm:=h hk
  refine iF (Ad (Af (Aa rfl (iQ 1 (eC 8 [.agg [Bv g,Hw k,Lw k,Iv e]] 10 (Sk (Nat.lt_trans hm.1 Br)) (iQ 2 (iE 11 [(4,.p 4 0),(5,Ba true),(7,Ba false)] [(4,[.bx (Jc g k e).enc])] ?_)))))))
  refine Ab (iS (.agg [.bx (Jc g k e).enc]) (Bv true) [] ?_)
  exact ⟨_,_,_,rfl,.inl rfl,by rw[hk,Dw hm,Tm hm];rfl,by rw[hk,Dw hm];rfl⟩
 ·replace hc7:=bt hc7
  have hk:ok=false:=by simpa using hc7
  refine iT (Aa rfl (iQ 3 ?_))
  let Z4:=zT [(2,.p 2 0),(4,.p 4 0),(5,Ba false),(7,Ba true)] []
  refine iE 11 Z4 Z2 ?_
  refine Ab (Ag (iS (.agg [.v (.nilIface)]) (Bv false) [] ?_))
  exact ⟨_,.null,_,rfl,IsV.null,by rw[hk,Eq];rfl,by rw[hk,Eq];rfl⟩
theorem a2y {g:Bool} {k:Nat} {e:Int} {ok:Bool} (h:ok=true→May g k e):HasC Tryz.prog 50 [Bk g k e,.v (.bool ok)] (fun r => ∃ v o,r=.tup [VV v,.v (.bool o)]∧v=Dz (Cf (g,k,e,ok))∧o=(Cf (g,k,e,ok)).isSome):=(a70 h).isVb (q:=fun v o=>v=Dz (Cf (g,k,e,ok))∧o=(Cf (g,k,e,ok)).isSome)
noncomputable def Jm (x y:D3):T4:=Gm x.g x.n x.e y.g y.n y.e
noncomputable def Je (x y:D3):T4:=Gy (x.g != y.g) x.n y.n (x.e-y.e)
theorem a02 {m:Int} {s:Bool} {N:Nat} {e:Int} {more:Bool} {g:Bool} {k:Nat} {x:Int} {ok:Bool} (ht:Fg m s N e more=(g,k,x,ok)):k<E34 ∧ -6176≤x∧x≤6111∧(k=0→g=false) :=
 Ma (Yr (Rb (by unfold Dp;omega))) ht
theorem Ln {g:Bool} {k:Nat} {x:Int} (h:k<E34 ∧ -6176≤x∧x≤6111∧(k=0→g=false)):May g k x:=⟨h.1,h.2.1,h.2.2.1,fun hg hk=>by rw[h.2.2.2 hk] at hg;cases hg⟩
theorem b4f {x y:D3} {g:Bool} {k:Nat} {e:Int} {ok:Bool} (h:Jm x y=(g,k,e,ok)):May g k e:=Ln (a02 h)
theorem a3l {x y:D3} {g:Bool} {k:Nat} {e:Int} {ok:Bool} (h:Je x y=(g,k,e,ok)):May g k e:=by
 unfold Je Gy at h
 split at h
 ·cases h
  exact ⟨by decide,by decide,by decide,fun h=>by cases h⟩
 ·unfold a06 at h
  split at h
  ·exact Ln (El h)
  ·exact Ln (El h)
def b0y (o:Option D3):DV:=.tup [VV (Dz o),.v (.bool o.isSome)]
theorem Xm {P:Program} {f:FuncId} {ds:List DV} {o:Option D3} (h:HasC P f ds (fun y => ∃ x v ok,y=.tup [x,.v (.bool ok)]∧IsV x v∧v=Dz o∧ok=o.isSome)):HasC P f ds (fun y=>y=b0y o) :=
 (h.isVb (q:=fun v ok=>v=Dz o∧ok=o.isSome)).mono fun y ⟨v,ok,h1,h2,h3⟩=>by rw[h1,h2,h3];rfl
theorem Wb {g:Bool} {n:Nat} {e:Int} (hn:n<B128) (h:n≠0):HasC Tryz.prog 16 [Bk g n e] (fun y=>y=.v (.bool false)):=(Du hn).mono fun y ⟨b,h1,h2⟩=>by
 cases b with
 | true=>exact absurd (h2.1 rfl) h
 | false=>exact h1
theorem c0l {x y:D3}:HasC Tryz.prog 9 [.v (.string (⟨#[43]⟩)),.agg [.bx (Vl.num (x).g (x).n (x).e).enc],.agg [.bx (Vl.num (y).g (y).n (y).e).enc]] (fun r => ∃ z v o,r=.tup [z,.v (.bool o)]∧IsV z v∧v=Dz (Cf (Jm x y))∧o=(Cf (Jm x y)).isSome):=by
 refine hO [] Tryz.f9 (fun a w=>Tryz.call9 a w) Tryz.func9 rfl (⟨_,_,_,_,rfl,.inl rfl,rfl,rfl⟩) ?_
 refine Aa rfl (iQ 4 ?_)
 let Z1:=zT [(0,.d (Sv (⟨#[43]⟩))),(4,.p 4 0),(5,.p 5 0),(6,.p 6 0),(7,Ba false)] []
 let Z2:=zH [(4,[.bx (Vl.num (x).g (x).n (x).e).enc]),(5,[.bx (Vl.num (y).g (y).n (y).e).enc]),(6,[.v (.nilIface)])] []
 refine iE 73 Z1 Z2 ?_
 refine Aa rfl (iQ 2 (eC 49 [.agg [.bx (Vl.num (x).g (x).n (x).e).enc],.agg [.bx (Vl.num (y).g (y).n (y).e).enc]] 14 (a1c) (iQ 9 ?_)))
 let Z3:=zT [(0,.d (Sv (⟨#[43]⟩))),(6,.p 6 0),(7,Ba false),(8,.p 8 0),(9,.p 9 0),(10,Ba true)] []
 let Z4:=zH [(8,[Bv ((x).g),Hw ((x).n),Lw ((x).n),Iv ((x).e)])] []
 let Z5:=zH [(9,[Bv ((y).g),Hw ((y).n),Lw ((y).n),Iv ((y).e)])] []
 refine iE 73 Z3 (zH [(6,[.v (.nilIface)])] (zH Z5 Z4)) ?_
 refine Ae (Aa rfl (iQ 1 (jU .not (.bool true) 19 ?_)))
 refine An ((by simp)) ?_
 let Z6:=zT [(0,.d (Sv (⟨#[43]⟩))),(6,.p 6 0),(7,Ba false),(8,.p 8 0),(9,.p 9 0),(19,Ba false)] []
 refine iE 73 Z6 (zH [(6,[.v (.nilIface)])] (zH Z4 Z5)) ?_
 refine iF (Ad (Af (Ae (Aa rfl (iQ 1 ?_)))))
 let Z7:=zT [(6,.p 6 0),(7,Ba false),(8,.p 8 0),(9,.p 9 0),(19,Ba false),(21,.d (Sv (⟨#[43]⟩)))] []
 refine iE 73 Z7 (zH [(6,[.v (.nilIface)])] (zH Z4 Z5)) ?_
 refine Ak (Aa rfl (jB .eql 9 (.string (⟨#[43]⟩)) (.string (⟨#[43]⟩)) 23 ?_))
 refine Bn ((by decide)) ?_
 have b1:=x.lo;have b2:=x.hi;have b3:=y.lo;have b4:=y.hi
 refine iQ 1 (iE 73 (zT [(22,Ba true)] Z7) (zH [(6,[.v (.nilIface)])] (zH Z4 Z5)) ?_)
 refine iT (Aa rfl (iQ 2 (jC 11 [.agg [Bv ((x).g),Hw ((x).n),Lw ((x).n),Iv ((x).e)],.agg [Bv ((y).g),Hw ((y).n),Lw ((y).n),Iv ((y).e)]] 26 (Fd (Zg x.lt y.lt (by omega) (by omega) (by omega) (by omega))) ?_)))
 rintro _ ⟨g,k,e,ok,rfl,hT⟩
 refine iQ 2 (jC 50 [.agg [Bv g,Hw k,Lw k,Iv e],Bv ok] 29 (a2y (fun _ ↦ b4f (x:=x) (y:=y) hT)) ?_)
 rintro _ ⟨v,o,rfl,hv,ho⟩
 refine iQ 4 ?_
 let Z8:=zT [(6,.p 6 0),(7,Ba o),(8,.p 8 0),(9,.p 9 0),(19,Ba false),(21,.d (Sv (⟨#[43]⟩))),(22,Ba true)] []
 let Z9:=zH [(8,[Bv ((x).g),Hw ((x).n),Lw ((x).n),Iv ((x).e)])] []
 let Z10:=zH [(9,[Bv ((y).g),Hw ((y).n),Lw ((y).n),Iv ((y).e)])] []
 refine iE 73 Z8 (zH [(6,[.bx (v).enc])] (zH Z10 Z9)) ?_
 refine Ab (Ai (Ag (iS (.agg [.bx (v).enc]) (Bv o) [] ?_)))
 exact ⟨_,_,_,rfl,.inl rfl,by rw[hv,Jm,hT],by rw[ho,Jm,hT]⟩
theorem b7w {x y:D3}:HasC Tryz.prog 9 [.v (.string ⟨#[43]⟩),VV x.vl,VV y.vl] (fun r=>r=b0y (Cf (Jm x y))):=Xm c0l
theorem b85 {x y:D3} (hy:y.n≠0):HasC Tryz.prog 9 [.v (.string (⟨#[47]⟩)),.agg [.bx (Vl.num (x).g (x).n (x).e).enc],.agg [.bx (Vl.num (y).g (y).n (y).e).enc]] (fun r => ∃ z v o,r=.tup [z,.v (.bool o)]∧IsV z v∧v=Dz (Cf (Je x y))∧o=(Cf (Je x y)).isSome):=by
 refine hO [] Tryz.f9 (fun a w=>Tryz.call9 a w) Tryz.func9 rfl (⟨_,_,_,_,rfl,.inl rfl,rfl,rfl⟩) ?_
 refine Aa rfl (iQ 4 ?_)
 let Z1:=zT [(0,.d (Sv (⟨#[47]⟩))),(4,.p 4 0),(5,.p 5 0),(6,.p 6 0),(7,Ba false)] []
 let Z2:=zH [(4,[.bx (Vl.num (x).g (x).n (x).e).enc]),(5,[.bx (Vl.num (y).g (y).n (y).e).enc]),(6,[.v (.nilIface)])] []
 refine iE 73 Z1 Z2 ?_
 refine Aa rfl (iQ 2 (eC 49 [.agg [.bx (Vl.num (x).g (x).n (x).e).enc],.agg [.bx (Vl.num (y).g (y).n (y).e).enc]] 14 (a1c) (iQ 9 ?_)))
 let Z3:=zT [(0,.d (Sv (⟨#[47]⟩))),(6,.p 6 0),(7,Ba false),(8,.p 8 0),(9,.p 9 0),(10,Ba true)] []
 let Z4:=zH [(8,[Bv ((x).g),Hw ((x).n),Lw ((x).n),Iv ((x).e)])] []
 let Z5:=zH [(9,[Bv ((y).g),Hw ((y).n),Lw ((y).n),Iv ((y).e)])] []
 refine iE 73 Z3 (zH [(6,[.v (.nilIface)])] (zH Z5 Z4)) ?_
 refine Ae (Aa rfl (iQ 1 (jU .not (.bool true) 19 ?_)))
 refine An ((by simp)) ?_
 let Z6:=zT [(0,.d (Sv (⟨#[47]⟩))),(6,.p 6 0),(7,Ba false),(8,.p 8 0),(9,.p 9 0),(19,Ba false)] []
 refine iE 73 Z6 (zH [(6,[.v (.nilIface)])] (zH Z4 Z5)) ?_
 refine iF (Ad (Af (Ae (Aa rfl (iQ 1 ?_)))))
 let Z7:=zT [(6,.p 6 0),(7,Ba false),(8,.p 8 0),(9,.p 9 0),(19,Ba false),(21,.d (Sv (⟨#[47]⟩)))] []
 refine iE 73 Z7 (zH [(6,[.v (.nilIface)])] (zH Z4 Z5)) ?_
 refine Ak (Aa rfl (jB .eql 9 (.string (⟨#[47]⟩)) (.string (⟨#[43]⟩)) 23 ?_))
 refine An ((by decide)) ?_
 refine iQ 1 (iE 73 (zT [(22,Ba false)] Z7) (zH [(6,[.v (.nilIface)])] (zH Z4 Z5)) ?_)
 refine iF (Aa rfl (jB .eql 9 (.string (⟨#[47]⟩)) (.string (⟨#[45]⟩)) 33 ?_))
 refine An ((by decide)) ?_
 refine iQ 1 (iE 73 (zT [(22,Ba false),(32,Ba false)] Z7) (zH [(6,[.v (.nilIface)])] (zH Z4 Z5)) ?_)
 refine iF (Aa rfl (jB .eql 9 (.string (⟨#[47]⟩)) (.string (⟨#[42]⟩)) 43 ?_))
 refine An ((by decide)) ?_
 refine iQ 1 ?_
 let Z8:=zT [(22,Ba false),(32,Ba false),(42,Ba false)] []
 refine iE 73 (zT Z8 Z7) (zH [(6,[.v (.nilIface)])] (zH Z4 Z5)) ?_
 refine iF (Aa rfl (jB .eql 9 (.string (⟨#[47]⟩)) (.string (⟨#[47]⟩)) 53 ?_))
 refine Bn ((by decide)) ?_
 refine iQ 1 (iE 73 (zT [(52,Ba true)] (zT Z7 Z8)) (zH [(6,[.v (.nilIface)])] (zH Z4 Z5)) ?_)
 refine iT (Ae (Aa rfl (iQ 1 (eC 16 [.agg [Bv ((y).g),Hw ((y).n),Lw ((y).n),Iv ((y).e)]] 55 (Wb y.ltB hy) ?_))))
 have b1:=x.lo;have b2:=x.hi;have b3:=y.lo;have b4:=y.hi
 refine iE 73 (zT [(52,Ba true),(55,Ba false)] (zT Z7 Z8)) (zH [(6,[.v (.nilIface)])] (zH Z4 Z5)) ?_
 refine iF (Ad (Af (Aa rfl (iQ 2 (jC 15 [.agg [Bv ((x).g),Hw ((x).n),Lw ((x).n),Iv ((x).e)],.agg [Bv ((y).g),Hw ((y).n),Lw ((y).n),Iv ((y).e)]] 59 (b3v x.lt y.lt (by omega) (by omega) (by omega) (by omega)) ?_)))))
 rintro _ ⟨g,k,e,ok,rfl,hT⟩
 refine iQ 2 (jC 50 [.agg [Bv g,Hw k,Lw k,Iv e],Bv ok] 62 (a2y (fun _ ↦ a3l (x:=x) (y:=y) hT)) ?_)
 rintro _ ⟨v,o,rfl,hv,ho⟩
 refine iQ 4 ?_
 let Z9:=zT [(6,.p 6 0),(7,Ba o),(8,.p 8 0),(9,.p 9 0),(19,Ba false),(21,.d (Sv (⟨#[47]⟩))),(52,Ba true),(55,Ba false)] []
 let Z10:=zH [(8,[Bv ((x).g),Hw ((x).n),Lw ((x).n),Iv ((x).e)])] []
 let Z11:=zH [(9,[Bv ((y).g),Hw ((y).n),Lw ((y).n),Iv ((y).e)])] []
 refine iE 73 (zT Z9 Z8) (zH [(6,[.bx (v).enc])] (zH Z11 Z10)) ?_
 refine Ab (Ai (Ag (iS (.agg [.bx (v).enc]) (Bv o) [] ?_)))
 exact ⟨_,_,_,rfl,.inl rfl,by rw[hv,Je,hT],by rw[ho,Je,hT]⟩
theorem b8i {x y:D3} (hy:y.n≠0):HasC Tryz.prog 9 [.v (.string ⟨#[47]⟩),VV x.vl,VV y.vl] (fun r=>r=b0y (Cf (Je x y))):=Xm (b85 hy)
theorem a4b {P:Program} {f:FuncId} {ds:List DV} {o:Option D3} (h:HasC P f ds (fun y=>y=b0y o)):HasC P f ds (fun y => ∃ v ok,y=.tup [VV v,.v (.bool ok)]∧v=Dz o∧ok=o.isSome):=h.mono fun y hy=>⟨_,_,hy,rfl,rfl⟩
theorem Xo {o:Option D3} {v:Vl} {ok:Bool} (h1:v=Dz o) (h2:ok=o.isSome) (h:ok=true) : ∃ d,o=some d∧v=d.vl:=by
 cases o with
 | none=>rw[h2] at h;cases h
 | some d=>exact ⟨d,rfl,h1⟩
theorem a2l {o:Option D3} {v:Vl} {ok:Bool} (h1:v=Dz o) (h2:ok=o.isSome) (h:ok=false):o=none∧v=.null:=by
 cases o with
 | none=>exact ⟨rfl,h1⟩
 | some d=>rw[h2] at h;cases h
theorem Fc (x:D3):HasC Tryz.prog 8 [Bk x.g x.n x.e] (fun r=>r=VV (.num x.g x.n x.e)):=(Sk x.ltB).mono fun r hr=>by rw[hr,Tm x.2]
theorem a4l {v w:Vl} {x y:D3} (hv:v=x.vl) (hw:w=y.vl):HasC Tryz.prog 9 [.v (.string ⟨#[43]⟩),VV v,VV w] (fun y' => ∃ v ok,y'=.tup [VV v,.v (.bool ok)]∧v=Dz (Cf (Jm x y))∧ok=(Cf (Jm x y)).isSome):=by subst hv hw;exact a4b b7w
theorem a36 {v w:Vl} {x y:D3} (hv:v=x.vl) (hw:w=y.vl) (hy:y.n≠0):HasC Tryz.prog 9 [.v (.string ⟨#[47]⟩),VV v,VV w] (fun y' => ∃ v ok,y'=.tup [VV v,.v (.bool ok)]∧v=Dz (Cf (Je x y))∧ok=(Cf (Je x y)).isSome):=by subst hv hw;exact a4b (b8i hy)
theorem b5h {v:Vl} {x:D3} (hv:v=x.vl):HasC Tryz.prog 17 [VV v] (fun y=>y=.v (.bool false)):=by subst hv;exact Gw _
def a9b (x:Int) (h0 : -9223372036854775808≤x) (h1:x≤9223372036854775807):D3:=⟨(decide (x<0),x.natAbs,0),Xj h0 h1⟩
open Go.RowKit Go.Sort
set_option linter.unusedVariables false
set_option linter.unusedSimpArgs false
set_option maxRecDepth 100000
def Bl (ds:List D3):List D3:=(insertionSort ltQ ds.toArray 0 ds.length).toList
def D3.val (x:D3):Int:=V x.g x.n x.e (-6176)
theorem a30 (x y:D3):cfD x y=Dd x.val y.val:=a9s x.lo y.lo
theorem Mk {x y:D3}:ltQ x y=true↔x.val<y.val:=by unfold ltQ;rw[decide_eq_true_iff,a30,b20]
theorem Wt {x y:D3}:ltQ x y=false↔y.val≤x.val:=by
 cases h:ltQ x y with
 | true=>have:=Mk.1 h;simp;omega
 | false =>
  have : ¬ x.val<y.val:=fun k=>by rw[Mk.2 k] at h;cases h
  simp;omega
theorem b3e:SWO ltQ:=⟨fun x=>Wt.2 (Int.le_refl _),fun x y z h k=>Mk.2 (Int.lt_trans (Mk.1 h) (Mk.1 k)),fun x y z h k=>Wt.2 (Int.le_trans (Wt.1 k) (Wt.1 h))⟩
theorem b1j (ds:List D3):PermIn 0 ds.length ds.toArray (insertionSort ltQ ds.toArray 0 ds.length)∧SortedIn ltQ 0 ds.length (insertionSort ltQ ds.toArray 0 ds.length):=insertionSort_holds b3e ds.toArray 0 ds.length (Nat.zero_le _) (by simp)
theorem Mj (ds:List D3):(Bl ds).length=ds.length:=by
 have:=(b1j ds).1.1
 simpa [Bl] using this
theorem Wc : ∀ {ds:List D3} {j:Nat},j<ds.length*4→(Cn ds)[j]? = some (.v ((Mc ds.toArray[j / 4]!)[j % 4]!))
 | [],j,h=>by simp at h
 | x::ds,j,h=>by
  have e:Cn (x::ds)=Rg x ++ Cn ds:=by simp[Cn]
  by_cases hj:j<4
  ·rw[e,List.getElem?_append_left (by simp[Rg];exact hj)]
   match j,hj with
   | 0,_=>rfl
   | 1,_=>rfl
   | 2,_=>rfl
   | 3,_=>rfl
  ·rw[e,List.getElem?_append_right (by simp[Rg];omega)]
   have hlt:j-4<ds.length*4:=by simp at h;omega
   have:=Wc (ds:=ds) (j:=j-4) hlt
   have e1:j / 4=(j-4) / 4+1:=by omega
   have e2:j % 4=(j-4) % 4:=by omega
   have e3:(Rg x).length=4:=rfl
   have hd:(j-4) / 4<ds.length:=by omega
   rw[e3,this,e1,e2]
   simp
theorem c0k {W w:World} {Im:Nat→Nat→Prop} {b cap e:Nat} {cur:Array Value} {ds:List D3} (hb:Below W.heap.size W w) (hle:W.heap.size≤b) (hc:w.heap[b]? = some (.cells cur e (0,0)))
  (hr:DV.rel Im w (.sl ds.length (Cn ds)) (.slice (some ⟨b,0,none⟩) ds.length cap)) (h0:ds≠[]):SW W b ds.toArray w:=by
 refine ⟨hb,fun j hj => ?_,hle,lt_of_block hc⟩
 have hj':j<ds.length*4:=by simpa using hj
 rw[DV.rel] at hr
 rcases hr with ⟨A,h,h2,_⟩ | ⟨g,o,cap',h,_,_,hC⟩
 ·exact absurd (List.length_eq_zero_iff.1 h2) h0
 ·cases h
  obtain ⟨_,u,hu,hru⟩:=DV.relC_get hC (Wc hj')
  rw[DV.rel] at hru
  subst hru
  refine ⟨?_,?_⟩
  ·rw[hu,get_flatK _ _ _ _ (by simpa using hj)];rfl
  ·simp[World.frozen?,hc]
theorem b0l {W w:World} {Im:Nat→Nat→Prop} {b b2 cap:Nat} {d:Array D3} (h:SW W b d w) (hcap:d.size≤cap) (hm:cap≤maxLen):DV.rel (a2h Im b2 b).Im w (.sl d.toList.length (Cn d.toList)) (.slice (some ⟨b,0,none⟩) d.size cap):=by
 rw[DV.rel]
 refine .inr ⟨b,0,cap,by simp,by simpa using hcap,hm,DV.relC_mk fun i x hx=>⟨.inr rfl,?_⟩⟩
 have hi:i<d.toList.length*4:=by
  have:=(List.getElem?_eq_some_iff.1 hx).1
  simpa using this
 have hi':i<d.size*4:=by simpa using hi
 rw[Wc hi] at hx
 cases hx
 obtain ⟨h1,_⟩:=h.row i (by simpa using hi')
 rw[get_flatK _ _ _ _ hi'] at h1
 exact ⟨_,h1,by rw[DV.rel];simp⟩
theorem Lc {ds:List D3} (h0:ds≠[]) (hl:ds.length<20) {W:World} {Im:Nat→Nat→Prop} {y:Value} (hKw:Kw W) (hIm : ∀ g o,Im g o→g<W.heap.size) (hr:DV.rel Im W (.sl (At ds).length (Av (At ds))) y) :
  Calls Tryz.prog 81 #[y] W fun e w' => ∃ b cap,e=.returned (.tuple #[.slice (some ⟨b,0,none⟩) ds.length cap,.bool true])∧ds.length≤cap∧cap≤maxLen∧W.heap.size≤b∧SW W b ds.toArray w':=by
 have h0':0<ds.length:=List.length_pos_iff.2 h0
 refine ((Ur (ds:=ds) (by omega)).2.2 W #[y] Im hKw hIm ?_).mono ?_
 ·rw[DV.relL]
  exact ⟨y,[],rfl,hr,by rw[DV.relL]⟩
 ·rintro e w' ⟨r,y',rfl,rfl,h3,h4,h5⟩
  obtain ⟨b,m,cap,cur,e',h6,h7,h8⟩:=h5 h0'
  rw[DV.rel] at h3
  obtain ⟨vs,hvs,h9⟩:=h3
  rw[DV.relL] at h9
  obtain ⟨u,us,e1,k1,k2⟩:=h9
  rw[DV.relL] at k2
  obtain ⟨u2,us2,e2,k3,k4⟩:=k2
  rw[DV.relL] at k4
  subst k4 e2
  have evs:vs=#[u,u2]:=Array.ext' e1
  rw[DV.rel] at k3
  subst k3
  have hu:u=.slice (some ⟨b,0,none⟩) m cap:=by
   rcases h6 with h6 | ⟨x,h6⟩
   ·rw[hvs] at h6;cases h6
   ·rw[hvs,evs] at h6
    simp at h6
    exact h6.1
  subst hu
  have hk1:=k1
  rw[DV.rel] at hk1
  rcases hk1 with ⟨A,h,h2,_⟩ | ⟨g,o,cap',h,hc1,hc2,_⟩
  ·omega
  ·cases h
   refine ⟨b,cap,by rw[hvs,evs,decide_eq_true h0'],hc1,hc2,h7,?_⟩
   exact c0k h4 h7 h8 k1 h0
theorem Ri {W:World} {o:Obj} {b k:Nat} (h:b<W.heap.size):(W.alloc o).cell? ⟨b,k,none⟩=W.cell? ⟨b,k,none⟩:=Et (Below.heap_alloc W o b h)
theorem Ii (W:World) (o:Obj):(W.alloc o).heap.size=W.heap.size+1:=by simp
theorem Vc (W:World) (o:Obj):(W.alloc o).heap[W.heap.size]? = some o:=by show (W.heap.push o)[W.heap.size]? = _;simp
theorem Ck (W:World) (o:Obj):Below W.heap.size W (W.alloc o):=Below.alloc (Below.refl _ _) (Nat.le_refl _) o
end Go.Proofs.YtdkgnmiiibpnnaaGreatDoor
