/- numfun's Round, Abs, Modulo, Root, Even and Odd. -/
import Derived.Test.YtdkgnmiiibpnnaaGreatDoorNgZ
import Derived.Test.YtdkgnmiiibpnnaaGreatDoorRndA
namespace Go.Proofs.YtdkgnmiiibpnnaaGreatDoor
open Go.RowKit
set_option linter.unusedVariables false
set_option linter.unusedSimpArgs false
set_option maxRecDepth 100000
theorem D3.sg (x:D3):x.n=0→x.g=false:=fun h=>by
 cases hg:x.g with
 | false=>rfl
 | true=>exact absurd h (x.2.2.2.2 hg)
theorem Sb {P:Program} {f:FuncId} {ds:List DV} (h:HasC P f ds (fun y => ∃ v,IsV y v∧v=.null)):HasC P f ds (fun y=>y=VV .null) :=
 (HasC.isV (q:=fun v=>v=.null) h).mono fun y ⟨v,h1,h2⟩=>by rw[h1,h2]
theorem Ze {g:Bool} {n:Nat} {e:Int}:HasC Tryz.prog 69 [.agg [.ifc 80 (.agg [.v (.bool g),.v (.int .u64 (hiW (n))),.v (.int .u64 (loW (n))),.v (.int .i64 e)])]] (fun r=>r=.tup [.v (.int .i64 0),.v (.bool false)]):=by
 refine hO [] Tryz.f69 (fun a w=>Tryz.call69 a w) Tryz.func69 rfl (⟨_,rfl⟩) ?_
 refine Aa rfl (iQ 3 ?_)
 let Z1:=zH [(1,[.ifc 80 (.agg [Bv g,Hw n,Lw n,Iv e])])] []
 refine iE 14 [(1,.p 1 0),(2,Ia 0),(3,Ba false)] Z1 ?_
 refine Aa rfl (iQ 8 ?_)
 let Z2:=zT [(2,Ia 0),(3,Ba false),(4,Ia 0),(5,Ba false)] []
 refine iE 14 Z2 [] ?_
 refine Aa rfl (iQ 4 (iE 14 [(2,Ia 0),(3,Ba false)] [] ?_))
 refine Ab (iS (Iv 0) (Bv false) [] ?_)
 rfl
theorem a1s {g:Bool} {n:Nat} {e:Int}:HasC Tryz.prog 69 [VV (.num g n e)] (fun r=>r=.tup [.v (.int .i64 0),.v (.bool false)]):=HasC.ub Ze
theorem Tw {g:Bool} {n:Nat} {e:Int}:HasC Tryz.prog 71 [.agg [.ifc 80 (.agg [.v (.bool g),.v (.int .u64 (hiW (n))),.v (.int .u64 (loW (n))),.v (.int .i64 e)])]] (fun r=>r=.tup [.v (.int .i64 0),.v (.bool false)]):=by
 refine hO [] Tryz.f71 (fun a w=>Tryz.call71 a w) Tryz.func71 rfl (⟨_,rfl⟩) ?_
 refine Aa rfl (iQ 3 ?_)
 let Z1:=zH [(1,[.ifc 80 (.agg [Bv g,Hw n,Lw n,Iv e])])] []
 refine iE 14 [(1,.p 1 0),(2,Ia 0),(3,Ba false)] Z1 ?_
 refine Aa rfl (iQ 8 ?_)
 let Z2:=zT [(2,Ia 0),(3,Ba false),(4,Ia 0),(5,Ba false)] []
 refine iE 14 Z2 [] ?_
 refine Aa rfl (iQ 4 (iE 14 [(2,Ia 0),(3,Ba false)] [] ?_))
 refine Ab (iS (Iv 0) (Bv false) [] ?_)
 rfl
theorem Tx {g:Bool} {n:Nat} {e:Int}:HasC Tryz.prog 71 [VV (.num g n e)] (fun r=>r=.tup [.v (.int .i64 0),.v (.bool false)]):=HasC.ub Tw
def Ey (x:D3):D3:=⟨(false,x.n,x.e),x.lt,x.lo,x.hi,fun h=>by cases h⟩
theorem a6u {x:D3}:HasC Tryz.prog 8 [Bk false x.n x.e] (fun r=>r=VV (.num (Ey x).g (Ey x).n (Ey x).e)):=Fc (Ey x)
theorem Yo {x:D3}:HasC Tryz.prog 24 [.agg [.bx (Vl.num (x).g (x).n (x).e).enc]] (fun y=>y=VV (.num (Ey x).g (Ey x).n (Ey x).e)):=by
 refine hO [] Tryz.f24 (fun a w=>Tryz.call24 a w) Tryz.func24 rfl (⟨_,rfl⟩) ?_
 refine Aa rfl (iQ 2 ?_)
 let Z1:=zH [(1,[.bx (Vl.num (x).g (x).n (x).e).enc]),(2,[.v (.nilIface)])] []
 refine iE 42 [(1,.p 1 0),(2,.p 2 0)] Z1 ?_
 refine Ae (Aa rfl (iQ 1 (eC 69 [.agg [.bx (Vl.num (x).g (x).n (x).e).enc]] 11 (a1s) (iQ 5 ?_))))
 let Z2:=zT [(1,.p 1 0),(2,.p 2 0),(3,Ia 0),(4,Ba false)] []
 refine iE 42 Z2 Z1 ?_
 refine Aa rfl (iQ 1 ?_)
 let Z3:=zT [(1,.p 1 0),(2,.p 2 0),(3,Ia 0),(14,Ba false)] []
 refine iE 42 Z3 Z1 ?_
 refine iF (Ad (Af (Ae (Aa rfl (iQ 1 (eC 71 [.agg [.bx (Vl.num (x).g (x).n (x).e).enc]] 22 (Tx) (iQ 5 (iE 42 (zT [(5,Ia 0),(6,Ba false)] Z3) Z1 ?_))))))))
 refine Aa rfl (iQ 1 (iE 42 (zT [(5,Ia 0),(25,Ba false)] Z3) Z1 ?_))
 refine iF (Ad (Af (Aa rfl (iQ 1 (eC 67 [.agg [.bx (Vl.num (x).g (x).n (x).e).enc]] 33 (Dv) (iQ 6 ?_))))))
 let Z4:=zT [(5,Ia 0),(7,.p 7 0),(8,Ba true),(25,Ba false)] []
 let Z5:=zH [(7,[Bv ((x).g),Hw ((x).n),Lw ((x).n),Iv ((x).e)])] []
 refine iE 42 (zT Z4 Z3) (zH Z5 Z1) ?_
 refine Ae (Aa rfl (iQ 1 (jU .not (.bool true) 37 ?_)))
 refine An ((by simp)) ?_
 let Z6:=zT [(5,Ia 0),(7,.p 7 0),(25,Ba false),(37,Ba false)] []
 refine iE 42 (zT Z6 Z3) (zH Z1 Z5) ?_
 refine iF (Ad (Af (Aa rfl (iQ 1 (eC 25 [.agg [Bv ((x).g),Hw ((x).n),Lw ((x).n),Iv ((x).e)]] 40 (a04) (eC 8 [.agg [Bv false,Hw x.n,Lw x.n,Iv x.e]] 41 (a6u) (iQ 1 ?_)))))))
 let Z7:=zH [(2,[.bx (Vl.num (Ey x).g (Ey x).n (Ey x).e).enc])] []
 refine iE 42 (zT Z6 Z3) (zH [(1,[.bx (Vl.num (x).g (x).n (x).e).enc])] (zH Z7 Z5)) ?_
 refine Ab (iR (.agg [.bx (Vl.num (Ey x).g (Ey x).n (Ey x).e).enc]) ?_)
 rfl
theorem Qb {x:D3}:HasC Tryz.prog 23 [VV (.num (Ey x).g (Ey x).n (Ey x).e),Bk false x.n x.e] (fun r=>r=.v (.bool true)):=Vp (x:=Ey x)
noncomputable def Yq (x y:D3):T4:=Zq x.g x.n x.e y.g y.n y.e
theorem Zo {s t:Bool} {a b:Nat} {x y:Int} {g:Bool} {k:Nat} {e:Int} {ok:Bool} (h:Zq s a x t b y=(g,k,e,ok)):May g k e:=by
 unfold Zq b4b at h
 split at h
 ·cases h;exact a9n
 ·unfold a6j at h
  split at h
  ·cases h;exact a9n
  ·exact Ln (a02 h)
theorem b6b {x y:D3} (hy:y.n=0):HasC Tryz.prog 26 [.agg [.bx (Vl.num (x).g (x).n (x).e).enc],.agg [.bx (Vl.num (y).g (y).n (y).e).enc]] (fun r => ∃ z v o,r=.tup [z,.v (.bool o)]∧IsV z v∧v=.null∧o=true):=by
 refine hO [] Tryz.f26 (fun a w=>Tryz.call26 a w) Tryz.func26 rfl (⟨_,_,_,_,rfl,.inl rfl,rfl,rfl⟩) ?_
 refine Aa rfl (iQ 4 ?_)
 let Z1:=zT [(2,.p 2 0),(3,.p 3 0),(4,.p 4 0),(5,Ba false)] []
 let Z2:=zH [(2,[.bx (Vl.num (x).g (x).n (x).e).enc]),(3,[.bx (Vl.num (y).g (y).n (y).e).enc]),(4,[.v (.nilIface)])] []
 refine iE 31 Z1 Z2 ?_
 refine Aa rfl (iQ 2 (eC 49 [.agg [.bx (Vl.num (x).g (x).n (x).e).enc],.agg [.bx (Vl.num (y).g (y).n (y).e).enc]] 12 (a1c) (iQ 9 ?_)))
 let Z3:=zT [(4,.p 4 0),(5,Ba false),(6,.p 6 0),(7,.p 7 0),(8,Ba true)] []
 let Z4:=zH [(6,[Bv ((x).g),Hw ((x).n),Lw ((x).n),Iv ((x).e)])] []
 let Z5:=zH [(7,[Bv ((y).g),Hw ((y).n),Lw ((y).n),Iv ((y).e)])] []
 refine iE 31 Z3 (zH [(4,[.v (.nilIface)])] (zH Z5 Z4)) ?_
 refine Ae (Aa rfl (iQ 1 (jU .not (.bool true) 17 ?_)))
 refine An ((by simp)) ?_
 refine iQ 2 (eC 16 [.agg [Bv ((y).g),Hw ((y).n),Lw ((y).n),Iv ((y).e)]] 20 (Wx y.ltB hy) (iQ 1 ?_))
 let Z6:=zT [(4,.p 4 0),(5,Ba false),(6,.p 6 0),(7,.p 7 0),(21,Ba true)] []
 refine iE 31 Z6 (zH [(4,[.v (.nilIface)])] (zH Z4 Z5)) ?_
 refine iT (Aa rfl (iQ 3 ?_))
 let Z7:=zT [(4,.p 4 0),(5,Ba true),(6,.p 6 0),(7,.p 7 0),(21,Ba true)] []
 refine iE 31 Z7 (zH [(4,[.v (.nilIface)])] (zH Z4 Z5)) ?_
 refine Ab (Ag (iS (.agg [.v (.nilIface)]) (Bv true) [] ?_))
 exact ⟨_,.null,_,rfl,IsV.null,rfl,rfl⟩
theorem b9v {x y:D3} (hy:y.n≠0):HasC Tryz.prog 26 [.agg [.bx (Vl.num (x).g (x).n (x).e).enc],.agg [.bx (Vl.num (y).g (y).n (y).e).enc]] (fun r => ∃ z v o,r=.tup [z,.v (.bool o)]∧IsV z v∧v=Dz (Cf (Yq x y))∧o=(Cf (Yq x y)).isSome):=by
 refine hO [] Tryz.f26 (fun a w=>Tryz.call26 a w) Tryz.func26 rfl (⟨_,_,_,_,rfl,.inl rfl,rfl,rfl⟩) ?_
 refine Aa rfl (iQ 4 ?_)
 let Z1:=zT [(2,.p 2 0),(3,.p 3 0),(4,.p 4 0),(5,Ba false)] []
 let Z2:=zH [(2,[.bx (Vl.num (x).g (x).n (x).e).enc]),(3,[.bx (Vl.num (y).g (y).n (y).e).enc]),(4,[.v (.nilIface)])] []
 refine iE 31 Z1 Z2 ?_
 refine Aa rfl (iQ 2 (eC 49 [.agg [.bx (Vl.num (x).g (x).n (x).e).enc],.agg [.bx (Vl.num (y).g (y).n (y).e).enc]] 12 (a1c) (iQ 9 ?_)))
 let Z3:=zT [(4,.p 4 0),(5,Ba false),(6,.p 6 0),(7,.p 7 0),(8,Ba true)] []
 let Z4:=zH [(6,[Bv ((x).g),Hw ((x).n),Lw ((x).n),Iv ((x).e)])] []
 let Z5:=zH [(7,[Bv ((y).g),Hw ((y).n),Lw ((y).n),Iv ((y).e)])] []
 refine iE 31 Z3 (zH [(4,[.v (.nilIface)])] (zH Z5 Z4)) ?_
 refine Ae (Aa rfl (iQ 1 (jU .not (.bool true) 17 ?_)))
 refine An ((by simp)) ?_
 refine iQ 2 (eC 16 [.agg [Bv ((y).g),Hw ((y).n),Lw ((y).n),Iv ((y).e)]] 20 (Wb y.ltB hy) (iQ 1 ?_))
 let Z6:=zT [(4,.p 4 0),(5,Ba false),(6,.p 6 0),(7,.p 7 0),(21,Ba false)] []
 refine iE 31 Z6 (zH [(4,[.v (.nilIface)])] (zH Z4 Z5)) ?_
 refine iF (Ad (Af (Aa rfl (iQ 2 (jC 27 [.agg [Bv ((x).g),Hw ((x).n),Lw ((x).n),Iv ((x).e)],.agg [Bv ((y).g),Hw ((y).n),Lw ((y).n),Iv ((y).e)]] 25 (Fd (a1r x.lt y.lt x.lo x.hi y.lo y.hi)) ?_)))))
 rintro _ ⟨g,k,e,ok,rfl,hT⟩
 refine iQ 2 (jC 50 [.agg [Bv g,Hw k,Lw k,Iv e],Bv ok] 28 (a2y (fun _ ↦ Zo hT)) ?_)
 rintro _ ⟨v,o,rfl,hv,ho⟩
 refine iQ 4 ?_
 let Z7:=zT [(4,.p 4 0),(5,Ba o),(6,.p 6 0),(7,.p 7 0),(21,Ba false)] []
 let Z8:=zH [(6,[Bv ((x).g),Hw ((x).n),Lw ((x).n),Iv ((x).e)])] []
 let Z9:=zH [(7,[Bv ((y).g),Hw ((y).n),Lw ((y).n),Iv ((y).e)])] []
 refine iE 31 Z7 (zH [(4,[.bx (v).enc])] (zH Z9 Z8)) ?_
 refine Ab (iS (.agg [.bx (v).enc]) (Bv o) [] ?_)
 exact ⟨_,_,_,rfl,.inl rfl,by rw[hv,Yq,hT],by rw[ho,Yq,hT]⟩
theorem b6t {x y:D3}:HasC Tryz.prog 26 [VV (.num x.g x.n x.e),VV (.num y.g y.n y.e)] (fun r => ∃ q ok,r=.tup [VV q,.v (.bool ok)]∧(y.n=0→q=.null∧ok=true)∧(y.n≠0→q=Dz (Cf (Yq x y))∧ok=(Cf (Yq x y)).isSome)):=by
 by_cases hy:y.n=0
 ·exact (HasC.isVb (q:=fun v o=>v=.null∧o=true) (b6b (x:=x) hy)).mono fun r ⟨u,k,h1,h2⟩=>⟨u,k,h1,fun _=>h2,fun k=>absurd hy k⟩
 ·exact (HasC.isVb (q:=fun v o=>v=Dz (Cf (Yq x y))∧o=(Cf (Yq x y)).isSome) (b9v (x:=x) hy)).mono fun r ⟨u,k,h1,h2⟩=>⟨u,k,h1,fun k=>absurd k hy,fun _=>h2⟩
noncomputable def Ls (x:D3):T4:=Fv x.g x.n x.e
theorem a6r {x:D3} {g:Bool} {k:Nat} {e:Int} {ok:Bool} (h:Fv x.g x.n x.e=(g,k,e,ok)):May g k e:=by
 unfold Fv at h
 split at h
 ·cases h;exact a9n
 ·exact Om h
theorem a5b {x:D3} (hx:x.g=true):HasC Tryz.prog 29 [.agg [.bx (Vl.num (x).g (x).n (x).e).enc]] (fun y => ∃ v,IsV y v∧v=.null):=by
 refine hO [] Tryz.f29 (fun a w=>Tryz.call29 a w) Tryz.func29 rfl (⟨_,_,.inl rfl,rfl⟩) ?_
 refine Aa rfl (iQ 2 ?_)
 let Z1:=zH [(1,[.bx (Vl.num (x).g (x).n (x).e).enc]),(2,[.v (.nilIface)])] []
 refine iE 27 [(1,.p 1 0),(2,.p 2 0)] Z1 ?_
 refine Aa rfl (iQ 1 (eC 67 [.agg [.bx (Vl.num (x).g (x).n (x).e).enc]] 9 (Dv) (iQ 6 ?_)))
 let Z2:=zH [(3,[Bv ((x).g),Hw ((x).n),Lw ((x).n),Iv ((x).e)])] []
 refine iE 27 [(2,.p 2 0),(3,.p 3 0),(4,Ba true)] (zH [(2,[.v (.nilIface)])] Z2) ?_
 refine Ae (Aa rfl (iQ 1 (jU .not (.bool true) 13 ?_)))
 refine An ((by simp)) ?_
 refine iQ 2 (eC 74 [.agg [Bv ((x).g),Hw ((x).n),Lw ((x).n),Iv ((x).e)]] 16 (Hh x.ltB) ?_)
 have hs:Dl x.g x.n<0:=by rw[hx];unfold Dl;rw[if_neg (x.2.2.2.2 hx)];simp
 refine jB .lss 3 (.int .i64 (Dl x.g x.n)) (.int .i64 0) 17 ?_
 refine Bn ((by omega)) ?_
 refine iQ 1 (iE 27 [(2,.p 2 0),(3,.p 3 0),(18,Ba true)] (zH [(2,[.v (.nilIface)])] Z2) ?_)
 refine iT (Aa rfl (iQ 2 (iE 27 [(2,.p 2 0),(3,.p 3 0),(18,Ba true)] (zH [(2,[.v (.nilIface)])] Z2) ?_)))
 refine Ab (Ag (iR (.agg [.v (.nilIface)]) ?_))
 exact ⟨.null,IsV.null,rfl⟩
theorem b0b {o:Vl} (h:o.isNum=false):HasC Tryz.prog 29 [.agg [.bx (o).enc]] (fun y => ∃ v,IsV y v∧v=.null):=by
 refine hO [] Tryz.f29 (fun a w=>Tryz.call29 a w) Tryz.func29 rfl (⟨_,_,.inl rfl,rfl⟩) ?_
 refine Aa rfl (iQ 2 (iE 27 [(1,.p 1 0),(2,.p 2 0)] [(1,[.bx (o).enc]),(2,[.v (.nilIface)])] ?_))
 refine Aa rfl (iQ 1 (eC 67 [.agg [.bx (o).enc]] 9 (Ke h) (iQ 6 ?_)))
 let Z1:=zH [(2,[.v (.nilIface)]),(3,[Bv false,Hw 0,Lw 0,Iv 0])] []
 refine iE 27 [(2,.p 2 0),(3,.p 3 0),(4,Ba false)] Z1 ?_
 refine Ae (Aa rfl (iQ 1 (jU .not (.bool false) 13 ?_)))
 refine Bn ((by simp)) ?_
 refine iQ 5 (iE 27 [(2,.p 2 0),(3,.p 3 0),(18,Ba true)] Z1 ?_)
 refine iT (Aa rfl (iQ 2 (iE 27 [(2,.p 2 0),(3,.p 3 0),(18,Ba true)] Z1 ?_)))
 refine Ab (Ag (iR (.agg [.v (.nilIface)]) ?_))
 exact ⟨.null,IsV.null,rfl⟩
theorem b0j {o:Vl} (h:o.isNum=false):HasC Tryz.prog 29 [VV o] (fun y=>y=VV .null):=Sb (b0b h)
theorem b5l {x:D3}:HasC Tryz.prog 29 [VV (.num x.g x.n x.e)] (fun y => ∃ v,y=VV v∧v=Dz (Cf (Ls x))):=by
 cases hx:x.g with
 | true =>
  have h:=Sb (a5b hx)
  rw[hx] at h
  refine h.mono fun y hy=>⟨_,hy,?_⟩
  have e:Ls x=(false,0,0,false):=by rw[Ls,Fv,if_pos ⟨x.2.2.2.2 hx,hx⟩]
  rw[e,Eq]
  rfl
 | false =>
  have h:=b7t hx
  rw[hx] at h
  refine h.mono fun y hy=>⟨_,hy,?_⟩
  obtain ⟨k,e,hr,_⟩:=b5e (a:=x.n) (x:=x.e) x.lt x.lo x.hi
  have e1:Ls x=En x:=by rw[Ls,Fv,if_neg (fun h=>by rw[hx] at h;cases h.2)];rfl
  have e2:En x=(false,k,e,true):=hr
  rw[e1]
  have hm:May false k e:=Om hr
  rw[e2,Dw hm]
  show (Nc x).vl=D3.vl ⟨(false,k,e),hm⟩
  congr 1
  apply Subtype.ext
  show ((En x).1,(En x).2.1,(En x).2.2.1)=(false,k,e)
  rw[e2]
theorem b3w {x:D3}:HasC Tryz.prog 30 [.agg [.bx (Vl.num (x).g (x).n (x).e).enc]] (fun r => ∃ q,r=VV (.bool q)∧(q=true↔Rh x.g x.n x.e 0 (Bb 6 x.g x.n x.e))):=by
 refine hO [] Tryz.f30 (fun a w=>Tryz.call30 a w) Tryz.func30 rfl (⟨_,@decide (Rh x.g x.n x.e 0 (Bb 6 x.g x.n x.e)) (Classical.propDecidable _),rfl,by simp⟩) ?_
 refine Aa rfl (iQ 2 ?_)
 let Z1:=zH [(1,[.bx (Vl.num (x).g (x).n (x).e).enc]),(2,[.v (.nilIface)])] []
 refine iE 16 [(1,.p 1 0),(2,.p 2 0)] Z1 ?_
 refine Aa rfl (iQ 1 (eC 67 [.agg [.bx (Vl.num (x).g (x).n (x).e).enc]] 7 (Dv) (iQ 6 ?_)))
 let Z2:=zH [(3,[Bv ((x).g),Hw ((x).n),Lw ((x).n),Iv ((x).e)])] []
 refine iE 16 [(2,.p 2 0),(3,.p 3 0),(4,Ba true)] (zH [(2,[.v (.nilIface)])] Z2) ?_
 refine Ae (Aa rfl (iQ 1 (jU .not (.bool true) 11 ?_)))
 refine An ((by simp)) ?_
 refine iE 16 [(2,.p 2 0),(3,.p 3 0),(11,Ba false)] (zH [(2,[.v (.nilIface)])] Z2) ?_
 refine iF (Ad (Af (Aa rfl (iQ 1 (jC 33 [.agg [Bv ((x).g),Hw ((x).n),Lw ((x).n),Iv ((x).e)]] 14 (a7j x.lt x.sg x.lo x.hi) ?_)))))
 rintro _ ⟨q,rfl,hq⟩
 refine eC 76 [Bv q] 15 (Pz) (iQ 1 (iE 16 [(2,.p 2 0),(3,.p 3 0),(11,Ba false)] (zH [(2,[.bx (Vl.bool q).enc])] Z2) ?_))
 refine Ab (iR (.agg [.bx (Vl.bool q).enc]) ?_)
 exact ⟨_,rfl,hq⟩
theorem b66 {x:D3}:HasC Tryz.prog 32 [.agg [.bx (Vl.num (x).g (x).n (x).e).enc]] (fun r => ∃ q,r=VV (.bool q)∧(q=true↔Rh x.g x.n x.e 1 (Bb 6 x.g x.n x.e))):=by
 refine hO [] Tryz.f32 (fun a w=>Tryz.call32 a w) Tryz.func32 rfl (⟨_,@decide (Rh x.g x.n x.e 1 (Bb 6 x.g x.n x.e)) (Classical.propDecidable _),rfl,by simp⟩) ?_
 refine Aa rfl (iQ 2 ?_)
 let Z1:=zH [(1,[.bx (Vl.num (x).g (x).n (x).e).enc]),(2,[.v (.nilIface)])] []
 refine iE 16 [(1,.p 1 0),(2,.p 2 0)] Z1 ?_
 refine Aa rfl (iQ 1 (eC 67 [.agg [.bx (Vl.num (x).g (x).n (x).e).enc]] 7 (Dv) (iQ 6 ?_)))
 let Z2:=zH [(3,[Bv ((x).g),Hw ((x).n),Lw ((x).n),Iv ((x).e)])] []
 refine iE 16 [(2,.p 2 0),(3,.p 3 0),(4,Ba true)] (zH [(2,[.v (.nilIface)])] Z2) ?_
 refine Ae (Aa rfl (iQ 1 (jU .not (.bool true) 11 ?_)))
 refine An ((by simp)) ?_
 refine iE 16 [(2,.p 2 0),(3,.p 3 0),(11,Ba false)] (zH [(2,[.v (.nilIface)])] Z2) ?_
 refine iF (Ad (Af (Aa rfl (iQ 1 (jC 34 [.agg [Bv ((x).g),Hw ((x).n),Lw ((x).n),Iv ((x).e)]] 14 (b57 x.lt x.sg x.lo x.hi) ?_)))))
 rintro _ ⟨q,rfl,hq⟩
 refine eC 76 [Bv q] 15 (Pz) (iQ 1 (iE 16 [(2,.p 2 0),(3,.p 3 0),(11,Ba false)] (zH [(2,[.bx (Vl.bool q).enc])] Z2) ?_))
 refine Ab (iR (.agg [.bx (Vl.bool q).enc]) ?_)
 exact ⟨_,rfl,hq⟩
theorem a8o {o:Vl} (h:o.isNum=false):HasC Tryz.prog 30 [.agg [.bx (o).enc]] (fun y => ∃ v,IsV y v∧v=.null):=by
 refine hO [] Tryz.f30 (fun a w=>Tryz.call30 a w) Tryz.func30 rfl (⟨_,_,.inl rfl,rfl⟩) ?_
 refine Aa rfl (iQ 2 (iE 16 [(1,.p 1 0),(2,.p 2 0)] [(1,[.bx (o).enc]),(2,[.v (.nilIface)])] ?_))
 refine Aa rfl (iQ 1 (eC 67 [.agg [.bx (o).enc]] 7 (Ke h) (iQ 6 ?_)))
 let Z1:=zH [(2,[.v (.nilIface)]),(3,[Bv false,Hw 0,Lw 0,Iv 0])] []
 refine iE 16 [(2,.p 2 0),(3,.p 3 0),(4,Ba false)] Z1 ?_
 refine Ae (Aa rfl (iQ 1 (jU .not (.bool false) 11 ?_)))
 refine Bn ((by simp)) ?_
 refine iE 16 [(2,.p 2 0),(3,.p 3 0),(11,Ba true)] Z1 ?_
 refine iT (Aa rfl (iQ 2 (iE 16 [(2,.p 2 0),(3,.p 3 0),(11,Ba true)] Z1 ?_)))
 refine Ab (Ag (iR (.agg [.v (.nilIface)]) ?_))
 exact ⟨.null,IsV.null,rfl⟩
theorem a8r {o:Vl} (h:o.isNum=false):HasC Tryz.prog 30 [VV o] (fun y=>y=VV .null):=Sb (a8o h)
theorem b3s {o:Vl} (h:o.isNum=false):HasC Tryz.prog 32 [.agg [.bx (o).enc]] (fun y => ∃ v,IsV y v∧v=.null):=by
 refine hO [] Tryz.f32 (fun a w=>Tryz.call32 a w) Tryz.func32 rfl (⟨_,_,.inl rfl,rfl⟩) ?_
 refine Aa rfl (iQ 2 (iE 16 [(1,.p 1 0),(2,.p 2 0)] [(1,[.bx (o).enc]),(2,[.v (.nilIface)])] ?_))
 refine Aa rfl (iQ 1 (eC 67 [.agg [.bx (o).enc]] 7 (Ke h) (iQ 6 ?_)))
 let Z1:=zH [(2,[.v (.nilIface)]),(3,[Bv false,Hw 0,Lw 0,Iv 0])] []
 refine iE 16 [(2,.p 2 0),(3,.p 3 0),(4,Ba false)] Z1 ?_
 refine Ae (Aa rfl (iQ 1 (jU .not (.bool false) 11 ?_)))
 refine Bn ((by simp)) ?_
 refine iE 16 [(2,.p 2 0),(3,.p 3 0),(11,Ba true)] Z1 ?_
 refine iT (Aa rfl (iQ 2 (iE 16 [(2,.p 2 0),(3,.p 3 0),(11,Ba true)] Z1 ?_)))
 refine Ab (Ag (iR (.agg [.v (.nilIface)]) ?_))
 exact ⟨.null,IsV.null,rfl⟩
theorem b4i {o:Vl} (h:o.isNum=false):HasC Tryz.prog 32 [VV o] (fun y=>y=VV .null):=Sb (b3s h)
theorem a7n {g:Bool} {k:Nat} {e n:Int} (hB:k<B128) (h2 : -1000000≤e) (h3:e≤1000000) (hw:isW g k e n) (hn:inI n):HasC Tryz.prog 99 [.agg [.ifc 80 (.agg [.v (.bool g),.v (.int .u64 (hiW (k))),.v (.int .u64 (loW (k))),.v (.int .i64 e)])]] (fun r=>r=.tup [.v (.int .i64 n),.v (.bool true)]):=by
 refine hO [] Tryz.f99 (fun a w=>Tryz.call99 a w) Tryz.func99 rfl (⟨_,rfl⟩) ?_
 refine Aa rfl (iQ 3 ?_)
 let Z1:=zH [(1,[.ifc 80 (.agg [Bv g,Hw k,Lw k,Iv e])])] []
 refine iE 18 [(1,.p 1 0),(2,Ia 0),(3,Ba false)] Z1 ?_
 refine Aa rfl (iQ 9 ?_)
 let Z2:=zT [(2,Ia 0),(3,Ba false),(4,.p 4 0),(5,Ba true)] []
 refine iE 18 Z2 [(4,[Bv g,Hw k,Lw k,Iv e])] ?_
 refine Ae (Aa rfl (iQ 1 (jU .not (.bool true) 13 ?_)))
 refine An ((by simp)) ?_
 let Z3:=zT [(2,Ia 0),(3,Ba false),(4,.p 4 0),(13,Ba false)] []
 refine iE 18 Z3 [(4,[Bv g,Hw k,Lw k,Iv e])] ?_
 refine iF (Ad (Af (Aa rfl (iQ 1 (eC 91 [.agg [Bv g,Hw k,Lw k,Iv e]] 15 (a5i hw hn hB (by omega) (by omega)) (iQ 4 ?_))))))
 let Z4:=zT [(2,Ia n),(3,Ba true),(4,.p 4 0),(13,Ba false)] []
 refine iE 18 Z4 [(4,[Bv g,Hw k,Lw k,Iv e])] ?_
 refine Ab (iS (Iv n) (Bv true) [] ?_)
 rfl
theorem Zu {n:Int} {y:D3} (h0 : -9223372036854775808≤n) (h1:n≤9223372036854775807) (hy:y.vl=Ot n):isW y.g y.n y.e n∧inI n:=by
 obtain ⟨hg,hn,he⟩:y.g=decide (n<0)∧y.n=n.natAbs∧y.e=0:=by
  have:Vl.num y.g y.n y.e=.num (decide (n<0)) n.natAbs 0:=hy
  injection this with a b c
  exact ⟨a,b,c⟩
 refine ⟨?_,h0,by omega⟩
 rw[hg,hn,he]
 unfold isW V Ig
 simp
 split<;>omega
theorem a99 {n:Int} {y:D3} (h0 : -9223372036854775808≤n) (h1:n≤9223372036854775807) (hy:y.vl=Ot n):HasC Tryz.prog 99 [VV (.num y.g y.n y.e)] (fun r=>r=.tup [.v (.int .i64 n),.v (.bool true)]) :=
 HasC.ub (a7n y.ltB (by have:=y.lo;omega) (by have:=y.hi;omega) (Zu h0 h1 hy).1 (Zu h0 h1 hy).2)
theorem a69 {x y:D3} {n:Int} (h0 : -9223372036854775808≤n) (h1:n≤9223372036854775807) (hy:y.vl=Ot n):HasC Tryz.prog 68 [.sl 2 ([BV (.num x.g x.n x.e),BV (.num y.g y.n y.e)])] (fun r=>r=.tup [.v (.int .i64 n),.v (.bool true)]):=by
 refine hO [] Tryz.f68 (fun a w=>Tryz.call68 a w) Tryz.func68 rfl (⟨_,rfl⟩) ?_
 refine Aa rfl (iQ 2 ?_)
 let Z1:=zT [(0,.d (.sl 2 ([BV (.num x.g x.n x.e),BV (.num y.g y.n y.e)])))] []
 refine iE 13 (zT [(2,Ia 0),(3,Ba false)] Z1) [] ?_
 refine Ae (Aa rfl (iQ 2 (jB .lss 3 (.int .i64 (((2:Nat):Int))) (.int .i64 2) 6 ?_)))
 refine An ((by decide)) ?_
 refine iE 13 (zT [(2,Ia 0),(3,Ba false),(6,Ba false)] Z1) [] ?_
 refine iF (Ad (Af (Aa rfl (iQ 1 (Bi (q:=1) (n:=2) (cs:=([BV (.num x.g x.n x.e),BV (.num y.g y.n y.e)])) (d:=.bx (Vl.num (y).g (y).n (y).e).enc) (dst:=(some 8)) (by kernel_rfl) (by omega) (rfl) ?_)))))
 refine iQ 1 (eC 99 [.agg [.bx (Vl.num (y).g (y).n (y).e).enc]] 10 (a99 h0 h1 hy) (iQ 4 (iE 13 (zT [(2,Ia n),(3,Ba true),(6,Ba false)] Z1) [] ?_)))
 refine Ab (iS (Iv n) (Bv true) [] ?_)
 rfl
theorem Vk {o:Vl}:HasC Tryz.prog 68 [.sl 1 ([BV o])] (fun r=>r=.tup [.v (.int .i64 0),.v (.bool true)]):=by
 refine hO [] Tryz.f68 (fun a w=>Tryz.call68 a w) Tryz.func68 rfl (⟨_,rfl⟩) ?_
 refine Aa rfl (iQ 2 ?_)
 let Z1:=zT [(0,.d (.sl 1 ([BV o]))),(2,Ia 0),(3,Ba false)] []
 refine iE 13 Z1 [] ?_
 refine Ae (Aa rfl (iQ 2 (jB .lss 3 (.int .i64 (((1:Nat):Int))) (.int .i64 2) 6 ?_)))
 refine Bn ((by decide)) ?_
 refine iE 13 (zT [(6,Ba true)] Z1) [] ?_
 refine iT (Aa rfl (iQ 2 ?_))
 let Z2:=zT [(0,.d (.sl 1 ([BV o]))),(2,Ia 0),(3,Ba true),(6,Ba true)] []
 refine iE 13 Z2 [] ?_
 refine Ab (Ag (iS (Iv 0) (Bv true) [] ?_))
 rfl
noncomputable def Ec (m:Int) (x:D3) (n:Int):T4:=Ff m x.g x.n x.e n
theorem Gi {m:Int} {x:D3} {n:Int} {g:Bool} {k:Nat} {e:Int} {ok:Bool} (h:Ff m x.g x.n x.e n=(g,k,e,ok)):ok=true→May g k e:=fun h1=>by
 unfold Ff at h
 split at h
 ·cases h;cases h1
 ·split at h
  ·cases h
   exact ⟨Xx x.lt,by omega,by omega,fun hg hk=>by simp[hk] at hg⟩
  ·split at h
   ·rename_i hlt
    cases h
    exact ⟨hlt,by omega,by omega,fun hg hk=>x.2.2.2.2 hg (by
     rcases Nat.mul_eq_zero.1 hk with q | q
     ·exact q
     ·exact absurd q (Nat.pos_iff_ne_zero.1 (Nat.pow_pos (by decide))))⟩
   ·cases h;cases h1
theorem Vo {m:Int} {x:D3} {n:Int} {g:Bool} {k:Nat} {e:Int} (h:Ff m x.g x.n x.e n=(g,k,e,true)):Dz (Cf (Ec m x n))=.num g k e:=by
 rw[Ec,h,Dw (Gi h rfl)]
 rfl
theorem a4f {g:Bool} {k:Nat} {e:Int} (h:May g k e):HasC Tryz.prog 8 [Bk g k e] (fun r=>r=VV (.num g k e)):=Fc ⟨(g,k,e),h⟩
theorem a9a {x y:D3} {m n:Int} (h0 : -9223372036854775808≤n) (h1:n≤9223372036854775807) (hy:y.vl=Ot n):HasC Tryz.prog 22 [.v (.int .i64 m),.sl 2 ([BV (.num x.g x.n x.e),BV (.num y.g y.n y.e)])] (fun r => ∃ v,IsV r v∧v=Dz (Cf (Ec m x n))):=by
 refine hO [] Tryz.f22 (fun a w=>Tryz.call22 a w) Tryz.func22 rfl (⟨_,_,.inl rfl,rfl⟩) ?_
 refine Aa rfl (iQ 1 ?_)
 let Z1:=zT [(1,.d (.sl 2 ([BV (.num x.g x.n x.e),BV (.num y.g y.n y.e)])))] []
 refine iE 50 (zT [(0,Ia m),(4,.p 4 0)] Z1) [(4,[.v (.nilIface)])] ?_
 refine Ae (Aa rfl (iQ 2 (jB .lss 3 (.int .i64 (((2:Nat):Int))) (.int .i64 1) 12 ?_)))
 refine An ((by decide)) ?_
 refine iQ 3 (jB .gtr 3 (.int .i64 (((2:Nat):Int))) (.int .i64 2) 16 ?_)
 refine An ((by decide)) ?_
 refine iQ 1 (iE 50 (zT [(0,Ia m),(4,.p 4 0),(17,Ba false)] Z1) [(4,[.v (.nilIface)])] ?_)
 refine iF (Ad (Af (Aa rfl (iQ 1 (Bi (q:=0) (n:=2) (cs:=([BV (.num x.g x.n x.e),BV (.num y.g y.n y.e)])) (d:=.bx (Vl.num (x).g (x).n (x).e).enc) (dst:=(some 21)) (by kernel_rfl) (by omega) (rfl) ?_)))))
 refine iQ 1 (eC 67 [.agg [.bx (Vl.num (x).g (x).n (x).e).enc]] 23 (Dv) (iQ 6 ?_))
 let Z2:=zT [(0,Ia m),(4,.p 4 0),(5,.p 5 0),(6,Ba true),(17,Ba false)] []
 let Z3:=zH [(5,[Bv ((x).g),Hw ((x).n),Lw ((x).n),Iv ((x).e)])] []
 refine iE 50 (zT Z2 Z1) (zH [(4,[.v (.nilIface)])] Z3) ?_
 refine Aa rfl (iQ 1 (eC 68 [.sl 2 ([BV (.num x.g x.n x.e),BV (.num y.g y.n y.e)])] 28 (a69 (x:=x) h0 h1 hy) (iQ 5 (iE 50 (zT [(7,Ia n),(8,Ba true)] (zT Z2 Z1)) (zH [(4,[.v (.nilIface)])] Z3) ?_))))
 refine Ae (Aa rfl (iQ 1 (jU .not (.bool true) 32 ?_)))
 refine An ((by simp)) ?_
 refine iQ 2 (jU .not (.bool true) 35 ?_)
 refine An ((by simp)) ?_
 refine iQ 1 (iE 50 (zT [(7,Ia n),(36,Ba false)] (zT Z2 Z1)) (zH [(4,[.v (.nilIface)])] Z3) ?_)
 refine iF (Ad (Af (Aa rfl (iQ 3 (jC 21 [.agg [Bv ((x).g),Hw ((x).n),Lw ((x).n),Iv ((x).e)],Iv n,Iv m] 42 (Fd (Mu x.lt x.sg x.lo x.hi h0 h1)) ?_)))))
 rintro _ ⟨g,k,e,ok,rfl,hT⟩
 refine iQ 6 ?_
 let Z4:=zT [(1,.d (.sl 2 ([BV (.num x.g x.n x.e),BV (.num y.g y.n y.e)])))] []
 let Z5:=zT [(4,.p 4 0),(5,.p 5 0),(6,Ba ok),(9,.p 9 0),(17,Ba false),(36,Ba false)] []
 let Z6:=zH [(5,[Bv ((x).g),Hw ((x).n),Lw ((x).n),Iv ((x).e)])] []
 let Z7:=zH [(4,[.v (.nilIface)]),(9,[Bv g,Hw k,Lw k,Iv e])] []
 refine iE 50 (zT Z5 Z4) (zH Z7 Z6) ?_
 refine Ae (Aa rfl (iQ 1 (jU .not (.bool ok) 46 ?_)))
 intro c46 hc46
 refine iE 50 (zT [(46,Ba c46)] (zT Z5 Z4)) (zH Z6 Z7) ?_
 cases c46
 ·replace hc46:=bf hc46
  have hk:ok=true:=by simpa using hc46
  rw[hk] at hT
  refine iF (Ad (Af (Aa rfl (iQ 1 (eC 8 [.agg [Bv g,Hw k,Lw k,Iv e]] 49 (a4f (Gi hT rfl)) (iQ 1 ?_))))))
  let Z8:=zH [(4,[.bx (Vl.num g k e).enc]),(9,[Bv g,Hw k,Lw k,Iv e])] []
  refine iE 50 (zT [(46,Ba false)] (zT Z5 Z4)) (zH Z8 Z6) ?_
  refine Ab (iR (.agg [.bx (Vl.num g k e).enc]) ?_)
  exact ⟨_,.inl rfl,(Vo hT).symm⟩
 ·replace hc46:=bt hc46
  have hk:ok=false:=by simpa using hc46
  refine iT (Aa rfl (iQ 2 (iE 50 (zT [(46,Ba true)] (zT Z5 Z4)) (zH Z6 Z7) ?_)))
  refine Ab (Ag (iR (.agg [.v (.nilIface)]) ?_))
  exact ⟨.null,IsV.null,by rw[Ec,hT,hk,Eq];rfl⟩
theorem a7s {x:D3} {m:Int}:HasC Tryz.prog 22 [.v (.int .i64 m),.sl 1 ([BV (.num x.g x.n x.e)])] (fun r => ∃ v,IsV r v∧v=Dz (Cf (Ec m x 0))):=by
 refine hO [] Tryz.f22 (fun a w=>Tryz.call22 a w) Tryz.func22 rfl (⟨_,_,.inl rfl,rfl⟩) ?_
 refine Aa rfl (iQ 1 ?_)
 let Z1:=zT [(0,Ia m),(1,.d (.sl 1 ([BV (.num x.g x.n x.e)]))),(4,.p 4 0)] []
 refine iE 50 Z1 [(4,[.v (.nilIface)])] ?_
 refine Ae (Aa rfl (iQ 2 (jB .lss 3 (.int .i64 (((1:Nat):Int))) (.int .i64 1) 12 ?_)))
 refine An ((by decide)) ?_
 refine iQ 3 (jB .gtr 3 (.int .i64 (((1:Nat):Int))) (.int .i64 2) 16 ?_)
 refine An ((by decide)) ?_
 refine iQ 1 (iE 50 (zT [(17,Ba false)] Z1) [(4,[.v (.nilIface)])] ?_)
 refine iF (Ad (Af (Aa rfl (iQ 1 (Bi (q:=0) (n:=1) (cs:=([BV (.num x.g x.n x.e)])) (d:=.bx (Vl.num (x).g (x).n (x).e).enc) (dst:=(some 21)) (by kernel_rfl) (by omega) (rfl) ?_)))))
 refine iQ 1 (eC 67 [.agg [.bx (Vl.num (x).g (x).n (x).e).enc]] 23 (Dv) (iQ 6 ?_))
 let Z2:=zH [(5,[Bv ((x).g),Hw ((x).n),Lw ((x).n),Iv ((x).e)])] []
 refine iE 50 (zT [(5,.p 5 0),(6,Ba true),(17,Ba false)] Z1) (zH [(4,[.v (.nilIface)])] Z2) ?_
 refine Aa rfl (iQ 1 (eC 68 [.sl 1 ([BV (.num x.g x.n x.e)])] 28 (Vk) (iQ 5 ?_)))
 let Z3:=zT [(5,.p 5 0),(6,Ba true),(7,Ia 0),(8,Ba true),(17,Ba false)] []
 refine iE 50 (zT Z3 Z1) (zH [(4,[.v (.nilIface)])] Z2) ?_
 refine Ae (Aa rfl (iQ 1 (jU .not (.bool true) 32 ?_)))
 refine An ((by simp)) ?_
 refine iQ 2 (jU .not (.bool true) 35 ?_)
 refine An ((by simp)) ?_
 refine iQ 1 ?_
 let Z4:=zT [(5,.p 5 0),(6,Ba true),(7,Ia 0),(17,Ba false),(36,Ba false)] []
 refine iE 50 (zT Z4 Z1) (zH [(4,[.v (.nilIface)])] Z2) ?_
 refine iF (Ad (Af (Aa rfl (iQ 3 (jC 21 [.agg [Bv ((x).g),Hw ((x).n),Lw ((x).n),Iv ((x).e)],Iv 0,Iv m] 42 (Fd (Mu x.lt x.sg x.lo x.hi (by decide) (by decide))) ?_)))))
 rintro _ ⟨g,k,e,ok,rfl,hT⟩
 refine iQ 6 ?_
 let Z5:=zT [(1,.d (.sl 1 ([BV (.num x.g x.n x.e)]))),(4,.p 4 0),(5,.p 5 0),(6,Ba ok),(9,.p 9 0),(17,Ba false),(36,Ba false)] []
 let Z6:=zH [(5,[Bv ((x).g),Hw ((x).n),Lw ((x).n),Iv ((x).e)])] []
 let Z7:=zH [(4,[.v (.nilIface)]),(9,[Bv g,Hw k,Lw k,Iv e])] []
 refine iE 50 Z5 (zH Z7 Z6) ?_
 refine Ae (Aa rfl (iQ 1 (jU .not (.bool ok) 46 ?_)))
 intro c46 hc46
 refine iE 50 (zT [(46,Ba c46)] Z5) (zH Z6 Z7) ?_
 cases c46
 ·replace hc46:=bf hc46
  have hk:ok=true:=by simpa using hc46
  rw[hk] at hT
  refine iF (Ad (Af (Aa rfl (iQ 1 (eC 8 [.agg [Bv g,Hw k,Lw k,Iv e]] 49 (a4f (Gi hT rfl)) (iQ 1 ?_))))))
  let Z8:=zH [(4,[.bx (Vl.num g k e).enc]),(9,[Bv g,Hw k,Lw k,Iv e])] []
  refine iE 50 (zT [(46,Ba false)] Z5) (zH Z8 Z6) ?_
  refine Ab (iR (.agg [.bx (Vl.num g k e).enc]) ?_)
  exact ⟨_,.inl rfl,(Vo hT).symm⟩
 ·replace hc46:=bt hc46
  have hk:ok=false:=by simpa using hc46
  refine iT (Aa rfl (iQ 2 (iE 50 (zT [(46,Ba true)] Z5) (zH Z6 Z7) ?_)))
  refine Ab (Ag (iR (.agg [.v (.nilIface)]) ?_))
  exact ⟨.null,IsV.null,by rw[Ec,hT,hk,Eq];rfl⟩
theorem a5r {o:Vl} {m:Int} (h:o.isNum=false):HasC Tryz.prog 22 [.v (.int .i64 m),.sl 1 ([BV o])] (fun r => ∃ v,IsV r v∧v=.null):=by
 refine hO [] Tryz.f22 (fun a w=>Tryz.call22 a w) Tryz.func22 rfl (⟨_,_,.inl rfl,rfl⟩) ?_
 refine Aa rfl (iQ 1 ?_)
 let Z1:=zT [(0,Ia m),(1,.d (.sl 1 ([BV o]))),(4,.p 4 0)] []
 refine iE 50 Z1 [(4,[.v (.nilIface)])] ?_
 refine Ae (Aa rfl (iQ 2 (jB .lss 3 (.int .i64 (((1:Nat):Int))) (.int .i64 1) 12 ?_)))
 refine An ((by decide)) ?_
 refine iQ 3 (jB .gtr 3 (.int .i64 (((1:Nat):Int))) (.int .i64 2) 16 ?_)
 refine An ((by decide)) ?_
 refine iQ 1 (iE 50 (zT [(17,Ba false)] Z1) [(4,[.v (.nilIface)])] ?_)
 refine iF (Ad (Af (Aa rfl (iQ 1 (Bi (q:=0) (n:=1) (cs:=([BV o])) (d:=.bx (o).enc) (dst:=(some 21)) (by kernel_rfl) (by omega) (rfl) ?_)))))
 refine iQ 1 (eC 67 [.agg [.bx (o).enc]] 23 (Ke h) (iQ 6 ?_))
 let Z2:=zH [(4,[.v (.nilIface)]),(5,[Bv false,Hw 0,Lw 0,Iv 0])] []
 refine iE 50 (zT [(5,.p 5 0),(6,Ba false),(17,Ba false)] Z1) Z2 ?_
 refine Aa rfl (iQ 1 (eC 68 [.sl 1 ([BV o])] 28 (Vk) (iQ 5 ?_)))
 let Z3:=zT [(5,.p 5 0),(6,Ba false),(7,Ia 0),(8,Ba true),(17,Ba false)] []
 refine iE 50 (zT Z3 Z1) Z2 ?_
 refine Ae (Aa rfl (iQ 1 (jU .not (.bool false) 32 ?_)))
 refine Bn ((by simp)) ?_
 refine iQ 4 ?_
 let Z4:=zT [(5,.p 5 0),(6,Ba false),(7,Ia 0),(17,Ba false),(36,Ba true)] []
 refine iE 50 (zT Z4 Z1) Z2 ?_
 refine iT (Aa rfl (iQ 2 (iE 50 (zT Z4 Z1) Z2 ?_)))
 refine Ab (Ag (iR (.agg [.v (.nilIface)]) ?_))
 exact ⟨.null,IsV.null,rfl⟩
theorem b1z {m:Int}:HasC Tryz.prog 22 [.v (.int .i64 m),.sl 0 ([])] (fun r => ∃ v,IsV r v∧v=.null):=by
 refine hO [] Tryz.f22 (fun a w=>Tryz.call22 a w) Tryz.func22 rfl (⟨_,_,.inl rfl,rfl⟩) ?_
 refine Aa rfl (iQ 1 ?_)
 let Z1:=zT [(0,Ia m),(1,.d (.sl 0 ([]))),(4,.p 4 0)] []
 refine iE 50 Z1 [(4,[.v (.nilIface)])] ?_
 refine Ae (Aa rfl (iQ 2 (jB .lss 3 (.int .i64 (((0:Nat):Int))) (.int .i64 1) 12 ?_)))
 refine Bn ((by decide)) ?_
 refine iQ 5 (iE 50 (zT [(17,Ba true)] Z1) [(4,[.v (.nilIface)])] ?_)
 refine iT (Aa rfl (iQ 2 (iE 50 (zT [(17,Ba true)] Z1) [(4,[.v (.nilIface)])] ?_)))
 refine Ab (Ag (iR (.agg [.v (.nilIface)]) ?_))
 exact ⟨.null,IsV.null,rfl⟩
theorem b0d {x y z:D3} {m:Int}:HasC Tryz.prog 22 [.v (.int .i64 m),.sl 3 ([BV (.num x.g x.n x.e),BV (.num y.g y.n y.e),BV (.num z.g z.n z.e)])] (fun r => ∃ v,IsV r v∧v=.null):=by
 refine hO [] Tryz.f22 (fun a w=>Tryz.call22 a w) Tryz.func22 rfl (⟨_,_,.inl rfl,rfl⟩) ?_
 refine Aa rfl (iQ 1 ?_)
 let Z1:=zT [(1,.d (.sl 3 ([BV (.num x.g x.n x.e),BV (.num y.g y.n y.e),BV (.num z.g z.n z.e)])))] []
 refine iE 50 (zT [(0,Ia m),(4,.p 4 0)] Z1) [(4,[.v (.nilIface)])] ?_
 refine Ae (Aa rfl (iQ 2 (jB .lss 3 (.int .i64 (((3:Nat):Int))) (.int .i64 1) 12 ?_)))
 refine An ((by decide)) ?_
 refine iQ 3 (jB .gtr 3 (.int .i64 (((3:Nat):Int))) (.int .i64 2) 16 ?_)
 refine Bn ((by decide)) ?_
 refine iQ 1 (iE 50 (zT [(0,Ia m),(4,.p 4 0),(17,Ba true)] Z1) [(4,[.v (.nilIface)])] ?_)
 refine iT (Aa rfl (iQ 2 (iE 50 (zT [(0,Ia m),(4,.p 4 0),(17,Ba true)] Z1) [(4,[.v (.nilIface)])] ?_)))
 refine Ab (Ag (iR (.agg [.v (.nilIface)]) ?_))
 exact ⟨.null,IsV.null,rfl⟩
theorem b0s {x y:D3} {m n:Int} (h0 : -9223372036854775808≤n) (h1:n≤9223372036854775807) (hy:y.vl=Ot n):HasC Tryz.prog 22 [.v (.int .i64 m),.sl 2 [BV (.num x.g x.n x.e),BV (.num y.g y.n y.e)]] (fun r => ∃ v,r=VV v∧v=Dz (Cf (Ec m x n))):=HasC.isV (q:=fun v=>v=Dz (Cf (Ec m x n))) (a9a h0 h1 hy)
theorem b2e {x:D3} {m:Int}:HasC Tryz.prog 22 [.v (.int .i64 m),.sl 1 [BV (.num x.g x.n x.e)]] (fun r => ∃ v,r=VV v∧v=Dz (Cf (Ec m x 0))):=HasC.isV (q:=fun v=>v=Dz (Cf (Ec m x 0))) a7s
theorem a6k {o:Vl} {m:Int} (h:o.isNum=false):HasC Tryz.prog 22 [.v (.int .i64 m),.sl 1 [BV o]] (fun y=>y=VV .null):=Sb (a5r h)
theorem a83 {m:Int}:HasC Tryz.prog 22 [.v (.int .i64 m),.sl 0 []] (fun y=>y=VV .null):=Sb b1z
theorem a8a {x y z:D3} {m:Int}:HasC Tryz.prog 22 [.v (.int .i64 m),.sl 3 [BV (.num x.g x.n x.e),BV (.num y.g y.n y.e),BV (.num z.g z.n z.e)]] (fun y=>y=VV .null):=Sb b0d
end Go.Proofs.YtdkgnmiiibpnnaaGreatDoor
