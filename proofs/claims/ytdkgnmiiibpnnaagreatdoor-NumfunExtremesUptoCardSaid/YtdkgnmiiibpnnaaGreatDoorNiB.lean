/- casuistlaw20.NumfunExtremes: the law. -/
import Derived.Test.YtdkgnmiiibpnnaaGreatDoorNiA
import Derived.Test.YtdkgnmiiibpnnaaGreatDoorNfZ
import Derived.Test.YtdkgnmiiibpnnaaGreatDoorMkV
namespace Go.Proofs.YtdkgnmiiibpnnaaGreatDoor
open Go.RowKit
set_option linter.unusedVariables false
set_option linter.unusedSimpArgs false
set_option maxRecDepth 100000
def Su (k:Nat):List Vl→Prop
 | []=>False
 | v::r=>(3≤v.kindI∧v.kindI≤9) ∧ ∀ x ∈ r.take (k-1),(Cd x v).isSome=true
theorem Zm {v:Vl} {r:List Vl} {b:Bool} (h:b=true↔3≤v.kindI∧v.kindI≤9):b=true↔Su 1 (v::r):=by
 rw[h]
 simp[Su]
theorem Vb {v x:Vl} {r vs:List Vl} {k:Nat} {a ok:Bool} (hv:vs=v::r) (h1:1≤k) (hx:vs[k]? = some x) (ha:a=true↔Su k vs) (hn:ok=false→Cd x v=none) (hy:ok=true → ∃ c,Cd x v=some c):(a=true∧ok=true)↔Su (k+1) vs:=by
 subst hv
 obtain ⟨j,rfl⟩ : ∃ j,k=j+1:=⟨k-1,by omega⟩
 have hx':r[j]? = some x:=by simpa using hx
 have e:r.take (j+1+1-1)=r.take j ++ [x]:=by
  rw[show j+1+1-1=j+1 by omega,List.take_add_one,hx'];rfl
 rw[ha,Su,Su,e,show j+1-1=j by omega]
 have ho:ok=true↔(Cd x v).isSome=true:=by
  cases ok with
  | false=>rw[hn rfl];simp
  | true=>obtain ⟨c,hc⟩:=hy rfl;rw[hc];simp
 rw[ho]
 constructor
 ·rintro ⟨⟨h1,h2⟩,h3⟩
  refine ⟨h1,fun y hy => ?_⟩
  rcases List.mem_append.1 hy with q | q
  ·exact h2 y q
  ·rw[List.mem_singleton.1 q];exact h3
 ·rintro ⟨h1,h2⟩
  exact ⟨⟨h1,fun y hy=>h2 y (List.mem_append_left _ hy)⟩,h2 x (by simp)⟩
theorem a05 {vs:List Vl} {k:Nat} {a:Bool} (h1:k=vs.length) (ha:a=true↔Su k vs):a=true↔Lz vs:=by
 subst h1
 rw[ha]
 cases vs with
 | nil=>simp[Su,Lz]
 | cons v r=>simp[Su,Lz]
theorem a35 {x y:Bool} {P Q:Prop} (h1:x=true↔Q) (h2:Q ↔ ¬ P) (h3:y=true↔P) : ¬ x=y:=by
 rw[h2] at h1
 by_cases hP:P<;>cases x<;>cases y<;>simp_all
theorem Ny {v:Vl} (h:v.kindI=1):HasC Tryz.prog 17 [VV v] (fun y=>y=.v (.bool true)):=(Xl v).mono fun y hy=>by rw[hy,(Yw v).2 h]
theorem a98 {vs:List Vl} (h:0<vs.length) : ∃ v r,vs=v::r:=by
 cases vs with
 | nil=>simp at h
 | cons v r=>exact ⟨v,r,rfl⟩
theorem Nc {s:Int} {vs:List Vl} {w:Vl} (h:ExQ s vs w) (hA:Lz vs):3≤w.kindI∧w.kindI≤9:=by
 rcases h with ⟨_,h⟩ | ⟨_,_,h⟩
 ·exact absurd hA h
 ·exact h
theorem Xh {s:Int} {vs:List Vl} {w:Vl} (h:ExQ s vs w) (hv:okL vs):w.ok:=by
 rcases h with ⟨rfl,_⟩ | ⟨_,h,_⟩
 ·exact Bw
 ·exact Eu.1 hv w (Kn h)
set_option maxHeartbeats 6400000 in
theorem Ou {ds:List Dm} (hd:Et ds) (hl:ds.length≤1048576):HasC Tryz.prog 5 [.sl ((ds).length) (As (ds))] (fun r=>r=.v (.bool true)):=by
 refine hO [] Tryz.f5 (fun a w=>Tryz.call5 a w) Tryz.func5 rfl (⟨_,rfl⟩) ?_
 refine Aa rfl (iQ 1 ?_)
 let Z1:=zT [(0,.d (.sl ((ds).length) (As (ds)))),(2,Ba false)] []
 refine iE 110 Z1 [] ?_
 refine Ae (Aa rfl (eC 6 [] 11 (a5q) (jU .not (.bool true) 12 ?_)))
 refine An ((by simp)) ?_
 refine iE 110 (zT [(12,Ba false)] Z1) [] ?_
 refine iF (Ad (Af (Aa rfl (iQ 1 (iE 110 (zT [(3,.w (.sl 0 []) none),(12,Ba false)] Z1) [] ?_)))))
 refine Ae (Aa rfl (iQ 1 ?_))
 let Z2:=zT [(3,.w (.sl 0 []) none),(4,Ia 0),(12,Ba false)] []
 refine iE 110 (zT Z2 Z1) [] ?_
 refine Aj (Bm 110 (fun (vcx:Nat×(List Vl)×Int)=>match vcx with | (j,vs,z)=>[(0,.d (.sl ((ds).length) (As (ds)))),(2,Ba false),(3,.w (.sl ((vs).length) (Ap (vs))) (some ⟨3,0,39,1⟩)),(4,Ia z),(12,Ba false)]) (fun (vcx:Nat×(List Vl)×Int)=>match vcx with | (j,vs,z)=>[]) (fun (vcx:Nat×(List Vl)×Int)=>match vcx with | (j,vs,z)=>z=j∧j≤ds.length∧vs.length=j∧okL vs∧j≤10) (fun (vcx:Nat×(List Vl)×Int)=>match vcx with | (j,vs,z)=>ds.length-j) ((0,[],0)) (⟨rfl,Nat.zero_le _,rfl,by rw[okL];trivial,by omega⟩) (by kernel_rfl) (by kernel_rfl) ?_)
 rintro ⟨j,vs,z⟩ hinv
 simp only at hinv
 obtain ⟨h1,h2,h3,h4,h5⟩:=hinv
 refine Ae (Aa rfl (iQ 3 (jB .lss 3 (.int .i64 z) (.int .i64 ((((ds).length:Nat):Int))) 16 ?_)))
 intro c16 hc16
 refine iQ 1 ?_
 cases c16
 ·replace hc16:=bf hc16
  refine iQ 3 ?_
  let Z3:=zT [(3,.w (.sl ((vs).length) (Ap (vs))) (some ⟨3,0,39,1⟩))] []
  refine iE 110 (zT [(4,Ia z),(12,Ba false),(20,Ba false)] (zT Z3 Z1)) [] ?_
  refine iF (Bf (Ca (Bn (Bg rfl (Af (Aa rfl (iQ 1 (jC 35 [.sl ((vs).length) (Ap (vs)),Bv false] 32 (Kx (s:=1) h4 (by omega) (.inr ⟨rfl,rfl⟩)) ?_))))))))
  rintro _ ⟨lo,rfl,hlo⟩
  refine iQ 1 (jC 35 [.sl ((vs).length) (Ap (vs)),Bv true] 34 (Kx (s := -1) h4 (by omega) (.inl ⟨rfl,rfl⟩)) ?_)
  rintro _ ⟨hi,rfl,hhi⟩
  have olo:=Xh hlo h4
  have ohi:=Xh hhi h4
  refine iQ 4 ?_
  let Z4:=zT [(4,Ia z),(5,.p 5 0),(6,.p 6 0),(12,Ba false),(20,Ba false)] []
  let Z5:=zT Z4 (zT Z3 Z1)
  refine iE 110 Z5 [(5,[.bx (lo).enc]),(6,[.bx (hi).enc])] ?_
  refine Aa rfl (iQ 2 (jB .gtr 3 (.int .i64 ((((vs).length:Nat):Int))) (.int .i64 0) 37 ?_))
  intro c37 hc37
  refine iQ 1 ?_
  cases c37
  ·replace hc37:=bf hc37
   refine iQ 7 (iE 110 (zT [(7,Ba false)] Z5) [(5,[.bx (lo).enc]),(6,[.bx (hi).enc])] ?_)
   have hnA : ¬ Lz vs:=by have:vs=[]:=List.length_eq_zero_iff.1 (by omega);rw[this];exact fun h=>h
   refine Ae (Aa rfl (iQ 1 (iE 110 (zT [(7,Ba false),(8,Ia 1)] Z5) [(5,[.bx (lo).enc]),(6,[.bx (hi).enc])] ?_)))
   refine Aj (Bm 110 (fun (vcx:Int)=>match vcx with | zz=>[(0,.d (.sl ((ds).length) (As (ds)))),(2,Ba false),(3,.w (.sl ((vs).length) (Ap (vs))) (some ⟨3,0,39,1⟩)),(4,Ia z),(5,.p 5 0),(6,.p 6 0),(7,Ba false),(8,Ia zz),(12,Ba false),(20,Ba false)]) (fun (vcx:Int)=>match vcx with | zz=>[(5,[.bx (lo).enc]),(6,[.bx (hi).enc])]) (fun (vcx:Int)=>match vcx with | zz=>zz=1) (fun (vcx:Int)=>match vcx with | zz=>0) 1 (rfl) (by kernel_rfl) (by kernel_rfl) ?_)
   rintro zz hinv
   simp only at hinv
   refine Ae (Aa rfl (iQ 3 (jB .lss 3 (.int .i64 zz) (.int .i64 ((((vs).length:Nat):Int))) 48 ?_)))
   refine An ((by omega)) ?_
   refine iE 110 (zT [(7,Ba false),(8,Ia zz),(48,Ba false)] Z5) [(5,[.bx (lo).enc]),(6,[.bx (hi).enc])] ?_
   refine iF (Bf (Ca (Bn (Bg rfl (Af (Ae (Aa rfl (iQ 1 (eC 17 [.agg [.bx (lo).enc]] 67 (Ny ((Fs hlo).2 hnA)) (iQ 1 (jB .eql 4 (.bool true) (.bool false) 69 ?_)))))))))))
   refine An ((by simp)) ?_
   refine iQ 2 (eC 17 [.agg [.bx (hi).enc]] 72 (Ny ((Fs hhi).2 hnA)) (iQ 1 (jB .eql 4 (.bool true) (.bool false) 74 ?_)))
   refine An ((by simp)) ?_
   refine iQ 1 ?_
   let Z6:=zT [(7,Ba false),(8,Ia zz),(48,Ba false),(75,Ba false)] []
   refine iE 110 (zT Z6 Z5) [(5,[.bx (lo).enc]),(6,[.bx (hi).enc])] ?_
   refine iF (Ad (Af (Ae (Aa rfl (iQ 1 (jU .not (.bool false) 77 ?_))))))
   refine Bj ((by simp)) ?_
   refine iE 110 (zT [(77,Ba true)] (zT Z5 Z6)) [(5,[.bx (lo).enc]),(6,[.bx (hi).enc])] ?_
   refine iT (Aa rfl (iQ 1 ?_))
   let Z7:=zT [(0,.d (.sl ((ds).length) (As (ds)))),(2,Ba true),(77,Ba true)] []
   let Z8:=zT Z7 (zT Z4 (zT Z3 Z6))
   refine iE 110 Z8 [(5,[.bx (lo).enc]),(6,[.bx (hi).enc])] ?_
   refine Ab (Ag (iR (Bv true) ?_))
   rfl
  ·replace hc37:=bt hc37
   refine iQ 1 ?_
   obtain ⟨v0,r,hvs⟩:=a98 (vs:=vs) (by omega)
   refine Be (q:=0) (n:=((vs).length)) (cs:=(Ap (vs))) (d:=.bx (v0).enc) (dst:=(some 40)) (by kernel_rfl) (by omega) (by rw[hvs];simp[Ap]) ?_
   refine iQ 1 (eC 20 [.agg [.bx (v0).enc]] 42 (Sx v0) (jC 36 [Iv v0.kindI] 43 (Hj (k:=v0.kindI)) ?_))
   rintro _ ⟨od,rfl,hod⟩
   have ov0:v0.ok:=Eu.1 h4 v0 (by rw[hvs];simp)
   refine iQ 2 (iE 110 (zT [(7,Ba od)] Z5) [(5,[.bx (lo).enc]),(6,[.bx (hi).enc])] ?_)
   refine Ae (Aa rfl (iQ 1 (iE 110 (zT [(7,Ba od),(8,Ia 1)] Z5) [(5,[.bx (lo).enc]),(6,[.bx (hi).enc])] ?_)))
   refine Aj (Bm 110 (fun (vcx:Nat×Int×Bool)=>match vcx with | (k,z2,a)=>[(0,.d (.sl ((ds).length) (As (ds)))),(2,Ba false),(3,.w (.sl ((vs).length) (Ap (vs))) (some ⟨3,0,39,1⟩)),(4,Ia z),(5,.p 5 0),(6,.p 6 0),(7,Ba a),(8,Ia z2),(12,Ba false),(20,Ba false)]) (fun (vcx:Nat×Int×Bool)=>match vcx with | (k,z2,a)=>[(5,[.bx (lo).enc]),(6,[.bx (hi).enc])]) (fun (vcx:Nat×Int×Bool)=>match vcx with | (k,z2,a)=>z2=k∧1≤k∧k≤vs.length∧(a=true↔Su k vs)) (fun (vcx:Nat×Int×Bool)=>match vcx with | (k,z2,a)=>vs.length-k) ((1,1,od)) (⟨rfl,Nat.le_refl _,by omega,by rw[hvs];exact Zm hod⟩) (by kernel_rfl) (by kernel_rfl) ?_)
   rintro ⟨k,z2,a⟩ hinv
   simp only at hinv
   obtain ⟨g1,g2,g3,g4⟩:=hinv
   refine Ae (Aa rfl (iQ 3 (jB .lss 3 (.int .i64 z2) (.int .i64 ((((vs).length:Nat):Int))) 48 ?_)))
   intro c48 hc48
   refine iE 110 (zT [(7,Ba a),(8,Ia z2),(48,Ba c48)] Z5) [(5,[.bx (lo).enc]),(6,[.bx (hi).enc])] ?_
   cases c48
   ·replace hc48:=bf hc48
    have ga:=a05 (by omega) g4
    refine iF (Bf (Ca (Bn (Bg rfl (Af (Ae (Aa rfl (iQ 1 (jC 17 [.agg [.bx (lo).enc]] 67 (Ay (v:=lo)) ?_)))))))))
    rintro _ ⟨n1,rfl,hn1⟩
    refine iQ 1 (jB .eql 4 (.bool n1) (.bool a) 69 ?_)
    refine An ((a35 hn1 (Fs hlo) ga)) ?_
    refine iQ 2 (jC 17 [.agg [.bx (hi).enc]] 72 (Ay (v:=hi)) ?_)
    rintro _ ⟨n2,rfl,hn2⟩
    refine iQ 1 (jB .eql 4 (.bool n2) (.bool a) 74 ?_)
    refine An ((a35 hn2 (Fs hhi) ga)) ?_
    refine iQ 1 ?_
    let Z9:=zT [(7,Ba a),(8,Ia z2),(48,Ba false),(75,Ba false)] []
    refine iE 110 (zT Z9 Z5) [(5,[.bx (lo).enc]),(6,[.bx (hi).enc])] ?_
    refine iF (Ad (Af (Ae (Aa rfl (iQ 1 (jU .not (.bool a) 77 ?_))))))
    intro c77 hc77
    refine iE 110 (zT [(77,Ba c77)] (zT Z5 Z9)) [(5,[.bx (lo).enc]),(6,[.bx (hi).enc])] ?_
    cases c77
    ·replace hc77:=bf hc77
     have hA:Lz vs:=ga.1 (by simpa using hc77)
     have xlo:=Qh hlo hA
     have xhi:=Qh hhi hA
     have clo:=Lb xlo
     have chi:=Lb xhi
     refine iF (Ad (Af (Aa rfl (iQ 2 (eC 38 [.sl ((vs).length) (Ap (vs)),.agg [.bx (lo).enc],Iv (-1)] 80 (Fp (v:=lo) (z := -1) h4 olo (by omega)) (jB .eql 3 (.int .i64 ((Ke lo (-1) vs:Nat))) (.int .i64 0) 81 ?_))))))
     refine Bj ((by rw[Km xlo (by decide)];rfl)) ?_
     refine iQ 3 (eC 38 [.sl ((vs).length) (Ap (vs)),.agg [.bx (hi).enc],Iv 1] 85 (Fp (v:=hi) (z:=1) h4 ohi (by omega)) (jB .eql 3 (.int .i64 ((Ke hi 1 vs:Nat))) (.int .i64 0) 86 ?_))
     refine Bj ((by rw[Km xhi (by decide)];rfl)) ?_
     refine iQ 4 (eC 38 [.sl ((vs).length) (Ap (vs)),.agg [.bx (lo).enc],Iv 0] 91 (Fp (v:=lo) (z:=0) h4 olo (by omega)) (jB .gtr 3 (.int .i64 ((Ke lo 0 vs:Nat))) (.int .i64 0) 92 ?_))
     refine Bj ((by omega)) ?_
     refine iQ 4 (eC 38 [.sl ((vs).length) (Ap (vs)),.agg [.bx (hi).enc],Iv 0] 97 (Fp (v:=hi) (z:=0) h4 ohi (by omega)) (jB .gtr 3 (.int .i64 ((Ke hi 0 vs:Nat))) (.int .i64 0) 98 ?_))
     refine Bj ((by omega)) ?_
     refine iQ 4 (eC 39 [.sl ((vs).length) (Ap (vs)),.agg [.bx (lo).enc]] 103 (Ql h4 xlo (Nc hlo hA) (by omega)) (iQ 4 (eC 39 [.sl ((vs).length) (Ap (vs)),.agg [.bx (hi).enc]] 108 (Ql h4 xhi (Nc hhi hA) (by omega)) (iQ 2 ?_))))
     let Z10:=zT [(0,.d (.sl ((ds).length) (As (ds)))),(2,Ba true),(77,Ba false)] []
     let Z11:=zT Z10 (zT Z4 (zT Z3 Z9))
     refine iE 110 Z11 [(5,[.bx (lo).enc]),(6,[.bx (hi).enc])] ?_
     refine Ab (iR (Bv true) ?_)
     rfl
    ·replace hc77:=bt hc77
     refine iT (Aa rfl (iQ 1 ?_))
     let Z12:=zT [(0,.d (.sl ((ds).length) (As (ds)))),(2,Ba true),(77,Ba true)] []
     let Z13:=zT Z12 (zT Z4 (zT Z3 Z9))
     refine iE 110 Z13 [(5,[.bx (lo).enc]),(6,[.bx (hi).enc])] ?_
     refine Ab (Ag (iR (Bv true) ?_))
     rfl
   ·replace hc48:=bt hc48
    obtain ⟨x,hx⟩ : ∃ x,vs[k]? = some x:=⟨_,List.getElem?_eq_getElem (by omega)⟩
    refine iT (Ad (Af (Ae (Aj (Aa rfl (iQ 2 (Be (q:=z2) (n:=((vs).length)) (cs:=(Ap (vs))) (d:=.bx (x).enc) (dst:=(some 54)) (by kernel_rfl) (by omega) (by rw[g1,Int.toNat_natCast];exact Ec hx) ?_)))))))
    refine iQ 2 (Be (q:=0) (n:=((vs).length)) (cs:=(Ap (vs))) (d:=.bx (v0).enc) (dst:=(some 57)) (by kernel_rfl) (by omega) (by rw[hvs];simp[Ap]) ?_)
    refine iQ 1 (jC 37 [.agg [.bx (x).enc],.agg [.bx (v0).enc]] 59 (Rx (a:=x) (b:=v0) (Eu.1 h4 x (List.mem_of_getElem? hx)) ov0) ?_)
    rintro _ ⟨c,ok,rfl,hno,hye⟩
    have hm:=Vb hvs g2 hx g4 hno (fun e=>⟨_,hye e⟩)
    refine iQ 5 ?_
    let Z14:=zT [(7,Ba a),(8,Ia z2),(10,Ba ok),(48,Ba true)] []
    refine iE 110 (zT Z14 Z5) [(5,[.bx (lo).enc]),(6,[.bx (hi).enc])] ?_
    refine Al rfl (iQ 2 ?_)
    cases a
    ·refine iQ 3 ?_
     let Z15:=zT [(7,Ba false),(8,Ia z2),(10,Ba ok),(48,Ba true)] []
     refine iE 110 (zT Z15 Z5) [(5,[.bx (lo).enc]),(6,[.bx (hi).enc])] ?_
     refine Am (Af (Al rfl (iQ 1 (jB .add 3 (.int .i64 z2) (.int .i64 1) 50 ?_))))
     intro z50 hz50
     try replace hz50:=hz50.i64 (by omega)
     refine iQ 1 ?_
     let Z16:=zT [(7,Ba false),(8,Ia z50),(10,Ba ok),(48,Ba true)] []
     refine iE 110 (zT Z16 Z5) [(5,[.bx (lo).enc]),(6,[.bx (hi).enc])] ?_
     refine Bh (k+1,z50,false) (⟨by omega,by omega,by omega,by rw[← hm];simp⟩) (by simp only;omega) (by kernel_rfl) (by kernel_rfl)
    ·refine iQ 3 ?_
     let Z17:=zT [(7,Ba ok),(8,Ia z2),(10,Ba ok),(48,Ba true)] []
     refine iE 110 (zT Z17 Z5) [(5,[.bx (lo).enc]),(6,[.bx (hi).enc])] ?_
     refine Am (Af (Al rfl (iQ 1 (jB .add 3 (.int .i64 z2) (.int .i64 1) 50 ?_))))
     intro z50 hz50
     try replace hz50:=hz50.i64 (by omega)
     refine iQ 1 ?_
     let Z18:=zT [(7,Ba ok),(8,Ia z50),(10,Ba ok),(48,Ba true)] []
     refine iE 110 (zT Z18 Z5) [(5,[.bx (lo).enc]),(6,[.bx (hi).enc])] ?_
     refine Bh (k+1,z50,ok) (⟨by omega,by omega,by omega,by rw[← hm];simp⟩) (by simp only;omega) (by kernel_rfl) (by kernel_rfl)
 ·replace hc16:=bt hc16
  refine iQ 1 (jB .lss 3 (.int .i64 z) (.int .i64 10) 19 ?_)
  intro c19 hc19
  refine iQ 1 ?_
  let Z19:=zT [(3,.w (.sl ((vs).length) (Ap (vs))) (some ⟨3,0,39,1⟩))] []
  refine iE 110 (zT [(4,Ia z),(12,Ba false),(20,Ba c19)] (zT Z19 Z1)) [] ?_
  cases c19
  ·replace hc19:=bf hc19
   refine iF (Bf (Ca (Bn (Bg rfl (Af (Aa rfl (iQ 1 (jC 35 [.sl ((vs).length) (Ap (vs)),Bv false] 32 (Kx (s:=1) h4 (by omega) (.inr ⟨rfl,rfl⟩)) ?_))))))))
   rintro _ ⟨lo,rfl,hlo⟩
   refine iQ 1 (jC 35 [.sl ((vs).length) (Ap (vs)),Bv true] 34 (Kx (s := -1) h4 (by omega) (.inl ⟨rfl,rfl⟩)) ?_)
   rintro _ ⟨hi,rfl,hhi⟩
   have olo:=Xh hlo h4
   have ohi:=Xh hhi h4
   refine iQ 4 ?_
   let Z20:=zT [(4,Ia z),(5,.p 5 0),(6,.p 6 0),(12,Ba false),(20,Ba false)] []
   let Z21:=zT Z20 (zT Z19 Z1)
   refine iE 110 Z21 [(5,[.bx (lo).enc]),(6,[.bx (hi).enc])] ?_
   refine Aa rfl (iQ 2 (jB .gtr 3 (.int .i64 ((((vs).length:Nat):Int))) (.int .i64 0) 37 ?_))
   intro c37 hc37
   refine iQ 1 ?_
   cases c37
   ·replace hc37:=bf hc37
    refine iQ 7 (iE 110 (zT [(7,Ba false)] Z21) [(5,[.bx (lo).enc]),(6,[.bx (hi).enc])] ?_)
    have hnA : ¬ Lz vs:=by have:vs=[]:=List.length_eq_zero_iff.1 (by omega);rw[this];exact fun h=>h
    refine Ae (Aa rfl (iQ 1 (iE 110 (zT [(7,Ba false),(8,Ia 1)] Z21) [(5,[.bx (lo).enc]),(6,[.bx (hi).enc])] ?_)))
    refine Aj (Bm 110 (fun (vcx:Int)=>match vcx with | zz=>[(0,.d (.sl ((ds).length) (As (ds)))),(2,Ba false),(3,.w (.sl ((vs).length) (Ap (vs))) (some ⟨3,0,39,1⟩)),(4,Ia z),(5,.p 5 0),(6,.p 6 0),(7,Ba false),(8,Ia zz),(12,Ba false),(20,Ba false)]) (fun (vcx:Int)=>match vcx with | zz=>[(5,[.bx (lo).enc]),(6,[.bx (hi).enc])]) (fun (vcx:Int)=>match vcx with | zz=>zz=1) (fun (vcx:Int)=>match vcx with | zz=>0) 1 (rfl) (by kernel_rfl) (by kernel_rfl) ?_)
    rintro zz hinv
    simp only at hinv
    refine Ae (Aa rfl (iQ 3 (jB .lss 3 (.int .i64 zz) (.int .i64 ((((vs).length:Nat):Int))) 48 ?_)))
    refine An ((by omega)) ?_
    refine iE 110 (zT [(7,Ba false),(8,Ia zz),(48,Ba false)] Z21) [(5,[.bx (lo).enc]),(6,[.bx (hi).enc])] ?_
    refine iF (Bf (Ca (Bn (Bg rfl (Af (Ae (Aa rfl (iQ 1 (eC 17 [.agg [.bx (lo).enc]] 67 (Ny ((Fs hlo).2 hnA)) (iQ 1 (jB .eql 4 (.bool true) (.bool false) 69 ?_)))))))))))
    refine An ((by simp)) ?_
    refine iQ 2 (eC 17 [.agg [.bx (hi).enc]] 72 (Ny ((Fs hhi).2 hnA)) (iQ 1 (jB .eql 4 (.bool true) (.bool false) 74 ?_)))
    refine An ((by simp)) ?_
    refine iQ 1 ?_
    let Z22:=zT [(7,Ba false),(8,Ia zz),(48,Ba false),(75,Ba false)] []
    refine iE 110 (zT Z22 Z21) [(5,[.bx (lo).enc]),(6,[.bx (hi).enc])] ?_
    refine iF (Ad (Af (Ae (Aa rfl (iQ 1 (jU .not (.bool false) 77 ?_))))))
    refine Bj ((by simp)) ?_
    refine iE 110 (zT [(77,Ba true)] (zT Z21 Z22)) [(5,[.bx (lo).enc]),(6,[.bx (hi).enc])] ?_
    refine iT (Aa rfl (iQ 1 ?_))
    let Z23:=zT [(0,.d (.sl ((ds).length) (As (ds)))),(2,Ba true),(77,Ba true)] []
    let Z24:=zT Z23 (zT Z20 (zT Z19 Z22))
    refine iE 110 Z24 [(5,[.bx (lo).enc]),(6,[.bx (hi).enc])] ?_
    refine Ab (Ag (iR (Bv true) ?_))
    rfl
   ·replace hc37:=bt hc37
    refine iQ 1 ?_
    obtain ⟨v0,r,hvs⟩:=a98 (vs:=vs) (by omega)
    refine Be (q:=0) (n:=((vs).length)) (cs:=(Ap (vs))) (d:=.bx (v0).enc) (dst:=(some 40)) (by kernel_rfl) (by omega) (by rw[hvs];simp[Ap]) ?_
    refine iQ 1 (eC 20 [.agg [.bx (v0).enc]] 42 (Sx v0) (jC 36 [Iv v0.kindI] 43 (Hj (k:=v0.kindI)) ?_))
    rintro _ ⟨od,rfl,hod⟩
    have ov0:v0.ok:=Eu.1 h4 v0 (by rw[hvs];simp)
    refine iQ 2 (iE 110 (zT [(7,Ba od)] Z21) [(5,[.bx (lo).enc]),(6,[.bx (hi).enc])] ?_)
    refine Ae (Aa rfl (iQ 1 (iE 110 (zT [(7,Ba od),(8,Ia 1)] Z21) [(5,[.bx (lo).enc]),(6,[.bx (hi).enc])] ?_)))
    refine Aj (Bm 110 (fun (vcx:Nat×Int×Bool)=>match vcx with | (k,z2,a)=>[(0,.d (.sl ((ds).length) (As (ds)))),(2,Ba false),(3,.w (.sl ((vs).length) (Ap (vs))) (some ⟨3,0,39,1⟩)),(4,Ia z),(5,.p 5 0),(6,.p 6 0),(7,Ba a),(8,Ia z2),(12,Ba false),(20,Ba false)]) (fun (vcx:Nat×Int×Bool)=>match vcx with | (k,z2,a)=>[(5,[.bx (lo).enc]),(6,[.bx (hi).enc])]) (fun (vcx:Nat×Int×Bool)=>match vcx with | (k,z2,a)=>z2=k∧1≤k∧k≤vs.length∧(a=true↔Su k vs)) (fun (vcx:Nat×Int×Bool)=>match vcx with | (k,z2,a)=>vs.length-k) ((1,1,od)) (⟨rfl,Nat.le_refl _,by omega,by rw[hvs];exact Zm hod⟩) (by kernel_rfl) (by kernel_rfl) ?_)
    rintro ⟨k,z2,a⟩ hinv
    simp only at hinv
    obtain ⟨g1,g2,g3,g4⟩:=hinv
    refine Ae (Aa rfl (iQ 3 (jB .lss 3 (.int .i64 z2) (.int .i64 ((((vs).length:Nat):Int))) 48 ?_)))
    intro c48 hc48
    refine iE 110 (zT [(7,Ba a),(8,Ia z2),(48,Ba c48)] Z21) [(5,[.bx (lo).enc]),(6,[.bx (hi).enc])] ?_
    cases c48
    ·replace hc48:=bf hc48
     have ga:=a05 (by omega) g4
     refine iF (Bf (Ca (Bn (Bg rfl (Af (Ae (Aa rfl (iQ 1 (jC 17 [.agg [.bx (lo).enc]] 67 (Ay (v:=lo)) ?_)))))))))
     rintro _ ⟨n1,rfl,hn1⟩
     refine iQ 1 (jB .eql 4 (.bool n1) (.bool a) 69 ?_)
     refine An ((a35 hn1 (Fs hlo) ga)) ?_
     refine iQ 2 (jC 17 [.agg [.bx (hi).enc]] 72 (Ay (v:=hi)) ?_)
     rintro _ ⟨n2,rfl,hn2⟩
     refine iQ 1 (jB .eql 4 (.bool n2) (.bool a) 74 ?_)
     refine An ((a35 hn2 (Fs hhi) ga)) ?_
     refine iQ 1 ?_
     let Z25:=zT [(7,Ba a),(8,Ia z2),(48,Ba false),(75,Ba false)] []
     refine iE 110 (zT Z25 Z21) [(5,[.bx (lo).enc]),(6,[.bx (hi).enc])] ?_
     refine iF (Ad (Af (Ae (Aa rfl (iQ 1 (jU .not (.bool a) 77 ?_))))))
     intro c77 hc77
     refine iE 110 (zT [(77,Ba c77)] (zT Z21 Z25)) [(5,[.bx (lo).enc]),(6,[.bx (hi).enc])] ?_
     cases c77
     ·replace hc77:=bf hc77
      have hA:Lz vs:=ga.1 (by simpa using hc77)
      have xlo:=Qh hlo hA
      have xhi:=Qh hhi hA
      have clo:=Lb xlo
      have chi:=Lb xhi
      refine iF (Ad (Af (Aa rfl (iQ 2 (eC 38 [.sl ((vs).length) (Ap (vs)),.agg [.bx (lo).enc],Iv (-1)] 80 (Fp (v:=lo) (z := -1) h4 olo (by omega)) (jB .eql 3 (.int .i64 ((Ke lo (-1) vs:Nat))) (.int .i64 0) 81 ?_))))))
      refine Bj ((by rw[Km xlo (by decide)];rfl)) ?_
      refine iQ 3 (eC 38 [.sl ((vs).length) (Ap (vs)),.agg [.bx (hi).enc],Iv 1] 85 (Fp (v:=hi) (z:=1) h4 ohi (by omega)) (jB .eql 3 (.int .i64 ((Ke hi 1 vs:Nat))) (.int .i64 0) 86 ?_))
      refine Bj ((by rw[Km xhi (by decide)];rfl)) ?_
      refine iQ 4 (eC 38 [.sl ((vs).length) (Ap (vs)),.agg [.bx (lo).enc],Iv 0] 91 (Fp (v:=lo) (z:=0) h4 olo (by omega)) (jB .gtr 3 (.int .i64 ((Ke lo 0 vs:Nat))) (.int .i64 0) 92 ?_))
      refine Bj ((by omega)) ?_
      refine iQ 4 (eC 38 [.sl ((vs).length) (Ap (vs)),.agg [.bx (hi).enc],Iv 0] 97 (Fp (v:=hi) (z:=0) h4 ohi (by omega)) (jB .gtr 3 (.int .i64 ((Ke hi 0 vs:Nat))) (.int .i64 0) 98 ?_))
      refine Bj ((by omega)) ?_
      refine iQ 4 (eC 39 [.sl ((vs).length) (Ap (vs)),.agg [.bx (lo).enc]] 103 (Ql h4 xlo (Nc hlo hA) (by omega)) (iQ 4 (eC 39 [.sl ((vs).length) (Ap (vs)),.agg [.bx (hi).enc]] 108 (Ql h4 xhi (Nc hhi hA) (by omega)) (iQ 2 ?_))))
      let Z26:=zT [(0,.d (.sl ((ds).length) (As (ds)))),(2,Ba true),(77,Ba false)] []
      let Z27:=zT Z26 (zT Z20 (zT Z19 Z25))
      refine iE 110 Z27 [(5,[.bx (lo).enc]),(6,[.bx (hi).enc])] ?_
      refine Ab (iR (Bv true) ?_)
      rfl
     ·replace hc77:=bt hc77
      refine iT (Aa rfl (iQ 1 ?_))
      let Z28:=zT [(0,.d (.sl ((ds).length) (As (ds)))),(2,Ba true),(77,Ba true)] []
      let Z29:=zT Z28 (zT Z20 (zT Z19 Z25))
      refine iE 110 Z29 [(5,[.bx (lo).enc]),(6,[.bx (hi).enc])] ?_
      refine Ab (Ag (iR (Bv true) ?_))
      rfl
    ·replace hc48:=bt hc48
     obtain ⟨x,hx⟩ : ∃ x,vs[k]? = some x:=⟨_,List.getElem?_eq_getElem (by omega)⟩
     refine iT (Ad (Af (Ae (Aj (Aa rfl (iQ 2 (Be (q:=z2) (n:=((vs).length)) (cs:=(Ap (vs))) (d:=.bx (x).enc) (dst:=(some 54)) (by kernel_rfl) (by omega) (by rw[g1,Int.toNat_natCast];exact Ec hx) ?_)))))))
     refine iQ 2 (Be (q:=0) (n:=((vs).length)) (cs:=(Ap (vs))) (d:=.bx (v0).enc) (dst:=(some 57)) (by kernel_rfl) (by omega) (by rw[hvs];simp[Ap]) ?_)
     refine iQ 1 (jC 37 [.agg [.bx (x).enc],.agg [.bx (v0).enc]] 59 (Rx (a:=x) (b:=v0) (Eu.1 h4 x (List.mem_of_getElem? hx)) ov0) ?_)
     rintro _ ⟨c,ok,rfl,hno,hye⟩
     have hm:=Vb hvs g2 hx g4 hno (fun e=>⟨_,hye e⟩)
     refine iQ 5 ?_
     let Z30:=zT [(7,Ba a),(8,Ia z2),(10,Ba ok),(48,Ba true)] []
     refine iE 110 (zT Z30 Z21) [(5,[.bx (lo).enc]),(6,[.bx (hi).enc])] ?_
     refine Al rfl (iQ 2 ?_)
     cases a
     ·refine iQ 3 ?_
      let Z31:=zT [(7,Ba false),(8,Ia z2),(10,Ba ok),(48,Ba true)] []
      refine iE 110 (zT Z31 Z21) [(5,[.bx (lo).enc]),(6,[.bx (hi).enc])] ?_
      refine Am (Af (Al rfl (iQ 1 (jB .add 3 (.int .i64 z2) (.int .i64 1) 50 ?_))))
      intro z50 hz50
      try replace hz50:=hz50.i64 (by omega)
      refine iQ 1 ?_
      let Z32:=zT [(7,Ba false),(8,Ia z50),(10,Ba ok),(48,Ba true)] []
      refine iE 110 (zT Z32 Z21) [(5,[.bx (lo).enc]),(6,[.bx (hi).enc])] ?_
      refine Bh (k+1,z50,false) (⟨by omega,by omega,by omega,by rw[← hm];simp⟩) (by simp only;omega) (by kernel_rfl) (by kernel_rfl)
     ·refine iQ 3 ?_
      let Z33:=zT [(7,Ba ok),(8,Ia z2),(10,Ba ok),(48,Ba true)] []
      refine iE 110 (zT Z33 Z21) [(5,[.bx (lo).enc]),(6,[.bx (hi).enc])] ?_
      refine Am (Af (Al rfl (iQ 1 (jB .add 3 (.int .i64 z2) (.int .i64 1) 50 ?_))))
      intro z50 hz50
      try replace hz50:=hz50.i64 (by omega)
      refine iQ 1 ?_
      let Z34:=zT [(7,Ba ok),(8,Ia z50),(10,Ba ok),(48,Ba true)] []
      refine iE 110 (zT Z34 Z21) [(5,[.bx (lo).enc]),(6,[.bx (hi).enc])] ?_
      refine Bh (k+1,z50,ok) (⟨by omega,by omega,by omega,by rw[← hm];simp⟩) (by simp only;omega) (by kernel_rfl) (by kernel_rfl)
  ·replace hc19:=bt hc19
   have hj:j<ds.length:=by omega
   obtain ⟨⟨k',t',is',ns',p',q'⟩,hm⟩ : ∃ d,ds[j]? = some d:=⟨_,List.getElem?_eq_getElem hj⟩
   have hsm:=Md.1 hd _ (List.mem_of_getElem? hm)
   refine iT (Ad (Af (Ae (Aj (Al rfl (iQ 3 (Dt (q:=z) (n:=((ds).length)) (cs:=(As (ds))) (z:=6) (ds:=[.v (.int .i64 k'),.v (.string (tx t')),.sl ((is').length) (As (is')),.sl ((ns').length) (Bo (ns')),.v (.bool p'),.v (.bool q')]) (dst:=(some 26)) (by kernel_rfl) (by omega) (by rw[h1,Int.toNat_natCast];exact (Iq hm).trans (by rw[Dm.cells])) ?_)))))))
   refine iQ 1 (jC 19 [.agg [Iv k',Sv (tx t'),.sl ((is').length) (As (is')),.sl ((ns').length) (Bo (ns')),Bv p',Bv q']] 28 (a8w hsm) ?_)
   rintro _ ⟨v,rfl,ov⟩
   refine iQ 1 (Fd (n:=((vs).length)) (cs:=(Ap (vs))) (m:=1) (ds:=[.bx (v).enc]) (N:=((vs ++ [v]).length)) (es:=(Ap (vs ++ [v]))) (j:=3) (e:=39) (z:=1) (dst:=(some 30)) (by kernel_rfl) (by first | rfl | omega | (rw[Nat.mul_one];exact Ch _) | (simp[dg];done) | (simp[dg];omega)) (by first | rfl | omega | (rw[Nat.mul_one];exact Ch _) | (simp[dg];done) | (simp[dg];omega)) (rfl) (by omega) (by simp) (Oo) ?_)
   refine iQ 1 ?_
   let Z35:=zT [(3,.w (.sl ((vs ++ [v]).length) (Ap (vs ++ [v]))) (some ⟨3,0,39,1⟩))] []
   refine iE 110 (zT [(4,Ia z),(12,Ba false),(20,Ba true)] (zT Z35 Z1)) [] ?_
   refine Am (Af (Al rfl (iQ 1 (jB .add 3 (.int .i64 z) (.int .i64 1) 22 ?_))))
   intro z22 hz22
   try replace hz22:=hz22.i64 (by omega)
   refine iQ 1 (iE 110 (zT [(4,Ia z22),(12,Ba false),(20,Ba true)] (zT Z35 Z1)) [] ?_)
   refine Bh (j+1,vs ++ [v],z22) (⟨by omega,by omega,by simp;omega,Rr h4 ov,by omega⟩) (by show ds.length-(j+1)<ds.length-j;omega) (by kernel_rfl) (by kernel_rfl)
end Go.Proofs.YtdkgnmiiibpnnaaGreatDoor
