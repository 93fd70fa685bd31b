/- ListfunTruths. -/
import Derived.Test.YtfkfpkhgoijfdaaGreatDoorLfS
namespace Go.Proofs.YtfkfpkhgoijfdaaGreatDoor
open Go.RowKit
set_option linter.unusedVariables false
set_option linter.unusedSimpArgs false
set_option maxRecDepth 100000
theorem a96 {ds:List Dm} (hd:Eg ds) (hl:ds.length≤1048576):HasC Tryz.prog 8 [.sl ((ds).length) (Ai (ds))] (fun r => ∃ vs:List Vl,r=.sl vs.length (Aq vs)∧okL vs∧vs.length≤12):=by
 refine hO [] Tryz.f8 (fun a w=>Tryz.call8 a w) Tryz.func8 rfl (⟨_,[],rfl,by rw[okL];trivial,by decide⟩) ?_
 refine Aa rfl (iQ 1 ?_)
 let Z1:=zT [(0,.d (.sl ((ds).length) (Ai (ds)))),(2,.w (.sl 0 []) none)] []
 refine iE 24 Z1 [] ?_
 refine Aa rfl (iQ 1 (iE 24 (zT [(3,.w (.sl 0 []) none)] Z1) [] ?_))
 refine Af (Aa rfl (iQ 1 (iE 24 (zT [(3,.w (.sl 0 []) none),(4,Ia 0)] Z1) [] ?_)))
 refine An (Bp 24 (fun (vcx:Nat×(List Vl)×Int)=>match vcx with | (j,vs,z)=>[(0,.d (.sl ((ds).length) (Ai (ds)))),(2,.w (.sl 0 []) none),(3,.w (.sl ((vs).length) (Aq (vs))) (some ⟨3,0,36,1⟩)),(4,Ia z)]) (fun (vcx:Nat×(List Vl)×Int)=>match vcx with | (j,vs,z)=>[]) (fun (vcx:Nat×(List Vl)×Int)=>match vcx with | (j,vs,z)=>z=j∧j≤ds.length∧vs.length=j∧okL vs∧j≤12) (fun (vcx:Nat×(List Vl)×Int)=>match vcx with | (j,vs,z)=>ds.length-j) ((0,[],0)) (⟨rfl,Nat.zero_le _,rfl,by rw[okL];trivial,by omega⟩) (by kernel_rfl) (by kernel_rfl) ?_)
 rintro ⟨j,vs,z⟩ hinv
 simp only at hinv
 obtain ⟨h1,h2,h3,h4,h5⟩:=hinv
 refine Af (Aa rfl (iQ 3 (jB .lss 3 (.int .i64 z) (.int .i64 ((((ds).length:Nat):Int))) 8 ?_)))
 intro c8 hc8
 refine iQ 1 ?_
 cases c8
 ·replace hc8:=bf hc8
  refine iQ 3 ?_
  let Z2:=zT [(3,.w (.sl ((vs).length) (Aq (vs))) (some ⟨3,0,36,1⟩))] []
  refine iE 24 (zT [(4,Ia z),(12,Ba false)] (zT Z2 Z1)) [] ?_
  refine iF (Bk (Cj (Bt (Bl rfl (Ae (Aa rfl (iQ 2 ?_)))))))
  let Z3:=zT [(2,.w (.sl ((vs).length) (Aq (vs))) (some ⟨3,0,36,1⟩))] []
  let Z4:=zT [(0,.d (.sl ((ds).length) (Ai (ds)))),(4,Ia z),(12,Ba false)] []
  let Z5:=zT Z4 (zT Z3 Z2)
  refine iE 24 Z5 [] ?_
  refine Ab (iR (.sl ((vs).length) (Aq (vs))) ?_)
  exact ⟨vs,rfl,h4,by omega⟩
 ·replace hc8:=bt hc8
  refine iQ 1 (jB .lss 3 (.int .i64 z) (.int .i64 12) 11 ?_)
  intro c11 hc11
  refine iQ 1 ?_
  let Z6:=zT [(3,.w (.sl ((vs).length) (Aq (vs))) (some ⟨3,0,36,1⟩))] []
  refine iE 24 (zT [(4,Ia z),(12,Ba c11)] (zT Z6 Z1)) [] ?_
  cases c11
  ·replace hc11:=bf hc11
   refine iF (Bk (Cj (Bt (Bl rfl (Ae (Aa rfl (iQ 2 ?_)))))))
   let Z7:=zT [(2,.w (.sl ((vs).length) (Aq (vs))) (some ⟨3,0,36,1⟩))] []
   let Z8:=zT [(0,.d (.sl ((ds).length) (Ai (ds)))),(4,Ia z),(12,Ba false)] []
   let Z9:=zT Z8 (zT Z7 Z6)
   refine iE 24 Z9 [] ?_
   refine Ab (iR (.sl ((vs).length) (Aq (vs))) ?_)
   exact ⟨vs,rfl,h4,by omega⟩
  ·replace hc11:=bt hc11
   obtain ⟨⟨k',t',is',ns',p',q'⟩,hm⟩ : ∃ d,ds[j]? = some d:=⟨_,List.getElem?_eq_getElem (by omega)⟩
   have hsm:=Kt.1 hd _ (List.mem_of_getElem? hm)
   refine iT (Ad (Ae (Af (An (Am rfl (iQ 3 (Gl (q:=z) (n:=((ds).length)) (cs:=(Ai (ds))) (z:=6) (ds:=[.v (.int .i64 k'),.v (.string (tx t')),.sl ((is').length) (Ai (is')),.sl ((ns').length) (Ax (ns')),.v (.bool p'),.v (.bool q')]) (dst:=(some 18)) (by kernel_rfl) (by omega) (by rw[h1,Int.toNat_natCast];exact (Du hm).trans (by rw[Dm.cells])) ?_)))))))
   refine iQ 1 (jC 10 [.agg [Iv k',Sv (tx t'),.sl ((is').length) (Ai (is')),.sl ((ns').length) (Ax (ns')),Bv p',Bv q']] 20 (a9a hsm) ?_)
   rintro _ ⟨v,rfl,ov⟩
   refine iQ 1 (Fc (n:=((vs).length)) (cs:=(Aq (vs))) (m:=1) (ds:=[.bx (v).enc]) (N:=((vs ++ [v]).length)) (es:=(Aq (vs ++ [v]))) (j:=3) (e:=36) (z:=1) (dst:=(some 22)) (by kernel_rfl) (by first | rfl | omega | (rw[Nat.mul_one];exact Cl _) | (simp[dg];done) | (simp[dg];omega)) (by first | rfl | omega | (rw[Nat.mul_one];exact Cl _) | (simp[dg];done) | (simp[dg];omega)) (rfl) (by omega) (by simp) (Jh) ?_)
   refine iQ 1 ?_
   let Z10:=zT [(3,.w (.sl ((vs ++ [v]).length) (Aq (vs ++ [v]))) (some ⟨3,0,36,1⟩))] []
   refine iE 24 (zT [(4,Ia z),(12,Ba true)] (zT Z10 Z1)) [] ?_
   refine Ao (Ae (Am rfl (iQ 1 (jB .add 3 (.int .i64 z) (.int .i64 1) 14 ?_))))
   intro z14 hz14
   try replace hz14:=hz14.i64 (by omega)
   refine iQ 1 (iE 24 (zT [(4,Ia z14),(12,Ba true)] (zT Z10 Z1)) [] ?_)
   refine Be (j+1,vs ++ [v],z14) (⟨by omega,by omega,by simp;omega,Rk h4 ov,by omega⟩) (by show ds.length-(j+1)<ds.length-j;omega) (by kernel_rfl) (by kernel_rfl)
def aI (no un:Bool):Int:=if no=true then 1 else if un=true then 0 else 2
def bI (yes un:Bool):Int:=if yes=true then 2 else if un=true then 0 else 1
def TP (vs:List Vl) (no yes un:Bool):Prop:=a4k vs=aI no un∧a36 vs=bI yes un
theorem tp_0:TP [] false false false:=⟨rfl,rfl⟩
theorem Bw {vs:List Vl} {k:Nat} {x:Vl} {no yes un no' yes' un':Bool} (h:TP (vs.take k) no yes un) (hx:vs[k]? = some x) (ha:Ew (aI no un) (Cf x)=aI no' un') (hb:Dq (Ew (Dq (bI yes un)) (Dq (Cf x)))=bI yes' un'):TP (vs.take (k+1)) no' yes' un':=by
 refine ⟨?_,?_⟩
 ·rw[a4k,Jp hx]
  exact (congrArg (fun t=>Ew t (Cf x)) h.1).trans ha
 ·rw[a36,Jp hx]
  exact (congrArg (fun t=>Dq (Ew (Dq t) (Dq (Cf x)))) h.2).trans hb
theorem a7u (v:Vl):Cf v=0∨Cf v=1∨Cf v=2:=by
 cases v<;>simp[Cf]
 case bool b=>cases b<;>simp[ofI]
theorem a2h {v:Vl}:HasC Tryz.prog 29 [VV v] (fun r => ∃ t,r=.v (.int .i64 t)∧Cf v=t∧(t=0∨t=1∨t=2)):=Ja.mono fun r hr=>⟨_,hr,rfl,a7u v⟩
theorem aI_3 (no un:Bool):aI no un=0∨aI no un=1∨aI no un=2:=by cases no<;>cases un<;>simp[aI]
theorem bI_3 (no un:Bool):bI no un=0∨bI no un=1∨bI no un=2:=by cases no<;>cases un<;>simp[bI]
theorem b2r {vs:List Vl} {no yes un:Bool} (h:TP vs no yes un):HasC Tryz.prog 29 [VV (Ea (a4k vs))] (fun r => ∃ t,r=.v (.int .i64 t)∧t=aI no un):=Ja.mono fun r hr=>⟨_,hr,by rw[h.1,Lj (aI_3 no un)]⟩
theorem b35 {vs:List Vl} {no yes un:Bool} (h:TP vs no yes un):HasC Tryz.prog 29 [VV (Ea (a36 vs))] (fun r => ∃ t,r=.v (.int .i64 t)∧t=bI yes un):=Ja.mono fun r hr=>⟨_,hr,by rw[h.2,Lj (bI_3 yes un)]⟩
theorem e77 {b:Int} {yes un c d:Bool} (hb:b=bI yes un) (hy:yes=false) (h1:c=true↔b=1) (h2:d=true↔un=false):c=d:=by
 subst hy hb
 rw[Bool.eq_iff_iff,h1,h2]
 cases un<;>simp[bI]
theorem e78 {b:Int} {yes un c:Bool} (hb:b=bI yes un) (hy : ¬ yes=false) (h1:c=true↔b=1):c=false:=by
 subst hb
 rw[Bool.eq_false_iff,ne_eq,h1]
 cases un<;>cases yes<;>simp_all[bI]
set_option maxHeartbeats 6400000 in
theorem Ol {ds:List Dm} (hd:Eg ds) (hl:ds.length≤1048576):HasC Tryz.prog 5 [.sl ((ds).length) (Ai (ds))] (fun r=>r=.v (.bool true)):=by
 refine hO [] Tryz.f5 (fun a w=>Tryz.call5 a w) Tryz.func5 rfl (⟨_,rfl⟩) ?_
 refine Aa rfl (iQ 1 ?_)
 let Z1:=zT [(0,.d (.sl ((ds).length) (Ai (ds)))),(2,Ba false)] []
 refine iE 79 Z1 [] ?_
 refine Af (Aa rfl (eC 6 [] 11 (a33) (jU .not (.bool true) 12 ?_)))
 refine Al ((by simp)) ?_
 refine iE 79 (zT [(12,Ba false)] Z1) [] ?_
 refine iF (Ad (Ae (Aa rfl (iQ 1 (jC 8 [.sl ((ds).length) (Ai (ds))] 14 (a96 hd hl) ?_)))))
 rintro _ ⟨vs,rfl,hv,hvl⟩
 refine iQ 1 ?_
 let Z2:=zT [(2,Ba false),(3,.d (.sl ((vs).length) (Aq (vs)))),(12,Ba false)] []
 refine iE 79 Z2 [] ?_
 refine Aa rfl (iQ 3 (iE 79 (zT [(4,Ba false),(5,Ba false),(6,Ba false)] Z2) [] ?_))
 refine Af (Aa rfl (iQ 1 ?_))
 let Z3:=zT [(4,Ba false),(5,Ba false),(6,Ba false),(7,Ia 0)] []
 refine iE 79 (zT Z3 Z2) [] ?_
 refine An (Bp 79 (fun (vcx:Nat×Int×Bool×Bool×Bool)=>match vcx with | (k,z,no,yes,un)=>[(2,Ba false),(3,.d (.sl ((vs).length) (Aq (vs)))),(4,Ba no),(5,Ba yes),(6,Ba un),(7,Ia z),(12,Ba false)]) (fun (vcx:Nat×Int×Bool×Bool×Bool)=>match vcx with | (k,z,no,yes,un)=>[]) (fun (vcx:Nat×Int×Bool×Bool×Bool)=>match vcx with | (k,z,no,yes,un)=>z=k∧k≤vs.length∧TP (vs.take k) no yes un) (fun (vcx:Nat×Int×Bool×Bool×Bool)=>match vcx with | (k,z,no,yes,un)=>vs.length-k) ((0,0,false,false,false)) (⟨rfl,Nat.zero_le _,tp_0⟩) (by kernel_rfl) (by kernel_rfl) ?_)
 rintro ⟨k,z,no,yes,un⟩ hinv
 simp only at hinv
 obtain ⟨h1,h2,h3⟩:=hinv
 refine Af (Aa rfl (iQ 3 (jB .lss 3 (.int .i64 z) (.int .i64 ((((vs).length:Nat):Int))) 18 ?_)))
 intro c18 hc18
 let Z4:=zT [(4,Ba no),(5,Ba yes),(6,Ba un),(7,Ia z),(18,Ba c18)] []
 refine iE 79 (zT Z4 Z2) [] ?_
 cases c18
 ·replace hc18:=bf hc18
  rw[List.take_of_length_le (by omega)] at h3
  refine iF (Bk (Cj (Bt (Bl rfl (Ae (Aa rfl (iQ 1 (eC 30 [.sl ((vs).length) (Aq (vs))] 42 (b5e (by omega)) (jC 29 [.agg [.bx (Ea (a4k vs)).enc]] 43 (b2r h3) ?_)))))))))
  rintro _ ⟨a,rfl,ha⟩
  refine iQ 1 (eC 31 [.sl ((vs).length) (Aq (vs))] 45 (b7l (by omega)) (jC 29 [.agg [.bx (Ea (a36 vs)).enc]] 46 (b35 h3) ?_))
  rintro _ ⟨b,rfl,hb⟩
  refine iQ 2 ?_
  let Z5:=zT [(4,Ba no),(5,Ba yes),(6,Ba un),(7,Ia z),(9,Ia a),(10,Ia b),(18,Ba false)] []
  refine iE 79 (zT Z5 Z2) [] ?_
  refine Aa rfl (iQ 1 (jB .eql 55 (.int .i64 a) (.int .i64 1) 48 ?_))
  intro c48 hc48
  refine iQ 1 (jB .eql 4 (.bool c48) (.bool no) 50 ?_)
  refine Bg ((by cases no<;>cases yes<;>cases un<;>simp_all[aI,bI])) ?_
  refine iQ 2 (jB .eql 55 (.int .i64 a) (.int .i64 2) 53 ?_)
  intro c53 hc53
  refine iQ 1 (jU .not (.bool no) 55 ?_)
  intro c55 hc55
  refine iQ 1 ?_
  cases c55
  ·replace hc55:=bf hc55
   refine iQ 3 (jB .eql 4 (.bool c53) (.bool false) 60 ?_)
   refine Bg ((by cases no<;>cases yes<;>cases un<;>simp_all[aI,bI])) ?_
   refine iQ 3 (jB .eql 55 (.int .i64 b) (.int .i64 2) 64 ?_)
   intro c64 hc64
   refine iQ 1 (jB .eql 4 (.bool c64) (.bool yes) 66 ?_)
   refine Bg ((by cases no<;>cases yes<;>cases un<;>simp_all[aI,bI])) ?_
   refine iQ 3 (jB .eql 55 (.int .i64 b) (.int .i64 1) 70 ?_)
   intro c70 hc70
   refine iQ 1 (jU .not (.bool yes) 72 ?_)
   intro c72 hc72
   refine iQ 1 ?_
   cases c72
   ·replace hc72:=bf hc72
    refine iQ 3 (jB .eql 4 (.bool c70) (.bool false) 77 ?_)
    refine Bg ((e78 hb hc72 hc70)) ?_
    refine iQ 2 ?_
    let Z6:=zT [(2,Ba true),(3,.d (.sl ((vs).length) (Aq (vs)))),(4,Ba no),(5,Ba yes),(6,Ba un),(7,Ia z),(12,Ba false),(18,Ba false)] []
    refine iE 79 Z6 [] ?_
    refine Ab (iR (Bv true) ?_)
    rfl
   ·replace hc72:=bt hc72
    refine iQ 1 (jU .not (.bool un) 75 ?_)
    intro c75 hc75
    refine iQ 1 (jB .eql 4 (.bool c70) (.bool c75) 77 ?_)
    refine Bg ((e77 hb hc72 hc70 hc75)) ?_
    refine iQ 2 ?_
    let Z7:=zT [(2,Ba true),(3,.d (.sl ((vs).length) (Aq (vs)))),(4,Ba no),(5,Ba yes),(6,Ba un),(7,Ia z),(12,Ba false),(18,Ba false)] []
    refine iE 79 Z7 [] ?_
    refine Ab (iR (Bv true) ?_)
    rfl
  ·replace hc55:=bt hc55
   refine iQ 1 (jU .not (.bool un) 58 ?_)
   intro c58 hc58
   refine iQ 1 (jB .eql 4 (.bool c53) (.bool c58) 60 ?_)
   refine Bg ((by cases no<;>cases yes<;>cases un<;>simp_all[aI,bI])) ?_
   refine iQ 3 (jB .eql 55 (.int .i64 b) (.int .i64 2) 64 ?_)
   intro c64 hc64
   refine iQ 1 (jB .eql 4 (.bool c64) (.bool yes) 66 ?_)
   refine Bg ((by cases no<;>cases yes<;>cases un<;>simp_all[aI,bI])) ?_
   refine iQ 3 (jB .eql 55 (.int .i64 b) (.int .i64 1) 70 ?_)
   intro c70 hc70
   refine iQ 1 (jU .not (.bool yes) 72 ?_)
   intro c72 hc72
   refine iQ 1 ?_
   cases c72
   ·replace hc72:=bf hc72
    refine iQ 3 (jB .eql 4 (.bool c70) (.bool false) 77 ?_)
    refine Bg ((e78 hb hc72 hc70)) ?_
    refine iQ 2 ?_
    let Z8:=zT [(2,Ba true),(3,.d (.sl ((vs).length) (Aq (vs)))),(4,Ba no),(5,Ba yes),(6,Ba un),(7,Ia z),(12,Ba false),(18,Ba false)] []
    refine iE 79 Z8 [] ?_
    refine Ab (iR (Bv true) ?_)
    rfl
   ·replace hc72:=bt hc72
    refine iQ 1 (jU .not (.bool un) 75 ?_)
    intro c75 hc75
    refine iQ 1 (jB .eql 4 (.bool c70) (.bool c75) 77 ?_)
    refine Bg ((e77 hb hc72 hc70 hc75)) ?_
    refine iQ 2 ?_
    let Z9:=zT [(2,Ba true),(3,.d (.sl ((vs).length) (Aq (vs)))),(4,Ba no),(5,Ba yes),(6,Ba un),(7,Ia z),(12,Ba false),(18,Ba false)] []
    refine iE 79 Z9 [] ?_
    refine Ab (iR (Bv true) ?_)
    rfl
 ·replace hc18:=bt hc18
  obtain ⟨x,hx⟩ : ∃ x,vs[k]? = some x:=⟨_,List.getElem?_eq_getElem (by omega)⟩
  refine iT (Ad (Ae (Af (An (Aa rfl (iQ 2 (Bj (q:=z) (n:=((vs).length)) (cs:=(Aq (vs))) (d:=.bx (x).enc) (dst:=(some 23)) (by kernel_rfl) (by omega) (by rw[h1,Int.toNat_natCast];exact Ek hx) ?_)))))))
  refine iQ 1 (jC 29 [.agg [.bx (x).enc]] 25 (a2h (v:=x)) ?_)
  rintro _ ⟨t,rfl,ht,ht3⟩
  refine iQ 1 ?_
  let Z10:=zT [(4,Ba no),(5,Ba yes),(6,Ba un),(7,Ia z),(8,Ia t),(18,Ba true)] []
  refine iE 79 (zT Z10 Z2) [] ?_
  rcases (ht3:t=0∨t=1∨t=2) with rfl | rfl | rfl
  ·refine Aa rfl (iQ 2 ?_)
   cases no
   ·refine iQ 1 (jB .eql 55 (.int .i64 0) (.int .i64 1) 29 ?_)
    refine Al ((by decide)) ?_
    refine iQ 2 ?_
    let Z11:=zT [(4,Ba false),(5,Ba yes),(6,Ba un),(7,Ia z),(8,Ia 0),(18,Ba true)] []
    refine iE 79 (zT Z11 Z2) [] ?_
    refine Aa rfl (iQ 2 ?_)
    cases yes
    ·refine iQ 1 (jB .eql 55 (.int .i64 0) (.int .i64 2) 34 ?_)
     refine Al ((by decide)) ?_
     refine iQ 2 ?_
     let Z12:=zT [(4,Ba false),(5,Ba false),(6,Ba un),(7,Ia z),(8,Ia 0),(18,Ba true)] []
     refine iE 79 (zT Z12 Z2) [] ?_
     refine Am rfl (iQ 2 ?_)
     cases un
     ·refine iQ 1 (jB .eql 55 (.int .i64 0) (.int .i64 0) 39 ?_)
      refine Bg ((by decide)) ?_
      refine iQ 2 ?_
      let Z13:=zT [(4,Ba false),(5,Ba false),(6,Ba true),(7,Ia z),(8,Ia 0),(18,Ba true)] []
      refine iE 79 (zT Z13 Z2) [] ?_
      refine Ao (Ae (Am rfl (iQ 1 (jB .add 3 (.int .i64 z) (.int .i64 1) 20 ?_))))
      intro z20 hz20
      try replace hz20:=hz20.i64 (by omega)
      refine iQ 1 ?_
      let Z14:=zT [(4,Ba false),(5,Ba false),(6,Ba true),(7,Ia z20),(8,Ia 0),(18,Ba true)] []
      refine iE 79 (zT Z14 Z2) [] ?_
      refine Be (k+1,z20,false,false,true) (⟨by omega,by omega,Bw h3 hx (by rw[ht];rfl) (by rw[ht];rfl)⟩) (by simp only;omega) (by kernel_rfl) (by kernel_rfl)
     ·refine iQ 4 ?_
      let Z15:=zT [(4,Ba false),(5,Ba false),(6,Ba true),(7,Ia z),(8,Ia 0),(18,Ba true)] []
      refine iE 79 (zT Z15 Z2) [] ?_
      refine Ao (Ae (Am rfl (iQ 1 (jB .add 3 (.int .i64 z) (.int .i64 1) 20 ?_))))
      intro z20 hz20
      try replace hz20:=hz20.i64 (by omega)
      refine iQ 1 ?_
      let Z16:=zT [(4,Ba false),(5,Ba false),(6,Ba true),(7,Ia z20),(8,Ia 0),(18,Ba true)] []
      refine iE 79 (zT Z16 Z2) [] ?_
      refine Be (k+1,z20,false,false,true) (⟨by omega,by omega,Bw h3 hx (by rw[ht];rfl) (by rw[ht];rfl)⟩) (by simp only;omega) (by kernel_rfl) (by kernel_rfl)
    ·refine iQ 4 ?_
     let Z17:=zT [(4,Ba false),(5,Ba true),(6,Ba un),(7,Ia z),(8,Ia 0),(18,Ba true)] []
     refine iE 79 (zT Z17 Z2) [] ?_
     refine Am rfl (iQ 2 ?_)
     cases un
     ·refine iQ 1 (jB .eql 55 (.int .i64 0) (.int .i64 0) 39 ?_)
      refine Bg ((by decide)) ?_
      refine iQ 2 ?_
      let Z18:=zT [(4,Ba false),(5,Ba true),(6,Ba true),(7,Ia z),(8,Ia 0),(18,Ba true)] []
      refine iE 79 (zT Z18 Z2) [] ?_
      refine Ao (Ae (Am rfl (iQ 1 (jB .add 3 (.int .i64 z) (.int .i64 1) 20 ?_))))
      intro z20 hz20
      try replace hz20:=hz20.i64 (by omega)
      refine iQ 1 ?_
      let Z19:=zT [(4,Ba false),(5,Ba true),(6,Ba true),(7,Ia z20),(8,Ia 0),(18,Ba true)] []
      refine iE 79 (zT Z19 Z2) [] ?_
      refine Be (k+1,z20,false,true,true) (⟨by omega,by omega,Bw h3 hx (by rw[ht];rfl) (by rw[ht];rfl)⟩) (by simp only;omega) (by kernel_rfl) (by kernel_rfl)
     ·refine iQ 4 ?_
      let Z20:=zT [(4,Ba false),(5,Ba true),(6,Ba true),(7,Ia z),(8,Ia 0),(18,Ba true)] []
      refine iE 79 (zT Z20 Z2) [] ?_
      refine Ao (Ae (Am rfl (iQ 1 (jB .add 3 (.int .i64 z) (.int .i64 1) 20 ?_))))
      intro z20 hz20
      try replace hz20:=hz20.i64 (by omega)
      refine iQ 1 ?_
      let Z21:=zT [(4,Ba false),(5,Ba true),(6,Ba true),(7,Ia z20),(8,Ia 0),(18,Ba true)] []
      refine iE 79 (zT Z21 Z2) [] ?_
      refine Be (k+1,z20,false,true,true) (⟨by omega,by omega,Bw h3 hx (by rw[ht];rfl) (by rw[ht];rfl)⟩) (by simp only;omega) (by kernel_rfl) (by kernel_rfl)
   ·refine iQ 4 ?_
    let Z22:=zT [(4,Ba true),(5,Ba yes),(6,Ba un),(7,Ia z),(8,Ia 0),(18,Ba true)] []
    refine iE 79 (zT Z22 Z2) [] ?_
    refine Aa rfl (iQ 2 ?_)
    cases yes
    ·refine iQ 1 (jB .eql 55 (.int .i64 0) (.int .i64 2) 34 ?_)
     refine Al ((by decide)) ?_
     refine iQ 2 ?_
     let Z23:=zT [(4,Ba true),(5,Ba false),(6,Ba un),(7,Ia z),(8,Ia 0),(18,Ba true)] []
     refine iE 79 (zT Z23 Z2) [] ?_
     refine Am rfl (iQ 2 ?_)
     cases un
     ·refine iQ 1 (jB .eql 55 (.int .i64 0) (.int .i64 0) 39 ?_)
      refine Bg ((by decide)) ?_
      refine iQ 2 ?_
      let Z24:=zT [(4,Ba true),(5,Ba false),(6,Ba true),(7,Ia z),(8,Ia 0),(18,Ba true)] []
      refine iE 79 (zT Z24 Z2) [] ?_
      refine Ao (Ae (Am rfl (iQ 1 (jB .add 3 (.int .i64 z) (.int .i64 1) 20 ?_))))
      intro z20 hz20
      try replace hz20:=hz20.i64 (by omega)
      refine iQ 1 ?_
      let Z25:=zT [(4,Ba true),(5,Ba false),(6,Ba true),(7,Ia z20),(8,Ia 0),(18,Ba true)] []
      refine iE 79 (zT Z25 Z2) [] ?_
      refine Be (k+1,z20,true,false,true) (⟨by omega,by omega,Bw h3 hx (by rw[ht];rfl) (by rw[ht];rfl)⟩) (by simp only;omega) (by kernel_rfl) (by kernel_rfl)
     ·refine iQ 4 ?_
      let Z26:=zT [(4,Ba true),(5,Ba false),(6,Ba true),(7,Ia z),(8,Ia 0),(18,Ba true)] []
      refine iE 79 (zT Z26 Z2) [] ?_
      refine Ao (Ae (Am rfl (iQ 1 (jB .add 3 (.int .i64 z) (.int .i64 1) 20 ?_))))
      intro z20 hz20
      try replace hz20:=hz20.i64 (by omega)
      refine iQ 1 ?_
      let Z27:=zT [(4,Ba true),(5,Ba false),(6,Ba true),(7,Ia z20),(8,Ia 0),(18,Ba true)] []
      refine iE 79 (zT Z27 Z2) [] ?_
      refine Be (k+1,z20,true,false,true) (⟨by omega,by omega,Bw h3 hx (by rw[ht];rfl) (by rw[ht];rfl)⟩) (by simp only;omega) (by kernel_rfl) (by kernel_rfl)
    ·refine iQ 4 ?_
     let Z28:=zT [(4,Ba true),(5,Ba true),(6,Ba un),(7,Ia z),(8,Ia 0),(18,Ba true)] []
     refine iE 79 (zT Z28 Z2) [] ?_
     refine Am rfl (iQ 2 ?_)
     cases un
     ·refine iQ 1 (jB .eql 55 (.int .i64 0) (.int .i64 0) 39 ?_)
      refine Bg ((by decide)) ?_
      refine iQ 2 ?_
      let Z29:=zT [(4,Ba true),(5,Ba true),(6,Ba true),(7,Ia z),(8,Ia 0),(18,Ba true)] []
      refine iE 79 (zT Z29 Z2) [] ?_
      refine Ao (Ae (Am rfl (iQ 1 (jB .add 3 (.int .i64 z) (.int .i64 1) 20 ?_))))
      intro z20 hz20
      try replace hz20:=hz20.i64 (by omega)
      refine iQ 1 ?_
      let Z30:=zT [(4,Ba true),(5,Ba true),(6,Ba true),(7,Ia z20),(8,Ia 0),(18,Ba true)] []
      refine iE 79 (zT Z30 Z2) [] ?_
      refine Be (k+1,z20,true,true,true) (⟨by omega,by omega,Bw h3 hx (by rw[ht];rfl) (by rw[ht];rfl)⟩) (by simp only;omega) (by kernel_rfl) (by kernel_rfl)
     ·refine iQ 4 ?_
      let Z31:=zT [(4,Ba true),(5,Ba true),(6,Ba true),(7,Ia z),(8,Ia 0),(18,Ba true)] []
      refine iE 79 (zT Z31 Z2) [] ?_
      refine Ao (Ae (Am rfl (iQ 1 (jB .add 3 (.int .i64 z) (.int .i64 1) 20 ?_))))
      intro z20 hz20
      try replace hz20:=hz20.i64 (by omega)
      refine iQ 1 ?_
      let Z32:=zT [(4,Ba true),(5,Ba true),(6,Ba true),(7,Ia z20),(8,Ia 0),(18,Ba true)] []
      refine iE 79 (zT Z32 Z2) [] ?_
      refine Be (k+1,z20,true,true,true) (⟨by omega,by omega,Bw h3 hx (by rw[ht];rfl) (by rw[ht];rfl)⟩) (by simp only;omega) (by kernel_rfl) (by kernel_rfl)
  ·refine Aa rfl (iQ 2 ?_)
   cases no
   ·refine iQ 1 (jB .eql 55 (.int .i64 1) (.int .i64 1) 29 ?_)
    refine Bg ((by decide)) ?_
    refine iQ 2 ?_
    let Z33:=zT [(4,Ba true),(5,Ba yes),(6,Ba un),(7,Ia z),(8,Ia 1),(18,Ba true)] []
    refine iE 79 (zT Z33 Z2) [] ?_
    refine Aa rfl (iQ 2 ?_)
    cases yes
    ·refine iQ 1 (jB .eql 55 (.int .i64 1) (.int .i64 2) 34 ?_)
     refine Al ((by decide)) ?_
     refine iQ 2 ?_
     let Z34:=zT [(4,Ba true),(5,Ba false),(6,Ba un),(7,Ia z),(8,Ia 1),(18,Ba true)] []
     refine iE 79 (zT Z34 Z2) [] ?_
     refine Am rfl (iQ 2 ?_)
     cases un
     ·refine iQ 1 (jB .eql 55 (.int .i64 1) (.int .i64 0) 39 ?_)
      refine Al ((by decide)) ?_
      refine iQ 2 ?_
      let Z35:=zT [(4,Ba true),(5,Ba false),(6,Ba false),(7,Ia z),(8,Ia 1),(18,Ba true)] []
      refine iE 79 (zT Z35 Z2) [] ?_
      refine Ao (Ae (Am rfl (iQ 1 (jB .add 3 (.int .i64 z) (.int .i64 1) 20 ?_))))
      intro z20 hz20
      try replace hz20:=hz20.i64 (by omega)
      refine iQ 1 ?_
      let Z36:=zT [(4,Ba true),(5,Ba false),(6,Ba false),(7,Ia z20),(8,Ia 1),(18,Ba true)] []
      refine iE 79 (zT Z36 Z2) [] ?_
      refine Be (k+1,z20,true,false,false) (⟨by omega,by omega,Bw h3 hx (by rw[ht];rfl) (by rw[ht];rfl)⟩) (by simp only;omega) (by kernel_rfl) (by kernel_rfl)
     ·refine iQ 4 ?_
      let Z37:=zT [(4,Ba true),(5,Ba false),(6,Ba true),(7,Ia z),(8,Ia 1),(18,Ba true)] []
      refine iE 79 (zT Z37 Z2) [] ?_
      refine Ao (Ae (Am rfl (iQ 1 (jB .add 3 (.int .i64 z) (.int .i64 1) 20 ?_))))
      intro z20 hz20
      try replace hz20:=hz20.i64 (by omega)
      refine iQ 1 ?_
      let Z38:=zT [(4,Ba true),(5,Ba false),(6,Ba true),(7,Ia z20),(8,Ia 1),(18,Ba true)] []
      refine iE 79 (zT Z38 Z2) [] ?_
      refine Be (k+1,z20,true,false,true) (⟨by omega,by omega,Bw h3 hx (by rw[ht];rfl) (by rw[ht];rfl)⟩) (by simp only;omega) (by kernel_rfl) (by kernel_rfl)
    ·refine iQ 4 ?_
     let Z39:=zT [(4,Ba true),(5,Ba true),(6,Ba un),(7,Ia z),(8,Ia 1),(18,Ba true)] []
     refine iE 79 (zT Z39 Z2) [] ?_
     refine Am rfl (iQ 2 ?_)
     cases un
     ·refine iQ 1 (jB .eql 55 (.int .i64 1) (.int .i64 0) 39 ?_)
      refine Al ((by decide)) ?_
      refine iQ 2 ?_
      let Z40:=zT [(4,Ba true),(5,Ba true),(6,Ba false),(7,Ia z),(8,Ia 1),(18,Ba true)] []
      refine iE 79 (zT Z40 Z2) [] ?_
      refine Ao (Ae (Am rfl (iQ 1 (jB .add 3 (.int .i64 z) (.int .i64 1) 20 ?_))))
      intro z20 hz20
      try replace hz20:=hz20.i64 (by omega)
      refine iQ 1 ?_
      let Z41:=zT [(4,Ba true),(5,Ba true),(6,Ba false),(7,Ia z20),(8,Ia 1),(18,Ba true)] []
      refine iE 79 (zT Z41 Z2) [] ?_
      refine Be (k+1,z20,true,true,false) (⟨by omega,by omega,Bw h3 hx (by rw[ht];rfl) (by rw[ht];rfl)⟩) (by simp only;omega) (by kernel_rfl) (by kernel_rfl)
     ·refine iQ 4 ?_
      let Z42:=zT [(4,Ba true),(5,Ba true),(6,Ba true),(7,Ia z),(8,Ia 1),(18,Ba true)] []
      refine iE 79 (zT Z42 Z2) [] ?_
      refine Ao (Ae (Am rfl (iQ 1 (jB .add 3 (.int .i64 z) (.int .i64 1) 20 ?_))))
      intro z20 hz20
      try replace hz20:=hz20.i64 (by omega)
      refine iQ 1 ?_
      let Z43:=zT [(4,Ba true),(5,Ba true),(6,Ba true),(7,Ia z20),(8,Ia 1),(18,Ba true)] []
      refine iE 79 (zT Z43 Z2) [] ?_
      refine Be (k+1,z20,true,true,true) (⟨by omega,by omega,Bw h3 hx (by rw[ht];rfl) (by rw[ht];rfl)⟩) (by simp only;omega) (by kernel_rfl) (by kernel_rfl)
   ·refine iQ 4 ?_
    let Z44:=zT [(4,Ba true),(5,Ba yes),(6,Ba un),(7,Ia z),(8,Ia 1),(18,Ba true)] []
    refine iE 79 (zT Z44 Z2) [] ?_
    refine Aa rfl (iQ 2 ?_)
    cases yes
    ·refine iQ 1 (jB .eql 55 (.int .i64 1) (.int .i64 2) 34 ?_)
     refine Al ((by decide)) ?_
     refine iQ 2 ?_
     let Z45:=zT [(4,Ba true),(5,Ba false),(6,Ba un),(7,Ia z),(8,Ia 1),(18,Ba true)] []
     refine iE 79 (zT Z45 Z2) [] ?_
     refine Am rfl (iQ 2 ?_)
     cases un
     ·refine iQ 1 (jB .eql 55 (.int .i64 1) (.int .i64 0) 39 ?_)
      refine Al ((by decide)) ?_
      refine iQ 2 ?_
      let Z46:=zT [(4,Ba true),(5,Ba false),(6,Ba false),(7,Ia z),(8,Ia 1),(18,Ba true)] []
      refine iE 79 (zT Z46 Z2) [] ?_
      refine Ao (Ae (Am rfl (iQ 1 (jB .add 3 (.int .i64 z) (.int .i64 1) 20 ?_))))
      intro z20 hz20
      try replace hz20:=hz20.i64 (by omega)
      refine iQ 1 ?_
      let Z47:=zT [(4,Ba true),(5,Ba false),(6,Ba false),(7,Ia z20),(8,Ia 1),(18,Ba true)] []
      refine iE 79 (zT Z47 Z2) [] ?_
      refine Be (k+1,z20,true,false,false) (⟨by omega,by omega,Bw h3 hx (by rw[ht];rfl) (by rw[ht];rfl)⟩) (by simp only;omega) (by kernel_rfl) (by kernel_rfl)
     ·refine iQ 4 ?_
      let Z48:=zT [(4,Ba true),(5,Ba false),(6,Ba true),(7,Ia z),(8,Ia 1),(18,Ba true)] []
      refine iE 79 (zT Z48 Z2) [] ?_
      refine Ao (Ae (Am rfl (iQ 1 (jB .add 3 (.int .i64 z) (.int .i64 1) 20 ?_))))
      intro z20 hz20
      try replace hz20:=hz20.i64 (by omega)
      refine iQ 1 ?_
      let Z49:=zT [(4,Ba true),(5,Ba false),(6,Ba true),(7,Ia z20),(8,Ia 1),(18,Ba true)] []
      refine iE 79 (zT Z49 Z2) [] ?_
      refine Be (k+1,z20,true,false,true) (⟨by omega,by omega,Bw h3 hx (by rw[ht];rfl) (by rw[ht];rfl)⟩) (by simp only;omega) (by kernel_rfl) (by kernel_rfl)
    ·refine iQ 4 ?_
     let Z50:=zT [(4,Ba true),(5,Ba true),(6,Ba un),(7,Ia z),(8,Ia 1),(18,Ba true)] []
     refine iE 79 (zT Z50 Z2) [] ?_
     refine Am rfl (iQ 2 ?_)
     cases un
     ·refine iQ 1 (jB .eql 55 (.int .i64 1) (.int .i64 0) 39 ?_)
      refine Al ((by decide)) ?_
      refine iQ 2 ?_
      let Z51:=zT [(4,Ba true),(5,Ba true),(6,Ba false),(7,Ia z),(8,Ia 1),(18,Ba true)] []
      refine iE 79 (zT Z51 Z2) [] ?_
      refine Ao (Ae (Am rfl (iQ 1 (jB .add 3 (.int .i64 z) (.int .i64 1) 20 ?_))))
      intro z20 hz20
      try replace hz20:=hz20.i64 (by omega)
      refine iQ 1 ?_
      let Z52:=zT [(4,Ba true),(5,Ba true),(6,Ba false),(7,Ia z20),(8,Ia 1),(18,Ba true)] []
      refine iE 79 (zT Z52 Z2) [] ?_
      refine Be (k+1,z20,true,true,false) (⟨by omega,by omega,Bw h3 hx (by rw[ht];rfl) (by rw[ht];rfl)⟩) (by simp only;omega) (by kernel_rfl) (by kernel_rfl)
     ·refine iQ 4 ?_
      let Z53:=zT [(4,Ba true),(5,Ba true),(6,Ba true),(7,Ia z),(8,Ia 1),(18,Ba true)] []
      refine iE 79 (zT Z53 Z2) [] ?_
      refine Ao (Ae (Am rfl (iQ 1 (jB .add 3 (.int .i64 z) (.int .i64 1) 20 ?_))))
      intro z20 hz20
      try replace hz20:=hz20.i64 (by omega)
      refine iQ 1 ?_
      let Z54:=zT [(4,Ba true),(5,Ba true),(6,Ba true),(7,Ia z20),(8,Ia 1),(18,Ba true)] []
      refine iE 79 (zT Z54 Z2) [] ?_
      refine Be (k+1,z20,true,true,true) (⟨by omega,by omega,Bw h3 hx (by rw[ht];rfl) (by rw[ht];rfl)⟩) (by simp only;omega) (by kernel_rfl) (by kernel_rfl)
  ·refine Aa rfl (iQ 2 ?_)
   cases no
   ·refine iQ 1 (jB .eql 55 (.int .i64 2) (.int .i64 1) 29 ?_)
    refine Al ((by decide)) ?_
    refine iQ 2 ?_
    let Z55:=zT [(4,Ba false),(5,Ba yes),(6,Ba un),(7,Ia z),(8,Ia 2),(18,Ba true)] []
    refine iE 79 (zT Z55 Z2) [] ?_
    refine Aa rfl (iQ 2 ?_)
    cases yes
    ·refine iQ 1 (jB .eql 55 (.int .i64 2) (.int .i64 2) 34 ?_)
     refine Bg ((by decide)) ?_
     refine iQ 2 ?_
     let Z56:=zT [(4,Ba false),(5,Ba true),(6,Ba un),(7,Ia z),(8,Ia 2),(18,Ba true)] []
     refine iE 79 (zT Z56 Z2) [] ?_
     refine Am rfl (iQ 2 ?_)
     cases un
     ·refine iQ 1 (jB .eql 55 (.int .i64 2) (.int .i64 0) 39 ?_)
      refine Al ((by decide)) ?_
      refine iQ 2 ?_
      let Z57:=zT [(4,Ba false),(5,Ba true),(6,Ba false),(7,Ia z),(8,Ia 2),(18,Ba true)] []
      refine iE 79 (zT Z57 Z2) [] ?_
      refine Ao (Ae (Am rfl (iQ 1 (jB .add 3 (.int .i64 z) (.int .i64 1) 20 ?_))))
      intro z20 hz20
      try replace hz20:=hz20.i64 (by omega)
      refine iQ 1 ?_
      let Z58:=zT [(4,Ba false),(5,Ba true),(6,Ba false),(7,Ia z20),(8,Ia 2),(18,Ba true)] []
      refine iE 79 (zT Z58 Z2) [] ?_
      refine Be (k+1,z20,false,true,false) (⟨by omega,by omega,Bw h3 hx (by rw[ht];rfl) (by rw[ht];rfl)⟩) (by simp only;omega) (by kernel_rfl) (by kernel_rfl)
     ·refine iQ 4 ?_
      let Z59:=zT [(4,Ba false),(5,Ba true),(6,Ba true),(7,Ia z),(8,Ia 2),(18,Ba true)] []
      refine iE 79 (zT Z59 Z2) [] ?_
      refine Ao (Ae (Am rfl (iQ 1 (jB .add 3 (.int .i64 z) (.int .i64 1) 20 ?_))))
      intro z20 hz20
      try replace hz20:=hz20.i64 (by omega)
      refine iQ 1 ?_
      let Z60:=zT [(4,Ba false),(5,Ba true),(6,Ba true),(7,Ia z20),(8,Ia 2),(18,Ba true)] []
      refine iE 79 (zT Z60 Z2) [] ?_
      refine Be (k+1,z20,false,true,true) (⟨by omega,by omega,Bw h3 hx (by rw[ht];rfl) (by rw[ht];rfl)⟩) (by simp only;omega) (by kernel_rfl) (by kernel_rfl)
    ·refine iQ 4 ?_
     let Z61:=zT [(4,Ba false),(5,Ba true),(6,Ba un),(7,Ia z),(8,Ia 2),(18,Ba true)] []
     refine iE 79 (zT Z61 Z2) [] ?_
     refine Am rfl (iQ 2 ?_)
     cases un
     ·refine iQ 1 (jB .eql 55 (.int .i64 2) (.int .i64 0) 39 ?_)
      refine Al ((by decide)) ?_
      refine iQ 2 ?_
      let Z62:=zT [(4,Ba false),(5,Ba true),(6,Ba false),(7,Ia z),(8,Ia 2),(18,Ba true)] []
      refine iE 79 (zT Z62 Z2) [] ?_
      refine Ao (Ae (Am rfl (iQ 1 (jB .add 3 (.int .i64 z) (.int .i64 1) 20 ?_))))
      intro z20 hz20
      try replace hz20:=hz20.i64 (by omega)
      refine iQ 1 ?_
      let Z63:=zT [(4,Ba false),(5,Ba true),(6,Ba false),(7,Ia z20),(8,Ia 2),(18,Ba true)] []
      refine iE 79 (zT Z63 Z2) [] ?_
      refine Be (k+1,z20,false,true,false) (⟨by omega,by omega,Bw h3 hx (by rw[ht];rfl) (by rw[ht];rfl)⟩) (by simp only;omega) (by kernel_rfl) (by kernel_rfl)
     ·refine iQ 4 ?_
      let Z64:=zT [(4,Ba false),(5,Ba true),(6,Ba true),(7,Ia z),(8,Ia 2),(18,Ba true)] []
      refine iE 79 (zT Z64 Z2) [] ?_
      refine Ao (Ae (Am rfl (iQ 1 (jB .add 3 (.int .i64 z) (.int .i64 1) 20 ?_))))
      intro z20 hz20
      try replace hz20:=hz20.i64 (by omega)
      refine iQ 1 ?_
      let Z65:=zT [(4,Ba false),(5,Ba true),(6,Ba true),(7,Ia z20),(8,Ia 2),(18,Ba true)] []
      refine iE 79 (zT Z65 Z2) [] ?_
      refine Be (k+1,z20,false,true,true) (⟨by omega,by omega,Bw h3 hx (by rw[ht];rfl) (by rw[ht];rfl)⟩) (by simp only;omega) (by kernel_rfl) (by kernel_rfl)
   ·refine iQ 4 ?_
    let Z66:=zT [(4,Ba true),(5,Ba yes),(6,Ba un),(7,Ia z),(8,Ia 2),(18,Ba true)] []
    refine iE 79 (zT Z66 Z2) [] ?_
    refine Aa rfl (iQ 2 ?_)
    cases yes
    ·refine iQ 1 (jB .eql 55 (.int .i64 2) (.int .i64 2) 34 ?_)
     refine Bg ((by decide)) ?_
     refine iQ 2 ?_
     let Z67:=zT [(4,Ba true),(5,Ba true),(6,Ba un),(7,Ia z),(8,Ia 2),(18,Ba true)] []
     refine iE 79 (zT Z67 Z2) [] ?_
     refine Am rfl (iQ 2 ?_)
     cases un
     ·refine iQ 1 (jB .eql 55 (.int .i64 2) (.int .i64 0) 39 ?_)
      refine Al ((by decide)) ?_
      refine iQ 2 ?_
      let Z68:=zT [(4,Ba true),(5,Ba true),(6,Ba false),(7,Ia z),(8,Ia 2),(18,Ba true)] []
      refine iE 79 (zT Z68 Z2) [] ?_
      refine Ao (Ae (Am rfl (iQ 1 (jB .add 3 (.int .i64 z) (.int .i64 1) 20 ?_))))
      intro z20 hz20
      try replace hz20:=hz20.i64 (by omega)
      refine iQ 1 ?_
      let Z69:=zT [(4,Ba true),(5,Ba true),(6,Ba false),(7,Ia z20),(8,Ia 2),(18,Ba true)] []
      refine iE 79 (zT Z69 Z2) [] ?_
      refine Be (k+1,z20,true,true,false) (⟨by omega,by omega,Bw h3 hx (by rw[ht];rfl) (by rw[ht];rfl)⟩) (by simp only;omega) (by kernel_rfl) (by kernel_rfl)
     ·refine iQ 4 ?_
      let Z70:=zT [(4,Ba true),(5,Ba true),(6,Ba true),(7,Ia z),(8,Ia 2),(18,Ba true)] []
      refine iE 79 (zT Z70 Z2) [] ?_
      refine Ao (Ae (Am rfl (iQ 1 (jB .add 3 (.int .i64 z) (.int .i64 1) 20 ?_))))
      intro z20 hz20
      try replace hz20:=hz20.i64 (by omega)
      refine iQ 1 ?_
      let Z71:=zT [(4,Ba true),(5,Ba true),(6,Ba true),(7,Ia z20),(8,Ia 2),(18,Ba true)] []
      refine iE 79 (zT Z71 Z2) [] ?_
      refine Be (k+1,z20,true,true,true) (⟨by omega,by omega,Bw h3 hx (by rw[ht];rfl) (by rw[ht];rfl)⟩) (by simp only;omega) (by kernel_rfl) (by kernel_rfl)
    ·refine iQ 4 ?_
     let Z72:=zT [(4,Ba true),(5,Ba true),(6,Ba un),(7,Ia z),(8,Ia 2),(18,Ba true)] []
     refine iE 79 (zT Z72 Z2) [] ?_
     refine Am rfl (iQ 2 ?_)
     cases un
     ·refine iQ 1 (jB .eql 55 (.int .i64 2) (.int .i64 0) 39 ?_)
      refine Al ((by decide)) ?_
      refine iQ 2 ?_
      let Z73:=zT [(4,Ba true),(5,Ba true),(6,Ba false),(7,Ia z),(8,Ia 2),(18,Ba true)] []
      refine iE 79 (zT Z73 Z2) [] ?_
      refine Ao (Ae (Am rfl (iQ 1 (jB .add 3 (.int .i64 z) (.int .i64 1) 20 ?_))))
      intro z20 hz20
      try replace hz20:=hz20.i64 (by omega)
      refine iQ 1 ?_
      let Z74:=zT [(4,Ba true),(5,Ba true),(6,Ba false),(7,Ia z20),(8,Ia 2),(18,Ba true)] []
      refine iE 79 (zT Z74 Z2) [] ?_
      refine Be (k+1,z20,true,true,false) (⟨by omega,by omega,Bw h3 hx (by rw[ht];rfl) (by rw[ht];rfl)⟩) (by simp only;omega) (by kernel_rfl) (by kernel_rfl)
     ·refine iQ 4 ?_
      let Z75:=zT [(4,Ba true),(5,Ba true),(6,Ba true),(7,Ia z),(8,Ia 2),(18,Ba true)] []
      refine iE 79 (zT Z75 Z2) [] ?_
      refine Ao (Ae (Am rfl (iQ 1 (jB .add 3 (.int .i64 z) (.int .i64 1) 20 ?_))))
      intro z20 hz20
      try replace hz20:=hz20.i64 (by omega)
      refine iQ 1 ?_
      let Z76:=zT [(4,Ba true),(5,Ba true),(6,Ba true),(7,Ia z20),(8,Ia 2),(18,Ba true)] []
      refine iE 79 (zT Z76 Z2) [] ?_
      refine Be (k+1,z20,true,true,true) (⟨by omega,by omega,Bw h3 hx (by rw[ht];rfl) (by rw[ht];rfl)⟩) (by simp only;omega) (by kernel_rfl) (by kernel_rfl)
end Go.Proofs.YtfkfpkhgoijfdaaGreatDoor
