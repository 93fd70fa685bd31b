/- casuistlaw20.NumfunArith: the law. -/
import Derived.Test.YtdkgnmiiibpnnaaGreatDoorNgZ
import Derived.Test.YtdkgnmiiibpnnaaGreatDoorMkV
import Derived.Test.YtdkgnmiiibpnnaaGreatDoorMkD
namespace Go.Proofs.YtdkgnmiiibpnnaaGreatDoor
open Go.RowKit
set_option linter.unusedVariables false
set_option linter.unusedSimpArgs false
set_option maxRecDepth 100000
theorem a2j {g:Bool} {n:Nat} {e:Int} (hn:n<B128):HasC Tryz.prog 7 [Bo g n e] (fun y => ∃ d:D3,y=Bo d.g d.n d.e) :=
 (b4w hn).mono fun y ⟨s,c,x,h,h1,h2,h3,h4⟩=>⟨⟨(s,c,x),Ik ⟨h1,h2,h3,h4⟩⟩,h⟩
theorem b1x {v w:Vl} {x y:D3} (hv:v=x.vl) (hw:w=y.vl):HasC Tryz.prog 9 [.v (.string ⟨#[47]⟩),VV v,VV w] (fun r => ∃ q ok,r=.tup [VV q,.v (.bool ok)]∧(y.n=0→q=.null∧ok=true)∧(y.n≠0→q=Dz (Br (Hh x y))∧ok=(Br (Hh x y)).isSome)):=by
 subst hv hw
 by_cases hy:y.n=0
 ·exact (Ww (x:=x) hy).mono fun r h=>⟨_,_,h,fun _=>⟨rfl,rfl⟩,fun k=>absurd hy k⟩
 ·exact (Fs (a07 (x:=x) hy)).mono fun r ⟨u,k,h1,h2,h3⟩=>⟨u,k,h1,fun k=>absurd k hy,fun _=>⟨h2,h3⟩⟩
theorem b2e {v w:Vl} {x y:D3} {n:Int} (h0 : -9223372036854775808≤n) (h1:n≤9223372036854775807) (hv:v=x.vl) (hw:w=y.vl) (hy:y.vl=Sz n):HasC Tryz.prog 9 [.v (.string ⟨#[42,42]⟩),VV v,VV w] (fun r => ∃ q ok,r=.tup [VV q,.v (.bool ok)]∧(Cf x n=true→q=.null∧ok=true)∧(Cf x n=false→q=Dz (Br (Ff x n))∧ok=(Br (Ff x n)).isSome)):=by
 subst hv hw
 exact (HasC.isVb (q:=fun q ok=>(Cf x n=true→q=.null∧ok=true)∧(Cf x n=false→q=Dz (Br (Ff x n))∧ok=(Br (Ff x n)).isSome)) ((b3t (x:=x) (y:=y)).mono fun r ⟨q,v,o,z,ok,e1,e2,w,p1,p2⟩=>⟨q,v,o,e1,e2,by
  obtain ⟨rfl,rfl⟩:=a5y h0 h1 hy w
  exact ⟨fun k=>p1 (.inr k),fun k=>p2 rfl k⟩⟩)).mono fun r ⟨u,k,h1,h2⟩=>⟨u,k,h1,h2⟩
theorem a3b {x:D3} {n:Int} {g:Bool} {k:Nat} {e:Int} {ok:Bool} (h:Nt (x.g,x.n,x.e,true) n=(g,k,e,ok)):May g k e:=by
 have:=Sd (x.g,x.n,x.e,true) n
 rw[h] at this
 exact this
set_option maxHeartbeats 6400000 in
theorem Td {g1 g2:Bool} {a b:Nat} {x1 x2 n:Int} {k0:Int} {t0:L8} {is0:List Dm} {ns0:List L8} {p0 q0:Bool} {op:ByteArray} (ha:a<B128) (hb:b<B128) (h0 : -9223372036854775808≤n) (h1:n≤9223372036854775807) (hs:(Dm.mk k0 t0 is0 ns0 p0 q0).small):HasC Tryz.prog 3 [.agg [.v (.bool g1),.v (.int .u64 (hiW (a))),.v (.int .u64 (loW (a))),.v (.int .i64 x1)],.agg [.v (.bool g2),.v (.int .u64 (hiW (b))),.v (.int .u64 (loW (b))),.v (.int .i64 x2)],.v (.int .i64 n),.agg [.v (.int .i64 k0),.v (.string (tx t0)),.sl ((is0).length) (Ar (is0)),.sl ((ns0).length) (Bf (ns0)),.v (.bool p0),.v (.bool q0)],.v (.string op)] (fun r=>r=.v (.bool true)):=by
 refine hO [] Tryz.f3 (fun a w=>Tryz.call3 a w) Tryz.func3 rfl (⟨_,rfl⟩) ?_
 refine Aa rfl (iQ 4 ?_)
 let Z1:=zT [(2,Ia n),(4,.d (Sv op)),(5,.p 5 0),(6,.p 6 0),(8,.p 8 0),(10,Ba false)] []
 let Z2:=zH [(8,[Iv k0,Sv (tx t0),.sl ((is0).length) (Ar (is0)),.sl ((ns0).length) (Bf (ns0)),Bv p0,Bv q0])] []
 let Z3:=zH [(5,[Bv g1,Hw a,Lw a,Iv x1]),(6,[Bv g2,Hw b,Lw b,Iv x2])] []
 refine iE 231 Z1 (zH Z3 Z2) ?_
 refine Ae (Aa rfl (eC 6 [] 40 (a4k) (jU .not (.bool true) 41 ?_)))
 refine Ap ((by simp)) ?_
 refine iE 231 (zT [(41,Ba false)] Z1) (zH Z2 Z3) ?_
 refine iF (Ad (Af (Aa rfl (iQ 1 (jC 7 [.agg [Bv g1,Hw a,Lw a,Iv x1]] 43 (a2j ha) ?_)))))
 rintro _ ⟨x,rfl⟩
 refine iQ 1 (jC 7 [.agg [Bv g2,Hw b,Lw b,Iv x2]] 45 (a2j hb) ?_)
 rintro _ ⟨y,rfl⟩
 refine iQ 4 ?_
 let Z4:=zT [(2,Ia n),(4,.d (Sv op)),(8,.p 8 0),(10,Ba false),(11,.p 11 0),(12,.p 12 0),(41,Ba false)] []
 let Z5:=zH [(11,[Bv ((x).g),Hw ((x).n),Lw ((x).n),Iv ((x).e)])] []
 let Z6:=zH [(12,[Bv ((y).g),Hw ((y).n),Lw ((y).n),Iv ((y).e)])] []
 let Z7:=zH Z6 (zH Z5 Z2)
 refine iE 231 Z4 Z7 ?_
 refine Aa rfl (iQ 1 (eC 8 [.agg [Bv ((x).g),Hw ((x).n),Lw ((x).n),Iv ((x).e)]] 47 (Gz x) (iQ 1 (eC 8 [.agg [Bv ((y).g),Hw ((y).n),Lw ((y).n),Iv ((y).e)]] 49 (Gz y) ?_))))
 have b1:=x.lo;have b2:=x.hi;have b3:=y.lo;have b4:=y.hi
 refine iQ 4 ?_
 let Z8:=zH [(13,[.bx (Vl.num (x).g (x).n (x).e).enc]),(14,[.bx (Vl.num (y).g (y).n (y).e).enc])] []
 refine iE 231 (zT [(13,.p 13 0),(14,.p 14 0)] Z4) (zH Z8 Z7) ?_
 refine Aa rfl (iQ 2 (jC 9 [Sv (⟨#[43]⟩),.agg [.bx (Vl.num (x).g (x).n (x).e).enc],.agg [.bx (Vl.num (y).g (y).n (y).e).enc]] 53 (Vt (x:=x) (y:=y) rfl rfl) ?_))
 rintro _ ⟨v1,k1,rfl,hv1,hk1⟩
 refine iQ 6 ?_
 let Z9:=zT [(13,.p 13 0),(14,.p 14 0),(15,.p 15 0),(16,Ba k1)] []
 refine iE 231 (zT Z9 Z4) (zH [(15,[.bx (v1).enc])] (zH Z7 Z8)) ?_
 refine Aa rfl (iQ 2 (jC 9 [Sv (⟨#[45]⟩),.agg [.bx (Vl.num (x).g (x).n (x).e).enc],.agg [.bx (Vl.num (y).g (y).n (y).e).enc]] 59 (b26 (x:=x) (y:=y) rfl rfl) ?_))
 rintro _ ⟨v2,k2,rfl,hv2,hk2⟩
 refine iQ 6 (iE 231 (zT [(17,.p 17 0),(18,Ba k2)] (zT Z4 Z9)) (zH [(15,[.bx (v1).enc]),(17,[.bx (v2).enc])] (zH Z7 Z8)) ?_)
 refine Aa rfl (iQ 2 (jC 9 [Sv (⟨#[42]⟩),.agg [.bx (Vl.num (x).g (x).n (x).e).enc],.agg [.bx (Vl.num (y).g (y).n (y).e).enc]] 65 (b07 (x:=x) (y:=y) rfl rfl) ?_))
 rintro _ ⟨v3,k3,rfl,hv3,hk3⟩
 refine iQ 6 ?_
 let Z10:=zT [(17,.p 17 0),(18,Ba k2),(19,.p 19 0),(20,Ba k3)] []
 let Z11:=zT Z10 (zT Z4 Z9)
 let Z12:=zH [(15,[.bx (v1).enc]),(17,[.bx (v2).enc]),(19,[.bx (v3).enc])] []
 let Z13:=zH Z12 (zH Z7 Z8)
 refine iE 231 Z11 Z13 ?_
 refine Aa rfl (iQ 2 (jC 9 [Sv (⟨#[47]⟩),.agg [.bx (Vl.num (x).g (x).n (x).e).enc],.agg [.bx (Vl.num (y).g (y).n (y).e).enc]] 71 (b1x (x:=x) (y:=y) rfl rfl) ?_))
 rintro _ ⟨v4,k4,rfl,hd0,hd1⟩
 refine iQ 6 (iE 231 (zT [(21,.p 21 0),(22,Ba k4)] Z11) (zH [(21,[.bx (v4).enc])] Z13) ?_)
 refine Aa rfl (iQ 2 (eC 10 [Iv n] 77 (b09 (x:=a86 n h0 h1) rfl h0 h1) (jC 9 [Sv (⟨#[42,42]⟩),.agg [.bx (Vl.num (x).g (x).n (x).e).enc],.agg [.bx (Vl.num (a86 n h0 h1).g (a86 n h0 h1).n (a86 n h0 h1).e).enc]] 78 (b2e (x:=x) (y:=a86 n h0 h1) h0 h1 rfl rfl rfl) ?_)))
 rintro _ ⟨v5,k5,rfl,hp0,hp1⟩
 refine iQ 6 ?_
 let Z14:=zT [(21,.p 21 0),(22,Ba k4),(23,.p 23 0),(24,Ba k5)] []
 refine iE 231 (zT Z14 Z11) (zH [(21,[.bx (v4).enc]),(23,[.bx (v5).enc])] Z13) ?_
 refine Aa rfl (iQ 2 (jC 11 [.agg [Bv ((x).g),Hw ((x).n),Lw ((x).n),Iv ((x).e)],.agg [Bv ((y).g),Hw ((y).n),Lw ((y).n),Iv ((y).e)]] 84 (Kb (Qm x.lt y.lt (by omega) (by omega) (by omega) (by omega))) ?_))
 rintro _ ⟨ga,ka,ea,oa,rfl,hA⟩
 refine iQ 6 ?_
 let Z15:=zH [(21,[.bx (v4).enc]),(23,[.bx (v5).enc]),(25,[Bv ga,Hw ka,Lw ka,Iv ea])] []
 refine iE 231 (zT [(25,.p 25 0),(26,Ba oa)] (zT Z11 Z14)) (zH Z15 Z13) ?_
 refine Aa rfl (iQ 2 (jC 12 [.agg [Bv ((x).g),Hw ((x).n),Lw ((x).n),Iv ((x).e)],.agg [Bv ((y).g),Hw ((y).n),Lw ((y).n),Iv ((y).e)]] 90 (Kb (Xr x.lt y.lt (by omega) (by omega) (by omega) (by omega))) ?_))
 rintro _ ⟨gs,ks,es,os,rfl,hS⟩
 refine iQ 6 ?_
 let Z16:=zT [(25,.p 25 0),(26,Ba oa),(27,.p 27 0),(28,Ba os)] []
 let Z17:=zT Z16 (zT Z11 Z14)
 refine iE 231 Z17 (zH [(27,[Bv gs,Hw ks,Lw ks,Iv es])] (zH Z13 Z15)) ?_
 refine Aa rfl (iQ 2 (jC 13 [.agg [Bv ((x).g),Hw ((x).n),Lw ((x).n),Iv ((x).e)],.agg [Bv ((y).g),Hw ((y).n),Lw ((y).n),Iv ((y).e)]] 96 (Jz (o1:=true) (o2:=true) x.ltB y.ltB (by omega) (by omega) (by omega) (by omega)) ?_))
 rintro _ ⟨gm,km,em,om,rfl,hM⟩
 refine iQ 6 ?_
 let Z18:=zH [(27,[Bv gs,Hw ks,Lw ks,Iv es]),(29,[Bv gm,Hw km,Lw km,Iv em])] []
 let Z19:=zH Z18 (zH Z13 Z15)
 refine iE 231 (zT [(29,.p 29 0),(30,Ba om)] Z17) Z19 ?_
 refine Ae (Aa rfl (iQ 4 (eC 14 [.agg [.bx (v1).enc],Bv k1,.agg [Bv ga,Hw ka,Lw ka,Iv ea],Bv oa] 103 (Nk (t:=It x y) hA (a3e (x:=x) (y:=y) hA) hv1 hk1) (jU .not (.bool true) 104 ?_))))
 refine Ap ((by simp)) ?_
 refine iQ 5 (eC 14 [.agg [.bx (v2).enc],Bv k2,.agg [Bv gs,Hw ks,Lw ks,Iv es],Bv os] 110 (Nk (t:=Vq x y) hS (a2v (x:=x) (y:=y) hS) hv2 hk2) (jU .not (.bool true) 111 ?_))
 refine Ap ((by simp)) ?_
 refine iQ 6 (eC 14 [.agg [.bx (v3).enc],Bv k3,.agg [Bv gm,Hw km,Lw km,Iv em],Bv om] 118 (Nk (t:=Xp x y) hM (a3m (x:=x) (y:=y) hM) hv3 hk3) (jU .not (.bool true) 119 ?_))
 refine Ap ((by simp)) ?_
 refine iQ 1 ?_
 let Z20:=zT [(13,.p 13 0),(14,.p 14 0),(15,.p 15 0),(17,.p 17 0),(19,.p 19 0),(25,.p 25 0),(27,.p 27 0),(29,.p 29 0),(120,Ba false)] []
 let Z21:=zT Z20 (zT Z4 Z14)
 refine iE 231 Z21 Z19 ?_
 refine iF (Ad (Af (Aa rfl (iQ 2 (jC 15 [.agg [Bv ((x).g),Hw ((x).n),Lw ((x).n),Iv ((x).e)],.agg [Bv ((y).g),Hw ((y).n),Lw ((y).n),Iv ((y).e)]] 124 (Xo x.lt y.lt (by omega) (by omega) (by omega) (by omega)) ?_)))))
 rintro _ ⟨gd,kd,ed,od,rfl,hD⟩
 refine iQ 6 (iE 231 (zT [(31,.p 31 0),(32,Ba od)] Z21) (zH [(31,[Bv gd,Hw kd,Lw kd,Iv ed])] Z19) ?_)
 refine Ey 231 (fun (vcx:Bool)=>match vcx with | vb149=>[(2,Ia n),(4,.d (Sv op)),(8,.p 8 0),(10,Ba false),(11,.p 11 0),(12,.p 12 0),(13,.p 13 0),(14,.p 14 0),(15,.p 15 0),(17,.p 17 0),(19,.p 19 0),(21,.p 21 0),(22,Ba k4),(23,.p 23 0),(24,Ba k5),(25,.p 25 0),(27,.p 27 0),(29,.p 29 0),(31,.p 31 0),(32,Ba od),(41,Ba false),(120,Ba false),(149,Ba vb149)]) (fun (vcx:Bool)=>match vcx with | vb149=>[(8,[Iv k0,Sv (tx t0),.sl ((is0).length) (Ar (is0)),.sl ((ns0).length) (Bf (ns0)),Bv p0,Bv q0]),(11,[Bv ((x).g),Hw ((x).n),Lw ((x).n),Iv ((x).e)]),(12,[Bv ((y).g),Hw ((y).n),Lw ((y).n),Iv ((y).e)]),(13,[.bx (Vl.num (x).g (x).n (x).e).enc]),(14,[.bx (Vl.num (y).g (y).n (y).e).enc]),(15,[.bx (v1).enc]),(17,[.bx (v2).enc]),(19,[.bx (v3).enc]),(21,[.bx (v4).enc]),(23,[.bx (v5).enc]),(25,[Bv ga,Hw ka,Lw ka,Iv ea]),(27,[Bv gs,Hw ks,Lw ks,Iv es]),(29,[Bv gm,Hw km,Lw km,Iv em]),(31,[Bv gd,Hw kd,Lw kd,Iv ed])]) (fun (vcx:Bool)=>match vcx with | vb149=>True) ?_ ?_
 ·rintro vb149 hinv
  simp only at hinv
  refine Aa rfl (iQ 2 (jC 18 [.agg [Bv ((x).g),Hw ((x).n),Lw ((x).n),Iv ((x).e)],Iv n] 153 (Kb (Qy x.lt x.lo x.hi h0 h1)) ?_))
  rintro _ ⟨gp,kp,ep,oq,rfl,hP⟩
  refine iQ 6 ?_
  let Z22:=zT [(31,.p 31 0),(32,Ba od),(33,.p 33 0),(34,Ba oq),(149,Ba vb149)] []
  let Z23:=zH [(31,[Bv gd,Hw kd,Lw kd,Iv ed]),(33,[Bv gp,Hw kp,Lw kp,Iv ep])] []
  refine iE 231 (zT Z22 Z21) (zH Z23 Z19) ?_
  refine Aa rfl (iQ 1 (jB .lss 3 (.int .i64 n) (.int .i64 (-999999999)) 157 ?_))
  intro c157 hc157
  refine iQ 1 ?_
  cases c157
  ·replace hc157:=bf hc157
   refine iQ 1 (jB .gtr 3 (.int .i64 n) (.int .i64 999999999) 160 ?_)
   intro c160 hc160
   refine iQ 2 ?_
   cases c160
   ·replace hc160:=bf hc160
    refine iQ 1 (jC 16 [.agg [Bv ((x).g),Hw ((x).n),Lw ((x).n),Iv ((x).e)]] 164 (Dw x.ltB) ?_)
    rintro _ ⟨zz,rfl,hzz⟩
    refine iQ 1 ?_
    cases zz
    ·refine iQ 5 (iE 231 (zT [(35,Ba false)] (zT Z21 Z22)) (zH Z19 Z23) ?_)
     have hx0:x.n≠0:=fun e=>by have:=hzz.2 e;cases this
     have hno:Cf x n=false:=by unfold Cf;simp;omega
     obtain ⟨e1,e2⟩:=hp1 hno
     refine Ae (Aa rfl (iQ 11 (jU .not (.bool false) 181 ?_)))
     refine Cl ((by simp)) ?_
     refine iQ 5 (eC 14 [.agg [.bx (v5).enc],Bv k5,.agg [Bv gp,Hw kp,Lw kp,Iv ep],Bv oq] 187 (Nk (t:=Ff x n) hP (a3b hP) e1 e2) (jU .not (.bool true) 188 ?_))
     refine Ap ((by simp)) ?_
     refine iQ 2 ?_
     let Z24:=zT [(21,.p 21 0),(22,Ba k4),(23,.p 23 0),(31,.p 31 0),(32,Ba od),(33,.p 33 0),(149,Ba vb149),(190,Ba false)] []
     let Z25:=zT Z24 (zT Z20 Z4)
     refine iE 231 Z25 (zH Z19 Z23) ?_
     refine iF (Ad (Af (Aa rfl (iQ 1 (jC 19 [.agg [Iv k0,Sv (tx t0),.sl ((is0).length) (Ar (is0)),.sl ((ns0).length) (Bf (ns0)),Bv p0,Bv q0]] 192 (Jv hs) ?_)))))
     rintro _ ⟨o,rfl,ho⟩
     refine iQ 2 ?_
     let Z26:=zT [(2,Ia n),(4,.d (Sv op)),(10,Ba false),(11,.p 11 0),(12,.p 12 0),(36,.p 36 0),(41,Ba false)] []
     let Z27:=zT Z26 (zT Z20 Z24)
     let Z28:=zH [(36,[.bx (o).enc])] (zH Z8 (zH Z15 (zH Z18 (zH Z23 (zH Z12 (zH Z5 Z6))))))
     refine iE 231 Z27 Z28 ?_
     refine Aa rfl (iQ 3 (jC 9 [Sv op,.agg [.bx (Vl.num (x).g (x).n (x).e).enc],.agg [.bx (o).enc]] 197 (Gj (b:=op) (x:=x) ho) ?_))
     rintro _ ⟨u,ku,rfl,hu⟩
     refine iQ 6 (iE 231 (zT [(37,.p 37 0),(38,Ba ku)] Z27) (zH [(37,[.bx (u).enc])] Z28) ?_)
     refine Aa rfl (iQ 1 (jB .eql 9 (.string op) (.string (⟨#[43]⟩)) 201 ?_))
     intro c201 hc201
     refine iQ 1 ?_
     cases c201
     ·replace hc201:=bf hc201
      refine iQ 1 (jB .eql 9 (.string op) (.string (⟨#[45]⟩)) 204 ?_)
      intro c204 hc204
      refine iQ 2 ?_
      cases c204
      ·replace hc204:=bf hc204
       refine iQ 1 (jB .eql 9 (.string op) (.string (⟨#[42]⟩)) 208 ?_)
       intro c208 hc208
       refine iQ 2 ?_
       cases c208
       ·replace hc208:=bf hc208
        refine iQ 1 (jB .eql 9 (.string op) (.string (⟨#[47]⟩)) 212 ?_)
        intro c212 hc212
        refine iQ 2 ?_
        cases c212
        ·replace hc212:=bf hc212
         refine iQ 1 (jB .eql 9 (.string op) (.string (⟨#[42,42]⟩)) 216 ?_)
         intro c216 hc216
         refine iQ 2 (iE 231 (zT [(37,.p 37 0),(38,Ba ku),(39,Ba c216)] Z27) (zH [(37,[.bx (u).enc])] Z28) ?_)
         refine Aa rfl (iQ 1 (jC 20 [.agg [.bx (o).enc]] 219 (Bh) ?_))
         rintro _ ⟨kk,rfl,hkk⟩
         refine jB .eql 27 (.int .i64 kk) (.int .i64 3) 220 ?_
         intro c220 hc220
         refine iQ 1 ?_
         cases c220
         ·replace hc220:=bf hc220
          refine iQ 4 ?_
          obtain ⟨e1,e2⟩:=hu (fun e=>hc220 (by rw[hkk,Bj e.1]))
          refine eC 17 [.agg [.bx (u).enc]] 226 (Az e1) (iQ 5 ?_)
          let Z29:=zT [(2,Ia n),(4,.d (Sv op)),(10,Ba ku),(11,.p 11 0),(12,.p 12 0),(36,.p 36 0),(37,.p 37 0),(41,Ba false)] []
          let Z30:=zT Z29 (zT Z20 Z24)
          refine iE 231 Z30 (zH [(37,[.bx (u).enc])] Z28) ?_
          refine Ab (iR (Bv ku) ?_)
          rw[e2]
         ·replace hc220:=bt hc220
          refine iQ 3 ?_
          cases c216
          ·replace hc216:=bf hc216
           refine iQ 1 ?_
           obtain ⟨e1,e2⟩:=hu (fun e=>by rcases e.2 with e | e | e | e | e<;>first | exact hc201 e | exact hc204 e | exact hc208 e | exact hc212 e | exact hc216 e)
           refine eC 17 [.agg [.bx (u).enc]] 226 (Az e1) (iQ 5 ?_)
           let Z31:=zT [(2,Ia n),(4,.d (Sv op)),(10,Ba ku),(11,.p 11 0),(12,.p 12 0),(36,.p 36 0),(37,.p 37 0),(41,Ba false)] []
           let Z32:=zT Z31 (zT Z20 Z24)
           refine iE 231 Z32 (zH [(37,[.bx (u).enc])] Z28) ?_
           refine Ab (iR (Bv ku) ?_)
           rw[e2]
          ·replace hc216:=bt hc216
           refine iQ 7 ?_
           let Z33:=zT [(2,Ia n),(4,.d (Sv op)),(10,Ba true),(11,.p 11 0),(12,.p 12 0),(36,.p 36 0),(37,.p 37 0),(41,Ba false)] []
           let Z34:=zT Z33 (zT Z20 Z24)
           refine iE 231 Z34 (zH [(37,[.bx (u).enc])] Z28) ?_
           refine Ab (iR (Bv true) ?_)
           rfl
        ·replace hc212:=bt hc212
         refine iQ 4 (iE 231 (zT [(37,.p 37 0),(38,Ba ku),(39,Ba true)] Z27) (zH [(37,[.bx (u).enc])] Z28) ?_)
         refine Aa rfl (iQ 1 (jC 20 [.agg [.bx (o).enc]] 219 (Bh) ?_))
         rintro _ ⟨kk,rfl,hkk⟩
         refine jB .eql 27 (.int .i64 kk) (.int .i64 3) 220 ?_
         intro c220 hc220
         refine iQ 1 ?_
         cases c220
         ·replace hc220:=bf hc220
          refine iQ 4 ?_
          obtain ⟨e1,e2⟩:=hu (fun e=>hc220 (by rw[hkk,Bj e.1]))
          refine eC 17 [.agg [.bx (u).enc]] 226 (Az e1) (iQ 5 ?_)
          let Z35:=zT [(2,Ia n),(4,.d (Sv op)),(10,Ba ku),(11,.p 11 0),(12,.p 12 0),(36,.p 36 0),(37,.p 37 0),(41,Ba false)] []
          let Z36:=zT Z35 (zT Z20 Z24)
          refine iE 231 Z36 (zH [(37,[.bx (u).enc])] Z28) ?_
          refine Ab (iR (Bv ku) ?_)
          rw[e2]
         ·replace hc220:=bt hc220
          refine iQ 10 ?_
          let Z37:=zT [(2,Ia n),(4,.d (Sv op)),(10,Ba true),(11,.p 11 0),(12,.p 12 0),(36,.p 36 0),(37,.p 37 0),(41,Ba false)] []
          let Z38:=zT Z37 (zT Z20 Z24)
          refine iE 231 Z38 (zH [(37,[.bx (u).enc])] Z28) ?_
          refine Ab (iR (Bv true) ?_)
          rfl
       ·replace hc208:=bt hc208
        refine iQ 8 (iE 231 (zT [(37,.p 37 0),(38,Ba ku),(39,Ba true)] Z27) (zH [(37,[.bx (u).enc])] Z28) ?_)
        refine Aa rfl (iQ 1 (jC 20 [.agg [.bx (o).enc]] 219 (Bh) ?_))
        rintro _ ⟨kk,rfl,hkk⟩
        refine jB .eql 27 (.int .i64 kk) (.int .i64 3) 220 ?_
        intro c220 hc220
        refine iQ 1 ?_
        cases c220
        ·replace hc220:=bf hc220
         refine iQ 4 ?_
         obtain ⟨e1,e2⟩:=hu (fun e=>hc220 (by rw[hkk,Bj e.1]))
         refine eC 17 [.agg [.bx (u).enc]] 226 (Az e1) (iQ 5 ?_)
         let Z39:=zT [(2,Ia n),(4,.d (Sv op)),(10,Ba ku),(11,.p 11 0),(12,.p 12 0),(36,.p 36 0),(37,.p 37 0),(41,Ba false)] []
         let Z40:=zT Z39 (zT Z20 Z24)
         refine iE 231 Z40 (zH [(37,[.bx (u).enc])] Z28) ?_
         refine Ab (iR (Bv ku) ?_)
         rw[e2]
        ·replace hc220:=bt hc220
         refine iQ 10 ?_
         let Z41:=zT [(2,Ia n),(4,.d (Sv op)),(10,Ba true),(11,.p 11 0),(12,.p 12 0),(36,.p 36 0),(37,.p 37 0),(41,Ba false)] []
         let Z42:=zT Z41 (zT Z20 Z24)
         refine iE 231 Z42 (zH [(37,[.bx (u).enc])] Z28) ?_
         refine Ab (iR (Bv true) ?_)
         rfl
      ·replace hc204:=bt hc204
       refine iQ 12 (iE 231 (zT [(37,.p 37 0),(38,Ba ku),(39,Ba true)] Z27) (zH [(37,[.bx (u).enc])] Z28) ?_)
       refine Aa rfl (iQ 1 (jC 20 [.agg [.bx (o).enc]] 219 (Bh) ?_))
       rintro _ ⟨kk,rfl,hkk⟩
       refine jB .eql 27 (.int .i64 kk) (.int .i64 3) 220 ?_
       intro c220 hc220
       refine iQ 1 ?_
       cases c220
       ·replace hc220:=bf hc220
        refine iQ 4 ?_
        obtain ⟨e1,e2⟩:=hu (fun e=>hc220 (by rw[hkk,Bj e.1]))
        refine eC 17 [.agg [.bx (u).enc]] 226 (Az e1) (iQ 5 ?_)
        let Z43:=zT [(2,Ia n),(4,.d (Sv op)),(10,Ba ku),(11,.p 11 0),(12,.p 12 0),(36,.p 36 0),(37,.p 37 0),(41,Ba false)] []
        let Z44:=zT Z43 (zT Z20 Z24)
        refine iE 231 Z44 (zH [(37,[.bx (u).enc])] Z28) ?_
        refine Ab (iR (Bv ku) ?_)
        rw[e2]
       ·replace hc220:=bt hc220
        refine iQ 10 ?_
        let Z45:=zT [(2,Ia n),(4,.d (Sv op)),(10,Ba true),(11,.p 11 0),(12,.p 12 0),(36,.p 36 0),(37,.p 37 0),(41,Ba false)] []
        let Z46:=zT Z45 (zT Z20 Z24)
        refine iE 231 Z46 (zH [(37,[.bx (u).enc])] Z28) ?_
        refine Ab (iR (Bv true) ?_)
        rfl
     ·replace hc201:=bt hc201
      refine iQ 16 (iE 231 (zT [(37,.p 37 0),(38,Ba ku),(39,Ba true)] Z27) (zH [(37,[.bx (u).enc])] Z28) ?_)
      refine Aa rfl (iQ 1 (jC 20 [.agg [.bx (o).enc]] 219 (Bh) ?_))
      rintro _ ⟨kk,rfl,hkk⟩
      refine jB .eql 27 (.int .i64 kk) (.int .i64 3) 220 ?_
      intro c220 hc220
      refine iQ 1 ?_
      cases c220
      ·replace hc220:=bf hc220
       refine iQ 4 ?_
       obtain ⟨e1,e2⟩:=hu (fun e=>hc220 (by rw[hkk,Bj e.1]))
       refine eC 17 [.agg [.bx (u).enc]] 226 (Az e1) (iQ 5 ?_)
       let Z47:=zT [(2,Ia n),(4,.d (Sv op)),(10,Ba ku),(11,.p 11 0),(12,.p 12 0),(36,.p 36 0),(37,.p 37 0),(41,Ba false)] []
       let Z48:=zT Z47 (zT Z20 Z24)
       refine iE 231 Z48 (zH [(37,[.bx (u).enc])] Z28) ?_
       refine Ab (iR (Bv ku) ?_)
       rw[e2]
      ·replace hc220:=bt hc220
       refine iQ 10 ?_
       let Z49:=zT [(2,Ia n),(4,.d (Sv op)),(10,Ba true),(11,.p 11 0),(12,.p 12 0),(36,.p 36 0),(37,.p 37 0),(41,Ba false)] []
       let Z50:=zT Z49 (zT Z20 Z24)
       refine iE 231 Z50 (zH [(37,[.bx (u).enc])] Z28) ?_
       refine Ab (iR (Bv true) ?_)
       rfl
    ·refine iQ 1 (jB .lss 3 (.int .i64 n) (.int .i64 0) 167 ?_)
     have hx0:x.n=0:=hzz.1 rfl
     intro c167 hc167
     refine iQ 3 (iE 231 (zT [(35,Ba c167)] (zT Z21 Z22)) (zH Z19 Z23) ?_)
     refine Ae (Aa rfl (iQ 2 ?_))
     cases c167
     ·replace hc167:=bf hc167
      refine iQ 9 (jU .not (.bool false) 181 ?_)
      have hno:Cf x n=false:=by unfold Cf;simp;omega
      obtain ⟨e1,e2⟩:=hp1 hno
      refine Cl ((by simp)) ?_
      refine iQ 5 (eC 14 [.agg [.bx (v5).enc],Bv k5,.agg [Bv gp,Hw kp,Lw kp,Iv ep],Bv oq] 187 (Nk (t:=Ff x n) hP (a3b hP) e1 e2) (jU .not (.bool true) 188 ?_))
      refine Ap ((by simp)) ?_
      refine iQ 2 ?_
      let Z51:=zT [(21,.p 21 0),(22,Ba k4),(23,.p 23 0),(31,.p 31 0),(32,Ba od),(33,.p 33 0),(149,Ba vb149),(190,Ba false)] []
      let Z52:=zT Z51 (zT Z20 Z4)
      refine iE 231 Z52 (zH Z19 Z23) ?_
      refine iF (Ad (Af (Aa rfl (iQ 1 (jC 19 [.agg [Iv k0,Sv (tx t0),.sl ((is0).length) (Ar (is0)),.sl ((ns0).length) (Bf (ns0)),Bv p0,Bv q0]] 192 (Jv hs) ?_)))))
      rintro _ ⟨o,rfl,ho⟩
      refine iQ 2 ?_
      let Z53:=zT [(2,Ia n),(4,.d (Sv op)),(10,Ba false),(11,.p 11 0),(12,.p 12 0),(36,.p 36 0),(41,Ba false)] []
      let Z54:=zT Z53 (zT Z20 Z51)
      let Z55:=zH [(36,[.bx (o).enc])] (zH Z8 (zH Z15 (zH Z18 (zH Z23 (zH Z12 (zH Z5 Z6))))))
      refine iE 231 Z54 Z55 ?_
      refine Aa rfl (iQ 3 (jC 9 [Sv op,.agg [.bx (Vl.num (x).g (x).n (x).e).enc],.agg [.bx (o).enc]] 197 (Gj (b:=op) (x:=x) ho) ?_))
      rintro _ ⟨u,ku,rfl,hu⟩
      refine iQ 6 (iE 231 (zT [(37,.p 37 0),(38,Ba ku)] Z54) (zH [(37,[.bx (u).enc])] Z55) ?_)
      refine Aa rfl (iQ 1 (jB .eql 9 (.string op) (.string (⟨#[43]⟩)) 201 ?_))
      intro c201 hc201
      refine iQ 1 ?_
      cases c201
      ·replace hc201:=bf hc201
       refine iQ 1 (jB .eql 9 (.string op) (.string (⟨#[45]⟩)) 204 ?_)
       intro c204 hc204
       refine iQ 2 ?_
       cases c204
       ·replace hc204:=bf hc204
        refine iQ 1 (jB .eql 9 (.string op) (.string (⟨#[42]⟩)) 208 ?_)
        intro c208 hc208
        refine iQ 2 ?_
        cases c208
        ·replace hc208:=bf hc208
         refine iQ 1 (jB .eql 9 (.string op) (.string (⟨#[47]⟩)) 212 ?_)
         intro c212 hc212
         refine iQ 2 ?_
         cases c212
         ·replace hc212:=bf hc212
          refine iQ 1 (jB .eql 9 (.string op) (.string (⟨#[42,42]⟩)) 216 ?_)
          intro c216 hc216
          refine iQ 2 (iE 231 (zT [(37,.p 37 0),(38,Ba ku),(39,Ba c216)] Z54) (zH [(37,[.bx (u).enc])] Z55) ?_)
          refine Aa rfl (iQ 1 (jC 20 [.agg [.bx (o).enc]] 219 (Bh) ?_))
          rintro _ ⟨kk,rfl,hkk⟩
          refine jB .eql 27 (.int .i64 kk) (.int .i64 3) 220 ?_
          intro c220 hc220
          refine iQ 1 ?_
          cases c220
          ·replace hc220:=bf hc220
           refine iQ 4 ?_
           obtain ⟨e1,e2⟩:=hu (fun e=>hc220 (by rw[hkk,Bj e.1]))
           refine eC 17 [.agg [.bx (u).enc]] 226 (Az e1) (iQ 5 ?_)
           let Z56:=zT [(2,Ia n),(4,.d (Sv op)),(10,Ba ku),(11,.p 11 0),(12,.p 12 0),(36,.p 36 0),(37,.p 37 0),(41,Ba false)] []
           let Z57:=zT Z56 (zT Z20 Z51)
           refine iE 231 Z57 (zH [(37,[.bx (u).enc])] Z55) ?_
           refine Ab (iR (Bv ku) ?_)
           rw[e2]
          ·replace hc220:=bt hc220
           refine iQ 3 ?_
           cases c216
           ·replace hc216:=bf hc216
            refine iQ 1 ?_
            obtain ⟨e1,e2⟩:=hu (fun e=>by rcases e.2 with e | e | e | e | e<;>first | exact hc201 e | exact hc204 e | exact hc208 e | exact hc212 e | exact hc216 e)
            refine eC 17 [.agg [.bx (u).enc]] 226 (Az e1) (iQ 5 ?_)
            let Z58:=zT [(2,Ia n),(4,.d (Sv op)),(10,Ba ku),(11,.p 11 0),(12,.p 12 0),(36,.p 36 0),(37,.p 37 0),(41,Ba false)] []
            let Z59:=zT Z58 (zT Z20 Z51)
            refine iE 231 Z59 (zH [(37,[.bx (u).enc])] Z55) ?_
            refine Ab (iR (Bv ku) ?_)
            rw[e2]
           ·replace hc216:=bt hc216
            refine iQ 7 ?_
            let Z60:=zT [(2,Ia n),(4,.d (Sv op)),(10,Ba true),(11,.p 11 0),(12,.p 12 0),(36,.p 36 0),(37,.p 37 0),(41,Ba false)] []
            let Z61:=zT Z60 (zT Z20 Z51)
            refine iE 231 Z61 (zH [(37,[.bx (u).enc])] Z55) ?_
            refine Ab (iR (Bv true) ?_)
            rfl
         ·replace hc212:=bt hc212
          refine iQ 4 (iE 231 (zT [(37,.p 37 0),(38,Ba ku),(39,Ba true)] Z54) (zH [(37,[.bx (u).enc])] Z55) ?_)
          refine Aa rfl (iQ 1 (jC 20 [.agg [.bx (o).enc]] 219 (Bh) ?_))
          rintro _ ⟨kk,rfl,hkk⟩
          refine jB .eql 27 (.int .i64 kk) (.int .i64 3) 220 ?_
          intro c220 hc220
          refine iQ 1 ?_
          cases c220
          ·replace hc220:=bf hc220
           refine iQ 4 ?_
           obtain ⟨e1,e2⟩:=hu (fun e=>hc220 (by rw[hkk,Bj e.1]))
           refine eC 17 [.agg [.bx (u).enc]] 226 (Az e1) (iQ 5 ?_)
           let Z62:=zT [(2,Ia n),(4,.d (Sv op)),(10,Ba ku),(11,.p 11 0),(12,.p 12 0),(36,.p 36 0),(37,.p 37 0),(41,Ba false)] []
           let Z63:=zT Z62 (zT Z20 Z51)
           refine iE 231 Z63 (zH [(37,[.bx (u).enc])] Z55) ?_
           refine Ab (iR (Bv ku) ?_)
           rw[e2]
          ·replace hc220:=bt hc220
           refine iQ 10 ?_
           let Z64:=zT [(2,Ia n),(4,.d (Sv op)),(10,Ba true),(11,.p 11 0),(12,.p 12 0),(36,.p 36 0),(37,.p 37 0),(41,Ba false)] []
           let Z65:=zT Z64 (zT Z20 Z51)
           refine iE 231 Z65 (zH [(37,[.bx (u).enc])] Z55) ?_
           refine Ab (iR (Bv true) ?_)
           rfl
        ·replace hc208:=bt hc208
         refine iQ 8 (iE 231 (zT [(37,.p 37 0),(38,Ba ku),(39,Ba true)] Z54) (zH [(37,[.bx (u).enc])] Z55) ?_)
         refine Aa rfl (iQ 1 (jC 20 [.agg [.bx (o).enc]] 219 (Bh) ?_))
         rintro _ ⟨kk,rfl,hkk⟩
         refine jB .eql 27 (.int .i64 kk) (.int .i64 3) 220 ?_
         intro c220 hc220
         refine iQ 1 ?_
         cases c220
         ·replace hc220:=bf hc220
          refine iQ 4 ?_
          obtain ⟨e1,e2⟩:=hu (fun e=>hc220 (by rw[hkk,Bj e.1]))
          refine eC 17 [.agg [.bx (u).enc]] 226 (Az e1) (iQ 5 ?_)
          let Z66:=zT [(2,Ia n),(4,.d (Sv op)),(10,Ba ku),(11,.p 11 0),(12,.p 12 0),(36,.p 36 0),(37,.p 37 0),(41,Ba false)] []
          let Z67:=zT Z66 (zT Z20 Z51)
          refine iE 231 Z67 (zH [(37,[.bx (u).enc])] Z55) ?_
          refine Ab (iR (Bv ku) ?_)
          rw[e2]
         ·replace hc220:=bt hc220
          refine iQ 10 ?_
          let Z68:=zT [(2,Ia n),(4,.d (Sv op)),(10,Ba true),(11,.p 11 0),(12,.p 12 0),(36,.p 36 0),(37,.p 37 0),(41,Ba false)] []
          let Z69:=zT Z68 (zT Z20 Z51)
          refine iE 231 Z69 (zH [(37,[.bx (u).enc])] Z55) ?_
          refine Ab (iR (Bv true) ?_)
          rfl
       ·replace hc204:=bt hc204
        refine iQ 12 (iE 231 (zT [(37,.p 37 0),(38,Ba ku),(39,Ba true)] Z54) (zH [(37,[.bx (u).enc])] Z55) ?_)
        refine Aa rfl (iQ 1 (jC 20 [.agg [.bx (o).enc]] 219 (Bh) ?_))
        rintro _ ⟨kk,rfl,hkk⟩
        refine jB .eql 27 (.int .i64 kk) (.int .i64 3) 220 ?_
        intro c220 hc220
        refine iQ 1 ?_
        cases c220
        ·replace hc220:=bf hc220
         refine iQ 4 ?_
         obtain ⟨e1,e2⟩:=hu (fun e=>hc220 (by rw[hkk,Bj e.1]))
         refine eC 17 [.agg [.bx (u).enc]] 226 (Az e1) (iQ 5 ?_)
         let Z70:=zT [(2,Ia n),(4,.d (Sv op)),(10,Ba ku),(11,.p 11 0),(12,.p 12 0),(36,.p 36 0),(37,.p 37 0),(41,Ba false)] []
         let Z71:=zT Z70 (zT Z20 Z51)
         refine iE 231 Z71 (zH [(37,[.bx (u).enc])] Z55) ?_
         refine Ab (iR (Bv ku) ?_)
         rw[e2]
        ·replace hc220:=bt hc220
         refine iQ 10 ?_
         let Z72:=zT [(2,Ia n),(4,.d (Sv op)),(10,Ba true),(11,.p 11 0),(12,.p 12 0),(36,.p 36 0),(37,.p 37 0),(41,Ba false)] []
         let Z73:=zT Z72 (zT Z20 Z51)
         refine iE 231 Z73 (zH [(37,[.bx (u).enc])] Z55) ?_
         refine Ab (iR (Bv true) ?_)
         rfl
      ·replace hc201:=bt hc201
       refine iQ 16 (iE 231 (zT [(37,.p 37 0),(38,Ba ku),(39,Ba true)] Z54) (zH [(37,[.bx (u).enc])] Z55) ?_)
       refine Aa rfl (iQ 1 (jC 20 [.agg [.bx (o).enc]] 219 (Bh) ?_))
       rintro _ ⟨kk,rfl,hkk⟩
       refine jB .eql 27 (.int .i64 kk) (.int .i64 3) 220 ?_
       intro c220 hc220
       refine iQ 1 ?_
       cases c220
       ·replace hc220:=bf hc220
        refine iQ 4 ?_
        obtain ⟨e1,e2⟩:=hu (fun e=>hc220 (by rw[hkk,Bj e.1]))
        refine eC 17 [.agg [.bx (u).enc]] 226 (Az e1) (iQ 5 ?_)
        let Z74:=zT [(2,Ia n),(4,.d (Sv op)),(10,Ba ku),(11,.p 11 0),(12,.p 12 0),(36,.p 36 0),(37,.p 37 0),(41,Ba false)] []
        let Z75:=zT Z74 (zT Z20 Z51)
        refine iE 231 Z75 (zH [(37,[.bx (u).enc])] Z55) ?_
        refine Ab (iR (Bv ku) ?_)
        rw[e2]
       ·replace hc220:=bt hc220
        refine iQ 10 ?_
        let Z76:=zT [(2,Ia n),(4,.d (Sv op)),(10,Ba true),(11,.p 11 0),(12,.p 12 0),(36,.p 36 0),(37,.p 37 0),(41,Ba false)] []
        let Z77:=zT Z76 (zT Z20 Z51)
        refine iE 231 Z77 (zH [(37,[.bx (u).enc])] Z55) ?_
        refine Ab (iR (Bv true) ?_)
        rfl
     ·replace hc167:=bt hc167
      refine iQ 1 ?_
      have hno:Cf x n=true:=by unfold Cf;simp;omega
      obtain ⟨e1,e2⟩:=hp0 hno
      refine eC 17 [.agg [.bx (v5).enc]] 173 (Az e1) (iQ 3 (jU .not (.bool k5) 177 ?_))
      refine Ap ((by rw[e2];simp)) ?_
      refine iQ 3 (jU .not (.bool true) 181 ?_)
      refine Ap ((by simp)) ?_
      refine iQ 9 ?_
      let Z78:=zT [(21,.p 21 0),(22,Ba k4),(23,.p 23 0),(31,.p 31 0),(32,Ba od),(33,.p 33 0),(149,Ba vb149),(190,Ba false)] []
      let Z79:=zT Z78 (zT Z20 Z4)
      refine iE 231 Z79 (zH Z19 Z23) ?_
      refine iF (Ad (Af (Aa rfl (iQ 1 (jC 19 [.agg [Iv k0,Sv (tx t0),.sl ((is0).length) (Ar (is0)),.sl ((ns0).length) (Bf (ns0)),Bv p0,Bv q0]] 192 (Jv hs) ?_)))))
      rintro _ ⟨o,rfl,ho⟩
      refine iQ 2 ?_
      let Z80:=zT [(2,Ia n),(4,.d (Sv op)),(10,Ba false),(11,.p 11 0),(12,.p 12 0),(36,.p 36 0),(41,Ba false)] []
      let Z81:=zT Z80 (zT Z20 Z78)
      let Z82:=zH [(36,[.bx (o).enc])] (zH Z8 (zH Z15 (zH Z18 (zH Z23 (zH Z12 (zH Z5 Z6))))))
      refine iE 231 Z81 Z82 ?_
      refine Aa rfl (iQ 3 (jC 9 [Sv op,.agg [.bx (Vl.num (x).g (x).n (x).e).enc],.agg [.bx (o).enc]] 197 (Gj (b:=op) (x:=x) ho) ?_))
      rintro _ ⟨u,ku,rfl,hu⟩
      refine iQ 6 (iE 231 (zT [(37,.p 37 0),(38,Ba ku)] Z81) (zH [(37,[.bx (u).enc])] Z82) ?_)
      refine Aa rfl (iQ 1 (jB .eql 9 (.string op) (.string (⟨#[43]⟩)) 201 ?_))
      intro c201 hc201
      refine iQ 1 ?_
      cases c201
      ·replace hc201:=bf hc201
       refine iQ 1 (jB .eql 9 (.string op) (.string (⟨#[45]⟩)) 204 ?_)
       intro c204 hc204
       refine iQ 2 ?_
       cases c204
       ·replace hc204:=bf hc204
        refine iQ 1 (jB .eql 9 (.string op) (.string (⟨#[42]⟩)) 208 ?_)
        intro c208 hc208
        refine iQ 2 ?_
        cases c208
        ·replace hc208:=bf hc208
         refine iQ 1 (jB .eql 9 (.string op) (.string (⟨#[47]⟩)) 212 ?_)
         intro c212 hc212
         refine iQ 2 ?_
         cases c212
         ·replace hc212:=bf hc212
          refine iQ 1 (jB .eql 9 (.string op) (.string (⟨#[42,42]⟩)) 216 ?_)
          intro c216 hc216
          refine iQ 2 (iE 231 (zT [(37,.p 37 0),(38,Ba ku),(39,Ba c216)] Z81) (zH [(37,[.bx (u).enc])] Z82) ?_)
          refine Aa rfl (iQ 1 (jC 20 [.agg [.bx (o).enc]] 219 (Bh) ?_))
          rintro _ ⟨kk,rfl,hkk⟩
          refine jB .eql 27 (.int .i64 kk) (.int .i64 3) 220 ?_
          intro c220 hc220
          refine iQ 1 ?_
          cases c220
          ·replace hc220:=bf hc220
           refine iQ 4 ?_
           obtain ⟨e1,e2⟩:=hu (fun e=>hc220 (by rw[hkk,Bj e.1]))
           refine eC 17 [.agg [.bx (u).enc]] 226 (Az e1) (iQ 5 ?_)
           let Z83:=zT [(2,Ia n),(4,.d (Sv op)),(10,Ba ku),(11,.p 11 0),(12,.p 12 0),(36,.p 36 0),(37,.p 37 0),(41,Ba false)] []
           let Z84:=zT Z83 (zT Z20 Z78)
           refine iE 231 Z84 (zH [(37,[.bx (u).enc])] Z82) ?_
           refine Ab (iR (Bv ku) ?_)
           rw[e2]
          ·replace hc220:=bt hc220
           refine iQ 3 ?_
           cases c216
           ·replace hc216:=bf hc216
            refine iQ 1 ?_
            obtain ⟨e1,e2⟩:=hu (fun e=>by rcases e.2 with e | e | e | e | e<;>first | exact hc201 e | exact hc204 e | exact hc208 e | exact hc212 e | exact hc216 e)
            refine eC 17 [.agg [.bx (u).enc]] 226 (Az e1) (iQ 5 ?_)
            let Z85:=zT [(2,Ia n),(4,.d (Sv op)),(10,Ba ku),(11,.p 11 0),(12,.p 12 0),(36,.p 36 0),(37,.p 37 0),(41,Ba false)] []
            let Z86:=zT Z85 (zT Z20 Z78)
            refine iE 231 Z86 (zH [(37,[.bx (u).enc])] Z82) ?_
            refine Ab (iR (Bv ku) ?_)
            rw[e2]
           ·replace hc216:=bt hc216
            refine iQ 7 ?_
            let Z87:=zT [(2,Ia n),(4,.d (Sv op)),(10,Ba true),(11,.p 11 0),(12,.p 12 0),(36,.p 36 0),(37,.p 37 0),(41,Ba false)] []
            let Z88:=zT Z87 (zT Z20 Z78)
            refine iE 231 Z88 (zH [(37,[.bx (u).enc])] Z82) ?_
            refine Ab (iR (Bv true) ?_)
            rfl
         ·replace hc212:=bt hc212
          refine iQ 4 (iE 231 (zT [(37,.p 37 0),(38,Ba ku),(39,Ba true)] Z81) (zH [(37,[.bx (u).enc])] Z82) ?_)
          refine Aa rfl (iQ 1 (jC 20 [.agg [.bx (o).enc]] 219 (Bh) ?_))
          rintro _ ⟨kk,rfl,hkk⟩
          refine jB .eql 27 (.int .i64 kk) (.int .i64 3) 220 ?_
          intro c220 hc220
          refine iQ 1 ?_
          cases c220
          ·replace hc220:=bf hc220
           refine iQ 4 ?_
           obtain ⟨e1,e2⟩:=hu (fun e=>hc220 (by rw[hkk,Bj e.1]))
           refine eC 17 [.agg [.bx (u).enc]] 226 (Az e1) (iQ 5 ?_)
           let Z89:=zT [(2,Ia n),(4,.d (Sv op)),(10,Ba ku),(11,.p 11 0),(12,.p 12 0),(36,.p 36 0),(37,.p 37 0),(41,Ba false)] []
           let Z90:=zT Z89 (zT Z20 Z78)
           refine iE 231 Z90 (zH [(37,[.bx (u).enc])] Z82) ?_
           refine Ab (iR (Bv ku) ?_)
           rw[e2]
          ·replace hc220:=bt hc220
           refine iQ 10 ?_
           let Z91:=zT [(2,Ia n),(4,.d (Sv op)),(10,Ba true),(11,.p 11 0),(12,.p 12 0),(36,.p 36 0),(37,.p 37 0),(41,Ba false)] []
           let Z92:=zT Z91 (zT Z20 Z78)
           refine iE 231 Z92 (zH [(37,[.bx (u).enc])] Z82) ?_
           refine Ab (iR (Bv true) ?_)
           rfl
        ·replace hc208:=bt hc208
         refine iQ 8 (iE 231 (zT [(37,.p 37 0),(38,Ba ku),(39,Ba true)] Z81) (zH [(37,[.bx (u).enc])] Z82) ?_)
         refine Aa rfl (iQ 1 (jC 20 [.agg [.bx (o).enc]] 219 (Bh) ?_))
         rintro _ ⟨kk,rfl,hkk⟩
         refine jB .eql 27 (.int .i64 kk) (.int .i64 3) 220 ?_
         intro c220 hc220
         refine iQ 1 ?_
         cases c220
         ·replace hc220:=bf hc220
          refine iQ 4 ?_
          obtain ⟨e1,e2⟩:=hu (fun e=>hc220 (by rw[hkk,Bj e.1]))
          refine eC 17 [.agg [.bx (u).enc]] 226 (Az e1) (iQ 5 ?_)
          let Z93:=zT [(2,Ia n),(4,.d (Sv op)),(10,Ba ku),(11,.p 11 0),(12,.p 12 0),(36,.p 36 0),(37,.p 37 0),(41,Ba false)] []
          let Z94:=zT Z93 (zT Z20 Z78)
          refine iE 231 Z94 (zH [(37,[.bx (u).enc])] Z82) ?_
          refine Ab (iR (Bv ku) ?_)
          rw[e2]
         ·replace hc220:=bt hc220
          refine iQ 10 ?_
          let Z95:=zT [(2,Ia n),(4,.d (Sv op)),(10,Ba true),(11,.p 11 0),(12,.p 12 0),(36,.p 36 0),(37,.p 37 0),(41,Ba false)] []
          let Z96:=zT Z95 (zT Z20 Z78)
          refine iE 231 Z96 (zH [(37,[.bx (u).enc])] Z82) ?_
          refine Ab (iR (Bv true) ?_)
          rfl
       ·replace hc204:=bt hc204
        refine iQ 12 (iE 231 (zT [(37,.p 37 0),(38,Ba ku),(39,Ba true)] Z81) (zH [(37,[.bx (u).enc])] Z82) ?_)
        refine Aa rfl (iQ 1 (jC 20 [.agg [.bx (o).enc]] 219 (Bh) ?_))
        rintro _ ⟨kk,rfl,hkk⟩
        refine jB .eql 27 (.int .i64 kk) (.int .i64 3) 220 ?_
        intro c220 hc220
        refine iQ 1 ?_
        cases c220
        ·replace hc220:=bf hc220
         refine iQ 4 ?_
         obtain ⟨e1,e2⟩:=hu (fun e=>hc220 (by rw[hkk,Bj e.1]))
         refine eC 17 [.agg [.bx (u).enc]] 226 (Az e1) (iQ 5 ?_)
         let Z97:=zT [(2,Ia n),(4,.d (Sv op)),(10,Ba ku),(11,.p 11 0),(12,.p 12 0),(36,.p 36 0),(37,.p 37 0),(41,Ba false)] []
         let Z98:=zT Z97 (zT Z20 Z78)
         refine iE 231 Z98 (zH [(37,[.bx (u).enc])] Z82) ?_
         refine Ab (iR (Bv ku) ?_)
         rw[e2]
        ·replace hc220:=bt hc220
         refine iQ 10 ?_
         let Z99:=zT [(2,Ia n),(4,.d (Sv op)),(10,Ba true),(11,.p 11 0),(12,.p 12 0),(36,.p 36 0),(37,.p 37 0),(41,Ba false)] []
         let Z100:=zT Z99 (zT Z20 Z78)
         refine iE 231 Z100 (zH [(37,[.bx (u).enc])] Z82) ?_
         refine Ab (iR (Bv true) ?_)
         rfl
      ·replace hc201:=bt hc201
       refine iQ 16 (iE 231 (zT [(37,.p 37 0),(38,Ba ku),(39,Ba true)] Z81) (zH [(37,[.bx (u).enc])] Z82) ?_)
       refine Aa rfl (iQ 1 (jC 20 [.agg [.bx (o).enc]] 219 (Bh) ?_))
       rintro _ ⟨kk,rfl,hkk⟩
       refine jB .eql 27 (.int .i64 kk) (.int .i64 3) 220 ?_
       intro c220 hc220
       refine iQ 1 ?_
       cases c220
       ·replace hc220:=bf hc220
        refine iQ 4 ?_
        obtain ⟨e1,e2⟩:=hu (fun e=>hc220 (by rw[hkk,Bj e.1]))
        refine eC 17 [.agg [.bx (u).enc]] 226 (Az e1) (iQ 5 ?_)
        let Z101:=zT [(2,Ia n),(4,.d (Sv op)),(10,Ba ku),(11,.p 11 0),(12,.p 12 0),(36,.p 36 0),(37,.p 37 0),(41,Ba false)] []
        let Z102:=zT Z101 (zT Z20 Z78)
        refine iE 231 Z102 (zH [(37,[.bx (u).enc])] Z82) ?_
        refine Ab (iR (Bv ku) ?_)
        rw[e2]
       ·replace hc220:=bt hc220
        refine iQ 10 ?_
        let Z103:=zT [(2,Ia n),(4,.d (Sv op)),(10,Ba true),(11,.p 11 0),(12,.p 12 0),(36,.p 36 0),(37,.p 37 0),(41,Ba false)] []
        let Z104:=zT Z103 (zT Z20 Z78)
        refine iE 231 Z104 (zH [(37,[.bx (u).enc])] Z82) ?_
        refine Ab (iR (Bv true) ?_)
        rfl
   ·replace hc160:=bt hc160
    refine iQ 8 (iE 231 (zT [(35,Ba true)] (zT Z21 Z22)) (zH Z19 Z23) ?_)
    have hno:Cf x n=true:=by unfold Cf;simp;omega
    obtain ⟨e1,e2⟩:=hp0 hno
    refine Ae (Aa rfl (iQ 3 (eC 17 [.agg [.bx (v5).enc]] 173 (Az e1) (iQ 3 (jU .not (.bool k5) 177 ?_)))))
    refine Ap ((by rw[e2];simp)) ?_
    refine iQ 3 (jU .not (.bool true) 181 ?_)
    refine Ap ((by simp)) ?_
    refine iQ 9 ?_
    let Z105:=zT [(21,.p 21 0),(22,Ba k4),(23,.p 23 0),(31,.p 31 0),(32,Ba od),(33,.p 33 0),(149,Ba vb149),(190,Ba false)] []
    let Z106:=zT Z105 (zT Z20 Z4)
    refine iE 231 Z106 (zH Z19 Z23) ?_
    refine iF (Ad (Af (Aa rfl (iQ 1 (jC 19 [.agg [Iv k0,Sv (tx t0),.sl ((is0).length) (Ar (is0)),.sl ((ns0).length) (Bf (ns0)),Bv p0,Bv q0]] 192 (Jv hs) ?_)))))
    rintro _ ⟨o,rfl,ho⟩
    refine iQ 2 ?_
    let Z107:=zT [(2,Ia n),(4,.d (Sv op)),(10,Ba false),(11,.p 11 0),(12,.p 12 0),(36,.p 36 0),(41,Ba false)] []
    let Z108:=zT Z107 (zT Z20 Z105)
    let Z109:=zH [(36,[.bx (o).enc])] (zH Z8 (zH Z15 (zH Z18 (zH Z23 (zH Z12 (zH Z5 Z6))))))
    refine iE 231 Z108 Z109 ?_
    refine Aa rfl (iQ 3 (jC 9 [Sv op,.agg [.bx (Vl.num (x).g (x).n (x).e).enc],.agg [.bx (o).enc]] 197 (Gj (b:=op) (x:=x) ho) ?_))
    rintro _ ⟨u,ku,rfl,hu⟩
    refine iQ 6 (iE 231 (zT [(37,.p 37 0),(38,Ba ku)] Z108) (zH [(37,[.bx (u).enc])] Z109) ?_)
    refine Aa rfl (iQ 1 (jB .eql 9 (.string op) (.string (⟨#[43]⟩)) 201 ?_))
    intro c201 hc201
    refine iQ 1 ?_
    cases c201
    ·replace hc201:=bf hc201
     refine iQ 1 (jB .eql 9 (.string op) (.string (⟨#[45]⟩)) 204 ?_)
     intro c204 hc204
     refine iQ 2 ?_
     cases c204
     ·replace hc204:=bf hc204
      refine iQ 1 (jB .eql 9 (.string op) (.string (⟨#[42]⟩)) 208 ?_)
      intro c208 hc208
      refine iQ 2 ?_
      cases c208
      ·replace hc208:=bf hc208
       refine iQ 1 (jB .eql 9 (.string op) (.string (⟨#[47]⟩)) 212 ?_)
       intro c212 hc212
       refine iQ 2 ?_
       cases c212
       ·replace hc212:=bf hc212
        refine iQ 1 (jB .eql 9 (.string op) (.string (⟨#[42,42]⟩)) 216 ?_)
        intro c216 hc216
        refine iQ 2 (iE 231 (zT [(37,.p 37 0),(38,Ba ku),(39,Ba c216)] Z108) (zH [(37,[.bx (u).enc])] Z109) ?_)
        refine Aa rfl (iQ 1 (jC 20 [.agg [.bx (o).enc]] 219 (Bh) ?_))
        rintro _ ⟨kk,rfl,hkk⟩
        refine jB .eql 27 (.int .i64 kk) (.int .i64 3) 220 ?_
        intro c220 hc220
        refine iQ 1 ?_
        cases c220
        ·replace hc220:=bf hc220
         refine iQ 4 ?_
         obtain ⟨e1,e2⟩:=hu (fun e=>hc220 (by rw[hkk,Bj e.1]))
         refine eC 17 [.agg [.bx (u).enc]] 226 (Az e1) (iQ 5 ?_)
         let Z110:=zT [(2,Ia n),(4,.d (Sv op)),(10,Ba ku),(11,.p 11 0),(12,.p 12 0),(36,.p 36 0),(37,.p 37 0),(41,Ba false)] []
         let Z111:=zT Z110 (zT Z20 Z105)
         refine iE 231 Z111 (zH [(37,[.bx (u).enc])] Z109) ?_
         refine Ab (iR (Bv ku) ?_)
         rw[e2]
        ·replace hc220:=bt hc220
         refine iQ 3 ?_
         cases c216
         ·replace hc216:=bf hc216
          refine iQ 1 ?_
          obtain ⟨e1,e2⟩:=hu (fun e=>by rcases e.2 with e | e | e | e | e<;>first | exact hc201 e | exact hc204 e | exact hc208 e | exact hc212 e | exact hc216 e)
          refine eC 17 [.agg [.bx (u).enc]] 226 (Az e1) (iQ 5 ?_)
          let Z112:=zT [(2,Ia n),(4,.d (Sv op)),(10,Ba ku),(11,.p 11 0),(12,.p 12 0),(36,.p 36 0),(37,.p 37 0),(41,Ba false)] []
          let Z113:=zT Z112 (zT Z20 Z105)
          refine iE 231 Z113 (zH [(37,[.bx (u).enc])] Z109) ?_
          refine Ab (iR (Bv ku) ?_)
          rw[e2]
         ·replace hc216:=bt hc216
          refine iQ 7 ?_
          let Z114:=zT [(2,Ia n),(4,.d (Sv op)),(10,Ba true),(11,.p 11 0),(12,.p 12 0),(36,.p 36 0),(37,.p 37 0),(41,Ba false)] []
          let Z115:=zT Z114 (zT Z20 Z105)
          refine iE 231 Z115 (zH [(37,[.bx (u).enc])] Z109) ?_
          refine Ab (iR (Bv true) ?_)
          rfl
       ·replace hc212:=bt hc212
        refine iQ 4 (iE 231 (zT [(37,.p 37 0),(38,Ba ku),(39,Ba true)] Z108) (zH [(37,[.bx (u).enc])] Z109) ?_)
        refine Aa rfl (iQ 1 (jC 20 [.agg [.bx (o).enc]] 219 (Bh) ?_))
        rintro _ ⟨kk,rfl,hkk⟩
        refine jB .eql 27 (.int .i64 kk) (.int .i64 3) 220 ?_
        intro c220 hc220
        refine iQ 1 ?_
        cases c220
        ·replace hc220:=bf hc220
         refine iQ 4 ?_
         obtain ⟨e1,e2⟩:=hu (fun e=>hc220 (by rw[hkk,Bj e.1]))
         refine eC 17 [.agg [.bx (u).enc]] 226 (Az e1) (iQ 5 ?_)
         let Z116:=zT [(2,Ia n),(4,.d (Sv op)),(10,Ba ku),(11,.p 11 0),(12,.p 12 0),(36,.p 36 0),(37,.p 37 0),(41,Ba false)] []
         let Z117:=zT Z116 (zT Z20 Z105)
         refine iE 231 Z117 (zH [(37,[.bx (u).enc])] Z109) ?_
         refine Ab (iR (Bv ku) ?_)
         rw[e2]
        ·replace hc220:=bt hc220
         refine iQ 10 ?_
         let Z118:=zT [(2,Ia n),(4,.d (Sv op)),(10,Ba true),(11,.p 11 0),(12,.p 12 0),(36,.p 36 0),(37,.p 37 0),(41,Ba false)] []
         let Z119:=zT Z118 (zT Z20 Z105)
         refine iE 231 Z119 (zH [(37,[.bx (u).enc])] Z109) ?_
         refine Ab (iR (Bv true) ?_)
         rfl
      ·replace hc208:=bt hc208
       refine iQ 8 (iE 231 (zT [(37,.p 37 0),(38,Ba ku),(39,Ba true)] Z108) (zH [(37,[.bx (u).enc])] Z109) ?_)
       refine Aa rfl (iQ 1 (jC 20 [.agg [.bx (o).enc]] 219 (Bh) ?_))
       rintro _ ⟨kk,rfl,hkk⟩
       refine jB .eql 27 (.int .i64 kk) (.int .i64 3) 220 ?_
       intro c220 hc220
       refine iQ 1 ?_
       cases c220
       ·replace hc220:=bf hc220
        refine iQ 4 ?_
        obtain ⟨e1,e2⟩:=hu (fun e=>hc220 (by rw[hkk,Bj e.1]))
        refine eC 17 [.agg [.bx (u).enc]] 226 (Az e1) (iQ 5 ?_)
        let Z120:=zT [(2,Ia n),(4,.d (Sv op)),(10,Ba ku),(11,.p 11 0),(12,.p 12 0),(36,.p 36 0),(37,.p 37 0),(41,Ba false)] []
        let Z121:=zT Z120 (zT Z20 Z105)
        refine iE 231 Z121 (zH [(37,[.bx (u).enc])] Z109) ?_
        refine Ab (iR (Bv ku) ?_)
        rw[e2]
       ·replace hc220:=bt hc220
        refine iQ 10 ?_
        let Z122:=zT [(2,Ia n),(4,.d (Sv op)),(10,Ba true),(11,.p 11 0),(12,.p 12 0),(36,.p 36 0),(37,.p 37 0),(41,Ba false)] []
        let Z123:=zT Z122 (zT Z20 Z105)
        refine iE 231 Z123 (zH [(37,[.bx (u).enc])] Z109) ?_
        refine Ab (iR (Bv true) ?_)
        rfl
     ·replace hc204:=bt hc204
      refine iQ 12 (iE 231 (zT [(37,.p 37 0),(38,Ba ku),(39,Ba true)] Z108) (zH [(37,[.bx (u).enc])] Z109) ?_)
      refine Aa rfl (iQ 1 (jC 20 [.agg [.bx (o).enc]] 219 (Bh) ?_))
      rintro _ ⟨kk,rfl,hkk⟩
      refine jB .eql 27 (.int .i64 kk) (.int .i64 3) 220 ?_
      intro c220 hc220
      refine iQ 1 ?_
      cases c220
      ·replace hc220:=bf hc220
       refine iQ 4 ?_
       obtain ⟨e1,e2⟩:=hu (fun e=>hc220 (by rw[hkk,Bj e.1]))
       refine eC 17 [.agg [.bx (u).enc]] 226 (Az e1) (iQ 5 ?_)
       let Z124:=zT [(2,Ia n),(4,.d (Sv op)),(10,Ba ku),(11,.p 11 0),(12,.p 12 0),(36,.p 36 0),(37,.p 37 0),(41,Ba false)] []
       let Z125:=zT Z124 (zT Z20 Z105)
       refine iE 231 Z125 (zH [(37,[.bx (u).enc])] Z109) ?_
       refine Ab (iR (Bv ku) ?_)
       rw[e2]
      ·replace hc220:=bt hc220
       refine iQ 10 ?_
       let Z126:=zT [(2,Ia n),(4,.d (Sv op)),(10,Ba true),(11,.p 11 0),(12,.p 12 0),(36,.p 36 0),(37,.p 37 0),(41,Ba false)] []
       let Z127:=zT Z126 (zT Z20 Z105)
       refine iE 231 Z127 (zH [(37,[.bx (u).enc])] Z109) ?_
       refine Ab (iR (Bv true) ?_)
       rfl
    ·replace hc201:=bt hc201
     refine iQ 16 (iE 231 (zT [(37,.p 37 0),(38,Ba ku),(39,Ba true)] Z108) (zH [(37,[.bx (u).enc])] Z109) ?_)
     refine Aa rfl (iQ 1 (jC 20 [.agg [.bx (o).enc]] 219 (Bh) ?_))
     rintro _ ⟨kk,rfl,hkk⟩
     refine jB .eql 27 (.int .i64 kk) (.int .i64 3) 220 ?_
     intro c220 hc220
     refine iQ 1 ?_
     cases c220
     ·replace hc220:=bf hc220
      refine iQ 4 ?_
      obtain ⟨e1,e2⟩:=hu (fun e=>hc220 (by rw[hkk,Bj e.1]))
      refine eC 17 [.agg [.bx (u).enc]] 226 (Az e1) (iQ 5 ?_)
      let Z128:=zT [(2,Ia n),(4,.d (Sv op)),(10,Ba ku),(11,.p 11 0),(12,.p 12 0),(36,.p 36 0),(37,.p 37 0),(41,Ba false)] []
      let Z129:=zT Z128 (zT Z20 Z105)
      refine iE 231 Z129 (zH [(37,[.bx (u).enc])] Z109) ?_
      refine Ab (iR (Bv ku) ?_)
      rw[e2]
     ·replace hc220:=bt hc220
      refine iQ 10 ?_
      let Z130:=zT [(2,Ia n),(4,.d (Sv op)),(10,Ba true),(11,.p 11 0),(12,.p 12 0),(36,.p 36 0),(37,.p 37 0),(41,Ba false)] []
      let Z131:=zT Z130 (zT Z20 Z105)
      refine iE 231 Z131 (zH [(37,[.bx (u).enc])] Z109) ?_
      refine Ab (iR (Bv true) ?_)
      rfl
  ·replace hc157:=bt hc157
   refine iQ 12 (iE 231 (zT [(35,Ba true)] (zT Z21 Z22)) (zH Z19 Z23) ?_)
   have hno:Cf x n=true:=by unfold Cf;simp;omega
   obtain ⟨e1,e2⟩:=hp0 hno
   refine Ae (Aa rfl (iQ 3 (eC 17 [.agg [.bx (v5).enc]] 173 (Az e1) (iQ 3 (jU .not (.bool k5) 177 ?_)))))
   refine Ap ((by rw[e2];simp)) ?_
   refine iQ 3 (jU .not (.bool true) 181 ?_)
   refine Ap ((by simp)) ?_
   refine iQ 9 ?_
   let Z132:=zT [(21,.p 21 0),(22,Ba k4),(23,.p 23 0),(31,.p 31 0),(32,Ba od),(33,.p 33 0),(149,Ba vb149),(190,Ba false)] []
   let Z133:=zT Z132 (zT Z20 Z4)
   refine iE 231 Z133 (zH Z19 Z23) ?_
   refine iF (Ad (Af (Aa rfl (iQ 1 (jC 19 [.agg [Iv k0,Sv (tx t0),.sl ((is0).length) (Ar (is0)),.sl ((ns0).length) (Bf (ns0)),Bv p0,Bv q0]] 192 (Jv hs) ?_)))))
   rintro _ ⟨o,rfl,ho⟩
   refine iQ 2 ?_
   let Z134:=zT [(2,Ia n),(4,.d (Sv op)),(10,Ba false),(11,.p 11 0),(12,.p 12 0),(36,.p 36 0),(41,Ba false)] []
   let Z135:=zT Z134 (zT Z20 Z132)
   let Z136:=zH [(36,[.bx (o).enc])] (zH Z8 (zH Z15 (zH Z18 (zH Z23 (zH Z12 (zH Z5 Z6))))))
   refine iE 231 Z135 Z136 ?_
   refine Aa rfl (iQ 3 (jC 9 [Sv op,.agg [.bx (Vl.num (x).g (x).n (x).e).enc],.agg [.bx (o).enc]] 197 (Gj (b:=op) (x:=x) ho) ?_))
   rintro _ ⟨u,ku,rfl,hu⟩
   refine iQ 6 (iE 231 (zT [(37,.p 37 0),(38,Ba ku)] Z135) (zH [(37,[.bx (u).enc])] Z136) ?_)
   refine Aa rfl (iQ 1 (jB .eql 9 (.string op) (.string (⟨#[43]⟩)) 201 ?_))
   intro c201 hc201
   refine iQ 1 ?_
   cases c201
   ·replace hc201:=bf hc201
    refine iQ 1 (jB .eql 9 (.string op) (.string (⟨#[45]⟩)) 204 ?_)
    intro c204 hc204
    refine iQ 2 ?_
    cases c204
    ·replace hc204:=bf hc204
     refine iQ 1 (jB .eql 9 (.string op) (.string (⟨#[42]⟩)) 208 ?_)
     intro c208 hc208
     refine iQ 2 ?_
     cases c208
     ·replace hc208:=bf hc208
      refine iQ 1 (jB .eql 9 (.string op) (.string (⟨#[47]⟩)) 212 ?_)
      intro c212 hc212
      refine iQ 2 ?_
      cases c212
      ·replace hc212:=bf hc212
       refine iQ 1 (jB .eql 9 (.string op) (.string (⟨#[42,42]⟩)) 216 ?_)
       intro c216 hc216
       refine iQ 2 (iE 231 (zT [(37,.p 37 0),(38,Ba ku),(39,Ba c216)] Z135) (zH [(37,[.bx (u).enc])] Z136) ?_)
       refine Aa rfl (iQ 1 (jC 20 [.agg [.bx (o).enc]] 219 (Bh) ?_))
       rintro _ ⟨kk,rfl,hkk⟩
       refine jB .eql 27 (.int .i64 kk) (.int .i64 3) 220 ?_
       intro c220 hc220
       refine iQ 1 ?_
       cases c220
       ·replace hc220:=bf hc220
        refine iQ 4 ?_
        obtain ⟨e1,e2⟩:=hu (fun e=>hc220 (by rw[hkk,Bj e.1]))
        refine eC 17 [.agg [.bx (u).enc]] 226 (Az e1) (iQ 5 ?_)
        let Z137:=zT [(2,Ia n),(4,.d (Sv op)),(10,Ba ku),(11,.p 11 0),(12,.p 12 0),(36,.p 36 0),(37,.p 37 0),(41,Ba false)] []
        let Z138:=zT Z137 (zT Z20 Z132)
        refine iE 231 Z138 (zH [(37,[.bx (u).enc])] Z136) ?_
        refine Ab (iR (Bv ku) ?_)
        rw[e2]
       ·replace hc220:=bt hc220
        refine iQ 3 ?_
        cases c216
        ·replace hc216:=bf hc216
         refine iQ 1 ?_
         obtain ⟨e1,e2⟩:=hu (fun e=>by rcases e.2 with e | e | e | e | e<;>first | exact hc201 e | exact hc204 e | exact hc208 e | exact hc212 e | exact hc216 e)
         refine eC 17 [.agg [.bx (u).enc]] 226 (Az e1) (iQ 5 ?_)
         let Z139:=zT [(2,Ia n),(4,.d (Sv op)),(10,Ba ku),(11,.p 11 0),(12,.p 12 0),(36,.p 36 0),(37,.p 37 0),(41,Ba false)] []
         let Z140:=zT Z139 (zT Z20 Z132)
         refine iE 231 Z140 (zH [(37,[.bx (u).enc])] Z136) ?_
         refine Ab (iR (Bv ku) ?_)
         rw[e2]
        ·replace hc216:=bt hc216
         refine iQ 7 ?_
         let Z141:=zT [(2,Ia n),(4,.d (Sv op)),(10,Ba true),(11,.p 11 0),(12,.p 12 0),(36,.p 36 0),(37,.p 37 0),(41,Ba false)] []
         let Z142:=zT Z141 (zT Z20 Z132)
         refine iE 231 Z142 (zH [(37,[.bx (u).enc])] Z136) ?_
         refine Ab (iR (Bv true) ?_)
         rfl
      ·replace hc212:=bt hc212
       refine iQ 4 (iE 231 (zT [(37,.p 37 0),(38,Ba ku),(39,Ba true)] Z135) (zH [(37,[.bx (u).enc])] Z136) ?_)
       refine Aa rfl (iQ 1 (jC 20 [.agg [.bx (o).enc]] 219 (Bh) ?_))
       rintro _ ⟨kk,rfl,hkk⟩
       refine jB .eql 27 (.int .i64 kk) (.int .i64 3) 220 ?_
       intro c220 hc220
       refine iQ 1 ?_
       cases c220
       ·replace hc220:=bf hc220
        refine iQ 4 ?_
        obtain ⟨e1,e2⟩:=hu (fun e=>hc220 (by rw[hkk,Bj e.1]))
        refine eC 17 [.agg [.bx (u).enc]] 226 (Az e1) (iQ 5 ?_)
        let Z143:=zT [(2,Ia n),(4,.d (Sv op)),(10,Ba ku),(11,.p 11 0),(12,.p 12 0),(36,.p 36 0),(37,.p 37 0),(41,Ba false)] []
        let Z144:=zT Z143 (zT Z20 Z132)
        refine iE 231 Z144 (zH [(37,[.bx (u).enc])] Z136) ?_
        refine Ab (iR (Bv ku) ?_)
        rw[e2]
       ·replace hc220:=bt hc220
        refine iQ 10 ?_
        let Z145:=zT [(2,Ia n),(4,.d (Sv op)),(10,Ba true),(11,.p 11 0),(12,.p 12 0),(36,.p 36 0),(37,.p 37 0),(41,Ba false)] []
        let Z146:=zT Z145 (zT Z20 Z132)
        refine iE 231 Z146 (zH [(37,[.bx (u).enc])] Z136) ?_
        refine Ab (iR (Bv true) ?_)
        rfl
     ·replace hc208:=bt hc208
      refine iQ 8 (iE 231 (zT [(37,.p 37 0),(38,Ba ku),(39,Ba true)] Z135) (zH [(37,[.bx (u).enc])] Z136) ?_)
      refine Aa rfl (iQ 1 (jC 20 [.agg [.bx (o).enc]] 219 (Bh) ?_))
      rintro _ ⟨kk,rfl,hkk⟩
      refine jB .eql 27 (.int .i64 kk) (.int .i64 3) 220 ?_
      intro c220 hc220
      refine iQ 1 ?_
      cases c220
      ·replace hc220:=bf hc220
       refine iQ 4 ?_
       obtain ⟨e1,e2⟩:=hu (fun e=>hc220 (by rw[hkk,Bj e.1]))
       refine eC 17 [.agg [.bx (u).enc]] 226 (Az e1) (iQ 5 ?_)
       let Z147:=zT [(2,Ia n),(4,.d (Sv op)),(10,Ba ku),(11,.p 11 0),(12,.p 12 0),(36,.p 36 0),(37,.p 37 0),(41,Ba false)] []
       let Z148:=zT Z147 (zT Z20 Z132)
       refine iE 231 Z148 (zH [(37,[.bx (u).enc])] Z136) ?_
       refine Ab (iR (Bv ku) ?_)
       rw[e2]
      ·replace hc220:=bt hc220
       refine iQ 10 ?_
       let Z149:=zT [(2,Ia n),(4,.d (Sv op)),(10,Ba true),(11,.p 11 0),(12,.p 12 0),(36,.p 36 0),(37,.p 37 0),(41,Ba false)] []
       let Z150:=zT Z149 (zT Z20 Z132)
       refine iE 231 Z150 (zH [(37,[.bx (u).enc])] Z136) ?_
       refine Ab (iR (Bv true) ?_)
       rfl
    ·replace hc204:=bt hc204
     refine iQ 12 (iE 231 (zT [(37,.p 37 0),(38,Ba ku),(39,Ba true)] Z135) (zH [(37,[.bx (u).enc])] Z136) ?_)
     refine Aa rfl (iQ 1 (jC 20 [.agg [.bx (o).enc]] 219 (Bh) ?_))
     rintro _ ⟨kk,rfl,hkk⟩
     refine jB .eql 27 (.int .i64 kk) (.int .i64 3) 220 ?_
     intro c220 hc220
     refine iQ 1 ?_
     cases c220
     ·replace hc220:=bf hc220
      refine iQ 4 ?_
      obtain ⟨e1,e2⟩:=hu (fun e=>hc220 (by rw[hkk,Bj e.1]))
      refine eC 17 [.agg [.bx (u).enc]] 226 (Az e1) (iQ 5 ?_)
      let Z151:=zT [(2,Ia n),(4,.d (Sv op)),(10,Ba ku),(11,.p 11 0),(12,.p 12 0),(36,.p 36 0),(37,.p 37 0),(41,Ba false)] []
      let Z152:=zT Z151 (zT Z20 Z132)
      refine iE 231 Z152 (zH [(37,[.bx (u).enc])] Z136) ?_
      refine Ab (iR (Bv ku) ?_)
      rw[e2]
     ·replace hc220:=bt hc220
      refine iQ 10 ?_
      let Z153:=zT [(2,Ia n),(4,.d (Sv op)),(10,Ba true),(11,.p 11 0),(12,.p 12 0),(36,.p 36 0),(37,.p 37 0),(41,Ba false)] []
      let Z154:=zT Z153 (zT Z20 Z132)
      refine iE 231 Z154 (zH [(37,[.bx (u).enc])] Z136) ?_
      refine Ab (iR (Bv true) ?_)
      rfl
   ·replace hc201:=bt hc201
    refine iQ 16 (iE 231 (zT [(37,.p 37 0),(38,Ba ku),(39,Ba true)] Z135) (zH [(37,[.bx (u).enc])] Z136) ?_)
    refine Aa rfl (iQ 1 (jC 20 [.agg [.bx (o).enc]] 219 (Bh) ?_))
    rintro _ ⟨kk,rfl,hkk⟩
    refine jB .eql 27 (.int .i64 kk) (.int .i64 3) 220 ?_
    intro c220 hc220
    refine iQ 1 ?_
    cases c220
    ·replace hc220:=bf hc220
     refine iQ 4 ?_
     obtain ⟨e1,e2⟩:=hu (fun e=>hc220 (by rw[hkk,Bj e.1]))
     refine eC 17 [.agg [.bx (u).enc]] 226 (Az e1) (iQ 5 ?_)
     let Z155:=zT [(2,Ia n),(4,.d (Sv op)),(10,Ba ku),(11,.p 11 0),(12,.p 12 0),(36,.p 36 0),(37,.p 37 0),(41,Ba false)] []
     let Z156:=zT Z155 (zT Z20 Z132)
     refine iE 231 Z156 (zH [(37,[.bx (u).enc])] Z136) ?_
     refine Ab (iR (Bv ku) ?_)
     rw[e2]
    ·replace hc220:=bt hc220
     refine iQ 10 ?_
     let Z157:=zT [(2,Ia n),(4,.d (Sv op)),(10,Ba true),(11,.p 11 0),(12,.p 12 0),(36,.p 36 0),(37,.p 37 0),(41,Ba false)] []
     let Z158:=zT Z157 (zT Z20 Z132)
     refine iE 231 Z158 (zH [(37,[.bx (u).enc])] Z136) ?_
     refine Ab (iR (Bv true) ?_)
     rfl
 intro hmid
 refine Aa rfl (iQ 1 (jC 16 [.agg [Bv ((y).g),Hw ((y).n),Lw ((y).n),Iv ((y).e)]] 128 (Dw y.ltB) ?_))
 rintro _ ⟨z,rfl,hz⟩
 refine iQ 1 ?_
 cases z
 ·refine iQ 9 ?_
  have hy0:y.n≠0:=fun e=>by have:=hz.2 e;cases this
  obtain ⟨e1,e2⟩:=hd1 hy0
  refine eC 16 [.agg [Bv ((y).g),Hw ((y).n),Lw ((y).n),Iv ((y).e)]] 139 (a27 y.ltB hy0) (jU .not (.bool false) 140 ?_)
  refine Cl ((by simp)) ?_
  refine iQ 5 (eC 14 [.agg [.bx (v4).enc],Bv k4,.agg [Bv gd,Hw kd,Lw kd,Iv ed],Bv od] 146 (Nk (t:=Hh x y) hD (Xc hD) e1 e2) (jU .not (.bool true) 147 ?_))
  refine Ap ((by simp)) ?_
  refine iQ 2 (iE 231 [(2,Ia n),(4,.d (Sv op)),(8,.p 8 0),(10,Ba false),(11,.p 11 0),(12,.p 12 0),(13,.p 13 0),(14,.p 14 0),(15,.p 15 0),(17,.p 17 0),(19,.p 19 0),(21,.p 21 0),(22,Ba k4),(23,.p 23 0),(24,Ba k5),(25,.p 25 0),(27,.p 27 0),(29,.p 29 0),(31,.p 31 0),(32,Ba od),(41,Ba false),(120,Ba false),(149,Ba false)] [(8,[Iv k0,Sv (tx t0),.sl ((is0).length) (Ar (is0)),.sl ((ns0).length) (Bf (ns0)),Bv p0,Bv q0]),(11,[Bv ((x).g),Hw ((x).n),Lw ((x).n),Iv ((x).e)]),(12,[Bv ((y).g),Hw ((y).n),Lw ((y).n),Iv ((y).e)]),(13,[.bx (Vl.num (x).g (x).n (x).e).enc]),(14,[.bx (Vl.num (y).g (y).n (y).e).enc]),(15,[.bx (v1).enc]),(17,[.bx (v2).enc]),(19,[.bx (v3).enc]),(21,[.bx (v4).enc]),(23,[.bx (v5).enc]),(25,[Bv ga,Hw ka,Lw ka,Iv ea]),(27,[Bv gs,Hw ks,Lw ks,Iv es]),(29,[Bv gm,Hw km,Lw km,Iv em]),(31,[Bv gd,Hw kd,Lw kd,Iv ed])] ?_)
  refine iF (Ad ?_)
  refine Cn hmid false (trivial) (by kernel_rfl)
 ·refine iQ 1 ?_
  obtain ⟨e1,e2⟩:=hd0 (hz.1 rfl)
  refine eC 17 [.agg [.bx (v4).enc]] 131 (Az e1) (iQ 3 (jU .not (.bool k4) 135 ?_))
  refine Ap ((by rw[e2];simp)) ?_
  refine iQ 3 (eC 16 [.agg [Bv ((y).g),Hw ((y).n),Lw ((y).n),Iv ((y).e)]] 139 (a2n y.ltB (hz.1 rfl)) (jU .not (.bool true) 140 ?_))
  refine Ap ((by simp)) ?_
  refine iQ 9 (iE 231 [(2,Ia n),(4,.d (Sv op)),(8,.p 8 0),(10,Ba false),(11,.p 11 0),(12,.p 12 0),(13,.p 13 0),(14,.p 14 0),(15,.p 15 0),(17,.p 17 0),(19,.p 19 0),(21,.p 21 0),(22,Ba k4),(23,.p 23 0),(24,Ba k5),(25,.p 25 0),(27,.p 27 0),(29,.p 29 0),(31,.p 31 0),(32,Ba od),(41,Ba false),(120,Ba false),(149,Ba false)] [(8,[Iv k0,Sv (tx t0),.sl ((is0).length) (Ar (is0)),.sl ((ns0).length) (Bf (ns0)),Bv p0,Bv q0]),(11,[Bv ((x).g),Hw ((x).n),Lw ((x).n),Iv ((x).e)]),(12,[Bv ((y).g),Hw ((y).n),Lw ((y).n),Iv ((y).e)]),(13,[.bx (Vl.num (x).g (x).n (x).e).enc]),(14,[.bx (Vl.num (y).g (y).n (y).e).enc]),(15,[.bx (v1).enc]),(17,[.bx (v2).enc]),(19,[.bx (v3).enc]),(21,[.bx (v4).enc]),(23,[.bx (v5).enc]),(25,[Bv ga,Hw ka,Lw ka,Iv ea]),(27,[Bv gs,Hw ks,Lw ks,Iv es]),(29,[Bv gm,Hw km,Lw km,Iv em]),(31,[Bv gd,Hw kd,Lw kd,Iv ed])] ?_)
  refine iF (Ad ?_)
  refine Cn hmid false (trivial) (by kernel_rfl)
end Go.Proofs.YtdkgnmiiibpnnaaGreatDoor
