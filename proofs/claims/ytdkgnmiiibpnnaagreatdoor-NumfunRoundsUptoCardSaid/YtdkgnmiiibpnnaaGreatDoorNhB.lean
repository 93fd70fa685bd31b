/- casuistlaw20.NumfunRounds: the law. -/
import Derived.Test.YtdkgnmiiibpnnaaGreatDoorNhA
import Derived.Test.YtdkgnmiiibpnnaaGreatDoorMkV
namespace Go.Proofs.YtdkgnmiiibpnnaaGreatDoor
open Go.RowKit
set_option linter.unusedVariables false
set_option linter.unusedSimpArgs false
set_option maxRecDepth 100000
theorem a3v {g:Bool} {n:Nat} {e:Int} (hn:n<B128):HasC Tryz.prog 7 [Bk g n e] (fun y => ∃ d:D3,y=Bk d.g d.n d.e) :=
 (b8k hn).mono fun y ⟨s,c,x,h,h1,h2,h3,h4⟩=>⟨⟨(s,c,x),Ln ⟨h1,h2,h3,h4⟩⟩,h⟩
theorem Vt {x:Bool}:HasC Tryz.prog 31 [VV (.bool x)] (fun r=>r=.tup [.v (.bool x),.v (.bool true)]):=b2g (.bool x)
theorem b5o {v:Vl} (h:v.kindI≠3):v.isNum=false:=by
 cases v<;>simp[Vl.isNum,Vl.kindI] at *
theorem a3t {t:T4} {g:Bool} {k:Nat} {e:Int} {v:Vl} (hT:t=(g,k,e,true)) (hm:May g k e) (hv:v=Dz (Cf t)):HasC Tryz.prog 23 [VV v,Bk g k e] (fun r=>r=.v (.bool true)):=by
 subst hT
 rw[Dw hm] at hv
 exact b51 (x:=⟨(g,k,e),hm⟩) hv
theorem Qo {t:T4} {g:Bool} {k:Nat} {e:Int} {v:Vl} (hT:t=(g,k,e,false)) (hv:v=Dz (Cf t)):HasC Tryz.prog 17 [VV v] (fun r=>r=.v (.bool true)):=by
 subst hT
 rw[Eq] at hv
 exact a1v hv
set_option maxHeartbeats 6400000 in
theorem Sd {g1 g2:Bool} {a b m:Nat} {x1 x2 n:Int} {k0:Int} {t0:L8} {is0:List Dm} {ns0:List L8} {p0 q0:Bool} (ha:a<B128) (hb:b<B128) (h0 : -9223372036854775808≤n) (h1:n≤9223372036854775807) (hm:m<256) (hs:(Dm.mk k0 t0 is0 ns0 p0 q0).small):HasC Tryz.prog 4 [.agg [.v (.bool g1),.v (.int .u64 (hiW (a))),.v (.int .u64 (loW (a))),.v (.int .i64 x1)],.agg [.v (.bool g2),.v (.int .u64 (hiW (b))),.v (.int .u64 (loW (b))),.v (.int .i64 x2)],.v (.int .i64 n),.v (.int .u8 ((m:Int))),.agg [.v (.int .i64 k0),.v (.string (tx t0)),.sl ((is0).length) (Aq (is0)),.sl ((ns0).length) (Bf (ns0)),.v (.bool p0),.v (.bool q0)]] (fun r=>r=.v (.bool true)):=by
 refine hO [] Tryz.f4 (fun a w=>Tryz.call4 a w) Tryz.func4 rfl (⟨_,rfl⟩) ?_
 refine Aa rfl (iQ 4 ?_)
 let Z1:=zT [(2,Ia n),(3,.d (.v (.int .u8 ((m:Int))))),(5,.p 5 0),(6,.p 6 0),(9,.p 9 0),(10,Ba false)] []
 let Z2:=zH [(9,[Iv k0,Sv (tx t0),.sl ((is0).length) (Aq (is0)),.sl ((ns0).length) (Bf (ns0)),Bv p0,Bv q0])] []
 let Z3:=zH [(5,[Bv g1,Hw a,Lw a,Iv x1]),(6,[Bv g2,Hw b,Lw b,Iv x2])] []
 refine iE 235 Z1 (zH Z3 Z2) ?_
 refine Ae (Aa rfl (eC 6 [] 34 (a5n) (jU .not (.bool true) 35 ?_)))
 refine An ((by simp)) ?_
 refine iE 235 (zT [(35,Ba false)] Z1) (zH Z2 Z3) ?_
 refine iF (Ad (Af (Aa rfl (iQ 1 (jC 7 [.agg [Bv g1,Hw a,Lw a,Iv x1]] 37 (a3v ha) ?_)))))
 rintro _ ⟨x,rfl⟩
 refine iQ 1 (jC 7 [.agg [Bv g2,Hw b,Lw b,Iv x2]] 39 (a3v hb) ?_)
 rintro _ ⟨y,rfl⟩
 refine iQ 4 ?_
 let Z4:=zT [(2,Ia n),(3,.d (.v (.int .u8 ((m:Int))))),(9,.p 9 0),(10,Ba false),(11,.p 11 0),(12,.p 12 0),(35,Ba false)] []
 let Z5:=zH [(11,[Bv ((x).g),Hw ((x).n),Lw ((x).n),Iv ((x).e)])] []
 let Z6:=zH [(12,[Bv ((y).g),Hw ((y).n),Lw ((y).n),Iv ((y).e)])] []
 let Z7:=zH Z6 (zH Z5 Z2)
 refine iE 235 Z4 Z7 ?_
 refine Aa rfl (iQ 1 (eC 8 [.agg [Bv ((x).g),Hw ((x).n),Lw ((x).n),Iv ((x).e)]] 41 (Fc x) (iQ 1 (eC 8 [.agg [Bv ((y).g),Hw ((y).n),Lw ((y).n),Iv ((y).e)]] 43 (Fc y) (iQ 4 ?_)))))
 let Z8:=zH [(13,[.bx (Vl.num (x).g (x).n (x).e).enc]),(14,[.bx (Vl.num (y).g (y).n (y).e).enc])] []
 refine iE 235 (zT [(13,.p 13 0),(14,.p 14 0)] Z4) (zH Z8 Z7) ?_
 refine Aa rfl (iQ 1 (jB .rem 5 (.int .u8 ((m:Int))) (.int .u8 7) 45 ?_))
 refine And.intro (by omega) ?_
 intro z45 hz45
 refine jB .add 5 (.int .u8 1) (.int .u8 z45) 46 ?_
 intro z46 hz46
 try replace hz46:=hz46.u8 (by omega)
 refine jV 5 51 (.int .u8 z46) 47 ?_
 intro z47 hz47
 try replace hz47:=hz47.i64 (by omega)
 refine iQ 1 ?_
 let Z9:=zT [(2,Ia n),(9,.p 9 0),(10,Ba false),(11,.p 11 0),(12,.p 12 0),(13,.p 13 0),(14,.p 14 0),(15,Ia z47),(35,Ba false)] []
 refine iE 235 Z9 (zH Z7 Z8) ?_
 refine Aa rfl (iQ 3 (jC 21 [.agg [Bv ((x).g),Hw ((x).n),Lw ((x).n),Iv ((x).e)],Iv n,Iv z47] 52 (Fd (Mu x.lt x.sg x.lo x.hi h0 h1)) ?_))
 rintro _ ⟨gd,kd,ed,od,rfl,hD⟩
 refine iQ 6 (iE 235 (zT [(16,.p 16 0),(17,Ba od)] Z9) (zH [(16,[Bv gd,Hw kd,Lw kd,Iv ed])] (zH Z7 Z8)) ?_)
 refine Aa rfl (iQ 3 (eC 10 [Iv n] 58 (b2n (x:=a9b n h0 h1) rfl h0 h1) (iQ 1 (jC 22 [Iv z47,.sl 2 [.bx (Vl.num (x).g (x).n (x).e).enc,.bx (Vl.num (a9b n h0 h1).g (a9b n h0 h1).n (a9b n h0 h1).e).enc]] 60 (b0s (x:=x) (y:=a9b n h0 h1) h0 h1 rfl) ?_))))
 rintro _ ⟨v1,rfl,hv1⟩
 refine iQ 2 ?_
 let Z10:=zH [(16,[Bv gd,Hw kd,Lw kd,Iv ed]),(18,[.bx (v1).enc])] []
 let Z11:=zH Z10 (zH Z7 Z8)
 refine iE 235 (zT [(16,.p 16 0),(17,Ba od),(18,.p 18 0)] Z9) Z11 ?_
 refine Aa rfl (iQ 2 (jC 21 [.agg [Bv ((x).g),Hw ((x).n),Lw ((x).n),Iv ((x).e)],Iv 0,Iv z47] 64 (Fd (Mu x.lt x.sg x.lo x.hi (by decide) (by decide))) ?_))
 rintro _ ⟨ge,ke,ee,oe,rfl,hE⟩
 refine iQ 6 ?_
 let Z12:=zT [(16,.p 16 0),(17,Ba od),(18,.p 18 0),(19,.p 19 0),(20,Ba oe)] []
 refine iE 235 (zT Z12 Z9) (zH [(19,[Bv ge,Hw ke,Lw ke,Iv ee])] Z11) ?_
 refine Aa rfl (iQ 3 (jC 22 [Iv z47,.sl 1 [.bx (Vl.num (x).g (x).n (x).e).enc]] 70 (b2e (x:=x)) ?_))
 rintro _ ⟨v2,rfl,hv2⟩
 refine iQ 2 ?_
 let Z13:=zH [(19,[Bv ge,Hw ke,Lw ke,Iv ee]),(21,[.bx (v2).enc])] []
 refine iE 235 (zT [(21,.p 21 0)] (zT Z9 Z12)) (zH Z13 Z11) ?_
 refine Ef 235 (fun (vcx:Bool)=>match vcx with | vb112=>[(2,Ia n),(9,.p 9 0),(10,Ba false),(11,.p 11 0),(12,.p 12 0),(13,.p 13 0),(14,.p 14 0),(15,Ia z47),(16,.p 16 0),(17,Ba od),(18,.p 18 0),(19,.p 19 0),(20,Ba oe),(21,.p 21 0),(35,Ba false),(112,Ba vb112)]) (fun (vcx:Bool)=>match vcx with | vb112=>[(9,[Iv k0,Sv (tx t0),.sl ((is0).length) (Aq (is0)),.sl ((ns0).length) (Bf (ns0)),Bv p0,Bv q0]),(11,[Bv ((x).g),Hw ((x).n),Lw ((x).n),Iv ((x).e)]),(12,[Bv ((y).g),Hw ((y).n),Lw ((y).n),Iv ((y).e)]),(13,[.bx (Vl.num (x).g (x).n (x).e).enc]),(14,[.bx (Vl.num (y).g (y).n (y).e).enc]),(16,[Bv gd,Hw kd,Lw kd,Iv ed]),(18,[.bx (v1).enc]),(19,[Bv ge,Hw ke,Lw ke,Iv ee]),(21,[.bx (v2).enc])]) (fun (vcx:Bool)=>match vcx with | vb112=>True) ?_ ?_
 ·rintro vb112 hinv
  simp only at hinv
  refine Aa rfl (iQ 2 (jC 26 [.agg [.bx (Vl.num (x).g (x).n (x).e).enc],.agg [.bx (Vl.num (y).g (y).n (y).e).enc]] 116 (b6t (x:=x) (y:=y)) ?_))
  rintro _ ⟨v3,k3,rfl,hm0,hm1⟩
  refine iQ 6 ?_
  let Z14:=zT [(21,.p 21 0),(22,.p 22 0),(23,Ba k3),(112,Ba vb112)] []
  let Z15:=zT Z14 (zT Z9 Z12)
  refine iE 235 Z15 (zH [(22,[.bx (v3).enc])] (zH Z11 Z13)) ?_
  refine Aa rfl (iQ 2 (jC 27 [.agg [Bv ((x).g),Hw ((x).n),Lw ((x).n),Iv ((x).e)],.agg [Bv ((y).g),Hw ((y).n),Lw ((y).n),Iv ((y).e)]] 122 (Fd (a1r x.lt y.lt x.lo x.hi y.lo y.hi)) ?_))
  rintro _ ⟨gf,kf,ef,of,rfl,hF⟩
  refine iQ 6 ?_
  let Z16:=zH [(22,[.bx (v3).enc]),(24,[Bv gf,Hw kf,Lw kf,Iv ef])] []
  let Z17:=zH Z16 (zH Z11 Z13)
  refine iE 235 (zT [(24,.p 24 0),(25,Ba of)] Z15) Z17 ?_
  refine Ef 235 (fun (vcx:Bool)=>match vcx with | vb147=>[(2,Ia n),(9,.p 9 0),(10,Ba false),(11,.p 11 0),(12,.p 12 0),(13,.p 13 0),(14,.p 14 0),(15,Ia z47),(16,.p 16 0),(17,Ba od),(18,.p 18 0),(19,.p 19 0),(20,Ba oe),(21,.p 21 0),(22,.p 22 0),(23,Ba k3),(24,.p 24 0),(25,Ba of),(35,Ba false),(112,Ba vb112),(147,Ba vb147)]) (fun (vcx:Bool)=>match vcx with | vb147=>[(9,[Iv k0,Sv (tx t0),.sl ((is0).length) (Aq (is0)),.sl ((ns0).length) (Bf (ns0)),Bv p0,Bv q0]),(11,[Bv ((x).g),Hw ((x).n),Lw ((x).n),Iv ((x).e)]),(12,[Bv ((y).g),Hw ((y).n),Lw ((y).n),Iv ((y).e)]),(13,[.bx (Vl.num (x).g (x).n (x).e).enc]),(14,[.bx (Vl.num (y).g (y).n (y).e).enc]),(16,[Bv gd,Hw kd,Lw kd,Iv ed]),(18,[.bx (v1).enc]),(19,[Bv ge,Hw ke,Lw ke,Iv ee]),(21,[.bx (v2).enc]),(22,[.bx (v3).enc]),(24,[Bv gf,Hw kf,Lw kf,Iv ef])]) (fun (vcx:Bool)=>match vcx with | vb147=>True) ?_ ?_
  ·rintro vb147 hinv
   simp only at hinv
   refine Aa rfl (iQ 1 (jC 28 [.agg [Bv ((x).g),Hw ((x).n),Lw ((x).n),Iv ((x).e)]] 150 (Fd (a35 x.lt (by have:=x.lo;omega) (by have:=x.hi;omega))) ?_))
   rintro _ ⟨gq,kq,eq,oq,rfl,hQ⟩
   refine iQ 6 ?_
   let Z18:=zT [(24,.p 24 0),(25,Ba of),(26,.p 26 0),(27,Ba oq),(147,Ba vb147)] []
   refine iE 235 (zT Z18 Z15) (zH [(26,[Bv gq,Hw kq,Lw kq,Iv eq])] Z17) ?_
   refine Aa rfl (iQ 1 (jC 29 [.agg [.bx (Vl.num (x).g (x).n (x).e).enc]] 154 (b5l (x:=x)) ?_))
   rintro _ ⟨v4,rfl,hv4⟩
   refine iQ 2 ?_
   let Z19:=zH [(26,[Bv gq,Hw kq,Lw kq,Iv eq]),(28,[.bx (v4).enc])] []
   refine iE 235 (zT [(28,.p 28 0)] (zT Z15 Z18)) (zH Z19 Z17) ?_
   refine Ef 235 (fun (vcx:Bool)=>match vcx with | vb170=>[(2,Ia n),(9,.p 9 0),(10,Ba false),(11,.p 11 0),(12,.p 12 0),(13,.p 13 0),(14,.p 14 0),(15,Ia z47),(16,.p 16 0),(17,Ba od),(18,.p 18 0),(19,.p 19 0),(20,Ba oe),(21,.p 21 0),(22,.p 22 0),(23,Ba k3),(24,.p 24 0),(25,Ba of),(26,.p 26 0),(27,Ba oq),(28,.p 28 0),(35,Ba false),(112,Ba vb112),(147,Ba vb147),(170,Ba vb170)]) (fun (vcx:Bool)=>match vcx with | vb170=>[(9,[Iv k0,Sv (tx t0),.sl ((is0).length) (Aq (is0)),.sl ((ns0).length) (Bf (ns0)),Bv p0,Bv q0]),(11,[Bv ((x).g),Hw ((x).n),Lw ((x).n),Iv ((x).e)]),(12,[Bv ((y).g),Hw ((y).n),Lw ((y).n),Iv ((y).e)]),(13,[.bx (Vl.num (x).g (x).n (x).e).enc]),(14,[.bx (Vl.num (y).g (y).n (y).e).enc]),(16,[Bv gd,Hw kd,Lw kd,Iv ed]),(18,[.bx (v1).enc]),(19,[Bv ge,Hw ke,Lw ke,Iv ee]),(21,[.bx (v2).enc]),(22,[.bx (v3).enc]),(24,[Bv gf,Hw kf,Lw kf,Iv ef]),(26,[Bv gq,Hw kq,Lw kq,Iv eq]),(28,[.bx (v4).enc])]) (fun (vcx:Bool)=>match vcx with | vb170=>True) ?_ ?_
   ·rintro vb170 hinv
    simp only at hinv
    refine Aa rfl (iQ 1 (jC 30 [.agg [.bx (Vl.num (x).g (x).n (x).e).enc]] 173 (b3w (x:=x)) ?_))
    rintro _ ⟨b1,rfl,hb1⟩
    refine eC 31 [.agg [.bx (Vl.bool b1).enc]] 174 (Vt) (iQ 5 (iE 235 (zT [(28,.p 28 0),(29,Ba b1),(170,Ba vb170)] (zT Z15 Z18)) (zH Z17 Z19) ?_))
    refine Aa rfl (iQ 1 (jC 32 [.agg [.bx (Vl.num (x).g (x).n (x).e).enc]] 179 (b66 (x:=x)) ?_))
    rintro _ ⟨b2,rfl,hb2⟩
    refine eC 31 [.agg [.bx (Vl.bool b2).enc]] 180 (Vt) (iQ 5 ?_)
    let Z20:=zT [(28,.p 28 0),(29,Ba b1),(31,Ba b2),(170,Ba vb170)] []
    let Z21:=zT Z20 (zT Z15 Z18)
    refine iE 235 Z21 (zH Z17 Z19) ?_
    refine Aa rfl (iQ 1 (jC 19 [.agg [Iv k0,Sv (tx t0),.sl ((is0).length) (Aq (is0)),.sl ((ns0).length) (Bf (ns0)),Bv p0,Bv q0]] 184 (a8q hs) ?_))
    rintro _ ⟨o,rfl,ho⟩
    refine iQ 2 ?_
    let Z22:=zT [(2,Ia n),(10,Ba false),(11,.p 11 0),(12,.p 12 0),(13,.p 13 0),(14,.p 14 0),(15,Ia z47),(33,.p 33 0),(35,Ba false)] []
    let Z23:=zT Z22 (zT Z18 (zT Z12 (zT Z14 Z20)))
    let Z24:=zH [(33,[.bx (o).enc])] (zH Z8 (zH Z10 (zH Z13 (zH Z16 (zH Z19 (zH Z5 Z6))))))
    refine iE 235 Z23 Z24 ?_
    refine Ef 235 (fun (vcx:Bool)=>match vcx with | vb210=>[(2,Ia n),(10,Ba false),(11,.p 11 0),(12,.p 12 0),(13,.p 13 0),(14,.p 14 0),(15,Ia z47),(16,.p 16 0),(17,Ba od),(18,.p 18 0),(19,.p 19 0),(20,Ba oe),(21,.p 21 0),(22,.p 22 0),(23,Ba k3),(24,.p 24 0),(25,Ba of),(26,.p 26 0),(27,Ba oq),(28,.p 28 0),(29,Ba b1),(31,Ba b2),(33,.p 33 0),(35,Ba false),(112,Ba vb112),(147,Ba vb147),(170,Ba vb170),(210,Ba vb210)]) (fun (vcx:Bool)=>match vcx with | vb210=>[(11,[Bv ((x).g),Hw ((x).n),Lw ((x).n),Iv ((x).e)]),(12,[Bv ((y).g),Hw ((y).n),Lw ((y).n),Iv ((y).e)]),(13,[.bx (Vl.num (x).g (x).n (x).e).enc]),(14,[.bx (Vl.num (y).g (y).n (y).e).enc]),(16,[Bv gd,Hw kd,Lw kd,Iv ed]),(18,[.bx (v1).enc]),(19,[Bv ge,Hw ke,Lw ke,Iv ee]),(21,[.bx (v2).enc]),(22,[.bx (v3).enc]),(24,[Bv gf,Hw kf,Lw kf,Iv ef]),(26,[Bv gq,Hw kq,Lw kq,Iv eq]),(28,[.bx (v4).enc]),(33,[.bx (o).enc])]) (fun (vcx:Bool)=>match vcx with | vb210=>True) ?_ ?_
    ·rintro vb210 hinv
     simp only at hinv
     refine Aa rfl (iQ 2 (jC 33 [.agg [Bv ((x).g),Hw ((x).n),Lw ((x).n),Iv ((x).e)]] 213 (a7j x.lt x.sg x.lo x.hi) ?_))
     rintro _ ⟨d1,rfl,hd1⟩
     refine jB .eql 4 (.bool b1) (.bool d1) 214 ?_
     refine Bn ((by rw[Bool.eq_iff_iff,hb1,hd1])) ?_
     refine iQ 3 (jC 34 [.agg [Bv ((x).g),Hw ((x).n),Lw ((x).n),Iv ((x).e)]] 218 (b57 x.lt x.sg x.lo x.hi) ?_)
     rintro _ ⟨d2,rfl,hd2⟩
     refine jB .eql 4 (.bool b2) (.bool d2) 219 ?_
     refine Bn ((by rw[Bool.eq_iff_iff,hb2,hd2])) ?_
     refine iQ 3 (eC 22 [Iv z47,.sl 0 []] 223 (a83) (eC 17 [.agg [.bx (Vl.null).enc]] 224 (Gw .null) (iQ 7 (eC 22 [Iv z47,.sl 3 [.bx (Vl.num (x).g (x).n (x).e).enc,.bx (Vl.num (y).g (y).n (y).e).enc,.bx (Vl.num (x).g (x).n (x).e).enc]] 232 (a8a (x:=x) (y:=y) (z:=x)) (eC 17 [.agg [.bx (Vl.null).enc]] 233 (Gw .null) (iQ 2 ?_))))))
     let Z25:=zT [(2,Ia n),(10,Ba true),(11,.p 11 0),(12,.p 12 0),(13,.p 13 0),(14,.p 14 0),(15,Ia z47),(28,.p 28 0),(33,.p 33 0),(35,Ba false),(170,Ba vb170),(210,Ba vb210)] []
     let Z26:=zT Z25 (zT Z18 (zT Z12 Z14))
     refine iE 235 Z26 Z24 ?_
     refine Ab (iR (Bv true) ?_)
     rfl
    intro hmid
    refine Aa rfl (iQ 1 (jC 20 [.agg [.bx (o).enc]] 186 (Hf) ?_))
    rintro _ ⟨kk,rfl,hkk⟩
    refine jB .neq 27 (.int .i64 kk) (.int .i64 3) 187 ?_
    intro c187 hc187
    refine iQ 1 ?_
    cases c187
    ·replace hc187:=bf hc187
     refine iQ 22 (iE 235 [(2,Ia n),(10,Ba false),(11,.p 11 0),(12,.p 12 0),(13,.p 13 0),(14,.p 14 0),(15,Ia z47),(16,.p 16 0),(17,Ba od),(18,.p 18 0),(19,.p 19 0),(20,Ba oe),(21,.p 21 0),(22,.p 22 0),(23,Ba k3),(24,.p 24 0),(25,Ba of),(26,.p 26 0),(27,Ba oq),(28,.p 28 0),(29,Ba b1),(31,Ba b2),(33,.p 33 0),(35,Ba false),(112,Ba vb112),(147,Ba vb147),(170,Ba vb170),(210,Ba false)] [(11,[Bv ((x).g),Hw ((x).n),Lw ((x).n),Iv ((x).e)]),(12,[Bv ((y).g),Hw ((y).n),Lw ((y).n),Iv ((y).e)]),(13,[.bx (Vl.num (x).g (x).n (x).e).enc]),(14,[.bx (Vl.num (y).g (y).n (y).e).enc]),(16,[Bv gd,Hw kd,Lw kd,Iv ed]),(18,[.bx (v1).enc]),(19,[Bv ge,Hw ke,Lw ke,Iv ee]),(21,[.bx (v2).enc]),(22,[.bx (v3).enc]),(24,[Bv gf,Hw kf,Lw kf,Iv ef]),(26,[Bv gq,Hw kq,Lw kq,Iv eq]),(28,[.bx (v4).enc]),(33,[.bx (o).enc])] ?_)
     refine iF (Ad ?_)
     refine Cc hmid false (trivial) (by kernel_rfl)
    ·replace hc187:=bt hc187
     refine iQ 1 ?_
     have hi:o.isNum=false:=b5o (by rw[← hkk];exact hc187)
     refine eC 29 [.agg [.bx (o).enc]] 190 (b0j hi) (eC 17 [.agg [.bx (Vl.null).enc]] 191 (Gw .null) (iQ 2 (eC 30 [.agg [.bx (o).enc]] 194 (a8r hi) (eC 17 [.agg [.bx (Vl.null).enc]] 195 (Gw .null) (iQ 3 (eC 32 [.agg [.bx (o).enc]] 199 (b4i hi) (eC 17 [.agg [.bx (Vl.null).enc]] 200 (Gw .null) (iQ 5 (eC 22 [Iv z47,.sl 1 [.bx (o).enc]] 206 (a6k hi) (eC 17 [.agg [.bx (Vl.null).enc]] 207 (Gw .null) (iQ 1 ?_)))))))))))
     refine jU .not (.bool true) 209 ?_
     refine An ((by simp)) ?_
     refine iQ 1 (iE 235 [(2,Ia n),(10,Ba false),(11,.p 11 0),(12,.p 12 0),(13,.p 13 0),(14,.p 14 0),(15,Ia z47),(16,.p 16 0),(17,Ba od),(18,.p 18 0),(19,.p 19 0),(20,Ba oe),(21,.p 21 0),(22,.p 22 0),(23,Ba k3),(24,.p 24 0),(25,Ba of),(26,.p 26 0),(27,Ba oq),(28,.p 28 0),(29,Ba b1),(31,Ba b2),(33,.p 33 0),(35,Ba false),(112,Ba vb112),(147,Ba vb147),(170,Ba vb170),(210,Ba false)] [(11,[Bv ((x).g),Hw ((x).n),Lw ((x).n),Iv ((x).e)]),(12,[Bv ((y).g),Hw ((y).n),Lw ((y).n),Iv ((y).e)]),(13,[.bx (Vl.num (x).g (x).n (x).e).enc]),(14,[.bx (Vl.num (y).g (y).n (y).e).enc]),(16,[Bv gd,Hw kd,Lw kd,Iv ed]),(18,[.bx (v1).enc]),(19,[Bv ge,Hw ke,Lw ke,Iv ee]),(21,[.bx (v2).enc]),(22,[.bx (v3).enc]),(24,[Bv gf,Hw kf,Lw kf,Iv ef]),(26,[Bv gq,Hw kq,Lw kq,Iv eq]),(28,[.bx (v4).enc]),(33,[.bx (o).enc])] ?_)
     refine iF (Ad ?_)
     refine Cc hmid false (trivial) (by kernel_rfl)
   intro hmid
   refine Aa rfl (iQ 2 ?_)
   cases oq
   ·refine iQ 7 (jU .not (.bool false) 164 ?_)
    refine Bn ((by simp)) ?_
    refine iQ 2 (eC 17 [.agg [.bx (v4).enc]] 167 (Qo (t:=Ls x) hQ hv4) (jU .not (.bool true) 168 ?_))
    refine An ((by simp)) ?_
    refine iQ 2 (iE 235 [(2,Ia n),(9,.p 9 0),(10,Ba false),(11,.p 11 0),(12,.p 12 0),(13,.p 13 0),(14,.p 14 0),(15,Ia z47),(16,.p 16 0),(17,Ba od),(18,.p 18 0),(19,.p 19 0),(20,Ba oe),(21,.p 21 0),(22,.p 22 0),(23,Ba k3),(24,.p 24 0),(25,Ba of),(26,.p 26 0),(27,Ba false),(28,.p 28 0),(35,Ba false),(112,Ba vb112),(147,Ba vb147),(170,Ba false)] [(9,[Iv k0,Sv (tx t0),.sl ((is0).length) (Aq (is0)),.sl ((ns0).length) (Bf (ns0)),Bv p0,Bv q0]),(11,[Bv ((x).g),Hw ((x).n),Lw ((x).n),Iv ((x).e)]),(12,[Bv ((y).g),Hw ((y).n),Lw ((y).n),Iv ((y).e)]),(13,[.bx (Vl.num (x).g (x).n (x).e).enc]),(14,[.bx (Vl.num (y).g (y).n (y).e).enc]),(16,[Bv gd,Hw kd,Lw kd,Iv ed]),(18,[.bx (v1).enc]),(19,[Bv ge,Hw ke,Lw ke,Iv ee]),(21,[.bx (v2).enc]),(22,[.bx (v3).enc]),(24,[Bv gf,Hw kf,Lw kf,Iv ef]),(26,[Bv gq,Hw kq,Lw kq,Iv eq]),(28,[.bx (v4).enc])] ?_)
    refine iF (Ad ?_)
    refine Cc hmid false (trivial) (by kernel_rfl)
   ·refine iQ 2 (eC 23 [.agg [.bx (v4).enc],.agg [Bv gq,Hw kq,Lw kq,Iv eq]] 159 (a3t (t:=Ls x) hQ (a6r hQ) hv4) (jU .not (.bool true) 160 ?_))
    refine An ((by simp)) ?_
    refine iQ 3 (jU .not (.bool true) 164 ?_)
    refine An ((by simp)) ?_
    refine iQ 6 (iE 235 [(2,Ia n),(9,.p 9 0),(10,Ba false),(11,.p 11 0),(12,.p 12 0),(13,.p 13 0),(14,.p 14 0),(15,Ia z47),(16,.p 16 0),(17,Ba od),(18,.p 18 0),(19,.p 19 0),(20,Ba oe),(21,.p 21 0),(22,.p 22 0),(23,Ba k3),(24,.p 24 0),(25,Ba of),(26,.p 26 0),(27,Ba true),(28,.p 28 0),(35,Ba false),(112,Ba vb112),(147,Ba vb147),(170,Ba false)] [(9,[Iv k0,Sv (tx t0),.sl ((is0).length) (Aq (is0)),.sl ((ns0).length) (Bf (ns0)),Bv p0,Bv q0]),(11,[Bv ((x).g),Hw ((x).n),Lw ((x).n),Iv ((x).e)]),(12,[Bv ((y).g),Hw ((y).n),Lw ((y).n),Iv ((y).e)]),(13,[.bx (Vl.num (x).g (x).n (x).e).enc]),(14,[.bx (Vl.num (y).g (y).n (y).e).enc]),(16,[Bv gd,Hw kd,Lw kd,Iv ed]),(18,[.bx (v1).enc]),(19,[Bv ge,Hw ke,Lw ke,Iv ee]),(21,[.bx (v2).enc]),(22,[.bx (v3).enc]),(24,[Bv gf,Hw kf,Lw kf,Iv ef]),(26,[Bv gq,Hw kq,Lw kq,Iv eq]),(28,[.bx (v4).enc])] ?_)
    refine iF (Ad ?_)
    refine Cc hmid false (trivial) (by kernel_rfl)
  intro hmid
  refine Aa rfl (iQ 1 (jC 16 [.agg [Bv ((y).g),Hw ((y).n),Lw ((y).n),Iv ((y).e)]] 126 (Du y.ltB) ?_))
  rintro _ ⟨z,rfl,hz⟩
  refine iQ 1 ?_
  cases z
  ·refine iQ 9 ?_
   have hy0:y.n≠0:=fun e=>by have:=hz.2 e;cases this
   obtain ⟨e1,e2⟩:=hm1 hy0
   refine eC 16 [.agg [Bv ((y).g),Hw ((y).n),Lw ((y).n),Iv ((y).e)]] 137 (Wb y.ltB hy0) (jU .not (.bool false) 138 ?_)
   refine Bn ((by simp)) ?_
   refine iQ 5 (eC 14 [.agg [.bx (v3).enc],Bv k3,.agg [Bv gf,Hw kf,Lw kf,Iv ef],Bv of] 144 (b6e (t:=Yq x y) hF (Zo hF) e1 e2) (jU .not (.bool true) 145 ?_))
   refine An ((by simp)) ?_
   refine iQ 2 (iE 235 [(2,Ia n),(9,.p 9 0),(10,Ba false),(11,.p 11 0),(12,.p 12 0),(13,.p 13 0),(14,.p 14 0),(15,Ia z47),(16,.p 16 0),(17,Ba od),(18,.p 18 0),(19,.p 19 0),(20,Ba oe),(21,.p 21 0),(22,.p 22 0),(23,Ba k3),(24,.p 24 0),(25,Ba of),(35,Ba false),(112,Ba vb112),(147,Ba false)] [(9,[Iv k0,Sv (tx t0),.sl ((is0).length) (Aq (is0)),.sl ((ns0).length) (Bf (ns0)),Bv p0,Bv q0]),(11,[Bv ((x).g),Hw ((x).n),Lw ((x).n),Iv ((x).e)]),(12,[Bv ((y).g),Hw ((y).n),Lw ((y).n),Iv ((y).e)]),(13,[.bx (Vl.num (x).g (x).n (x).e).enc]),(14,[.bx (Vl.num (y).g (y).n (y).e).enc]),(16,[Bv gd,Hw kd,Lw kd,Iv ed]),(18,[.bx (v1).enc]),(19,[Bv ge,Hw ke,Lw ke,Iv ee]),(21,[.bx (v2).enc]),(22,[.bx (v3).enc]),(24,[Bv gf,Hw kf,Lw kf,Iv ef])] ?_)
   refine iF (Ad ?_)
   refine Cc hmid false (trivial) (by kernel_rfl)
  ·refine iQ 1 ?_
   obtain ⟨e1,e2⟩:=hm0 (hz.1 rfl)
   refine eC 17 [.agg [.bx (v3).enc]] 129 (a1v e1) (iQ 3 (jU .not (.bool k3) 133 ?_))
   refine An ((by rw[e2];simp)) ?_
   refine iQ 3 (eC 16 [.agg [Bv ((y).g),Hw ((y).n),Lw ((y).n),Iv ((y).e)]] 137 (Wx y.ltB (hz.1 rfl)) (jU .not (.bool true) 138 ?_))
   refine An ((by simp)) ?_
   refine iQ 9 (iE 235 [(2,Ia n),(9,.p 9 0),(10,Ba false),(11,.p 11 0),(12,.p 12 0),(13,.p 13 0),(14,.p 14 0),(15,Ia z47),(16,.p 16 0),(17,Ba od),(18,.p 18 0),(19,.p 19 0),(20,Ba oe),(21,.p 21 0),(22,.p 22 0),(23,Ba k3),(24,.p 24 0),(25,Ba of),(35,Ba false),(112,Ba vb112),(147,Ba false)] [(9,[Iv k0,Sv (tx t0),.sl ((is0).length) (Aq (is0)),.sl ((ns0).length) (Bf (ns0)),Bv p0,Bv q0]),(11,[Bv ((x).g),Hw ((x).n),Lw ((x).n),Iv ((x).e)]),(12,[Bv ((y).g),Hw ((y).n),Lw ((y).n),Iv ((y).e)]),(13,[.bx (Vl.num (x).g (x).n (x).e).enc]),(14,[.bx (Vl.num (y).g (y).n (y).e).enc]),(16,[Bv gd,Hw kd,Lw kd,Iv ed]),(18,[.bx (v1).enc]),(19,[Bv ge,Hw ke,Lw ke,Iv ee]),(21,[.bx (v2).enc]),(22,[.bx (v3).enc]),(24,[Bv gf,Hw kf,Lw kf,Iv ef])] ?_)
   refine iF (Ad ?_)
   refine Cc hmid false (trivial) (by kernel_rfl)
 intro hmid
 refine Aa rfl (iQ 2 ?_)
 cases od
 ·refine iQ 7 (jU .not (.bool false) 80 ?_)
  refine Bn ((by simp)) ?_
  refine iQ 2 (eC 17 [.agg [.bx (v1).enc]] 83 (Qo (t:=Ec z47 x n) hD hv1) (jU .not (.bool true) 84 ?_))
  refine An ((by simp)) ?_
  refine iQ 5 ?_
  cases oe
  ·refine iQ 8 (jU .not (.bool false) 98 ?_)
   refine Bn ((by simp)) ?_
   refine iQ 2 (eC 17 [.agg [.bx (v2).enc]] 101 (Qo (t:=Ec z47 x 0) hE hv2) (jU .not (.bool true) 102 ?_))
   refine An ((by simp)) ?_
   refine iQ 4 (eC 24 [.agg [.bx (Vl.num (x).g (x).n (x).e).enc]] 107 (Yo (x:=x)) (iQ 1 (eC 25 [.agg [Bv ((x).g),Hw ((x).n),Lw ((x).n),Iv ((x).e)]] 109 (a04) (eC 23 [.agg [.bx (Vl.num (Ey x).g (Ey x).n (Ey x).e).enc],.agg [Bv false,Hw x.n,Lw x.n,Iv x.e]] 110 (Qb) (jU .not (.bool true) 111 ?_)))))
   refine An ((by simp)) ?_
   refine iQ 1 (iE 235 [(2,Ia n),(9,.p 9 0),(10,Ba false),(11,.p 11 0),(12,.p 12 0),(13,.p 13 0),(14,.p 14 0),(15,Ia z47),(16,.p 16 0),(17,Ba false),(18,.p 18 0),(19,.p 19 0),(20,Ba false),(21,.p 21 0),(35,Ba false),(112,Ba false)] [(9,[Iv k0,Sv (tx t0),.sl ((is0).length) (Aq (is0)),.sl ((ns0).length) (Bf (ns0)),Bv p0,Bv q0]),(11,[Bv ((x).g),Hw ((x).n),Lw ((x).n),Iv ((x).e)]),(12,[Bv ((y).g),Hw ((y).n),Lw ((y).n),Iv ((y).e)]),(13,[.bx (Vl.num (x).g (x).n (x).e).enc]),(14,[.bx (Vl.num (y).g (y).n (y).e).enc]),(16,[Bv gd,Hw kd,Lw kd,Iv ed]),(18,[.bx (v1).enc]),(19,[Bv ge,Hw ke,Lw ke,Iv ee]),(21,[.bx (v2).enc])] ?_)
   refine iF (Ad ?_)
   refine Cc hmid false (trivial) (by kernel_rfl)
  ·refine iQ 2 (eC 23 [.agg [.bx (v2).enc],.agg [Bv ge,Hw ke,Lw ke,Iv ee]] 92 (a3t (t:=Ec z47 x 0) hE (Gi hE rfl) hv2) (jU .not (.bool true) 93 ?_))
   refine An ((by simp)) ?_
   refine iQ 4 (jU .not (.bool true) 98 ?_)
   refine An ((by simp)) ?_
   refine iQ 8 (eC 24 [.agg [.bx (Vl.num (x).g (x).n (x).e).enc]] 107 (Yo (x:=x)) (iQ 1 (eC 25 [.agg [Bv ((x).g),Hw ((x).n),Lw ((x).n),Iv ((x).e)]] 109 (a04) (eC 23 [.agg [.bx (Vl.num (Ey x).g (Ey x).n (Ey x).e).enc],.agg [Bv false,Hw x.n,Lw x.n,Iv x.e]] 110 (Qb) (jU .not (.bool true) 111 ?_)))))
   refine An ((by simp)) ?_
   refine iQ 1 (iE 235 [(2,Ia n),(9,.p 9 0),(10,Ba false),(11,.p 11 0),(12,.p 12 0),(13,.p 13 0),(14,.p 14 0),(15,Ia z47),(16,.p 16 0),(17,Ba false),(18,.p 18 0),(19,.p 19 0),(20,Ba true),(21,.p 21 0),(35,Ba false),(112,Ba false)] [(9,[Iv k0,Sv (tx t0),.sl ((is0).length) (Aq (is0)),.sl ((ns0).length) (Bf (ns0)),Bv p0,Bv q0]),(11,[Bv ((x).g),Hw ((x).n),Lw ((x).n),Iv ((x).e)]),(12,[Bv ((y).g),Hw ((y).n),Lw ((y).n),Iv ((y).e)]),(13,[.bx (Vl.num (x).g (x).n (x).e).enc]),(14,[.bx (Vl.num (y).g (y).n (y).e).enc]),(16,[Bv gd,Hw kd,Lw kd,Iv ed]),(18,[.bx (v1).enc]),(19,[Bv ge,Hw ke,Lw ke,Iv ee]),(21,[.bx (v2).enc])] ?_)
   refine iF (Ad ?_)
   refine Cc hmid false (trivial) (by kernel_rfl)
 ·refine iQ 2 (eC 23 [.agg [.bx (v1).enc],.agg [Bv gd,Hw kd,Lw kd,Iv ed]] 75 (a3t (t:=Ec z47 x n) hD (Gi hD rfl) hv1) (jU .not (.bool true) 76 ?_))
  refine An ((by simp)) ?_
  refine iQ 3 (jU .not (.bool true) 80 ?_)
  refine An ((by simp)) ?_
  refine iQ 9 ?_
  cases oe
  ·refine iQ 8 (jU .not (.bool false) 98 ?_)
   refine Bn ((by simp)) ?_
   refine iQ 2 (eC 17 [.agg [.bx (v2).enc]] 101 (Qo (t:=Ec z47 x 0) hE hv2) (jU .not (.bool true) 102 ?_))
   refine An ((by simp)) ?_
   refine iQ 4 (eC 24 [.agg [.bx (Vl.num (x).g (x).n (x).e).enc]] 107 (Yo (x:=x)) (iQ 1 (eC 25 [.agg [Bv ((x).g),Hw ((x).n),Lw ((x).n),Iv ((x).e)]] 109 (a04) (eC 23 [.agg [.bx (Vl.num (Ey x).g (Ey x).n (Ey x).e).enc],.agg [Bv false,Hw x.n,Lw x.n,Iv x.e]] 110 (Qb) (jU .not (.bool true) 111 ?_)))))
   refine An ((by simp)) ?_
   refine iQ 1 (iE 235 [(2,Ia n),(9,.p 9 0),(10,Ba false),(11,.p 11 0),(12,.p 12 0),(13,.p 13 0),(14,.p 14 0),(15,Ia z47),(16,.p 16 0),(17,Ba true),(18,.p 18 0),(19,.p 19 0),(20,Ba false),(21,.p 21 0),(35,Ba false),(112,Ba false)] [(9,[Iv k0,Sv (tx t0),.sl ((is0).length) (Aq (is0)),.sl ((ns0).length) (Bf (ns0)),Bv p0,Bv q0]),(11,[Bv ((x).g),Hw ((x).n),Lw ((x).n),Iv ((x).e)]),(12,[Bv ((y).g),Hw ((y).n),Lw ((y).n),Iv ((y).e)]),(13,[.bx (Vl.num (x).g (x).n (x).e).enc]),(14,[.bx (Vl.num (y).g (y).n (y).e).enc]),(16,[Bv gd,Hw kd,Lw kd,Iv ed]),(18,[.bx (v1).enc]),(19,[Bv ge,Hw ke,Lw ke,Iv ee]),(21,[.bx (v2).enc])] ?_)
   refine iF (Ad ?_)
   refine Cc hmid false (trivial) (by kernel_rfl)
  ·refine iQ 2 (eC 23 [.agg [.bx (v2).enc],.agg [Bv ge,Hw ke,Lw ke,Iv ee]] 92 (a3t (t:=Ec z47 x 0) hE (Gi hE rfl) hv2) (jU .not (.bool true) 93 ?_))
   refine An ((by simp)) ?_
   refine iQ 4 (jU .not (.bool true) 98 ?_)
   refine An ((by simp)) ?_
   refine iQ 8 (eC 24 [.agg [.bx (Vl.num (x).g (x).n (x).e).enc]] 107 (Yo (x:=x)) (iQ 1 (eC 25 [.agg [Bv ((x).g),Hw ((x).n),Lw ((x).n),Iv ((x).e)]] 109 (a04) (eC 23 [.agg [.bx (Vl.num (Ey x).g (Ey x).n (Ey x).e).enc],.agg [Bv false,Hw x.n,Lw x.n,Iv x.e]] 110 (Qb) (jU .not (.bool true) 111 ?_)))))
   refine An ((by simp)) ?_
   refine iQ 1 (iE 235 [(2,Ia n),(9,.p 9 0),(10,Ba false),(11,.p 11 0),(12,.p 12 0),(13,.p 13 0),(14,.p 14 0),(15,Ia z47),(16,.p 16 0),(17,Ba true),(18,.p 18 0),(19,.p 19 0),(20,Ba true),(21,.p 21 0),(35,Ba false),(112,Ba false)] [(9,[Iv k0,Sv (tx t0),.sl ((is0).length) (Aq (is0)),.sl ((ns0).length) (Bf (ns0)),Bv p0,Bv q0]),(11,[Bv ((x).g),Hw ((x).n),Lw ((x).n),Iv ((x).e)]),(12,[Bv ((y).g),Hw ((y).n),Lw ((y).n),Iv ((y).e)]),(13,[.bx (Vl.num (x).g (x).n (x).e).enc]),(14,[.bx (Vl.num (y).g (y).n (y).e).enc]),(16,[Bv gd,Hw kd,Lw kd,Iv ed]),(18,[.bx (v1).enc]),(19,[Bv ge,Hw ke,Lw ke,Iv ee]),(21,[.bx (v2).enc])] ?_)
   refine iF (Ad ?_)
   refine Cc hmid false (trivial) (by kernel_rfl)
end Go.Proofs.YtdkgnmiiibpnnaaGreatDoor
