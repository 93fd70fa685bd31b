/- round: Scale, Whole, Floor, Ceiling, Modulo, Even, Odd. -/
import Derived.Test.YtdkgnmiiibpnnaaGreatDoorRnZ
namespace Go.Proofs.YtdkgnmiiibpnnaaGreatDoor
open Go.RowKit
set_option linter.unusedVariables false
set_option linter.unusedSimpArgs false
set_option maxRecDepth 100000
theorem b4t {m n e:Int} {neg:Bool} {A:Nat} (hA:A<E34) (hn:n≤100000000) (he0 : -1000000000≤e) (he1:e≤1000000000) :
  HasC Tryz.prog 66 [.agg [.v (.bool neg),.v (.int .u64 0),.v (.int .u64 0),.v (.int .u64 (hiW A)),.v (.int .u64 (loW A)),.v (.int .i64 e),.v (.bool false)],.v (.int .i64 n),.v (.int .i64 m)] (fun y=>y=Lh neg 0 (Bg m neg A false n.toNat) (e+n.toNat) false):=by
 rw[← a3w]
 exact Yv (hi:=0) (by decide) (Nat.lt_trans hA Br) (by omega) (by omega) (by omega) (by rw[Nat.zero_mul,Nat.zero_add]) (Nat.le_of_lt (Xx hA))
theorem b39 {A k:Nat} (hA:A≠0) (hk:34≤k) : ¬ A*10 ^ k<E34:=by
 have h1:10 ^ 34≤10 ^ k:=Nat.pow_le_pow_right (by decide) hk
 have h2:1*10 ^ k≤A*10 ^ k:=Nat.mul_le_mul_right _ (by omega)
 have h3:(10:Nat) ^ 34=E34:=by decide
 omega
theorem b8w {A k:Nat} (hA:A≠0) (h:A*10 ^ k=0):False:=by
 rcases Nat.mul_eq_zero.1 h with m | m
 ·exact hA m
 ·exact absurd m (Nat.pos_iff_ne_zero.1 (Nat.pow_pos (by decide)))
set_option maxHeartbeats 3200000 in
theorem Mu {s:Bool} {A:Nat} {e p m:Int} (hA:A<E34) (hs:A=0→s=false) (h1 : -6176≤e) (h2:e≤6111) (hp0 : -9223372036854775808≤p) (hp1:p≤9223372036854775807):HasC Tryz.prog 21 [.agg [.v (.bool s),.v (.int .u64 (hiW (A))),.v (.int .u64 (loW (A))),.v (.int .i64 e)],.v (.int .i64 p),.v (.int .i64 m)] (fun y=>y=Xb (Ff m s A e p)):=by
 refine hO [] Tryz.f21 (fun a w=>Tryz.call21 a w) Tryz.func21 rfl (⟨_,rfl⟩) ?_
 have hAB:=Nat.lt_trans hA Br
 refine Aa rfl (iQ 3 ?_)
 let Z1:=zT [(1,Ia p),(2,Ia m),(3,.p 3 0),(6,.p 6 0),(7,Ba false)] []
 let Z2:=zH [(3,[Bv s,Hw A,Lw A,Iv e]),(6,[Bv false,Uv 0,Uv 0,Iv 0])] []
 refine iE 103 Z1 Z2 ?_
 refine Ae (Aa rfl (iQ 1 (jB .lss 3 (.int .i64 p) (.int .i64 (-6111)) 17 ?_)))
 intro c17 hc17
 refine iQ 1 ?_
 cases c17
 ·replace hc17:=bf hc17
  refine iQ 1 (jB .gtr 3 (.int .i64 p) (.int .i64 6176) 20 ?_)
  intro c20 hc20
  refine iQ 2 ?_
  cases c20
  ·replace hc20:=bf hc20
   refine iQ 1 (jB .lss 51 (.int .i64 m) (.int .i64 1) 24 ?_)
   intro c24 hc24
   refine iQ 2 ?_
   cases c24
   ·replace hc24:=bf hc24
    refine iQ 1 (jB .gtr 51 (.int .i64 m) (.int .i64 7) 28 ?_)
    intro c28 hc28
    refine iQ 1 (iE 103 (zT [(29,Ba c28)] Z1) Z2 ?_)
    cases c28
    ·replace hc28:=bf hc28
     have hok : ¬ (p < -6111∨6176<p∨m<1∨7<m):=by omega
     refine iF (Ad (Af (Aa rfl (iQ 1 (jU .neg (.int .i64 p) 32 ?_)))))
     intro z32 hz32
     try replace hz32:=hz32.i64 (by omega)
     refine iQ 2 (jB .sub 3 (.int .i64 z32) (.int .i64 e) 35 ?_)
     intro z35 hz35
     try replace hz35:=hz35.i64 (by omega)
     refine iQ 1 (iE 103 (zT [(8,Ia z35),(29,Ba false)] Z1) Z2 ?_)
     refine Ae (Aa rfl (iQ 1 (jB .geq 3 (.int .i64 z35) (.int .i64 0) 37 ?_)))
     intro c37 hc37
     refine iE 103 (zT [(8,Ia z35),(29,Ba false),(37,Ba c37)] Z1) Z2 ?_
     cases c37
     ·replace hc37:=bf hc37
      have hneg : ¬ 0 ≤ -p-e:=by omega
      refine iF (Ad (Af (Aa rfl (iQ 5 (jU .neg (.int .i64 p) 69 ?_)))))
      intro z69 hz69
      try replace hz69:=hz69.i64 (by omega)
      refine iQ 3 ?_
      let Z3:=zT [(8,Ia z35),(11,.p 11 0),(29,Ba false),(37,Ba false)] []
      refine iE 103 (zT Z3 Z1) (zH [(11,[Bv s,Hw A,Lw A,Iv z69])] Z2) ?_
      refine Ae (Aa rfl (iQ 1 (jC 16 [.agg [Bv s,Hw A,Lw A,Iv e]] 72 (Du hAB) ?_)))
      rintro _ ⟨z,rfl,hz⟩
      refine iE 103 (zT [(72,Ba z)] (zT Z1 Z3)) (zH [(11,[Bv s,Hw A,Lw A,Iv z69])] Z2) ?_
      cases z
      ·replace hz:=bf hz
       refine iF (Ad (Af (Ae (Aa rfl (iQ 1 (jU .neg (.int .i64 z35) 75 ?_))))))
       intro z75 hz75
       try replace hz75:=hz75.i64 (by omega)
       refine jB .gtr 3 (.int .i64 z75) (.int .i64 34) 76 ?_
       intro c76 hc76
       refine iE 103 (zT [(72,Ba false),(76,Ba c76)] (zT Z1 Z3)) (zH [(11,[Bv s,Hw A,Lw A,Iv z69])] Z2) ?_
       cases c76
       ·replace hc76:=bf hc76
        refine iF (Ad (Af (Aa rfl (iQ 1 (jU .neg (.int .i64 z35) 80 ?_)))))
        intro z80 hz80
        try replace hz80:=hz80.i64 (by omega)
        have hk:z80.toNat=(p+e).toNat:=by omega
        refine eC 45 [Iv z80] 81 (Te (k:=z80) (by omega) (by omega)) ?_
        have ht:10 ^ z80.toNat<B128:=Nat.lt_of_le_of_lt (Nat.pow_le_pow_right (by decide) (show z80.toNat≤34 by omega)) (by decide)
        refine iQ 6 ?_
        let Z4:=zT [(12,.p 12 0),(72,Ba false),(76,Ba false)] []
        let Z5:=zT Z4 (zT Z1 Z3)
        let Z6:=zH [(12,[Hw (10 ^ z80.toNat),Lw (10 ^ z80.toNat)])] []
        refine iE 103 Z5 (zH [(11,[Bv s,Hw A,Lw A,Iv z69])] (zH Z6 Z2)) ?_
        refine Aa rfl (iQ 3 (eC 61 [.agg [Hw A,Lw A],.agg [Hw (10 ^ z80.toNat),Lw (10 ^ z80.toNat)]] 88 (Xz hAB ht) (iQ 7 ?_)))
        let Z7:=zH [(14,[Hw (A*10 ^ z80.toNat / B128),Lw (A*10 ^ z80.toNat / B128)])] []
        let Z8:=zH [(15,[Hw (A*10 ^ z80.toNat % B128),Lw (A*10 ^ z80.toNat % B128)])] []
        let Z9:=zH [(11,[Bv s,Hw A,Lw A,Iv z69])] (zH Z8 (zH Z7 (zH Z2 Z6)))
        refine iE 103 (zT [(14,.p 14 0),(15,.p 15 0)] Z5) Z9 ?_
        refine Aa rfl (iQ 3 ?_)
        let Z10:=zH [(11,[Bv s,Hw (A*10 ^ z80.toNat % B128),Lw (A*10 ^ z80.toNat % B128),Iv z69])] []
        let Z11:=zH Z10 (zH Z7 (zH Z8 (zH Z2 Z6)))
        refine iE 103 (zT [(14,.p 14 0),(15,.p 15 0)] Z5) Z11 ?_
        refine Ae (Aa rfl (iQ 1 (jC 47 [.agg [Hw (A*10 ^ z80.toNat / B128),Lw (A*10 ^ z80.toNat / B128)]] 94 (Ea (Nat.div_lt_of_lt_mul (Nat.mul_lt_mul'' hAB ht))) ?_)))
        rintro _ ⟨zh,rfl,hzh⟩
        refine jU .not (.bool zh) 95 ?_
        intro c95 hc95
        refine iQ 1 ?_
        cases c95
        ·replace hc95:=bf hc95
         refine iQ 1 ?_
         have hh0:A*10 ^ z80.toNat / B128=0:=hzh.1 (by simpa using hc95)
         have hlB:A*10 ^ z80.toNat<B128:=by rcases (Nat.div_eq_zero_iff).1 hh0 with k | k;exact absurd k (by decide);exact k
         refine jC 48 [.agg [Bv s,Hw (A*10 ^ z80.toNat % B128),Lw (A*10 ^ z80.toNat % B128),Iv z69]] 98 (a4j (Az _)) ?_
         rintro _ ⟨w,rfl,hw⟩
         rw[Nat.mod_eq_of_lt hlB] at hw
         refine jU .not (.bool w) 99 ?_
         intro c99 hc99
         refine iQ 1 (iE 103 (zT [(14,.p 14 0),(15,.p 15 0),(100,Ba c99)] Z5) Z11 ?_)
         cases c99
         ·replace hc99:=bf hc99
          have hM:May s (A*10 ^ z80.toNat) z69:=hw.1 (by simpa using hc99)
          refine iF (Ad (Af (Aa rfl (iQ 3 ?_))))
          let Z12:=zT [(1,Ia p),(2,Ia m),(3,.p 3 0),(6,.p 6 0),(7,Ba true),(14,.p 14 0),(15,.p 15 0),(100,Ba false)] []
          let Z13:=zT Z12 (zT Z3 Z4)
          let Z14:=zH [(6,[Bv s,Hw (A*10 ^ z80.toNat % B128),Lw (A*10 ^ z80.toNat % B128),Iv z69])] []
          let Z15:=zH [(3,[Bv s,Hw A,Lw A,Iv e])] (zH Z14 (zH Z10 (zH Z7 (zH Z8 Z6))))
          refine iE 103 Z13 Z15 ?_
          refine Ab (iS (.agg [Bv s,Hw (A*10 ^ z80.toNat % B128),Lw (A*10 ^ z80.toNat % B128),Iv z69]) (Bv true) [] ?_)
          rw[a0w hok hneg (by rw[← hk];exact hM.1),← hk,Nat.mod_eq_of_lt hlB,show -p=z69 by omega];rfl
         ·replace hc99:=bt hc99
          have hM : ¬ May s (A*10 ^ z80.toNat) z69:=fun k=>by rw[hw.2 k] at hc99;cases hc99
          refine iT (Aa rfl (iQ 3 ?_))
          let Z16:=zT [(14,.p 14 0),(15,.p 15 0),(100,Ba true)] []
          refine iE 103 (zT Z16 Z5) Z11 ?_
          refine Ab (Ag (iS (.agg [Bv false,Uv 0,Uv 0,Iv 0]) (Bv false) [] ?_))
          rw[Nw hok hneg (by rw[← hk];exact fun k=>hM ⟨k,by omega,by omega,fun h0 h00=>b8w hz h00⟩)];rfl
        ·replace hc95:=bt hc95
         refine iQ 4 ?_
         let Z17:=zT [(14,.p 14 0),(15,.p 15 0),(100,Ba true)] []
         refine iE 103 (zT Z17 Z5) Z11 ?_
         have hh0:A*10 ^ z80.toNat / B128≠0:=fun k=>by rw[hzh.2 k] at hc95;cases hc95
         refine iT (Aa rfl (iQ 3 (iE 103 (zT Z5 Z17) Z11 ?_)))
         refine Ab (Ag (iS (.agg [Bv false,Uv 0,Uv 0,Iv 0]) (Bv false) [] ?_))
         rw[Nw hok hneg (by rw[← hk];exact fun k=>hh0 (Nat.div_eq_of_lt (Nat.lt_trans k Br)))];rfl
       ·replace hc76:=bt hc76
        refine iT (Aa rfl (iQ 3 (iE 103 (zT [(72,Ba false),(76,Ba true)] (zT Z1 Z3)) (zH [(11,[Bv s,Hw A,Lw A,Iv z69])] Z2) ?_)))
        refine Ab (Ag (iS (.agg [Bv false,Uv 0,Uv 0,Iv 0]) (Bv false) [] ?_))
        rw[Nw hok hneg (b39 hz (by omega))];rfl
      ·replace hz:=bt hz
       refine iT (Aa rfl (iQ 3 ?_))
       let Z18:=zT [(1,Ia p),(2,Ia m),(3,.p 3 0),(6,.p 6 0),(7,Ba true),(72,Ba true)] []
       let Z19:=zH [(3,[Bv s,Hw A,Lw A,Iv e]),(6,[Bv s,Hw A,Lw A,Iv z69]),(11,[Bv s,Hw A,Lw A,Iv z69])] []
       refine iE 103 (zT Z18 Z3) Z19 ?_
       refine Ab (Ag (iS (.agg [Bv s,Hw A,Lw A,Iv z69]) (Bv true) [] ?_))
       rw[hz,a0w hok hneg (by rw[Nat.zero_mul];decide),Nat.zero_mul,show -p=z69 by omega];rfl
     ·replace hc37:=bt hc37
      refine iT (Aa rfl (iQ 9 (eC 66 [.agg [Bv s,Uv 0,Uv 0,Hw A,Lw A,Iv e,Bv false],Iv z35,Iv m] 47 (b4t hA (by omega) (by omega) (by omega)) ?_)))
      have hQ:Bg m s A false (-p-e).toNat=Bg m s A false z35.toNat:=by rw[show -p-e=z35 by omega]
      have hQE:Bg m s A false z35.toNat<E34:=Xx hA
      have hQB:=Nat.lt_trans hQE Br
      refine iQ 2 ?_
      let Z20:=zT [(8,Ia z35),(9,.p 9 0),(29,Ba false),(37,Ba true)] []
      let Z21:=zH [(9,[Bv s,Hw 0,Lw 0,Hw (Bg m s A false z35.toNat),Lw (Bg m s A false z35.toNat),Iv (e+(z35.toNat:Int)),Bv false])] []
      refine iE 103 (zT Z20 Z1) (zH Z21 Z2) ?_
      refine Aa rfl (iQ 3 ?_)
      cases s
      ·refine iQ 8 (jU .neg (.int .i64 p) 59 ?_)
       intro z59 hz59
       try replace hz59:=hz59.i64 (by omega)
       refine iQ 3 ?_
       let Z22:=zH [(9,[Bv false,Hw 0,Lw 0,Hw (Bg m false A false z35.toNat),Lw (Bg m false A false z35.toNat),Iv (e+(z35.toNat:Int)),Bv false])] []
       let Z23:=zH [(10,[Bv false,Hw (Bg m false A false z35.toNat),Lw (Bg m false A false z35.toNat),Iv z59])] []
       let Z24:=zH [(3,[Bv false,Hw A,Lw A,Iv e]),(6,[Bv false,Uv 0,Uv 0,Iv 0])] []
       let Z25:=zH Z24 (zH Z23 Z22)
       refine iE 103 (zT [(10,.p 10 0)] (zT Z1 Z20)) Z25 ?_
       refine Aa rfl (iQ 2 (jC 48 [.agg [Bv false,Hw (Bg m false A false z35.toNat),Lw (Bg m false A false z35.toNat),Iv z59]] 63 (a4j hQB) ?_))
       rintro _ ⟨w,rfl,hw⟩
       refine iQ 2 ?_
       let Z26:=zT [(1,Ia p),(2,Ia m),(3,.p 3 0),(6,.p 6 0),(7,Ba w),(10,.p 10 0)] []
       let Z27:=zH [(6,[Bv false,Hw (Bg m false A false z35.toNat),Lw (Bg m false A false z35.toNat),Iv z59])] []
       let Z28:=zH [(3,[Bv false,Hw A,Lw A,Iv e])] (zH Z27 (zH Z22 Z23))
       refine iE 103 (zT Z26 Z20) Z28 ?_
       refine Ab (Ag (iS (.agg [Bv false,Hw (Bg m false A false z35.toNat),Lw (Bg m false A false z35.toNat),Iv z59]) (Bv w) [] ?_))
       rw[Oz hok (by omega) hQ,hw.2 ⟨hQE,by omega,by omega,fun h=>by cases h⟩,show -p=z59 by omega];rfl
      ·refine iQ 2 (jC 47 [.agg [Hw (Bg m true A false z35.toNat),Lw (Bg m true A false z35.toNat)]] 53 (Ea hQB) ?_)
       rintro _ ⟨z,rfl,hz⟩
       refine jU .not (.bool z) 54 ?_
       intro c54 hc54
       refine iQ 4 (jU .neg (.int .i64 p) 59 ?_)
       intro z59 hz59
       try replace hz59:=hz59.i64 (by omega)
       refine iQ 3 ?_
       let Z29:=zH [(9,[Bv true,Hw 0,Lw 0,Hw (Bg m true A false z35.toNat),Lw (Bg m true A false z35.toNat),Iv (e+(z35.toNat:Int)),Bv false])] []
       let Z30:=zH [(10,[Bv c54,Hw (Bg m true A false z35.toNat),Lw (Bg m true A false z35.toNat),Iv z59])] []
       let Z31:=zH [(3,[Bv true,Hw A,Lw A,Iv e]),(6,[Bv false,Uv 0,Uv 0,Iv 0])] []
       let Z32:=zH Z31 (zH Z30 Z29)
       refine iE 103 (zT [(10,.p 10 0)] (zT Z1 Z20)) Z32 ?_
       refine Aa rfl (iQ 2 (jC 48 [.agg [Bv c54,Hw (Bg m true A false z35.toNat),Lw (Bg m true A false z35.toNat),Iv z59]] 63 (a4j hQB) ?_))
       rintro _ ⟨w,rfl,hw⟩
       have hsg:(true&&decide (Bg m true A false z35.toNat≠0))=c54:=by rw[Bool.eq_iff_iff,hc54];cases z<;>simp_all
       refine iQ 2 ?_
       let Z33:=zT [(1,Ia p),(2,Ia m),(3,.p 3 0),(6,.p 6 0),(7,Ba w),(10,.p 10 0)] []
       let Z34:=zH [(6,[Bv c54,Hw (Bg m true A false z35.toNat),Lw (Bg m true A false z35.toNat),Iv z59])] []
       let Z35:=zH [(3,[Bv true,Hw A,Lw A,Iv e])] (zH Z34 (zH Z29 Z30))
       refine iE 103 (zT Z33 Z20) Z35 ?_
       refine Ab (Ag (iS (.agg [Bv c54,Hw (Bg m true A false z35.toNat),Lw (Bg m true A false z35.toNat),Iv z59]) (Bv w) [] ?_))
       rw[Oz hok (by omega) hQ,hw.2 ⟨hQE,by omega,by omega,fun h h0=>by rw[hz.2 h0] at hc54;rw[h] at hc54;simp at hc54⟩,show -p=z59 by omega,hsg];rfl
    ·replace hc28:=bt hc28
     refine iT (Aa rfl (iQ 3 ?_))
     let Z36:=zH [(3,[Bv s,Hw A,Lw A,Iv e]),(6,[Bv false,Uv 0,Uv 0,Iv 0])] []
     refine iE 103 (zT [(29,Ba true)] Z1) Z36 ?_
     refine Ab (Ag (iS (.agg [Bv false,Uv 0,Uv 0,Iv 0]) (Bv false) [] ?_))
     rw[Ix (by omega)];rfl
   ·replace hc24:=bt hc24
    refine iQ 3 ?_
    let Z37:=zH [(3,[Bv s,Hw A,Lw A,Iv e]),(6,[Bv false,Uv 0,Uv 0,Iv 0])] []
    refine iE 103 (zT [(29,Ba true)] Z1) Z37 ?_
    refine iT (Aa rfl (iQ 3 (iE 103 (zT [(29,Ba true)] Z1) Z37 ?_)))
    refine Ab (Ag (iS (.agg [Bv false,Uv 0,Uv 0,Iv 0]) (Bv false) [] ?_))
    rw[Ix (by omega)];rfl
  ·replace hc20:=bt hc20
   refine iQ 7 ?_
   let Z38:=zH [(3,[Bv s,Hw A,Lw A,Iv e]),(6,[Bv false,Uv 0,Uv 0,Iv 0])] []
   refine iE 103 (zT [(29,Ba true)] Z1) Z38 ?_
   refine iT (Aa rfl (iQ 3 (iE 103 (zT [(29,Ba true)] Z1) Z38 ?_)))
   refine Ab (Ag (iS (.agg [Bv false,Uv 0,Uv 0,Iv 0]) (Bv false) [] ?_))
   rw[Ix (by omega)];rfl
 ·replace hc17:=bt hc17
  refine iQ 11 ?_
  let Z39:=zH [(3,[Bv s,Hw A,Lw A,Iv e]),(6,[Bv false,Uv 0,Uv 0,Iv 0])] []
  refine iE 103 (zT [(29,Ba true)] Z1) Z39 ?_
  refine iT (Aa rfl (iQ 3 (iE 103 (zT [(29,Ba true)] Z1) Z39 ?_)))
  refine Ab (Ag (iS (.agg [Bv false,Uv 0,Uv 0,Iv 0]) (Bv false) [] ?_))
  rw[Ix (by omega)];rfl
def a71 (t:Bool×Nat×Int):DV:=Bk t.1 t.2.1 t.2.2
theorem a2v {s:Bool} {A:Nat} {e m:Int} (hA:A<E34) (hs:A=0→s=false) (h1 : -6176≤e) (h2:e≤6111) (hm0:1≤m) (hm1:m≤7):HasC Tryz.prog 101 [.agg [.v (.bool s),.v (.int .u64 (hiW (A))),.v (.int .u64 (loW (A))),.v (.int .i64 e)],.v (.int .i64 m)] (fun y=>y=a71 (Bb m s A e)):=by
 refine hO [] Tryz.f101 (fun a w=>Tryz.call101 a w) Tryz.func101 rfl (⟨_,rfl⟩) ?_
 refine Aa rfl (iQ 2 ?_)
 let Z1:=zH [(2,[Bv s,Hw A,Lw A,Iv e]),(4,[Bv false,Uv 0,Uv 0,Iv 0])] []
 refine iE 18 [(1,Ia m),(2,.p 2 0),(4,.p 4 0)] Z1 ?_
 refine Ae (Aa rfl (iQ 2 (jB .geq 3 (.int .i64 e) (.int .i64 0) 9 ?_)))
 intro c9 hc9
 let Z2:=zT [(1,Ia m),(2,.p 2 0),(4,.p 4 0),(9,Ba c9)] []
 refine iE 18 Z2 Z1 ?_
 cases c9
 ·replace hc9:=bf hc9
  refine iF (Ad (Af (Aa rfl (iQ 2 (eC 21 [.agg [Bv s,Hw A,Lw A,Iv e],Iv 0,Iv m] 14 (b6u (Mu hA hs h1 h2 (by decide) (by decide)) (a1z hm0 hm1 (by omega))) (iQ 6 ?_))))))
  let Z3:=zT [(2,.p 2 0),(4,.p 4 0),(5,.p 5 0),(9,Ba false)] []
  let Z4:=zH [(5,[Bv ((Bb m s A e).1),Hw ((Bb m s A e).2.1),Lw ((Bb m s A e).2.1),Iv ((Bb m s A e).2.2)])] []
  refine iE 18 Z3 (zH Z4 Z1) ?_
  refine Aa rfl (iQ 2 ?_)
  let Z5:=zH [(4,[Bv ((Bb m s A e).1),Hw ((Bb m s A e).2.1),Lw ((Bb m s A e).2.1),Iv ((Bb m s A e).2.2)])] []
  refine iE 18 Z3 (zH [(2,[Bv s,Hw A,Lw A,Iv e])] (zH Z5 Z4)) ?_
  refine Ab (iR (.agg [Bv ((Bb m s A e).1),Hw ((Bb m s A e).2.1),Lw ((Bb m s A e).2.1),Iv ((Bb m s A e).2.2)]) ?_)
  rfl
 ·replace hc9:=bt hc9
  refine iT (Aa rfl (iQ 2 ?_))
  let Z6:=zT [(1,Ia m),(2,.p 2 0),(4,.p 4 0),(9,Ba true)] []
  let Z7:=zH [(2,[Bv s,Hw A,Lw A,Iv e]),(4,[Bv s,Hw A,Lw A,Iv e])] []
  refine iE 18 Z6 Z7 ?_
  refine Ab (Ag (iR (.agg [Bv s,Hw A,Lw A,Iv e]) ?_))
  rw[Bb,if_pos (by omega)];rfl
theorem Xp {s:Bool} {A:Nat} {e:Int} (hA:A<E34) (hs:A=0→s=false) (h1 : -6176≤e) (h2:e≤6111):HasC Tryz.prog 73 [.agg [.v (.bool s),.v (.int .u64 (hiW (A))),.v (.int .u64 (loW (A))),.v (.int .i64 e)]] (fun y=>y=a71 (Bb 6 s A e)):=by
 refine hO [] Tryz.f73 (fun a w=>Tryz.call73 a w) Tryz.func73 rfl (⟨_,rfl⟩) ?_
 refine Aa rfl (iQ 2 ?_)
 let Z1:=zH [(1,[Bv s,Hw A,Lw A,Iv e]),(2,[Bv false,Uv 0,Uv 0,Iv 0])] []
 refine iE 5 [(1,.p 1 0),(2,.p 2 0)] Z1 ?_
 refine Aa rfl (iQ 1 (eC 101 [.agg [Bv s,Hw A,Lw A,Iv e],Iv 6] 4 (a2v (m:=6) hA hs h1 h2 (by decide) (by decide)) (iQ 1 ?_)))
 let Z2:=zH [(2,[Bv ((Bb 6 s A e).1),Hw ((Bb 6 s A e).2.1),Lw ((Bb 6 s A e).2.1),Iv ((Bb 6 s A e).2.2)])] []
 refine iE 5 [(2,.p 2 0)] Z2 ?_
 refine Ab (iR (.agg [Bv ((Bb 6 s A e).1),Hw ((Bb 6 s A e).2.1),Lw ((Bb 6 s A e).2.1),Iv ((Bb 6 s A e).2.2)]) ?_)
 rfl
theorem Wy {P:Program} {f:FuncId} {ds:List DV} {t:Bool×Nat×Int} {g:Bool} {k:Nat} {x:Int} (h:HasC P f ds (fun y=>y=a71 t)) (ht:t=(g,k,x)):HasC P f ds (fun y=>y=Bk g k x):=by
 subst ht
 exact h
def Rh (s:Bool) (A:Nat) (e left:Int) (f:Bool×Nat×Int):Prop :=
 Pt f.1 f.2.1 f.2.2 s A e=0∧(((0<e∨A=0)∧left=0)∨(¬ (0<e∨A=0)∧((f.2.1 % 2:Nat):Int)=left))
theorem b65 {s g:Bool} {A k:Nat} {e x left z:Int} (hz:z=loW k % 2) (h0:Pt g k x s A e=0) (hez : ¬ (0<e∨A=0)):z=left↔Rh s A e left (g,k,x):=by
 have e1:loW k % 2=((k % 2:Nat):Int):=by
  unfold loW
  omega
 rw[hz,e1]
 constructor
 ·intro h
  exact ⟨h0,.inr ⟨hez,h⟩⟩
 ·intro h
  rcases h.2 with h | h
  ·exact absurd h.1 hez
  ·exact h.2
set_option maxHeartbeats 1600000 in
theorem a08 {s:Bool} {A:Nat} {e left:Int} (hA:A<E34) (hs:A=0→s=false) (h1 : -6176≤e) (h2:e≤6111):HasC Tryz.prog 77 [.agg [.v (.bool s),.v (.int .u64 (hiW (A))),.v (.int .u64 (loW (A))),.v (.int .i64 e)],.v (.int .u64 left)] (fun y => ∃ b,y=.v (.bool b)∧(b=true↔Rh s A e left (Bb 6 s A e))):=by
 refine hO [] Tryz.f77 (fun a w=>Tryz.call77 a w) Tryz.func77 rfl (⟨_,@decide (Rh s A e left (Bb 6 s A e)) (Classical.propDecidable _),rfl,by simp⟩) ?_
 obtain ⟨w1,w2,w3,w4⟩:=Pp (m:=6) hA hs h2
 obtain ⟨t,ht⟩ : ∃ t,Bb 6 s A e=t:=⟨_,rfl⟩
 rw[ht] at w1 w2 w3 w4
 rw[ht]
 obtain ⟨g,k,x⟩:=t
 simp only at w1 w2 w3 w4
 refine Aa rfl (iQ 2 ?_)
 let Z1:=zT [(1,.d (Uv left)),(2,.p 2 0),(4,Ba false)] []
 refine iE 26 Z1 [(2,[Bv s,Hw A,Lw A,Iv e])] ?_
 refine Ae (Aa rfl (iQ 1 (eC 73 [.agg [Bv s,Hw A,Lw A,Iv e]] 6 (Wy (Xp hA hs h1 h2) ht) (iQ 1 (eC 83 [.agg [Bv g,Hw k,Lw k,Iv x],.agg [Bv s,Hw A,Lw A,Iv e]] 8 (Tg w1 hA (by omega) (by omega) (by omega) (by omega)) (jB .neq 3 (.int .i64 (Pt g k x s A e)) (.int .i64 0) 9 ?_))))))
 intro c9 hc9
 refine iE 26 (zT [(9,Ba c9)] Z1) [(2,[Bv s,Hw A,Lw A,Iv e])] ?_
 cases c9
 ·replace hc9:=bf hc9
  have h0:Pt g k x s A e=0:=Decidable.not_not.1 hc9
  refine iF (Ad (Af (Ae (Aa rfl (iQ 2 (jB .gtr 3 (.int .i64 e) (.int .i64 0) 12 ?_))))))
  intro c12 hc12
  refine iQ 1 ?_
  cases c12
  ·replace hc12:=bf hc12
   refine iQ 1 (jC 16 [.agg [Bv s,Hw A,Lw A,Iv e]] 15 (Du (Nat.lt_trans hA Br)) ?_)
   rintro _ ⟨z,rfl,hz⟩
   refine iQ 1 (iE 26 (zT [(9,Ba false),(16,Ba z)] Z1) [(2,[Bv s,Hw A,Lw A,Iv e])] ?_)
   cases z
   ·replace hz:=bf hz
    have hez : ¬ (0<e∨A=0):=fun h=>by rcases h with h | h;exact hc12 h;exact hz h
    refine iF (Ad (Af (Aa rfl (iQ 1 (eC 73 [.agg [Bv s,Hw A,Lw A,Iv e]] 20 (Wy (Xp hA hs h1 h2) ht) (iQ 2 (jB .and 22 (.int .u64 (loW (k))) (.int .u64 1) 23 ?_)))))))
    intro z23 hz23
    have h23:=Wp hz23 (Hz k).1 (Hz k).2
    refine iQ 1 (jB .eql 22 (.int .u64 z23) (.int .u64 left) 25 ?_)
    intro c25 hc25
    refine iQ 1 ?_
    let Z2:=zT [(1,.d (Uv left)),(2,.p 2 0),(4,Ba c25),(9,Ba false),(16,Ba false)] []
    refine iE 26 Z2 [(2,[Bv s,Hw A,Lw A,Iv e])] ?_
    refine Ab (iR (Bv c25) ?_)
    exact ⟨_,rfl,by rw[hc25];exact b65 h23 h0 hez⟩
   ·replace hz:=bt hz
    have hez:0<e∨A=0:=.inr hz
    refine iT (Aa rfl (iQ 1 (jB .eql 22 (.int .u64 left) (.int .u64 0) 18 ?_)))
    intro c18 hc18
    refine iQ 1 ?_
    let Z3:=zT [(1,.d (Uv left)),(2,.p 2 0),(4,Ba c18),(9,Ba false),(16,Ba true)] []
    refine iE 26 Z3 [(2,[Bv s,Hw A,Lw A,Iv e])] ?_
    refine Ab (Ag (iR (Bv c18) ?_))
    exact ⟨_,rfl,by rw[hc18];exact ⟨fun h=>⟨h0,.inl ⟨hez,h⟩⟩,fun h=>by rcases h.2 with h | h;exact h.2;exact absurd hez h.1⟩⟩
  ·replace hc12:=bt hc12
   refine iQ 3 (iE 26 (zT [(9,Ba false),(16,Ba true)] Z1) [(2,[Bv s,Hw A,Lw A,Iv e])] ?_)
   have hez:0<e∨A=0:=.inl hc12
   refine iT (Aa rfl (iQ 1 (jB .eql 22 (.int .u64 left) (.int .u64 0) 18 ?_)))
   intro c18 hc18
   refine iQ 1 ?_
   let Z4:=zT [(1,.d (Uv left)),(2,.p 2 0),(4,Ba c18),(9,Ba false),(16,Ba true)] []
   refine iE 26 Z4 [(2,[Bv s,Hw A,Lw A,Iv e])] ?_
   refine Ab (Ag (iR (Bv c18) ?_))
   exact ⟨_,rfl,by rw[hc18];exact ⟨fun h=>⟨h0,.inl ⟨hez,h⟩⟩,fun h=>by rcases h.2 with h | h;exact h.2;exact absurd hez h.1⟩⟩
 ·replace hc9:=bt hc9
  refine iT (Aa rfl (iQ 1 (iE 26 (zT [(9,Ba true)] Z1) [(2,[Bv s,Hw A,Lw A,Iv e])] ?_)))
  refine Ab (Ag (iR (Bv false) ?_))
  exact ⟨_,rfl,⟨fun h=>(by cases h),fun h=>absurd h.1 hc9⟩⟩
theorem a7j {s:Bool} {A:Nat} {e:Int} (hA:A<E34) (hs:A=0→s=false) (h1 : -6176≤e) (h2:e≤6111):HasC Tryz.prog 33 [.agg [.v (.bool s),.v (.int .u64 (hiW (A))),.v (.int .u64 (loW (A))),.v (.int .i64 e)]] (fun y => ∃ b,y=.v (.bool b)∧(b=true↔Rh s A e 0 (Bb 6 s A e))):=by
 refine hO [] Tryz.f33 (fun a w=>Tryz.call33 a w) Tryz.func33 rfl (⟨_,@decide (Rh s A e 0 (Bb 6 s A e)) (Classical.propDecidable _),rfl,by simp⟩) ?_
 refine Aa rfl (iQ 2 (iE 5 [(1,.p 1 0),(2,Ba false)] [(1,[Bv s,Hw A,Lw A,Iv e])] ?_))
 refine Aa rfl (iQ 1 (jC 77 [.agg [Bv s,Hw A,Lw A,Iv e],Uv 0] 4 (a08 hA hs h1 h2) ?_))
 rintro _ ⟨b,rfl,hb⟩
 refine iQ 1 (iE 5 [(2,Ba b)] [] ?_)
 refine Ab (iR (Bv b) ?_)
 exact ⟨_,rfl,hb⟩
theorem b57 {s:Bool} {A:Nat} {e:Int} (hA:A<E34) (hs:A=0→s=false) (h1 : -6176≤e) (h2:e≤6111):HasC Tryz.prog 34 [.agg [.v (.bool s),.v (.int .u64 (hiW (A))),.v (.int .u64 (loW (A))),.v (.int .i64 e)]] (fun y => ∃ b,y=.v (.bool b)∧(b=true↔Rh s A e 1 (Bb 6 s A e))):=by
 refine hO [] Tryz.f34 (fun a w=>Tryz.call34 a w) Tryz.func34 rfl (⟨_,@decide (Rh s A e 1 (Bb 6 s A e)) (Classical.propDecidable _),rfl,by simp⟩) ?_
 refine Aa rfl (iQ 2 (iE 5 [(1,.p 1 0),(2,Ba false)] [(1,[Bv s,Hw A,Lw A,Iv e])] ?_))
 refine Aa rfl (iQ 1 (jC 77 [.agg [Bv s,Hw A,Lw A,Iv e],Uv 1] 4 (a08 hA hs h1 h2) ?_))
 rintro _ ⟨b,rfl,hb⟩
 refine iQ 1 (iE 5 [(2,Ba b)] [] ?_)
 refine Ab (iR (Bv b) ?_)
 exact ⟨_,rfl,hb⟩
noncomputable def a6j (s:Bool) (a:Nat) (x:Int) (m:T4):T4:=if m.2.2.2=false then (false,0,0,false) else Gm s a x (!m.1&&decide (m.2.1≠0)) m.2.1 m.2.2.1
noncomputable def b4b (s:Bool) (a:Nat) (x:Int) (t:Bool) (b:Nat) (y:Int) (d:T4):T4 :=
 if d.2.2.2=false then (false,0,0,false) else a6j s a x (a7z (t,b,y,true) ((Bb 6 d.1 d.2.1 d.2.2.1).1,(Bb 6 d.1 d.2.1 d.2.2.1).2.1,(Bb 6 d.1 d.2.1 d.2.2.1).2.2,true))
noncomputable def Zq (s:Bool) (a:Nat) (x:Int) (t:Bool) (b:Nat) (y:Int):T4:=b4b s a x t b y (Gy (s != t) a b (x-y))
theorem b8j {s:Bool} {a:Nat} {x:Int} {t:Bool} {b:Nat} {y:Int} {g:Bool} {k:Nat} {z:Int} (h:Gy (s != t) a b (x-y)=(g,k,z,false)):Zq s a x t b y=(false,0,0,false):=by
 rw[Zq,h,b4b,if_pos rfl]
theorem b3b {s:Bool} {a:Nat} {x:Int} {t:Bool} {b:Nat} {y:Int} {g g1:Bool} {k k1:Nat} {z z1:Int} {m:T4} (h:Gy (s != t) a b (x-y)=(g,k,z,true)) (hw:Bb 6 g k z=(g1,k1,z1)) (hm:a7z (t,b,y,true) (g1,k1,z1,true)=m):Zq s a x t b y=a6j s a x m:=by
 rw[Zq,h,b4b,if_neg (by simp)]
 show a6j s a x (a7z (t,b,y,true) ((Bb 6 g k z).1,(Bb 6 g k z).2.1,(Bb 6 g k z).2.2,true))=_
 rw[hw,hm]
theorem b5c {s:Bool} {a:Nat} {x:Int} {g:Bool} {k:Nat} {z:Int}:a6j s a x (g,k,z,false)=(false,0,0,false):=if_pos rfl
theorem b1g {s:Bool} {a:Nat} {x:Int} {g:Bool} {k:Nat} {z:Int}:a6j s a x (g,k,z,true)=Gm s a x (!g&&decide (k≠0)) k z:=if_neg (by simp)
theorem a23 {s:Bool} {a b:Nat} {like:Int} {g:Bool} {k:Nat} {x:Int} {ok:Bool} (h:Gy s a b like=(g,k,x,ok)):k<E34 ∧ -6176≤x∧x≤6111∧(k=0→g=false):=by
 unfold Gy at h
 split at h
 ·obtain ⟨h1,h2,h3,h4⟩:=T4.inj4 h
  subst h1 h2 h3
  exact ⟨by decide,by decide,by decide,fun _=>rfl⟩
 ·unfold a06 at h
  split at h
  ·exact El h
  ·exact El h
theorem a48 {t u:T4} {g:Bool} {k:Nat} {x:Int} {ok:Bool} (h:a7z t u=(g,k,x,ok)):k<E34 ∧ -6176≤x∧x≤6111∧(k=0→g=false):=El h
set_option maxHeartbeats 1600000 in
theorem a1r {s t:Bool} {a b:Nat} {x y:Int} (ha:a<E34) (hb:b<E34) (h1 : -6176≤x) (h2:x≤6111) (h3 : -6176≤y) (h4:y≤6111):HasC Tryz.prog 27 [.agg [.v (.bool s),.v (.int .u64 (hiW (a))),.v (.int .u64 (loW (a))),.v (.int .i64 x)],.agg [.v (.bool t),.v (.int .u64 (hiW (b))),.v (.int .u64 (loW (b))),.v (.int .i64 y)]] (fun r=>r=Xb (Zq s a x t b y)):=by
 refine hO [] Tryz.f27 (fun a w=>Tryz.call27 a w) Tryz.func27 rfl (⟨_,rfl⟩) ?_
 refine Aa rfl (iQ 4 ?_)
 let Z1:=zT [(2,.p 2 0),(3,.p 3 0),(4,.p 4 0),(5,Ba false)] []
 let Z2:=zH [(2,[Bv s,Hw a,Lw a,Iv x]),(3,[Bv t,Hw b,Lw b,Iv y]),(4,[Bv false,Uv 0,Uv 0,Iv 0])] []
 refine iE 33 Z1 Z2 ?_
 refine Aa rfl (iQ 2 (jC 15 [.agg [Bv s,Hw a,Lw a,Iv x],.agg [Bv t,Hw b,Lw b,Iv y]] 12 (Fd (a3e ha hb (by omega) (by omega) (by omega) (by omega))) ?_))
 rintro _ ⟨g,k,z,ok,rfl,hT⟩
 obtain ⟨r1,r2,r3,r4⟩:=a23 hT
 refine iQ 6 (iE 33 (zT [(6,.p 6 0),(7,Ba ok)] Z1) (zH [(6,[Bv g,Hw k,Lw k,Iv z])] Z2) ?_)
 refine Ae (Aa rfl (iQ 1 (jU .not (.bool ok) 16 ?_)))
 intro c16 hc16
 refine iE 33 (zT [(6,.p 6 0),(7,Ba ok),(16,Ba c16)] Z1) (zH [(6,[Bv g,Hw k,Lw k,Iv z])] Z2) ?_
 cases c16
 ·replace hc16:=bf hc16
  have hok:ok=true:=by simpa using hc16
  rw[hok] at hT
  obtain ⟨w1,w2,w3,w4⟩:=Pp (m:=6) r1 r4 r3
  obtain ⟨tw,htw⟩ : ∃ tw,Bb 6 g k z=tw:=⟨_,rfl⟩
  rw[htw] at w1 w2 w3 w4
  obtain ⟨g1,k1,z1⟩:=tw
  simp only at w1 w2 w3 w4
  refine iF (Ad (Af (Aa rfl (iQ 2 (eC 73 [.agg [Bv g,Hw k,Lw k,Iv z]] 21 (Wy (Xp r1 r4 r2 r3) htw) (jC 13 [.agg [Bv t,Hw b,Lw b,Iv y],.agg [Bv g1,Hw k1,Lw k1,Iv z1]] 22 (a6t (o1:=true) (o2:=true) (Nat.lt_trans hb Br) (Nat.lt_trans w1 Br) (by omega) (by omega) (by omega) (by omega)) ?_))))))
  rintro _ ⟨m,l,v,ol,rfl,hM⟩
  have hY:=b3b (a:=a) (x:=x) hT htw hM
  obtain ⟨m1,m2,m3,m4⟩:=a48 hM
  refine iQ 6 ?_
  let Z3:=zT [(6,.p 6 0),(7,Ba ol),(8,.p 8 0),(16,Ba false)] []
  let Z4:=zH [(6,[Bv g,Hw k,Lw k,Iv z]),(8,[Bv m,Hw l,Lw l,Iv v])] []
  refine iE 33 (zT Z3 Z1) (zH Z4 Z2) ?_
  refine Ae (Aa rfl (iQ 1 (jU .not (.bool ol) 26 ?_)))
  intro c26 hc26
  refine iE 33 (zT [(26,Ba c26)] (zT Z1 Z3)) (zH Z2 Z4) ?_
  cases c26
  ·replace hc26:=bf hc26
   have hol:ol=true:=by simpa using hc26
   rw[hol] at hY
   refine iF (Ad (Af (Aa rfl (iQ 2 (jC 12 [.agg [Bv s,Hw a,Lw a,Iv x],.agg [Bv m,Hw l,Lw l,Iv v]] 30 (Fd (a73 ha m1 (by omega) (by omega) (by omega) (by omega))) ?_)))))
   rintro _ ⟨g5,k5,x5,ok5,rfl,hS⟩
   refine iQ 4 ?_
   let Z5:=zT [(2,.p 2 0),(3,.p 3 0),(4,.p 4 0),(5,Ba ok5),(26,Ba false)] []
   let Z6:=zH [(2,[Bv s,Hw a,Lw a,Iv x]),(3,[Bv t,Hw b,Lw b,Iv y]),(4,[Bv g5,Hw k5,Lw k5,Iv x5])] []
   refine iE 33 (zT Z5 Z3) (zH Z6 Z4) ?_
   refine Ab (iS (.agg [Bv g5,Hw k5,Lw k5,Iv x5]) (Bv ok5) [] ?_)
   rw[hY,b1g,hS];rfl
  ·replace hc26:=bt hc26
   have hol:ol=false:=hc26
   rw[hol] at hY
   refine iT (Aa rfl (iQ 3 (iE 33 (zT [(26,Ba true)] (zT Z1 Z3)) (zH Z2 Z4) ?_)))
   refine Ab (Ag (iS (.agg [Bv false,Uv 0,Uv 0,Iv 0]) (Bv false) [] ?_))
   rw[hY,b5c];rfl
 ·replace hc16:=bt hc16
  have hok:ok=false:=hc16
  rw[hok] at hT
  refine iT (Aa rfl (iQ 3 (iE 33 (zT [(6,.p 6 0),(7,Ba ok),(16,Ba true)] Z1) (zH [(6,[Bv g,Hw k,Lw k,Iv z])] Z2) ?_)))
  refine Ab (Ag (iS (.agg [Bv false,Uv 0,Uv 0,Iv 0]) (Bv false) [] ?_))
  rw[b8j hT];rfl
end Go.Proofs.YtdkgnmiiibpnnaaGreatDoor
