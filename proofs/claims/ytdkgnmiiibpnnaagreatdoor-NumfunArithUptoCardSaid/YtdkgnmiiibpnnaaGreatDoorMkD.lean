/- casuistlaw02.Make: a number that may be one, of any numbers. -/
import Derived.Test.YtdkgnmiiibpnnaaGreatDoorVcZ
import Derived.Test.YtdkgnmiiibpnnaaGreatDoorDecs
namespace Go.Proofs.YtdkgnmiiibpnnaaGreatDoor
open Go.RowKit
set_option linter.unusedVariables false
set_option linter.unusedSimpArgs false
set_option maxRecDepth 100000
theorem a9x {n:Nat} (hn:n<B128):HasC Tryz.prog 46 [.agg [.v (.int .u64 0),.v (.int .u64 0)],dU n,dU (10 ^ (34:Int).toNat)] (fun y=>y=.tup [dU (n / E34),dU (n % E34),.v (.bool true)]):=by
 have e:(10:Nat) ^ (34:Int).toNat=E34:=by decide
 rw[e,← Ye]
 have h:=Sm (h:=0) (l:=n) (d:=E34) (by decide) hn (by decide) (by decide)
 rw[Nat.zero_mul,Nat.zero_add] at h
 exact h
theorem a0k {e z:Int} (h:z=e.tmod 6000) : -6176≤z∧z≤6111:=by
 have h1:=Int.tmod_lt_of_pos e (show (0:Int)<6000 by decide)
 have h2:=Int.lt_tmod_of_pos e (show (0:Int)<6000 by decide)
 omega
set_option maxHeartbeats 1600000 in
theorem b4w {g:Bool} {n:Nat} {e:Int} (hn:n<B128):HasC Tryz.prog 7 [.agg [.v (.bool g),.v (.int .u64 (hiW (n))),.v (.int .u64 (loW (n))),.v (.int .i64 e)]] (fun y => ∃ s c x,y=Bo s c x∧c<E34 ∧ -6176≤x∧x≤6111∧(c=0→s=false)):=by
 refine hO [] Tryz.f7 (fun a w=>Tryz.call7 a w) Tryz.func7 rfl (⟨_,false,0,0,rfl,by decide,by decide,by decide,fun _=>rfl⟩) ?_
 refine Aa rfl (iQ 2 ?_)
 let Z1:=zH [(1,[Bv g,Hw n,Lw n,Iv e]),(2,[Bv false,Uv 0,Uv 0,Iv 0])] []
 refine iE 42 [(1,.p 1 0),(2,.p 2 0)] Z1 ?_
 refine Aa rfl (eC 45 [Iv 34] 10 (Wn (k:=34) (by decide) (by decide)) (iQ 6 ?_))
 let Z2:=zH [(3,[Hw (10 ^ (34:Int).toNat),Lw (10 ^ (34:Int).toNat)])] []
 refine iE 42 [(1,.p 1 0),(2,.p 2 0),(3,.p 3 0)] (zH Z2 Z1) ?_
 refine Aa rfl (iQ 4 (eC 46 [.agg [Uv 0,Uv 0],.agg [Hw n,Lw n],.agg [Hw (10 ^ (34:Int).toNat),Lw (10 ^ (34:Int).toNat)]] 18 (a9x hn) ?_))
 have hc:n % E34<E34:=Nat.mod_lt _ (by decide)
 have hcB:=Nat.lt_trans hc Ce
 refine iQ 9 ?_
 let Z3:=zT [(1,.p 1 0),(2,.p 2 0),(3,.p 3 0),(6,.p 6 0)] []
 refine iE 42 Z3 (zH [(6,[Hw (n % E34),Lw (n % E34)])] (zH Z1 Z2)) ?_
 refine Aa rfl (iQ 3 (iE 42 (zT [(8,Ia e)] Z3) (zH [(6,[Hw (n % E34),Lw (n % E34)])] (zH Z1 Z2)) ?_))
 refine Ey 42 (fun (vcx:Int×Bool)=>match vcx with | (x,vb29)=>[(1,.p 1 0),(2,.p 2 0),(3,.p 3 0),(6,.p 6 0),(8,Ia x),(29,Ba vb29)]) (fun (vcx:Int×Bool)=>match vcx with | (x,vb29)=>[(1,[Bv g,Hw n,Lw n,Iv e]),(2,[Bv false,Uv 0,Uv 0,Iv 0]),(3,[Hw (10 ^ (34:Int).toNat),Lw (10 ^ (34:Int).toNat)]),(6,[Hw (n % E34),Lw (n % E34)])]) (fun (vcx:Int×Bool)=>match vcx with | (x,vb29) => -6176≤x∧x≤6111) ?_ ?_
 ·rintro ⟨x,vb29⟩ hinv
  simp only at hinv
  refine Aa rfl (iQ 3 ?_)
  cases g
  ·refine iQ 8 ?_
   let Z4:=zH [(2,[Bv false,Hw (n % E34),Lw (n % E34),Iv x])] []
   let Z5:=zH [(1,[Bv false,Hw n,Lw n,Iv e]),(6,[Hw (n % E34),Lw (n % E34)])] []
   let Z6:=zH Z5 (zH Z4 Z2)
   refine iE 42 (zT [(8,Ia x),(29,Ba vb29)] Z3) Z6 ?_
   refine Ab (iR (.agg [Bv false,Hw (n % E34),Lw (n % E34),Iv x]) ?_)
   exact ⟨_,_,_,rfl,hc,hinv.1,hinv.2,fun _=>rfl⟩
  ·refine iQ 1 (jC 47 [.agg [Hw (n % E34),Lw (n % E34)]] 36 (Ep hcB) ?_)
   rintro _ ⟨z,rfl,hz⟩
   refine jU .not (.bool z) 37 ?_
   intro c37 hc37
   refine iQ 5 ?_
   let Z7:=zH [(2,[Bv c37,Hw (n % E34),Lw (n % E34),Iv x])] []
   let Z8:=zH [(1,[Bv true,Hw n,Lw n,Iv e]),(6,[Hw (n % E34),Lw (n % E34)])] []
   let Z9:=zH Z8 (zH Z7 Z2)
   refine iE 42 (zT [(8,Ia x),(29,Ba vb29)] Z3) Z9 ?_
   refine Ab (iR (.agg [Bv c37,Hw (n % E34),Lw (n % E34),Iv x]) ?_)
   exact ⟨_,_,_,rfl,hc,hinv.1,hinv.2,fun h=>by rw[hz.2 h] at hc37;exact bff hc37 (by simp)⟩
 intro hmid
 refine Aa rfl (iQ 1 (jB .lss 3 (.int .i64 e) (.int .i64 (-6176)) 25 ?_))
 intro c25 hc25
 refine iQ 1 ?_
 cases c25
 ·replace hc25:=bf hc25
  refine iQ 1 (jB .gtr 3 (.int .i64 e) (.int .i64 6111) 28 ?_)
  intro c28 hc28
  refine iQ 1 (iE 42 [(1,.p 1 0),(2,.p 2 0),(3,.p 3 0),(6,.p 6 0),(8,Ia e),(29,Ba c28)] [(1,[Bv g,Hw n,Lw n,Iv e]),(2,[Bv false,Uv 0,Uv 0,Iv 0]),(3,[Hw (10 ^ (34:Int).toNat),Lw (10 ^ (34:Int).toNat)]),(6,[Hw (n % E34),Lw (n % E34)])] ?_)
  cases c28
  ·replace hc28:=bf hc28
   refine iF (Ad ?_)
   refine Cn hmid (e,false) (by omega) (by kernel_rfl)
  ·replace hc28:=bt hc28
   refine iT (Al rfl (iQ 1 (jB .rem 3 (.int .i64 e) (.int .i64 6000) 31 ?_)))
   refine And.intro (by omega) ?_
   intro z31 hz31
   have h31:=a0k hz31
   refine iQ 1 (iE 42 [(1,.p 1 0),(2,.p 2 0),(3,.p 3 0),(6,.p 6 0),(8,Ia z31),(29,Ba true)] [(1,[Bv g,Hw n,Lw n,Iv e]),(2,[Bv false,Uv 0,Uv 0,Iv 0]),(3,[Hw (10 ^ (34:Int).toNat),Lw (10 ^ (34:Int).toNat)]),(6,[Hw (n % E34),Lw (n % E34)])] ?_)
   refine Cn hmid (z31,true) (h31) (by kernel_rfl)
 ·replace hc25:=bt hc25
  refine iQ 3 (iE 42 [(1,.p 1 0),(2,.p 2 0),(3,.p 3 0),(6,.p 6 0),(8,Ia e),(29,Ba true)] [(1,[Bv g,Hw n,Lw n,Iv e]),(2,[Bv false,Uv 0,Uv 0,Iv 0]),(3,[Hw (10 ^ (34:Int).toNat),Lw (10 ^ (34:Int).toNat)]),(6,[Hw (n % E34),Lw (n % E34)])] ?_)
  refine iT (Al rfl (iQ 1 (jB .rem 3 (.int .i64 e) (.int .i64 6000) 31 ?_)))
  refine And.intro (by omega) ?_
  intro z31 hz31
  have h31:=a0k hz31
  refine iQ 1 (iE 42 [(1,.p 1 0),(2,.p 2 0),(3,.p 3 0),(6,.p 6 0),(8,Ia z31),(29,Ba true)] [(1,[Bv g,Hw n,Lw n,Iv e]),(2,[Bv false,Uv 0,Uv 0,Iv 0]),(3,[Hw (10 ^ (34:Int).toNat),Lw (10 ^ (34:Int).toNat)]),(6,[Hw (n % E34),Lw (n % E34)])] ?_)
  refine Cn hmid (z31,true) (h31) (by kernel_rfl)
end Go.Proofs.YtdkgnmiiibpnnaaGreatDoor
