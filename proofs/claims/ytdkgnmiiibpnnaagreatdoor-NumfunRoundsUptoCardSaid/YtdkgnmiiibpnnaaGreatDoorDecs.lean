/- dec: the small functions. dec.Cut: a number without its last digits, rounded. dec.Fit: a number fitted to 34 digits and its exponents. dec.Fit's answer as plain data; dec.Mul, Abs, Sign; quot.digits. dec.Sign, dec.Int; quot.raised. quot.Div. What Fit answers, as plain data: without the bound on the digits that are cut; more digits of the same number change nothing. quot.Power. quot.Root. -/
import Derived.Test.YtdkgnmiiibpnnaaGreatDoorVcZ
namespace Go.Proofs.YtdkgnmiiibpnnaaGreatDoor
open Go.RowKit
set_option linter.unusedVariables false
set_option linter.unusedSimpArgs false
set_option maxRecDepth 100000
def Bk (neg:Bool) (n:Nat) (e:Int):DV:=.agg [.v (.bool neg),.v (.int .u64 (hiW n)),.v (.int .u64 (loW n)),.v (.int .i64 e)]
def Lh (neg:Bool) (hi lo:Nat) (e:Int) (more:Bool):DV:=.agg [.v (.bool neg),.v (.int .u64 (hiW hi)),.v (.int .u64 (loW hi)),.v (.int .u64 (hiW lo)),.v (.int .u64 (loW lo)),.v (.int .i64 e),.v (.bool more)]
def E34:Nat:=10000000000000000000000000000000000
theorem Br:E34<B128:=by decide
theorem a78:HasC Tryz.prog 90 [] (fun y=>y=dU E34):=by
 refine hO [] Tryz.f90 (fun a w=>Tryz.call90 a w) Tryz.func90 rfl (⟨_,rfl⟩) ?_
 refine Aa rfl (iQ 1 (iE 8 [(0,.p 0 0)] [(0,[Uv 0,Uv 0])] ?_))
 refine Aa rfl (eC 45 [Iv 34] 4 (Te (by decide) (by decide)) (iQ 6 ?_))
 let Z1:=zH [(1,[Hw (10 ^ (34:Int).toNat),Lw (10 ^ (34:Int).toNat)])] []
 refine iE 8 [(0,.p 0 0),(1,.p 1 0)] (zH [(0,[Uv 0,Uv 0])] Z1) ?_
 refine Aa rfl (iQ 2 ?_)
 let Z2:=zH [(0,[Hw (10 ^ (34:Int).toNat),Lw (10 ^ (34:Int).toNat)])] []
 refine iE 8 [(0,.p 0 0),(1,.p 1 0)] (zH Z2 Z1) ?_
 refine Ab (iR (.agg [Hw (10 ^ (34:Int).toNat),Lw (10 ^ (34:Int).toNat)]) ?_)
 rfl
def May (neg:Bool) (n:Nat) (e:Int):Prop:=n<E34 ∧ -6176≤e∧e≤6111∧(neg=true→n≠0)
theorem a4j {neg:Bool} {n:Nat} {e:Int} (hn:n<B128):HasC Tryz.prog 48 [.agg [.v (.bool neg),.v (.int .u64 (hiW (n))),.v (.int .u64 (loW (n))),.v (.int .i64 e)]] (fun y => ∃ b,y=.v (.bool b)∧(b=true↔May neg n e)):=by
 refine hO [] Tryz.f48 (fun a w=>Tryz.call48 a w) Tryz.func48 rfl (⟨_,@decide (May neg n e) (Classical.propDecidable _),rfl,by simp⟩) ?_
 refine Aa rfl (iQ 2 (iE 28 [(1,.p 1 0),(2,Ba false)] [(1,[Bv neg,Hw n,Lw n,Iv e])] ?_))
 refine Aa rfl (iQ 2 (eC 90 [] 5 (a78) (eC 87 [.agg [Hw n,Lw n],.agg [Hw E34,Lw E34]] 6 (b0p hn Br) (jB .lss 3 (.int .i64 (Ch n E34)) (.int .i64 0) 7 ?_))))
 intro c7 hc7
 refine iQ 1 ?_
 cases c7
 ·replace hc7:=bf hc7
  refine iQ 20 (iE 28 [(2,Ba false)] [] ?_)
  refine Ab (iR (Bv false) ?_)
  exact ⟨_,rfl,by rw[Pm] at hc7;unfold May;simp;omega⟩
 ·replace hc7:=bt hc7
  refine iQ 2 (jB .geq 3 (.int .i64 e) (.int .i64 (-6176)) 11 ?_)
  rw[Pm] at hc7
  intro c11 hc11
  refine iQ 2 ?_
  cases c11
  ·replace hc11:=bf hc11
   refine iQ 15 (iE 28 [(2,Ba false)] [] ?_)
   refine Ab (iR (Bv false) ?_)
   exact ⟨_,rfl,by unfold May;simp;omega⟩
  ·replace hc11:=bt hc11
   refine iQ 2 (jB .leq 3 (.int .i64 e) (.int .i64 6111) 16 ?_)
   intro c16 hc16
   refine iQ 2 ?_
   cases c16
   ·replace hc16:=bf hc16
    refine iQ 10 (iE 28 [(2,Ba false)] [] ?_)
    refine Ab (iR (Bv false) ?_)
    exact ⟨_,rfl,by unfold May;simp;omega⟩
   ·replace hc16:=bt hc16
    refine iQ 3 ?_
    cases neg
    ·refine iQ 4 (jU .not (.bool false) 26 ?_)
     intro c26 hc26
     refine iQ 2 (iE 28 [(2,Ba c26)] [] ?_)
     refine Ab (iR (Bv c26) ?_)
     exact ⟨_,rfl,by unfold May;rw[hc26];simp;omega⟩
    ·refine iQ 2 (jC 47 [.agg [Hw n,Lw n]] 24 (Ea hn) ?_)
     rintro _ ⟨z,rfl,hz⟩
     refine iQ 1 (jU .not (.bool z) 26 ?_)
     intro c26 hc26
     refine iQ 2 (iE 28 [(2,Ba c26)] [] ?_)
     refine Ab (iR (Bv c26) ?_)
     exact ⟨_,rfl,by unfold May;rw[hc26];cases z<;>simp_all<;>omega⟩
theorem Du {neg:Bool} {n:Nat} {e:Int} (hn:n<B128):HasC Tryz.prog 16 [.agg [.v (.bool neg),.v (.int .u64 (hiW (n))),.v (.int .u64 (loW (n))),.v (.int .i64 e)]] (fun y => ∃ b,y=.v (.bool b)∧(b=true↔n=0)):=by
 refine hO [] Tryz.f16 (fun a w=>Tryz.call16 a w) Tryz.func16 rfl (⟨_,decide (n=0),rfl,by simp⟩) ?_
 refine Aa rfl (iQ 2 (iE 6 [(1,.p 1 0),(2,Ba false)] [(1,[Bv neg,Hw n,Lw n,Iv e])] ?_))
 refine Aa rfl (iQ 2 (jC 47 [.agg [Hw n,Lw n]] 5 (Ea hn) ?_))
 rintro _ ⟨z,rfl,hz⟩
 refine iQ 1 (iE 6 [(2,Ba z)] [] ?_)
 refine Ab (iR (Bv z) ?_)
 exact ⟨_,rfl,hz⟩
def UpP (m:Int) (neg odd:Bool) (last:Int) (more:Bool):Prop :=
 (m=1∧(5<last∨(last=5∧(more=true∨odd=true))))∨(m=2∧5≤last)∨(m=3∧(5<last∨(last=5∧more=true)))∨(m=4∧(0<last∨more=true)) ∨
 (m=6∧neg=true∧(0<last∨more=true))∨(m=7∧neg=false∧(0<last∨more=true))
set_option maxHeartbeats 1600000 in
theorem b93 {m last:Int} {neg odd more:Bool}:HasC Tryz.prog 98 [.v (.int .i64 m),.v (.bool neg),.v (.bool odd),.v (.int .u64 last),.v (.bool more)] (fun y => ∃ b,y=.v (.bool b)∧(b=true↔UpP m neg odd last more)):=by
 refine hO [] Tryz.f98 (fun a w=>Tryz.call98 a w) Tryz.func98 rfl (⟨_,@decide (UpP m neg odd last more) (Classical.propDecidable _),rfl,by simp⟩) ?_
 refine Aa rfl (iQ 1 ?_)
 let Z1:=zT [(0,Ia m),(1,Ba neg),(2,Ba odd),(3,.d (Uv last)),(4,Ba more),(10,Ba false)] []
 refine iE 79 Z1 [] ?_
 refine Aa rfl (iQ 1 (jB .eql 22 (.int .u64 last) (.int .u64 5) 13 ?_))
 intro c13 hc13
 refine iQ 1 ?_
 cases c13
 ·replace hc13:=bf hc13
  refine iQ 4 (iE 79 (zT [(11,Ba false)] Z1) [] ?_)
  refine Ae (Aa rfl (iQ 1 ?_))
  let Z2:=zT [(1,Ba neg),(2,Ba odd),(3,.d (Uv last)),(4,Ba more),(10,Ba false),(11,Ba false),(18,Ia m)] []
  refine iE 79 Z2 [] ?_
  refine Ak (Aa rfl (jB .eql 51 (.int .i64 m) (.int .i64 1) 20 ?_))
  intro c20 hc20
  refine iQ 1 (iE 79 (zT [(19,Ba c20)] Z2) [] ?_)
  cases c20
  ·replace hc20:=bf hc20
   refine iF (Aa rfl (jB .eql 51 (.int .i64 m) (.int .i64 2) 37 ?_))
   intro c37 hc37
   refine iQ 1 (iE 79 (zT [(19,Ba false),(36,Ba c37)] Z2) [] ?_)
   cases c37
   ·replace hc37:=bf hc37
    refine iF (Aa rfl (jB .eql 51 (.int .i64 m) (.int .i64 3) 41 ?_))
    intro c41 hc41
    refine iQ 1 ?_
    let Z3:=zT [(19,Ba false),(36,Ba false),(40,Ba c41)] []
    refine iE 79 (zT Z3 Z2) [] ?_
    cases c41
    ·replace hc41:=bf hc41
     refine iF (Aa rfl (jB .eql 51 (.int .i64 m) (.int .i64 4) 52 ?_))
     intro c52 hc52
     refine iQ 1 ?_
     let Z4:=zT [(19,Ba false),(36,Ba false),(40,Ba false),(51,Ba c52)] []
     refine iE 79 (zT Z4 Z2) [] ?_
     cases c52
     ·replace hc52:=bf hc52
      refine iF (Aa rfl (jB .eql 51 (.int .i64 m) (.int .i64 6) 59 ?_))
      intro c59 hc59
      refine iQ 1 ?_
      let Z5:=zT [(19,Ba false),(36,Ba false),(40,Ba false),(51,Ba false),(58,Ba c59)] []
      refine iE 79 (zT Z5 Z2) [] ?_
      cases c59
      ·replace hc59:=bf hc59
       refine iF (Aa rfl (jB .eql 51 (.int .i64 m) (.int .i64 7) 69 ?_))
       intro c69 hc69
       refine iQ 1 ?_
       let Z6:=zT [(19,Ba false),(36,Ba false),(40,Ba false),(51,Ba false),(58,Ba false),(68,Ba c69)] []
       refine iE 79 (zT Z6 Z2) [] ?_
       cases c69
       ·replace hc69:=bf hc69
        refine iF (Ad (Ap (Af (Aa rfl (iQ 1 ?_)))))
        let Z7:=zT [(19,Ba false),(36,Ba false),(40,Ba false),(51,Ba false),(58,Ba false),(68,Ba false)] []
        refine iE 79 (zT Z7 Z2) [] ?_
        refine Ab (iR (Bv false) ?_)
        exact ⟨_,rfl,by unfold UpP;simp_all<;>omega⟩
       ·replace hc69:=bt hc69
        refine iT (Aa rfl (iQ 1 (jU .not (.bool neg) 71 ?_)))
        intro c71 hc71
        refine iQ 1 ?_
        cases c71
        ·replace hc71:=bf hc71
         refine iQ 7 ?_
         let Z8:=zT [(19,Ba false),(36,Ba false),(40,Ba false),(51,Ba false),(58,Ba false),(68,Ba true)] []
         refine iE 79 (zT Z8 Z2) [] ?_
         refine Ab (Ai (Ag (iR (Bv false) ?_)))
         exact ⟨_,rfl,by unfold UpP;simp_all<;>omega⟩
        ·replace hc71:=bt hc71
         refine iQ 1 (jB .gtr 22 (.int .u64 last) (.int .u64 0) 74 ?_)
         intro c74 hc74
         refine iQ 1 ?_
         cases c74
         ·replace hc74:=bf hc74
          refine iQ 4 ?_
          let Z9:=zT [(1,Ba neg),(2,Ba odd),(3,.d (Uv last)),(4,Ba more),(10,Ba more),(11,Ba false),(18,Ia m),(19,Ba false),(36,Ba false),(40,Ba false),(51,Ba false),(58,Ba false),(68,Ba true)] []
          refine iE 79 Z9 [] ?_
          refine Ab (Ai (Ag (iR (Bv more) ?_)))
          exact ⟨_,rfl,by unfold UpP;simp_all<;>omega⟩
         ·replace hc74:=bt hc74
          refine iQ 4 ?_
          let Z10:=zT [(1,Ba neg),(2,Ba odd),(3,.d (Uv last)),(4,Ba more),(10,Ba true),(11,Ba false),(18,Ia m),(19,Ba false),(36,Ba false),(40,Ba false),(51,Ba false),(58,Ba false),(68,Ba true)] []
          refine iE 79 Z10 [] ?_
          refine Ab (Ai (Ag (iR (Bv true) ?_)))
          exact ⟨_,rfl,by unfold UpP;simp_all<;>omega⟩
      ·replace hc59:=bt hc59
       refine iT (Aa rfl (iQ 2 ?_))
       cases neg
       ·refine iQ 7 ?_
        let Z11:=zT [(1,Ba false),(2,Ba odd),(3,.d (Uv last)),(4,Ba more),(10,Ba false),(11,Ba false),(18,Ia m),(19,Ba false),(36,Ba false),(40,Ba false),(51,Ba false),(58,Ba true)] []
        refine iE 79 Z11 [] ?_
        refine Ab (Ai (Ag (iR (Bv false) ?_)))
        exact ⟨_,rfl,by unfold UpP;simp_all<;>omega⟩
       ·refine iQ 1 (jB .gtr 22 (.int .u64 last) (.int .u64 0) 63 ?_)
        intro c63 hc63
        refine iQ 1 ?_
        cases c63
        ·replace hc63:=bf hc63
         refine iQ 4 ?_
         let Z12:=zT [(1,Ba true),(2,Ba odd),(3,.d (Uv last)),(4,Ba more),(10,Ba more),(11,Ba false),(18,Ia m),(19,Ba false),(36,Ba false),(40,Ba false),(51,Ba false),(58,Ba true)] []
         refine iE 79 Z12 [] ?_
         refine Ab (Ai (Ag (iR (Bv more) ?_)))
         exact ⟨_,rfl,by unfold UpP;simp_all<;>omega⟩
        ·replace hc63:=bt hc63
         refine iQ 4 ?_
         let Z13:=zT [(1,Ba true),(2,Ba odd),(3,.d (Uv last)),(4,Ba more),(10,Ba true),(11,Ba false),(18,Ia m),(19,Ba false),(36,Ba false),(40,Ba false),(51,Ba false),(58,Ba true)] []
         refine iE 79 Z13 [] ?_
         refine Ab (Ai (Ag (iR (Bv true) ?_)))
         exact ⟨_,rfl,by unfold UpP;simp_all<;>omega⟩
     ·replace hc52:=bt hc52
      refine iT (Aa rfl (iQ 1 (jB .gtr 22 (.int .u64 last) (.int .u64 0) 54 ?_)))
      intro c54 hc54
      refine iQ 1 ?_
      cases c54
      ·replace hc54:=bf hc54
       refine iQ 3 ?_
       let Z14:=zT [(1,Ba neg),(2,Ba odd),(3,.d (Uv last)),(4,Ba more),(10,Ba more),(11,Ba false),(18,Ia m),(19,Ba false),(36,Ba false),(40,Ba false),(51,Ba true)] []
       refine iE 79 Z14 [] ?_
       refine Ab (Ai (Ag (iR (Bv more) ?_)))
       exact ⟨_,rfl,by unfold UpP;simp_all<;>omega⟩
      ·replace hc54:=bt hc54
       refine iQ 3 ?_
       let Z15:=zT [(1,Ba neg),(2,Ba odd),(3,.d (Uv last)),(4,Ba more),(10,Ba true),(11,Ba false),(18,Ia m),(19,Ba false),(36,Ba false),(40,Ba false),(51,Ba true)] []
       refine iE 79 Z15 [] ?_
       refine Ab (Ai (Ag (iR (Bv true) ?_)))
       exact ⟨_,rfl,by unfold UpP;simp_all<;>omega⟩
    ·replace hc41:=bt hc41
     refine iT (Aa rfl (iQ 1 (jB .gtr 22 (.int .u64 last) (.int .u64 5) 43 ?_)))
     intro c43 hc43
     refine iQ 1 ?_
     cases c43
     ·replace hc43:=bf hc43
      refine iQ 1 (jB .eql 22 (.int .u64 last) (.int .u64 5) 46 ?_)
      intro c46 hc46
      refine iQ 1 ?_
      cases c46
      ·replace hc46:=bf hc46
       refine iQ 4 ?_
       let Z16:=zT [(1,Ba neg),(2,Ba odd),(3,.d (Uv last)),(4,Ba more),(10,Ba false),(11,Ba false),(18,Ia m),(19,Ba false),(36,Ba false),(40,Ba true)] []
       refine iE 79 Z16 [] ?_
       refine Ab (Ai (Ag (iR (Bv false) ?_)))
       exact ⟨_,rfl,by unfold UpP;simp_all<;>omega⟩
      ·replace hc46:=bt hc46
       refine iQ 4 ?_
       let Z17:=zT [(1,Ba neg),(2,Ba odd),(3,.d (Uv last)),(4,Ba more),(10,Ba more),(11,Ba false),(18,Ia m),(19,Ba false),(36,Ba false),(40,Ba true)] []
       refine iE 79 Z17 [] ?_
       refine Ab (Ai (Ag (iR (Bv more) ?_)))
       exact ⟨_,rfl,by unfold UpP;simp_all<;>omega⟩
     ·replace hc43:=bt hc43
      refine iQ 7 ?_
      let Z18:=zT [(1,Ba neg),(2,Ba odd),(3,.d (Uv last)),(4,Ba more),(10,Ba true),(11,Ba false),(18,Ia m),(19,Ba false),(36,Ba false),(40,Ba true)] []
      refine iE 79 Z18 [] ?_
      refine Ab (Ai (Ag (iR (Bv true) ?_)))
      exact ⟨_,rfl,by unfold UpP;simp_all<;>omega⟩
   ·replace hc37:=bt hc37
    refine iT (Aa rfl (iQ 1 (jB .geq 22 (.int .u64 last) (.int .u64 5) 39 ?_)))
    intro c39 hc39
    refine iQ 1 ?_
    let Z19:=zT [(1,Ba neg),(2,Ba odd),(3,.d (Uv last)),(4,Ba more),(10,Ba c39),(11,Ba false),(18,Ia m),(19,Ba false),(36,Ba true)] []
    refine iE 79 Z19 [] ?_
    refine Ab (Ai (Ag (iR (Bv c39) ?_)))
    exact ⟨_,rfl,by unfold UpP;simp_all<;>omega⟩
  ·replace hc20:=bt hc20
   refine iT (Aa rfl (iQ 1 (jB .gtr 22 (.int .u64 last) (.int .u64 5) 22 ?_)))
   intro c22 hc22
   refine iQ 1 ?_
   cases c22
   ·replace hc22:=bf hc22
    refine iQ 1 (jB .eql 22 (.int .u64 last) (.int .u64 5) 25 ?_)
    intro c25 hc25
    refine iQ 1 ?_
    cases c25
    ·replace hc25:=bf hc25
     refine iQ 10 ?_
     let Z20:=zT [(1,Ba neg),(3,.d (Uv last)),(4,Ba more),(10,Ba false),(18,Ia m),(19,Ba true)] []
     refine iE 79 Z20 [] ?_
     refine Ab (Ai (Ag (iR (Bv false) ?_)))
     exact ⟨_,rfl,by unfold UpP;simp_all<;>omega⟩
    ·replace hc25:=bt hc25
     refine iQ 4 ?_
     cases more
     ·refine iQ 6 ?_
      let Z21:=zT [(1,Ba neg),(3,.d (Uv last)),(4,Ba false),(10,Ba false),(18,Ia m),(19,Ba true)] []
      refine iE 79 Z21 [] ?_
      refine Ab (Ai (Ag (iR (Bv false) ?_)))
      exact ⟨_,rfl,by unfold UpP;simp_all<;>omega⟩
     ·refine iQ 6 ?_
      let Z22:=zT [(1,Ba neg),(3,.d (Uv last)),(4,Ba true),(10,Ba true),(18,Ia m),(19,Ba true)] []
      refine iE 79 Z22 [] ?_
      refine Ab (Ai (Ag (iR (Bv true) ?_)))
      exact ⟨_,rfl,by unfold UpP;simp_all<;>omega⟩
   ·replace hc22:=bt hc22
    refine iQ 13 ?_
    let Z23:=zT [(1,Ba neg),(3,.d (Uv last)),(4,Ba more),(10,Ba true),(18,Ia m),(19,Ba true)] []
    refine iE 79 Z23 [] ?_
    refine Ab (Ai (Ag (iR (Bv true) ?_)))
    exact ⟨_,rfl,by unfold UpP;simp_all<;>omega⟩
 ·replace hc13:=bt hc13
  refine iQ 1 (jU .not (.bool more) 16 ?_)
  intro c16 hc16
  refine iQ 2 ?_
  let Z24:=zT [(0,Ia m),(1,Ba neg),(2,Ba odd),(3,.d (Uv last)),(4,Ba more),(10,Ba false),(11,Ba c16)] []
  refine iE 79 Z24 [] ?_
  refine Ae (Aa rfl (iQ 1 ?_))
  let Z25:=zT [(1,Ba neg),(2,Ba odd),(3,.d (Uv last)),(4,Ba more),(10,Ba false),(11,Ba c16),(18,Ia m)] []
  refine iE 79 Z25 [] ?_
  refine Ak (Aa rfl (jB .eql 51 (.int .i64 m) (.int .i64 1) 20 ?_))
  intro c20 hc20
  refine iQ 1 (iE 79 (zT [(19,Ba c20)] Z25) [] ?_)
  cases c20
  ·replace hc20:=bf hc20
   refine iF (Aa rfl (jB .eql 51 (.int .i64 m) (.int .i64 2) 37 ?_))
   intro c37 hc37
   refine iQ 1 (iE 79 (zT [(19,Ba false),(36,Ba c37)] Z25) [] ?_)
   cases c37
   ·replace hc37:=bf hc37
    refine iF (Aa rfl (jB .eql 51 (.int .i64 m) (.int .i64 3) 41 ?_))
    intro c41 hc41
    refine iQ 1 ?_
    let Z26:=zT [(19,Ba false),(36,Ba false),(40,Ba c41)] []
    refine iE 79 (zT Z26 Z25) [] ?_
    cases c41
    ·replace hc41:=bf hc41
     refine iF (Aa rfl (jB .eql 51 (.int .i64 m) (.int .i64 4) 52 ?_))
     intro c52 hc52
     refine iQ 1 ?_
     let Z27:=zT [(19,Ba false),(36,Ba false),(40,Ba false),(51,Ba c52)] []
     refine iE 79 (zT Z27 Z25) [] ?_
     cases c52
     ·replace hc52:=bf hc52
      refine iF (Aa rfl (jB .eql 51 (.int .i64 m) (.int .i64 6) 59 ?_))
      intro c59 hc59
      refine iQ 1 ?_
      let Z28:=zT [(19,Ba false),(36,Ba false),(40,Ba false),(51,Ba false),(58,Ba c59)] []
      refine iE 79 (zT Z28 Z25) [] ?_
      cases c59
      ·replace hc59:=bf hc59
       refine iF (Aa rfl (jB .eql 51 (.int .i64 m) (.int .i64 7) 69 ?_))
       intro c69 hc69
       refine iQ 1 ?_
       let Z29:=zT [(19,Ba false),(36,Ba false),(40,Ba false),(51,Ba false),(58,Ba false),(68,Ba c69)] []
       refine iE 79 (zT Z29 Z25) [] ?_
       cases c69
       ·replace hc69:=bf hc69
        refine iF (Ad (Ap (Af (Aa rfl (iQ 1 ?_)))))
        let Z30:=zT [(19,Ba false),(36,Ba false),(40,Ba false),(51,Ba false),(58,Ba false),(68,Ba false)] []
        refine iE 79 (zT Z30 Z25) [] ?_
        refine Ab (iR (Bv false) ?_)
        exact ⟨_,rfl,by unfold UpP;simp_all<;>omega⟩
       ·replace hc69:=bt hc69
        refine iT (Aa rfl (iQ 1 (jU .not (.bool neg) 71 ?_)))
        intro c71 hc71
        refine iQ 1 ?_
        cases c71
        ·replace hc71:=bf hc71
         refine iQ 7 ?_
         let Z31:=zT [(19,Ba false),(36,Ba false),(40,Ba false),(51,Ba false),(58,Ba false),(68,Ba true)] []
         refine iE 79 (zT Z31 Z25) [] ?_
         refine Ab (Ai (Ag (iR (Bv false) ?_)))
         exact ⟨_,rfl,by unfold UpP;simp_all<;>omega⟩
        ·replace hc71:=bt hc71
         refine iQ 1 (jB .gtr 22 (.int .u64 last) (.int .u64 0) 74 ?_)
         intro c74 hc74
         refine iQ 1 ?_
         cases c74
         ·replace hc74:=bf hc74
          refine iQ 4 ?_
          let Z32:=zT [(1,Ba neg),(2,Ba odd),(3,.d (Uv last)),(4,Ba more),(10,Ba more),(11,Ba c16),(18,Ia m),(19,Ba false),(36,Ba false),(40,Ba false),(51,Ba false),(58,Ba false),(68,Ba true)] []
          refine iE 79 Z32 [] ?_
          refine Ab (Ai (Ag (iR (Bv more) ?_)))
          exact ⟨_,rfl,by unfold UpP;simp_all<;>omega⟩
         ·replace hc74:=bt hc74
          refine iQ 4 ?_
          let Z33:=zT [(1,Ba neg),(2,Ba odd),(3,.d (Uv last)),(4,Ba more),(10,Ba true),(11,Ba c16),(18,Ia m),(19,Ba false),(36,Ba false),(40,Ba false),(51,Ba false),(58,Ba false),(68,Ba true)] []
          refine iE 79 Z33 [] ?_
          refine Ab (Ai (Ag (iR (Bv true) ?_)))
          exact ⟨_,rfl,by unfold UpP;simp_all<;>omega⟩
      ·replace hc59:=bt hc59
       refine iT (Aa rfl (iQ 2 ?_))
       cases neg
       ·refine iQ 7 ?_
        let Z34:=zT [(1,Ba false),(2,Ba odd),(3,.d (Uv last)),(4,Ba more),(10,Ba false),(11,Ba c16),(18,Ia m),(19,Ba false),(36,Ba false),(40,Ba false),(51,Ba false),(58,Ba true)] []
        refine iE 79 Z34 [] ?_
        refine Ab (Ai (Ag (iR (Bv false) ?_)))
        exact ⟨_,rfl,by unfold UpP;simp_all<;>omega⟩
       ·refine iQ 1 (jB .gtr 22 (.int .u64 last) (.int .u64 0) 63 ?_)
        intro c63 hc63
        refine iQ 1 ?_
        cases c63
        ·replace hc63:=bf hc63
         refine iQ 4 ?_
         let Z35:=zT [(1,Ba true),(2,Ba odd),(3,.d (Uv last)),(4,Ba more),(10,Ba more),(11,Ba c16),(18,Ia m),(19,Ba false),(36,Ba false),(40,Ba false),(51,Ba false),(58,Ba true)] []
         refine iE 79 Z35 [] ?_
         refine Ab (Ai (Ag (iR (Bv more) ?_)))
         exact ⟨_,rfl,by unfold UpP;simp_all<;>omega⟩
        ·replace hc63:=bt hc63
         refine iQ 4 ?_
         let Z36:=zT [(1,Ba true),(2,Ba odd),(3,.d (Uv last)),(4,Ba more),(10,Ba true),(11,Ba c16),(18,Ia m),(19,Ba false),(36,Ba false),(40,Ba false),(51,Ba false),(58,Ba true)] []
         refine iE 79 Z36 [] ?_
         refine Ab (Ai (Ag (iR (Bv true) ?_)))
         exact ⟨_,rfl,by unfold UpP;simp_all<;>omega⟩
     ·replace hc52:=bt hc52
      refine iT (Aa rfl (iQ 1 (jB .gtr 22 (.int .u64 last) (.int .u64 0) 54 ?_)))
      intro c54 hc54
      refine iQ 1 ?_
      cases c54
      ·replace hc54:=bf hc54
       refine iQ 3 ?_
       let Z37:=zT [(1,Ba neg),(2,Ba odd),(3,.d (Uv last)),(4,Ba more),(10,Ba more),(11,Ba c16),(18,Ia m),(19,Ba false),(36,Ba false),(40,Ba false),(51,Ba true)] []
       refine iE 79 Z37 [] ?_
       refine Ab (Ai (Ag (iR (Bv more) ?_)))
       exact ⟨_,rfl,by unfold UpP;simp_all<;>omega⟩
      ·replace hc54:=bt hc54
       refine iQ 3 ?_
       let Z38:=zT [(1,Ba neg),(2,Ba odd),(3,.d (Uv last)),(4,Ba more),(10,Ba true),(11,Ba c16),(18,Ia m),(19,Ba false),(36,Ba false),(40,Ba false),(51,Ba true)] []
       refine iE 79 Z38 [] ?_
       refine Ab (Ai (Ag (iR (Bv true) ?_)))
       exact ⟨_,rfl,by unfold UpP;simp_all<;>omega⟩
    ·replace hc41:=bt hc41
     refine iT (Aa rfl (iQ 1 (jB .gtr 22 (.int .u64 last) (.int .u64 5) 43 ?_)))
     intro c43 hc43
     refine iQ 1 ?_
     cases c43
     ·replace hc43:=bf hc43
      refine iQ 1 (jB .eql 22 (.int .u64 last) (.int .u64 5) 46 ?_)
      intro c46 hc46
      refine iQ 1 ?_
      cases c46
      ·replace hc46:=bf hc46
       refine iQ 4 ?_
       let Z39:=zT [(1,Ba neg),(2,Ba odd),(3,.d (Uv last)),(4,Ba more),(10,Ba false),(11,Ba c16),(18,Ia m),(19,Ba false),(36,Ba false),(40,Ba true)] []
       refine iE 79 Z39 [] ?_
       refine Ab (Ai (Ag (iR (Bv false) ?_)))
       exact ⟨_,rfl,by unfold UpP;simp_all<;>omega⟩
      ·replace hc46:=bt hc46
       refine iQ 4 ?_
       let Z40:=zT [(1,Ba neg),(2,Ba odd),(3,.d (Uv last)),(4,Ba more),(10,Ba more),(11,Ba c16),(18,Ia m),(19,Ba false),(36,Ba false),(40,Ba true)] []
       refine iE 79 Z40 [] ?_
       refine Ab (Ai (Ag (iR (Bv more) ?_)))
       exact ⟨_,rfl,by unfold UpP;simp_all<;>omega⟩
     ·replace hc43:=bt hc43
      refine iQ 7 ?_
      let Z41:=zT [(1,Ba neg),(2,Ba odd),(3,.d (Uv last)),(4,Ba more),(10,Ba true),(11,Ba c16),(18,Ia m),(19,Ba false),(36,Ba false),(40,Ba true)] []
      refine iE 79 Z41 [] ?_
      refine Ab (Ai (Ag (iR (Bv true) ?_)))
      exact ⟨_,rfl,by unfold UpP;simp_all<;>omega⟩
   ·replace hc37:=bt hc37
    refine iT (Aa rfl (iQ 1 (jB .geq 22 (.int .u64 last) (.int .u64 5) 39 ?_)))
    intro c39 hc39
    refine iQ 1 ?_
    let Z42:=zT [(1,Ba neg),(2,Ba odd),(3,.d (Uv last)),(4,Ba more),(10,Ba c39),(11,Ba c16),(18,Ia m),(19,Ba false),(36,Ba true)] []
    refine iE 79 Z42 [] ?_
    refine Ab (Ai (Ag (iR (Bv c39) ?_)))
    exact ⟨_,rfl,by unfold UpP;simp_all<;>omega⟩
  ·replace hc20:=bt hc20
   refine iT (Aa rfl (iQ 1 (jB .gtr 22 (.int .u64 last) (.int .u64 5) 22 ?_)))
   intro c22 hc22
   refine iQ 1 ?_
   cases c22
   ·replace hc22:=bf hc22
    refine iQ 1 (jB .eql 22 (.int .u64 last) (.int .u64 5) 25 ?_)
    intro c25 hc25
    refine iQ 1 ?_
    cases c25
    ·replace hc25:=bf hc25
     refine iQ 6 ?_
     cases c16
     ·replace hc16:=bf hc16
      refine iQ 4 ?_
      let Z43:=zT [(1,Ba neg),(3,.d (Uv last)),(4,Ba more),(10,Ba false),(18,Ia m),(19,Ba true)] []
      refine iE 79 Z43 [] ?_
      refine Ab (Ai (Ag (iR (Bv false) ?_)))
      exact ⟨_,rfl,by unfold UpP;simp_all<;>omega⟩
     ·replace hc16:=bt hc16
      refine iQ 4 ?_
      let Z44:=zT [(1,Ba neg),(3,.d (Uv last)),(4,Ba more),(10,Ba odd),(18,Ia m),(19,Ba true)] []
      refine iE 79 Z44 [] ?_
      refine Ab (Ai (Ag (iR (Bv odd) ?_)))
      exact ⟨_,rfl,by unfold UpP;simp_all<;>omega⟩
    ·replace hc25:=bt hc25
     refine iQ 4 ?_
     cases more
     ·refine iQ 2 ?_
      cases c16
      ·replace hc16:=bf hc16
       refine iQ 4 ?_
       let Z45:=zT [(1,Ba neg),(3,.d (Uv last)),(4,Ba false),(10,Ba false),(18,Ia m),(19,Ba true)] []
       refine iE 79 Z45 [] ?_
       refine Ab (Ai (Ag (iR (Bv false) ?_)))
       exact ⟨_,rfl,by unfold UpP;simp_all<;>omega⟩
      ·replace hc16:=bt hc16
       refine iQ 4 ?_
       let Z46:=zT [(1,Ba neg),(3,.d (Uv last)),(4,Ba false),(10,Ba odd),(18,Ia m),(19,Ba true)] []
       refine iE 79 Z46 [] ?_
       refine Ab (Ai (Ag (iR (Bv odd) ?_)))
       exact ⟨_,rfl,by unfold UpP;simp_all<;>omega⟩
     ·refine iQ 6 ?_
      let Z47:=zT [(1,Ba neg),(3,.d (Uv last)),(4,Ba true),(10,Ba true),(18,Ia m),(19,Ba true)] []
      refine iE 79 Z47 [] ?_
      refine Ab (Ai (Ag (iR (Bv true) ?_)))
      exact ⟨_,rfl,by unfold UpP;simp_all<;>omega⟩
   ·replace hc22:=bt hc22
    refine iQ 13 ?_
    let Z48:=zT [(1,Ba neg),(3,.d (Uv last)),(4,Ba more),(10,Ba true),(18,Ia m),(19,Ba true)] []
    refine iE 79 Z48 [] ?_
    refine Ab (Ai (Ag (iR (Bv true) ?_)))
    exact ⟨_,rfl,by unfold UpP;simp_all<;>omega⟩
theorem Wp {x z:Int} (h:Qv .and .u64 x 1 z) (h0:0≤x) (h1:x<18446744073709551616):z=x % 2:=by
 obtain ⟨n,rfl⟩ : ∃ n:Nat,x=n:=⟨x.toNat,by omega⟩
 have e:(BitVec.ofInt 64 (n:Int) &&& BitVec.ofInt 64 1).toNat=n % 2:=by
  rw[BitVec.toNat_and]
  have e1:(BitVec.ofInt 64 (n:Int)).toNat=n:=by simp;omega
  have e2:(BitVec.ofInt 64 (1:Int)).toNat=1:=by decide
  rw[e1,e2,Nat.and_one_is_mod]
 have h':z=IntKind.u64.wrap (((BitVec.ofInt 64 (n:Int) &&& BitVec.ofInt 64 1).toNat:Nat):Int):=h
 rw[e] at h'
 rw[h']
 exact IntWalk.u64_in _ (by omega)
open Go.RowKit
set_option linter.unusedVariables false
set_option linter.unusedSimpArgs false
set_option maxRecDepth 100000
def Es (N:Nat):Nat→Nat
 | 0=>0
 | k+1=>N / 10 ^ k % 10
def Eo (more:Bool) (N:Nat):Nat→Prop
 | 0=>more=true
 | k+1=>more=true∨N % 10 ^ k≠0
theorem Mm (N k:Nat):N % 10 ^ (k+1)≠0↔N % 10 ^ k≠0∨N / 10 ^ k % 10≠0:=by
 have e:N % 10 ^ (k+1)=N % 10 ^ k+10 ^ k*(N / 10 ^ k % 10):=by
  rw[Nat.pow_succ,Nat.mod_mul]
 rw[e]
 have hp:0<10 ^ k:=Nat.pow_pos (by decide)
 constructor
 ·intro h
  by_cases h1:N % 10 ^ k=0
  ·right
   intro h2
   rw[h1,h2] at h
   simp at h
  ·exact .inl h1
 ·rintro (h | h) h2
  ·omega
  ·have:10 ^ k*(N / 10 ^ k % 10)=0:=by omega
   rcases Nat.mul_eq_zero.1 this with h3 | h3
   ·omega
   ·exact h h3
theorem Ra {more:Bool} {N k:Nat}:Eo more N (k+1)↔Eo more N k∨Es N k≠0:=by
 cases k with
 | zero=>simp[Eo,Es,Nat.mod_one]
 | succ k =>
  show more=true∨_↔(more=true∨_)∨_
  rw[Mm]
  simp only[Es]
  rw[or_assoc]
theorem b0m {N k:Nat}:Es N k<10:=by
 cases k with
 | zero=>simp[Es]
 | succ k=>exact Nat.mod_lt _ (by decide)
theorem a0q {more:Bool} {N k:Nat} (h1:N / 10 ^ k=0) (h2:Es N k=0) : ∀ j,N / 10 ^ (k+j)=0∧Es N (k+j)=0∧(Eo more N (k+j)↔Eo more N k):=by
 intro j
 induction j with
 | zero=>exact ⟨h1,h2,Iff.rfl⟩
 | succ j ih =>
  obtain ⟨i1,i2,i3⟩:=ih
  refine ⟨?_,?_,?_⟩
  ·rw[← Nat.add_assoc,Nat.pow_succ,← Nat.div_div_eq_div_mul,i1]
  ·show N / 10 ^ (k+j) % 10=0
   rw[i1]
  ·rw[← Nat.add_assoc,Ra,i2,← i3]
   simp
open Classical in
noncomputable def upB (m:Int) (neg:Bool) (N:Nat) (more:Bool) (k:Nat):Bool:=decide (UpP m neg (decide (N / 10 ^ k % 2=1)) (Es N k:Nat) (decide (Eo more N k)))
noncomputable def Bg (m:Int) (neg:Bool) (N:Nat) (more:Bool) (k:Nat):Nat:=N / 10 ^ k+(upB m neg N more k).toNat
theorem b1x (h l:Nat):(loW l % 2=1)↔(h*B128+l) % 2=1:=by
 unfold loW B128
 omega
theorem Hz (l:Nat):0≤loW l∧loW l<18446744073709551616:=by
 unfold loW
 omega
theorem Fe {h l:Nat} (hl:l<B128):(h*B128+l) / B128=h∧(h*B128+l) % B128=l:=by
 have hp:0<B128:=by decide
 rw[Nat.mul_comm]
 exact ⟨by rw[Nat.mul_add_div hp,Nat.div_eq_of_lt hl];omega,by rw[Nat.mul_add_mod,Nat.mod_eq_of_lt hl]⟩
theorem a0y:dU 0=.agg [.v (.int .u64 0),.v (.int .u64 0)]:=by kernel_rfl
theorem b53:dU 1=.agg [.v (.int .u64 0),.v (.int .u64 1)]:=by kernel_rfl
theorem Vg {h l:Nat} (hh:h<B128) (hl:l<B128):HasC Tryz.prog 55 [dU h,dU l,.agg [.v (.int .u64 0),.v (.int .u64 0)],.agg [.v (.int .u64 0),.v (.int .u64 1)]] (fun y=>y=.tup [dU ((h*B128+l+(0*B128+1)) / B128 % B128),dU ((h*B128+l+(0*B128+1)) % B128),.v (.int .u64 (((h*B128+l+(0*B128+1)) / (B128*B128):Nat):Int))]):=by
 rw[← a0y,← b53]
 exact a4p hh hl (by decide) (by decide)
structure CutInv (N:Nat) (more:Bool) (n e:Int) (k h l d:Nat) (c x:Int) (mo:Bool):Prop where
 hh:h<B128
 hl:l<B128
 q:h*B128+l=N / 10 ^ k
 d:d=Es N k
 mo:mo=true↔Eo more N k
 c:c=n-k
 x:x=e+k
 k:k=0∨(k:Int)≤n
theorem a3n {N:Nat} {more:Bool} {n e:Int} {k h l d:Nat} {c x:Int} {mo:Bool} (i:CutInv N more n e k h l d c x mo) (hs:c≤0∨(l=0∧h=0∧d=0)) :
  h*B128+l=N / 10 ^ n.toNat∧d=Es N n.toNat∧(mo=true↔Eo more N n.toNat)∧x+max 0 c=e+(n.toNat:Int):=by
 obtain ⟨i1,i2,i3,i4,i5,i6,i7,i8⟩:=i
 by_cases hc:c≤0
 ·have:n.toNat=k:=by omega
  rw[this]
  exact ⟨i3,i4,i5,by omega⟩
 ·obtain ⟨rfl,rfl,rfl⟩:=hs.resolve_left hc
  obtain ⟨j,hj⟩ : ∃ j,n.toNat=k+j:=⟨n.toNat-k,by omega⟩
  obtain ⟨s1,s2,s3⟩:=a0q (more:=more) (by rw[← i3];simp) i4.symm j
  rw[hj]
  exact ⟨by rw[s1];simp,s2.symm,i5.trans s3.symm,by omega⟩
theorem a2n {m:Int} {neg more:Bool} {N nn h l d:Nat} {mo odd u:Bool} (f1:h*B128+l=N / 10 ^ nn) (f2:d=Es N nn) (f3:mo=true↔Eo more N nn) (ho:odd=true↔(h*B128+l) % 2=1) (hu:u=true↔UpP m neg odd (d:Int) mo):upB m neg N more nn=u:=by
 unfold upB
 have e1:odd=decide (N / 10 ^ nn % 2=1):=by rw[Bool.eq_iff_iff,ho,f1];simp
 have e2:mo = @decide (Eo more N nn) (Classical.propDecidable _):=by rw[Bool.eq_iff_iff,f3];simp
 rw[Bool.eq_iff_iff,hu,← e1,← e2,← f2]
 simp
theorem CutInv.next {N:Nat} {more:Bool} {n e:Int} {k h l d:Nat} {c x c' x':Int} {mo mo':Bool} (i:CutInv N more n e k h l d c x mo) (hc:0<c) (hm:mo'=true↔(mo=true∨d≠0)) (h1:c'=c-1) (h2:x'=x+1) :
  CutInv N more n e (k+1) ((h*B128+l) / 10 / B128) ((h*B128+l) / 10 % B128) ((h*B128+l) % 10) c' x' mo':=by
 obtain ⟨i1,i2,i3,i4,i5,i6,i7,i8⟩:=i
 have hB:h*B128+l<B128*B128:=by
  have:(h+1)*B128≤B128*B128:=Nat.mul_le_mul_right _ i1
  rw[Nat.add_mul] at this
  omega
 refine ⟨?_,Az _,?_,?_,?_,by omega,by omega,.inr (by omega)⟩
 ·exact Nat.div_lt_of_lt_mul (Nat.lt_of_le_of_lt (Nat.div_le_self _ _) hB)
 ·rw[Nat.div_add_mod',i3,Nat.div_div_eq_div_mul,← Nat.pow_succ]
 ·rw[i3];rfl
 ·rw[hm,i5,i4]
  exact Ra.symm
set_option maxHeartbeats 1600000 in
theorem b8r {m n e:Int} {neg more:Bool} {hi lo:Nat} (hhi:hi<B128) (hlo:lo<B128) (hn:n≤2305843009213693952) (he0 : -2305843009213693952≤e) (he1:e≤2305843009213693952):HasC Tryz.prog 66 [.agg [.v (.bool neg),.v (.int .u64 (hiW (hi))),.v (.int .u64 (loW (hi))),.v (.int .u64 (hiW (lo))),.v (.int .u64 (loW (lo))),.v (.int .i64 e),.v (.bool more)],.v (.int .i64 n),.v (.int .i64 m)] (fun y=>y=Lh neg (Bg m neg (hi*B128+lo) more n.toNat / B128 % B128) (Bg m neg (hi*B128+lo) more n.toNat % B128) (e+n.toNat) false):=by
 refine hO [] Tryz.f66 (fun a w=>Tryz.call66 a w) Tryz.func66 rfl (⟨_,rfl⟩) ?_
 obtain ⟨N,hN⟩ : ∃ N,N=hi*B128+lo:=⟨_,rfl⟩
 rw[← hN]
 refine Aa rfl (iQ 2 ?_)
 let Z1:=zT [(1,Ia n),(2,Ia m),(3,.p 3 0),(6,.p 6 0)] []
 let Z2:=zH [(3,[Bv neg,Hw hi,Lw hi,Hw lo,Lw lo,Iv e,Bv more])] []
 let Z3:=zH [(6,[Bv false,Uv 0,Uv 0,Uv 0,Uv 0,Iv 0,Bv false])] []
 refine iE 84 Z1 (zH Z3 Z2) ?_
 refine Aa rfl (iQ 1 (iE 84 (zT [(7,.d (Uv 0))] Z1) (zH Z2 Z3) ?_))
 refine Ae (Ak (Bq 84 (fun (vcx:Nat×Nat×Nat×Nat×Int×Int×Bool)=>match vcx with | (k,h,l,d,c,x,mo)=>[(1,Ia c),(2,Ia m),(3,.p 3 0),(6,.p 6 0),(7,.d (Uv ((d:Int))))]) (fun (vcx:Nat×Nat×Nat×Nat×Int×Int×Bool)=>match vcx with | (k,h,l,d,c,x,mo)=>[(3,[Bv neg,Hw h,Lw h,Hw l,Lw l,Iv x,Bv mo]),(6,[Bv false,Uv 0,Uv 0,Uv 0,Uv 0,Iv 0,Bv false])]) (fun (vcx:Nat×Nat×Nat×Nat×Int×Int×Bool)=>match vcx with | (k,h,l,d,c,x,mo)=>CutInv N more n e k h l d c x mo) (fun (vcx:Nat×Nat×Nat×Nat×Int×Int×Bool)=>match vcx with | (k,h,l,d,c,x,mo)=>n.toNat-k) ((0,hi,lo,0,n,e,more)) (⟨hhi,hlo,by rw[hN];simp,rfl,Iff.rfl,by omega,by omega,.inl rfl⟩) (by kernel_rfl) (by kernel_rfl) ?_))
 rintro ⟨k,h,l,d,c,x,mo⟩ hinv
 simp only at hinv
 have hd:=b0m (N:=N) (k:=k)
 rw[← hinv.d] at hd
 have ic:=hinv.c;have ix:=hinv.x;have ik:=hinv.k;have hh:=hinv.hh;have hl:=hinv.hl
 refine Ae (Aa rfl (iQ 1 (jB .gtr 3 (.int .i64 c) (.int .i64 0) 9 ?_)))
 intro c9 hc9
 refine iQ 1 ?_
 cases c9
 ·replace hc9:=bf hc9
  refine iQ 15 ?_
  let Z4:=zT [(1,Ia c),(2,Ia m),(3,.p 3 0),(6,.p 6 0),(7,.d (Uv ((d:Int)))),(25,Ba false)] []
  let Z5:=zH [(3,[Bv neg,Hw h,Lw h,Hw l,Lw l,Iv x,Bv mo])] []
  refine iE 84 Z4 (zH Z5 Z3) ?_
  obtain ⟨f1,f2,f3,f4⟩:=a3n hinv (.inl (by omega))
  clear hinv
  refine iF (Be (Ce (Bj (Bd rfl (Af (Aa rfl (iQ 3 (jL .max [3,3] [.int .i64 0,.int .i64 c] 54 ?_))))))))
  intro z54 hz54
  simp only at hz54
  refine jB .add 3 (.int .i64 x) (.int .i64 z54) 55 ?_
  intro z55 hz55
  try replace hz55:=hz55.i64 (by omega)
  refine iQ 2 ?_
  let Z6:=zH [(3,[Bv neg,Hw h,Lw h,Hw l,Lw l,Iv z55,Bv mo])] []
  refine iE 84 Z4 (zH Z6 Z3) ?_
  refine Ae (Aa rfl (iQ 6 (jB .and 22 (.int .u64 (loW (l))) (.int .u64 1) 63 ?_)))
  intro z63 hz63
  refine jB .eql 22 (.int .u64 z63) (.int .u64 1) 64 ?_
  intro c64 hc64
  refine iQ 3 (jC 98 [Iv m,Bv neg,Bv c64,Uv ((d:Int)),Bv mo] 68 (b93) ?_)
  rintro _ ⟨u,rfl,hu⟩
  have ho:c64=true↔(h*B128+l) % 2=1:=by rw[hc64,← b1x h l,Wp hz63 (Hz l).1 (Hz l).2]
  have hup:=a2n f1 f2 f3 ho hu
  have ez:z55=e+(n.toNat:Int):=by omega
  let Z7:=zT [(1,Ia c),(3,.p 3 0),(6,.p 6 0),(7,.d (Uv ((d:Int)))),(25,Ba false),(68,Ba u)] []
  refine iE 84 Z7 (zH Z3 Z6) ?_
  cases u
  ·replace hu:=bf hu
   refine iF (Ad (Af (Aa rfl (iQ 2 ?_))))
   let Z8:=zT [(1,Ia c),(3,.p 3 0),(6,.p 6 0),(7,.d (Uv ((d:Int)))),(25,Ba false),(68,Ba false)] []
   let Z9:=zH [(3,[Bv neg,Hw h,Lw h,Hw l,Lw l,Iv z55,Bv false])] []
   refine iE 84 Z8 (zH Z9 Z3) ?_
   refine Aa rfl (iQ 2 ?_)
   let Z10:=zH [(6,[Bv neg,Hw h,Lw h,Hw l,Lw l,Iv z55,Bv false])] []
   refine iE 84 Z8 (zH Z10 Z9) ?_
   refine Ab (iR (.agg [Bv neg,Hw h,Lw h,Hw l,Lw l,Iv z55,Bv false]) ?_)
   have hQ:Bg m neg N more n.toNat=h*B128+l:=by unfold Bg;rw[hup,← f1];exact Nat.add_zero _
   rw[hQ,(Fe hl).1,(Fe hl).2,Nat.mod_eq_of_lt hh,ez]
   rfl
  ·replace hu:=bt hu
   refine iT (Am rfl (iQ 5 (eC 59 [Uv 1] 75 (Uz 1) (eC 55 [.agg [Hw h,Lw h],.agg [Hw l,Lw l],.agg [Uv 0,Uv 0],.agg [Uv 0,Uv 1]] 76 (Vg hh hl) (iQ 8 ?_)))))
   let Z11:=zT [(1,Ia c),(3,.p 3 0),(6,.p 6 0),(7,.d (Uv ((d:Int)))),(25,Ba false),(68,Ba true)] []
   let Z12:=zH [(3,[Bv neg,Hw ((h*B128+l+(0*B128+1)) / B128 % B128),Lw ((h*B128+l+(0*B128+1)) / B128 % B128),Hw ((h*B128+l+(0*B128+1)) % B128),Lw ((h*B128+l+(0*B128+1)) % B128),Iv z55,Bv mo])] []
   refine iE 84 Z11 (zH Z12 Z3) ?_
   refine Af (Aa rfl (iQ 2 ?_))
   let Z13:=zH [(3,[Bv neg,Hw ((h*B128+l+(0*B128+1)) / B128 % B128),Lw ((h*B128+l+(0*B128+1)) / B128 % B128),Hw ((h*B128+l+(0*B128+1)) % B128),Lw ((h*B128+l+(0*B128+1)) % B128),Iv z55,Bv false])] []
   refine iE 84 Z11 (zH Z13 Z3) ?_
   refine Aa rfl (iQ 2 ?_)
   let Z14:=zH [(6,[Bv neg,Hw ((h*B128+l+(0*B128+1)) / B128 % B128),Lw ((h*B128+l+(0*B128+1)) / B128 % B128),Hw ((h*B128+l+(0*B128+1)) % B128),Lw ((h*B128+l+(0*B128+1)) % B128),Iv z55,Bv false])] []
   refine iE 84 Z11 (zH Z14 Z13) ?_
   refine Ab (iR (.agg [Bv neg,Hw ((h*B128+l+(0*B128+1)) / B128 % B128),Lw ((h*B128+l+(0*B128+1)) / B128 % B128),Hw ((h*B128+l+(0*B128+1)) % B128),Lw ((h*B128+l+(0*B128+1)) % B128),Iv z55,Bv false]) ?_)
   have hQ:Bg m neg N more n.toNat=h*B128+l+(0*B128+1):=by unfold Bg;rw[hup,← f1];simp
   rw[hQ,ez]
   rfl
 ·replace hc9:=bt hc9
  refine iQ 2 (jC 47 [.agg [Hw h,Lw h]] 13 (Ea hinv.hh) ?_)
  rintro _ ⟨zh,rfl,hzh⟩
  refine jU .not (.bool zh) 14 ?_
  intro c14 hc14
  refine iQ 1 ?_
  cases c14
  ·replace hc14:=bf hc14
   refine iQ 2 ?_
   have hh0:h=0:=hzh.1 (by cases zh;exact absurd rfl (fun e=>hc14 e);rfl)
   refine jC 47 [.agg [Hw l,Lw l]] 18 (Ea hinv.hl) ?_
   rintro _ ⟨zl,rfl,hzl⟩
   refine jU .not (.bool zl) 19 ?_
   intro c19 hc19
   refine iQ 2 ?_
   cases c19
   ·replace hc19:=bf hc19
    refine iQ 1 (jB .neq 22 (.int .u64 ((d:Int))) (.int .u64 0) 23 ?_)
    have hl0:l=0:=hzl.1 (by cases zl;exact absurd rfl (fun e=>hc19 e);rfl)
    intro c23 hc23
    refine iQ 2 ?_
    let Z15:=zT [(1,Ia c),(2,Ia m),(3,.p 3 0),(6,.p 6 0),(7,.d (Uv ((d:Int)))),(25,Ba c23)] []
    let Z16:=zH [(3,[Bv neg,Hw h,Lw h,Hw l,Lw l,Iv x,Bv mo])] []
    refine iE 84 Z15 (zH Z16 Z3) ?_
    cases c23
    ·replace hc23:=bf hc23
     obtain ⟨f1,f2,f3,f4⟩:=a3n hinv (.inr ⟨hl0,hh0,by omega⟩)
     clear hinv
     refine iF (Be (Ce (Bj (Bd rfl (Af (Aa rfl (iQ 3 (jL .max [3,3] [.int .i64 0,.int .i64 c] 54 ?_))))))))
     intro z54 hz54
     simp only at hz54
     refine jB .add 3 (.int .i64 x) (.int .i64 z54) 55 ?_
     intro z55 hz55
     try replace hz55:=hz55.i64 (by omega)
     refine iQ 2 ?_
     let Z17:=zT [(1,Ia c),(2,Ia m),(3,.p 3 0),(6,.p 6 0),(7,.d (Uv ((d:Int)))),(25,Ba false)] []
     let Z18:=zH [(3,[Bv neg,Hw h,Lw h,Hw l,Lw l,Iv z55,Bv mo])] []
     refine iE 84 Z17 (zH Z18 Z3) ?_
     refine Ae (Aa rfl (iQ 6 (jB .and 22 (.int .u64 (loW (l))) (.int .u64 1) 63 ?_)))
     intro z63 hz63
     refine jB .eql 22 (.int .u64 z63) (.int .u64 1) 64 ?_
     intro c64 hc64
     refine iQ 3 (jC 98 [Iv m,Bv neg,Bv c64,Uv ((d:Int)),Bv mo] 68 (b93) ?_)
     rintro _ ⟨u,rfl,hu⟩
     have ho:c64=true↔(h*B128+l) % 2=1:=by rw[hc64,← b1x h l,Wp hz63 (Hz l).1 (Hz l).2]
     have hup:=a2n f1 f2 f3 ho hu
     have ez:z55=e+(n.toNat:Int):=by omega
     let Z19:=zT [(1,Ia c),(3,.p 3 0),(6,.p 6 0),(7,.d (Uv ((d:Int)))),(25,Ba false),(68,Ba u)] []
     refine iE 84 Z19 (zH Z3 Z18) ?_
     cases u
     ·replace hu:=bf hu
      refine iF (Ad (Af (Aa rfl (iQ 2 ?_))))
      let Z20:=zT [(1,Ia c),(3,.p 3 0),(6,.p 6 0),(7,.d (Uv ((d:Int)))),(25,Ba false),(68,Ba false)] []
      let Z21:=zH [(3,[Bv neg,Hw h,Lw h,Hw l,Lw l,Iv z55,Bv false])] []
      refine iE 84 Z20 (zH Z21 Z3) ?_
      refine Aa rfl (iQ 2 ?_)
      let Z22:=zH [(6,[Bv neg,Hw h,Lw h,Hw l,Lw l,Iv z55,Bv false])] []
      refine iE 84 Z20 (zH Z22 Z21) ?_
      refine Ab (iR (.agg [Bv neg,Hw h,Lw h,Hw l,Lw l,Iv z55,Bv false]) ?_)
      have hQ:Bg m neg N more n.toNat=h*B128+l:=by unfold Bg;rw[hup,← f1];exact Nat.add_zero _
      rw[hQ,(Fe hl).1,(Fe hl).2,Nat.mod_eq_of_lt hh,ez]
      rfl
     ·replace hu:=bt hu
      refine iT (Am rfl (iQ 5 (eC 59 [Uv 1] 75 (Uz 1) (eC 55 [.agg [Hw h,Lw h],.agg [Hw l,Lw l],.agg [Uv 0,Uv 0],.agg [Uv 0,Uv 1]] 76 (Vg hh hl) (iQ 8 ?_)))))
      let Z23:=zT [(1,Ia c),(3,.p 3 0),(6,.p 6 0),(7,.d (Uv ((d:Int)))),(25,Ba false),(68,Ba true)] []
      let Z24:=zH [(3,[Bv neg,Hw ((h*B128+l+(0*B128+1)) / B128 % B128),Lw ((h*B128+l+(0*B128+1)) / B128 % B128),Hw ((h*B128+l+(0*B128+1)) % B128),Lw ((h*B128+l+(0*B128+1)) % B128),Iv z55,Bv mo])] []
      refine iE 84 Z23 (zH Z24 Z3) ?_
      refine Af (Aa rfl (iQ 2 ?_))
      let Z25:=zH [(3,[Bv neg,Hw ((h*B128+l+(0*B128+1)) / B128 % B128),Lw ((h*B128+l+(0*B128+1)) / B128 % B128),Hw ((h*B128+l+(0*B128+1)) % B128),Lw ((h*B128+l+(0*B128+1)) % B128),Iv z55,Bv false])] []
      refine iE 84 Z23 (zH Z25 Z3) ?_
      refine Aa rfl (iQ 2 ?_)
      let Z26:=zH [(6,[Bv neg,Hw ((h*B128+l+(0*B128+1)) / B128 % B128),Lw ((h*B128+l+(0*B128+1)) / B128 % B128),Hw ((h*B128+l+(0*B128+1)) % B128),Lw ((h*B128+l+(0*B128+1)) % B128),Iv z55,Bv false])] []
      refine iE 84 Z23 (zH Z26 Z25) ?_
      refine Ab (iR (.agg [Bv neg,Hw ((h*B128+l+(0*B128+1)) / B128 % B128),Lw ((h*B128+l+(0*B128+1)) / B128 % B128),Hw ((h*B128+l+(0*B128+1)) % B128),Lw ((h*B128+l+(0*B128+1)) % B128),Iv z55,Bv false]) ?_)
      have hQ:Bg m neg N more n.toNat=h*B128+l+(0*B128+1):=by unfold Bg;rw[hup,← f1];simp
      rw[hQ,ez]
      rfl
    ·replace hc23:=bt hc23
     refine iT (Ad (Af (Ae (Ak (Aa rfl (iQ 3 ?_))))))
     cases mo
     ·refine iQ 1 (jB .neq 22 (.int .u64 ((d:Int))) (.int .u64 0) 32 ?_)
      intro c32 hc32
      refine iQ 3 ?_
      let Z27:=zT [(1,Ia c),(2,Ia m),(3,.p 3 0),(6,.p 6 0),(7,.d (Uv ((d:Int)))),(25,Ba true)] []
      let Z28:=zH [(3,[Bv neg,Hw h,Lw h,Hw l,Lw l,Iv x,Bv c32])] []
      refine iE 84 Z27 (zH Z28 Z3) ?_
      refine Aa rfl (iQ 4 (eC 64 [.agg [Hw h,Lw h],.agg [Hw l,Lw l],Uv 10] 40 (Em (n:=10) hh hl (by decide) (by decide)) (iQ 10 ?_)))
      let Z29:=zT [(7,.d (Uv ((((h*B128+l) % 10:Nat):Int))))] []
      let Z30:=zT [(1,Ia c),(2,Ia m),(3,.p 3 0),(6,.p 6 0),(25,Ba true)] []
      let Z31:=zH [(3,[Bv neg,Hw ((h*B128+l) / 10 / B128),Lw ((h*B128+l) / 10 / B128),Hw ((h*B128+l) / 10 % B128),Lw ((h*B128+l) / 10 % B128),Iv x,Bv c32])] []
      refine iE 84 (zT Z30 Z29) (zH Z31 Z3) ?_
      refine Am rfl (iQ 2 (jB .add 3 (.int .i64 x) (.int .i64 1) 49 ?_))
      intro z49 hz49
      try replace hz49:=hz49.i64 (by omega)
      refine iQ 2 ?_
      let Z32:=zH [(3,[Bv neg,Hw ((h*B128+l) / 10 / B128),Lw ((h*B128+l) / 10 / B128),Hw ((h*B128+l) / 10 % B128),Lw ((h*B128+l) / 10 % B128),Iv z49,Bv c32])] []
      refine iE 84 (zT Z30 Z29) (zH Z32 Z3) ?_
      refine Ap (Af (Am rfl (iQ 1 (jB .sub 3 (.int .i64 c) (.int .i64 1) 27 ?_))))
      intro z27 hz27
      try replace hz27:=hz27.i64 (by omega)
      refine iQ 1 ?_
      let Z33:=zT [(1,Ia z27),(2,Ia m),(3,.p 3 0),(6,.p 6 0),(25,Ba true)] []
      refine iE 84 (zT Z33 Z29) (zH Z32 Z3) ?_
      refine Bm (k+1,(h*B128+l) / 10 / B128,(h*B128+l) / 10 % B128,(h*B128+l) % 10,z27,z49,c32) (hinv.next (by omega) (by rw[hc32];simp) hz27 hz49) (by show n.toNat-(k+1)<n.toNat-k;omega) (by kernel_rfl) (by kernel_rfl)
     ·refine iQ 5 ?_
      let Z34:=zT [(1,Ia c),(2,Ia m),(3,.p 3 0),(6,.p 6 0),(7,.d (Uv ((d:Int)))),(25,Ba true)] []
      let Z35:=zH [(3,[Bv neg,Hw h,Lw h,Hw l,Lw l,Iv x,Bv true])] []
      refine iE 84 Z34 (zH Z35 Z3) ?_
      refine Aa rfl (iQ 4 (eC 64 [.agg [Hw h,Lw h],.agg [Hw l,Lw l],Uv 10] 40 (Em (n:=10) hh hl (by decide) (by decide)) (iQ 10 ?_)))
      let Z36:=zT [(7,.d (Uv ((((h*B128+l) % 10:Nat):Int))))] []
      let Z37:=zT [(1,Ia c),(2,Ia m),(3,.p 3 0),(6,.p 6 0),(25,Ba true)] []
      let Z38:=zH [(3,[Bv neg,Hw ((h*B128+l) / 10 / B128),Lw ((h*B128+l) / 10 / B128),Hw ((h*B128+l) / 10 % B128),Lw ((h*B128+l) / 10 % B128),Iv x,Bv true])] []
      refine iE 84 (zT Z37 Z36) (zH Z38 Z3) ?_
      refine Am rfl (iQ 2 (jB .add 3 (.int .i64 x) (.int .i64 1) 49 ?_))
      intro z49 hz49
      try replace hz49:=hz49.i64 (by omega)
      refine iQ 2 ?_
      let Z39:=zH [(3,[Bv neg,Hw ((h*B128+l) / 10 / B128),Lw ((h*B128+l) / 10 / B128),Hw ((h*B128+l) / 10 % B128),Lw ((h*B128+l) / 10 % B128),Iv z49,Bv true])] []
      refine iE 84 (zT Z37 Z36) (zH Z39 Z3) ?_
      refine Ap (Af (Am rfl (iQ 1 (jB .sub 3 (.int .i64 c) (.int .i64 1) 27 ?_))))
      intro z27 hz27
      try replace hz27:=hz27.i64 (by omega)
      refine iQ 1 ?_
      let Z40:=zT [(1,Ia z27),(2,Ia m),(3,.p 3 0),(6,.p 6 0),(25,Ba true)] []
      refine iE 84 (zT Z40 Z36) (zH Z39 Z3) ?_
      refine Bm (k+1,(h*B128+l) / 10 / B128,(h*B128+l) / 10 % B128,(h*B128+l) % 10,z27,z49,true) (hinv.next (by omega) (by simp) hz27 hz49) (by show n.toNat-(k+1)<n.toNat-k;omega) (by kernel_rfl) (by kernel_rfl)
   ·replace hc19:=bt hc19
    refine iQ 4 ?_
    let Z41:=zT [(1,Ia c),(2,Ia m),(3,.p 3 0),(6,.p 6 0),(7,.d (Uv ((d:Int)))),(25,Ba true)] []
    let Z42:=zH [(3,[Bv neg,Hw h,Lw h,Hw l,Lw l,Iv x,Bv mo])] []
    refine iE 84 Z41 (zH Z42 Z3) ?_
    refine iT (Ad (Af (Ae (Ak (Aa rfl (iQ 3 ?_))))))
    cases mo
    ·refine iQ 1 (jB .neq 22 (.int .u64 ((d:Int))) (.int .u64 0) 32 ?_)
     intro c32 hc32
     refine iQ 3 ?_
     let Z43:=zH [(3,[Bv neg,Hw h,Lw h,Hw l,Lw l,Iv x,Bv c32])] []
     refine iE 84 Z41 (zH Z43 Z3) ?_
     refine Aa rfl (iQ 4 (eC 64 [.agg [Hw h,Lw h],.agg [Hw l,Lw l],Uv 10] 40 (Em (n:=10) hh hl (by decide) (by decide)) (iQ 10 ?_)))
     let Z44:=zT [(7,.d (Uv ((((h*B128+l) % 10:Nat):Int))))] []
     let Z45:=zT [(1,Ia c),(2,Ia m),(3,.p 3 0),(6,.p 6 0),(25,Ba true)] []
     let Z46:=zH [(3,[Bv neg,Hw ((h*B128+l) / 10 / B128),Lw ((h*B128+l) / 10 / B128),Hw ((h*B128+l) / 10 % B128),Lw ((h*B128+l) / 10 % B128),Iv x,Bv c32])] []
     refine iE 84 (zT Z45 Z44) (zH Z46 Z3) ?_
     refine Am rfl (iQ 2 (jB .add 3 (.int .i64 x) (.int .i64 1) 49 ?_))
     intro z49 hz49
     try replace hz49:=hz49.i64 (by omega)
     refine iQ 2 ?_
     let Z47:=zH [(3,[Bv neg,Hw ((h*B128+l) / 10 / B128),Lw ((h*B128+l) / 10 / B128),Hw ((h*B128+l) / 10 % B128),Lw ((h*B128+l) / 10 % B128),Iv z49,Bv c32])] []
     refine iE 84 (zT Z45 Z44) (zH Z47 Z3) ?_
     refine Ap (Af (Am rfl (iQ 1 (jB .sub 3 (.int .i64 c) (.int .i64 1) 27 ?_))))
     intro z27 hz27
     try replace hz27:=hz27.i64 (by omega)
     refine iQ 1 ?_
     let Z48:=zT [(1,Ia z27),(2,Ia m),(3,.p 3 0),(6,.p 6 0),(25,Ba true)] []
     refine iE 84 (zT Z48 Z44) (zH Z47 Z3) ?_
     refine Bm (k+1,(h*B128+l) / 10 / B128,(h*B128+l) / 10 % B128,(h*B128+l) % 10,z27,z49,c32) (hinv.next (by omega) (by rw[hc32];simp) hz27 hz49) (by show n.toNat-(k+1)<n.toNat-k;omega) (by kernel_rfl) (by kernel_rfl)
    ·refine iQ 5 ?_
     let Z49:=zH [(3,[Bv neg,Hw h,Lw h,Hw l,Lw l,Iv x,Bv true])] []
     refine iE 84 Z41 (zH Z49 Z3) ?_
     refine Aa rfl (iQ 4 (eC 64 [.agg [Hw h,Lw h],.agg [Hw l,Lw l],Uv 10] 40 (Em (n:=10) hh hl (by decide) (by decide)) (iQ 10 ?_)))
     let Z50:=zT [(7,.d (Uv ((((h*B128+l) % 10:Nat):Int))))] []
     let Z51:=zT [(1,Ia c),(2,Ia m),(3,.p 3 0),(6,.p 6 0),(25,Ba true)] []
     let Z52:=zH [(3,[Bv neg,Hw ((h*B128+l) / 10 / B128),Lw ((h*B128+l) / 10 / B128),Hw ((h*B128+l) / 10 % B128),Lw ((h*B128+l) / 10 % B128),Iv x,Bv true])] []
     refine iE 84 (zT Z51 Z50) (zH Z52 Z3) ?_
     refine Am rfl (iQ 2 (jB .add 3 (.int .i64 x) (.int .i64 1) 49 ?_))
     intro z49 hz49
     try replace hz49:=hz49.i64 (by omega)
     refine iQ 2 ?_
     let Z53:=zH [(3,[Bv neg,Hw ((h*B128+l) / 10 / B128),Lw ((h*B128+l) / 10 / B128),Hw ((h*B128+l) / 10 % B128),Lw ((h*B128+l) / 10 % B128),Iv z49,Bv true])] []
     refine iE 84 (zT Z51 Z50) (zH Z53 Z3) ?_
     refine Ap (Af (Am rfl (iQ 1 (jB .sub 3 (.int .i64 c) (.int .i64 1) 27 ?_))))
     intro z27 hz27
     try replace hz27:=hz27.i64 (by omega)
     refine iQ 1 ?_
     let Z54:=zT [(1,Ia z27),(2,Ia m),(3,.p 3 0),(6,.p 6 0),(25,Ba true)] []
     refine iE 84 (zT Z54 Z50) (zH Z53 Z3) ?_
     refine Bm (k+1,(h*B128+l) / 10 / B128,(h*B128+l) / 10 % B128,(h*B128+l) % 10,z27,z49,true) (hinv.next (by omega) (by simp) hz27 hz49) (by show n.toNat-(k+1)<n.toNat-k;omega) (by kernel_rfl) (by kernel_rfl)
  ·replace hc14:=bt hc14
   refine iQ 10 ?_
   let Z55:=zT [(1,Ia c),(2,Ia m),(3,.p 3 0),(6,.p 6 0),(7,.d (Uv ((d:Int)))),(25,Ba true)] []
   let Z56:=zH [(3,[Bv neg,Hw h,Lw h,Hw l,Lw l,Iv x,Bv mo])] []
   refine iE 84 Z55 (zH Z56 Z3) ?_
   refine iT (Ad (Af (Ae (Ak (Aa rfl (iQ 3 ?_))))))
   cases mo
   ·refine iQ 1 (jB .neq 22 (.int .u64 ((d:Int))) (.int .u64 0) 32 ?_)
    intro c32 hc32
    refine iQ 3 ?_
    let Z57:=zH [(3,[Bv neg,Hw h,Lw h,Hw l,Lw l,Iv x,Bv c32])] []
    refine iE 84 Z55 (zH Z57 Z3) ?_
    refine Aa rfl (iQ 4 (eC 64 [.agg [Hw h,Lw h],.agg [Hw l,Lw l],Uv 10] 40 (Em (n:=10) hh hl (by decide) (by decide)) (iQ 10 ?_)))
    let Z58:=zT [(7,.d (Uv ((((h*B128+l) % 10:Nat):Int))))] []
    let Z59:=zT [(1,Ia c),(2,Ia m),(3,.p 3 0),(6,.p 6 0),(25,Ba true)] []
    let Z60:=zH [(3,[Bv neg,Hw ((h*B128+l) / 10 / B128),Lw ((h*B128+l) / 10 / B128),Hw ((h*B128+l) / 10 % B128),Lw ((h*B128+l) / 10 % B128),Iv x,Bv c32])] []
    refine iE 84 (zT Z59 Z58) (zH Z60 Z3) ?_
    refine Am rfl (iQ 2 (jB .add 3 (.int .i64 x) (.int .i64 1) 49 ?_))
    intro z49 hz49
    try replace hz49:=hz49.i64 (by omega)
    refine iQ 2 ?_
    let Z61:=zH [(3,[Bv neg,Hw ((h*B128+l) / 10 / B128),Lw ((h*B128+l) / 10 / B128),Hw ((h*B128+l) / 10 % B128),Lw ((h*B128+l) / 10 % B128),Iv z49,Bv c32])] []
    refine iE 84 (zT Z59 Z58) (zH Z61 Z3) ?_
    refine Ap (Af (Am rfl (iQ 1 (jB .sub 3 (.int .i64 c) (.int .i64 1) 27 ?_))))
    intro z27 hz27
    try replace hz27:=hz27.i64 (by omega)
    refine iQ 1 ?_
    let Z62:=zT [(1,Ia z27),(2,Ia m),(3,.p 3 0),(6,.p 6 0),(25,Ba true)] []
    refine iE 84 (zT Z62 Z58) (zH Z61 Z3) ?_
    refine Bm (k+1,(h*B128+l) / 10 / B128,(h*B128+l) / 10 % B128,(h*B128+l) % 10,z27,z49,c32) (hinv.next (by omega) (by rw[hc32];simp) hz27 hz49) (by show n.toNat-(k+1)<n.toNat-k;omega) (by kernel_rfl) (by kernel_rfl)
   ·refine iQ 5 ?_
    let Z63:=zH [(3,[Bv neg,Hw h,Lw h,Hw l,Lw l,Iv x,Bv true])] []
    refine iE 84 Z55 (zH Z63 Z3) ?_
    refine Aa rfl (iQ 4 (eC 64 [.agg [Hw h,Lw h],.agg [Hw l,Lw l],Uv 10] 40 (Em (n:=10) hh hl (by decide) (by decide)) (iQ 10 ?_)))
    let Z64:=zT [(7,.d (Uv ((((h*B128+l) % 10:Nat):Int))))] []
    let Z65:=zT [(1,Ia c),(2,Ia m),(3,.p 3 0),(6,.p 6 0),(25,Ba true)] []
    let Z66:=zH [(3,[Bv neg,Hw ((h*B128+l) / 10 / B128),Lw ((h*B128+l) / 10 / B128),Hw ((h*B128+l) / 10 % B128),Lw ((h*B128+l) / 10 % B128),Iv x,Bv true])] []
    refine iE 84 (zT Z65 Z64) (zH Z66 Z3) ?_
    refine Am rfl (iQ 2 (jB .add 3 (.int .i64 x) (.int .i64 1) 49 ?_))
    intro z49 hz49
    try replace hz49:=hz49.i64 (by omega)
    refine iQ 2 ?_
    let Z67:=zH [(3,[Bv neg,Hw ((h*B128+l) / 10 / B128),Lw ((h*B128+l) / 10 / B128),Hw ((h*B128+l) / 10 % B128),Lw ((h*B128+l) / 10 % B128),Iv z49,Bv true])] []
    refine iE 84 (zT Z65 Z64) (zH Z67 Z3) ?_
    refine Ap (Af (Am rfl (iQ 1 (jB .sub 3 (.int .i64 c) (.int .i64 1) 27 ?_))))
    intro z27 hz27
    try replace hz27:=hz27.i64 (by omega)
    refine iQ 1 ?_
    let Z68:=zT [(1,Ia z27),(2,Ia m),(3,.p 3 0),(6,.p 6 0),(25,Ba true)] []
    refine iE 84 (zT Z68 Z64) (zH Z67 Z3) ?_
    refine Bm (k+1,(h*B128+l) / 10 / B128,(h*B128+l) / 10 % B128,(h*B128+l) % 10,z27,z49,true) (hinv.next (by omega) (by simp) hz27 hz49) (by show n.toNat-(k+1)<n.toNat-k;omega) (by kernel_rfl) (by kernel_rfl)
open Go.RowKit
set_option linter.unusedVariables false
set_option linter.unusedSimpArgs false
set_option maxRecDepth 100000
def Fs (N:Nat) (e:Int):Int:=max (max 0 ((nd N:Int)-34)) (min (-6176-e) 100)
open Classical in
noncomputable def Iz (m:Int) (neg:Bool) (N:Nat) (e:Int) (more:Bool):Nat:=if 0<Fs N e∨more=true then Bg m neg N more (Fs N e).toNat else N
open Classical in
noncomputable def Na (N:Nat) (e:Int) (more:Bool):Int:=if 0<Fs N e∨more=true then e+(Fs N e).toNat else e
noncomputable def Gq (m:Int) (neg:Bool) (n:Nat):Nat:=if E34≤n then Bg m neg n false 1 else n
def Gz (n:Nat) (e:Int):Int:=if E34≤n then e+1 else e
def Ev (n:Nat) (e:Int):Nat:=min (e-6111).toNat (34-nd n)
def Kc (neg:Bool) (n:Nat) (e:Int):DV :=
 if n=0 then .tup [Bk false 0 (max (-6176) (min e 6111)),.v (.bool true)]
 else if 6111<e-Ev n e then .tup [Bk false 0 0,.v (.bool false)]
 else .tup [Bk neg (n*10 ^ Ev n e) (max (e-Ev n e) (-6176)),.v (.bool true)]
theorem Ki {m:Int} {neg more:Bool} {N k:Nat} (h:N<10 ^ (k+34)):Bg m neg N more k≤E34:=by
 have h1:N / 10 ^ k<E34:=Nat.div_lt_of_lt_mul (by rw[Nat.pow_add] at h;exact h)
 unfold Bg
 cases upB m neg N more k<;>simp<;>omega
theorem Nq (N:Nat) (e:Int):N<10 ^ ((Fs N e).toNat+34):=by
 refine Nat.lt_of_lt_of_le (Eg N) (Nat.pow_le_pow_right (by decide) ?_)
 unfold Fs
 omega
theorem Yb {n:Nat} (h:0<n) (j:Nat):nd (n*10 ^ j)=nd n+j:=by
 induction j with
 | zero=>simp
 | succ j ih =>
  have hp:0<n*10 ^ j:=Nat.mul_pos h (Nat.pow_pos (by decide))
  rw[Nat.pow_succ,← Nat.mul_assoc,Hl (by omega),Nat.mul_div_cancel _ (by decide),ih]
  omega
theorem Nl {m:Int} {neg more:Bool} {N k:Nat}:Bg m neg N more k≤N / 10 ^ k+1:=by
 unfold Bg
 cases upB m neg N more k<;>simp
theorem a0t {n:Nat} (h:n≤E34):n / 10 ^ (1:Int).toNat+1<E34:=by
 have e:(10:Nat) ^ (1:Int).toNat=10:=by decide
 rw[e]
 unfold E34 at *
 omega
theorem a8t {n:Nat} (h:n<E34):n*10<B128:=by
 unfold E34 at h
 unfold B128
 omega
theorem Lo {n:Nat} (h:n<B128):HasC Tryz.prog 92 [.agg [.v (.int .u64 0),.v (.int .u64 0)],dU n] (fun y=>y=.v (.int .i64 (nd n))):=by
 rw[← a0y]
 refine (Wa (h:=0) (l:=n) (by decide) h).mono fun y hy => ?_
 rw[hy,Nat.zero_mul,Nat.zero_add]
theorem a2r {N:Nat} {e:Int} (h:Fs N e≤0):N<E34:=by
 have h1:nd N≤34:=by
  unfold Fs at h
  omega
 exact Nat.lt_of_lt_of_le (Eg N) (Nat.pow_le_pow_right (by decide) h1)
theorem b2l {N hi lo:Nat} (h:N=hi*B128+lo) (hN:N<E34):hi=0:=by
 have:=Br
 rcases Nat.eq_zero_or_pos hi with h0 | h0
 ·exact h0
 ·have:1*B128≤hi*B128:=Nat.mul_le_mul_right _ h0
  omega
theorem Ql (m:Int) (neg:Bool) {N:Nat} {e:Int} (h:Fs N e≤0):Iz m neg N e false=N∧Na N e false=e:=by
 have h' : ¬ (0<Fs N e∨false=true):=by simp;omega
 unfold Iz Na
 exact ⟨if_neg h',if_neg h'⟩
theorem Hr (m:Int) (neg:Bool) {N:Nat} {e:Int} {more:Bool} (h:0<Fs N e∨more=true):Iz m neg N e more=Bg m neg N more (Fs N e).toNat∧Na N e more=e+(Fs N e).toNat:=by
 unfold Iz Na
 exact ⟨if_pos h,if_pos h⟩
theorem Yv {m n e:Int} {neg more:Bool} {hi lo:Nat} {Q:Nat} (hhi:hi<B128) (hlo:lo<B128) (hn:n≤2305843009213693952) (he0 : -2305843009213693952≤e) (he1:e≤2305843009213693952) (hQ:Q=Bg m neg (hi*B128+lo) more n.toNat) (hb:Q≤E34) :
  HasC Tryz.prog 66 [Lh neg hi lo e more,.v (.int .i64 n),.v (.int .i64 m)] (fun y=>y=Lh neg 0 Q (e+n.toNat) false) :=
 (b8r hhi hlo hn he0 he1).mono fun y hy=>by
  have h1:Q<B128:=Nat.lt_of_le_of_lt hb Br
  rw[hy,← hQ,Nat.div_eq_of_lt h1,Nat.mod_eq_of_lt h1]
  rfl
set_option maxHeartbeats 1600000 in
theorem c0a {m e:Int} {neg more:Bool} {hi lo:Nat} (hhi:hi<B128) (hlo:lo<B128) (he0 : -1000000000000000000≤e) (he1:e≤1000000000000000000):HasC Tryz.prog 56 [.agg [.v (.bool neg),.v (.int .u64 (hiW (hi))),.v (.int .u64 (loW (hi))),.v (.int .u64 (hiW (lo))),.v (.int .u64 (loW (lo))),.v (.int .i64 e),.v (.bool more)],.v (.int .i64 m)] (fun y=>y=Kc neg (Gq m neg (Iz m neg (hi*B128+lo) e more)) (Gz (Iz m neg (hi*B128+lo) e more) (Na (hi*B128+lo) e more))):=by
 refine hO [] Tryz.f56 (fun a w=>Tryz.call56 a w) Tryz.func56 rfl (⟨_,rfl⟩) ?_
 obtain ⟨N,hN⟩ : ∃ N,N=hi*B128+lo:=⟨_,rfl⟩
 have hnd:nd N≤78:=by rw[hN];exact Cj _ _ (by unfold B128 at *;omega)
 rw[← hN]
 refine Aa rfl (iQ 3 ?_)
 let Z1:=zT [(1,Ia m),(2,.p 2 0),(4,.p 4 0),(5,Ba false)] []
 let Z2:=zH [(2,[Bv neg,Hw hi,Lw hi,Hw lo,Lw lo,Iv e,Bv more])] []
 refine iE 79 Z1 (zH [(4,[Bv false,Uv 0,Uv 0,Iv 0])] Z2) ?_
 refine Aa rfl (iQ 4 (eC 92 [.agg [Hw hi,Lw hi],.agg [Hw lo,Lw lo]] 11 (Wa hhi hlo) (jB .sub 3 (.int .i64 ((nd (hi*B128+lo):Int))) (.int .i64 34) 12 ?_)))
 intro z12 hz12
 try replace hz12:=hz12.i64 (by omega)
 replace hz12:z12=(nd N:Int)-34:=by rw[← hN] at hz12;exact hz12.i64 (by omega)
 refine jL .max [3,3] [.int .i64 0,.int .i64 z12] 13 ?_
 intro z13 hz13
 simp only at hz13
 refine iQ 1 (iE 79 (zT [(6,Ia z13)] Z1) (zH [(4,[Bv false,Uv 0,Uv 0,Iv 0])] Z2) ?_)
 refine Aa rfl (iQ 3 (jB .sub 3 (.int .i64 (-6176)) (.int .i64 e) 17 ?_))
 intro z17 hz17
 try replace hz17:=hz17.i64 (by omega)
 refine jL .min [3,3] [.int .i64 z17,.int .i64 100] 18 ?_
 intro z18 hz18
 simp only at hz18
 refine jL .max [3,3] [.int .i64 z13,.int .i64 z18] 19 ?_
 intro z19 hz19
 simp only at hz19
 have hK:z19=Fs N e:=by unfold Fs;omega
 refine iQ 1 (iE 79 (zT [(6,Ia z19)] Z1) (zH [(4,[Bv false,Uv 0,Uv 0,Iv 0])] Z2) ?_)
 refine Ef 79 (fun (vcx:Nat×Int×Bool)=>match vcx with | (N1,e1,vb25)=>[(1,Ia m),(2,.p 2 0),(4,.p 4 0),(5,Ba false),(6,Ia z19),(25,Ba vb25)]) (fun (vcx:Nat×Int×Bool)=>match vcx with | (N1,e1,vb25)=>[(2,[Bv neg,Hw 0,Lw 0,Hw N1,Lw N1,Iv e1,Bv false]),(4,[Bv false,Uv 0,Uv 0,Iv 0])]) (fun (vcx:Nat×Int×Bool)=>match vcx with | (N1,e1,vb25)=>N1=Iz m neg N e more∧e1=Na N e more∧N1≤E34 ∧ -1000000000000000000≤e1∧e1≤1000000000000000100) ?_ ?_
 ·rintro ⟨N1,e1,vb25⟩ hinv
  simp only at hinv
  obtain ⟨i1,i2,i3,i4,i5⟩:=hinv
  rw[← i1,← i2]
  have hN1:N1<B128:=Nat.lt_of_le_of_lt i3 Br
  refine Ef 79 (fun (vcx:Nat×Int×Bool)=>match vcx with | (N2,e2,vb34)=>[(1,Ia m),(2,.p 2 0),(4,.p 4 0),(5,Ba false),(6,Ia z19),(25,Ba vb25),(34,Ba vb34)]) (fun (vcx:Nat×Int×Bool)=>match vcx with | (N2,e2,vb34)=>[(2,[Bv neg,Hw 0,Lw 0,Hw N2,Lw N2,Iv e2,Bv false]),(4,[Bv false,Uv 0,Uv 0,Iv 0])]) (fun (vcx:Nat×Int×Bool)=>match vcx with | (N2,e2,vb34)=>N2=Gq m neg N1∧e2=Gz N1 e1∧N2<E34 ∧ -1000000000000000000≤e2∧e2≤1000000000000000101) ?_ ?_
  ·rintro ⟨N2,e2,vb34⟩ hinv
   simp only at hinv
   obtain ⟨j1,j2,j3,j4,j5⟩:=hinv
   rw[← j1,← j2]
   have hN2:N2<B128:=Nat.lt_trans j3 Br
   refine Ae (Aa rfl (iQ 2 (jC 47 [.agg [Hw N2,Lw N2]] 40 (Ea hN2) ?_)))
   rintro _ ⟨z,rfl,hz⟩
   let Z3:=zT [(6,Ia z19),(25,Ba vb25),(34,Ba vb34),(40,Ba z)] []
   let Z4:=zH [(2,[Bv neg,Hw 0,Lw 0,Hw N2,Lw N2,Iv e2,Bv false])] []
   refine iE 79 (zT Z3 Z1) (zH [(4,[Bv false,Uv 0,Uv 0,Iv 0])] Z4) ?_
   cases z
   ·replace hz:=bf hz
    refine iF (Ad (Af (Ae (Ak (Bq 79 (fun (vcx:Nat×Nat×Int)=>match vcx with | (j,n,x)=>[(1,Ia m),(2,.p 2 0),(4,.p 4 0),(5,Ba false),(6,Ia z19),(25,Ba vb25),(34,Ba vb34),(40,Ba false)]) (fun (vcx:Nat×Nat×Int)=>match vcx with | (j,n,x)=>[(2,[Bv neg,Hw 0,Lw 0,Hw n,Lw n,Iv x,Bv false]),(4,[Bv false,Uv 0,Uv 0,Iv 0])]) (fun (vcx:Nat×Nat×Int)=>match vcx with | (j,n,x)=>j≤Ev N2 e2∧n=N2*10 ^ j∧x=e2-(j:Int)) (fun (vcx:Nat×Nat×Int)=>match vcx with | (j,n,x)=>Ev N2 e2-j) ((0,N2,e2)) (⟨by omega,by simp,by simp⟩) (by kernel_rfl) (by kernel_rfl) ?_)))))
    rintro ⟨j,n,x⟩ hinv
    simp only at hinv
    obtain ⟨hj1,hj2,hj3⟩:=hinv
    have hnn:nd n=nd N2+j:=by rw[hj2];exact Yb (by omega) j
    have hnd34:nd n≤34:=by have h7:=Cj _ _ (show N2<10 ^ 34 from j3);unfold Ev at hj1;omega
    have hnE:n<E34:=Nat.lt_of_lt_of_le (Eg n) (Nat.pow_le_pow_right (by decide) hnd34)
    have hnB:n<B128:=Nat.lt_trans hnE Br
    refine Ae (Aa rfl (iQ 2 (jB .gtr 3 (.int .i64 x) (.int .i64 6111) 48 ?_)))
    intro c48 hc48
    refine iQ 1 ?_
    cases c48
    ·replace hc48:=bf hc48
     refine iQ 6 ?_
     let Z5:=zT [(6,Ia z19),(25,Ba vb25),(34,Ba vb34),(40,Ba false),(55,Ba false)] []
     let Z6:=zH [(2,[Bv neg,Hw 0,Lw 0,Hw n,Lw n,Iv x,Bv false])] []
     refine iE 79 (zT Z5 Z1) (zH [(4,[Bv false,Uv 0,Uv 0,Iv 0])] Z6) ?_
     have hjd:j=Ev N2 e2:=by unfold Ev at hj1 ⊢;omega
     refine iF (Be (Ce (Bj (Bd rfl (Af (Ae (Aa rfl (iQ 2 (jB .gtr 3 (.int .i64 x) (.int .i64 6111) 69 ?_)))))))))
     intro c69 hc69
     refine iE 79 (zT [(69,Ba c69)] (zT Z5 Z1)) (zH [(4,[Bv false,Uv 0,Uv 0,Iv 0])] Z6) ?_
     cases c69
     ·replace hc69:=bf hc69
      refine iF (Ad (Af (Aa rfl (iQ 6 (jL .max [3,3] [.int .i64 x,.int .i64 (-6176)] 77 ?_)))))
      intro z77 hz77
      simp only at hz77
      refine iQ 3 ?_
      let Z7:=zT [(1,Ia m),(2,.p 2 0),(4,.p 4 0),(5,Ba true),(69,Ba false)] []
      refine iE 79 (zT Z7 Z5) (zH [(4,[Bv neg,Hw n,Lw n,Iv z77])] Z6) ?_
      refine Ab (iS (.agg [Bv neg,Hw n,Lw n,Iv z77]) (Bv true) [] ?_)
      unfold Kc
      rw[if_neg hz,← hjd,if_neg (by omega),← hj2,← hj3,hz77]
      rfl
     ·replace hc69:=bt hc69
      refine iT (Aa rfl (iQ 3 (iE 79 (zT [(69,Ba true)] (zT Z5 Z1)) (zH [(4,[Bv false,Uv 0,Uv 0,Iv 0])] Z6) ?_)))
      refine Ab (Ag (iS (.agg [Bv false,Uv 0,Uv 0,Iv 0]) (Bv false) [] ?_))
      unfold Kc
      rw[if_neg hz,← hjd,if_pos (by omega)]
      rfl
    ·replace hc48:=bt hc48
     refine iQ 3 (eC 92 [.agg [Uv 0,Uv 0],.agg [Hw n,Lw n]] 53 (Lo hnB) (jB .lss 3 (.int .i64 ((nd n:Int))) (.int .i64 34) 54 ?_))
     intro c54 hc54
     refine iQ 1 ?_
     let Z8:=zT [(6,Ia z19),(25,Ba vb25),(34,Ba vb34),(40,Ba false),(55,Ba c54)] []
     let Z9:=zH [(2,[Bv neg,Hw 0,Lw 0,Hw n,Lw n,Iv x,Bv false])] []
     refine iE 79 (zT Z8 Z1) (zH [(4,[Bv false,Uv 0,Uv 0,Iv 0])] Z9) ?_
     cases c54
     ·replace hc54:=bf hc54
      have hjd:j=Ev N2 e2:=by unfold Ev at hj1 ⊢;omega
      refine iF (Be (Ce (Bj (Bd rfl (Af (Ae (Aa rfl (iQ 2 (jB .gtr 3 (.int .i64 x) (.int .i64 6111) 69 ?_)))))))))
      intro c69 hc69
      let Z10:=zT [(6,Ia z19),(25,Ba vb25),(34,Ba vb34),(40,Ba false),(55,Ba false),(69,Ba c69)] []
      refine iE 79 (zT Z10 Z1) (zH [(4,[Bv false,Uv 0,Uv 0,Iv 0])] Z9) ?_
      cases c69
      ·replace hc69:=bf hc69
       refine iF (Ad (Af (Aa rfl (iQ 6 (jL .max [3,3] [.int .i64 x,.int .i64 (-6176)] 77 ?_)))))
       intro z77 hz77
       simp only at hz77
       refine iQ 3 ?_
       let Z11:=zT [(1,Ia m),(2,.p 2 0),(4,.p 4 0),(5,Ba true),(6,Ia z19),(25,Ba vb25),(34,Ba vb34),(40,Ba false),(55,Ba false),(69,Ba false)] []
       refine iE 79 Z11 (zH [(4,[Bv neg,Hw n,Lw n,Iv z77])] Z9) ?_
       refine Ab (iS (.agg [Bv neg,Hw n,Lw n,Iv z77]) (Bv true) [] ?_)
       unfold Kc
       rw[if_neg hz,← hjd,if_neg (by omega),← hj2,← hj3,hz77]
       rfl
      ·replace hc69:=bt hc69
       refine iT (Aa rfl (iQ 3 ?_))
       let Z12:=zT [(6,Ia z19),(25,Ba vb25),(34,Ba vb34),(40,Ba false),(55,Ba false),(69,Ba true)] []
       refine iE 79 (zT Z12 Z1) (zH [(4,[Bv false,Uv 0,Uv 0,Iv 0])] Z9) ?_
       refine Ab (Ag (iS (.agg [Bv false,Uv 0,Uv 0,Iv 0]) (Bv false) [] ?_))
       unfold Kc
       rw[if_neg hz,← hjd,if_pos (by omega)]
       rfl
     ·replace hc54:=bt hc54
      refine iT (Ad (Af (Ak (Aa rfl (iQ 2 (eC 86 [.agg [Hw n,Lw n],Uv 10] 59 (Dt (n:=10) hnB (by decide)) (iQ 5 ?_)))))))
      let Z13:=zT [(6,Ia z19),(25,Ba vb25),(34,Ba vb34),(40,Ba false),(55,Ba true)] []
      let Z14:=zH [(2,[Bv neg,Hw 0,Lw 0,Hw (n*10 % B128),Lw (n*10 % B128),Iv x,Bv false])] []
      refine iE 79 (zT Z13 Z1) (zH [(4,[Bv false,Uv 0,Uv 0,Iv 0])] Z14) ?_
      refine Am rfl (iQ 2 (jB .sub 3 (.int .i64 x) (.int .i64 1) 65 ?_))
      intro z65 hz65
      try replace hz65:=hz65.i64 (by omega)
      refine iQ 2 ?_
      let Z15:=zH [(2,[Bv neg,Hw 0,Lw 0,Hw (n*10 % B128),Lw (n*10 % B128),Iv z65,Bv false])] []
      refine iE 79 (zT Z13 Z1) (zH [(4,[Bv false,Uv 0,Uv 0,Iv 0])] Z15) ?_
      refine Ap ?_
      refine Bm (j+1,n*10 % B128,z65) (⟨by unfold Ev at hj1 ⊢;omega,by rw[Nat.mod_eq_of_lt (a8t hnE),hj2,Nat.pow_succ,Nat.mul_assoc],by omega⟩) (by show Ev N2 e2-(j+1)<Ev N2 e2-j;unfold Ev;omega) (by kernel_rfl) (by kernel_rfl)
   ·replace hz:=bt hz
    refine iT (Aa rfl (iQ 2 (jL .min [3,3] [.int .i64 e2,.int .i64 6111] 43 ?_)))
    intro z43 hz43
    simp only at hz43
    refine jL .max [3,3] [.int .i64 (-6176),.int .i64 z43] 44 ?_
    intro z44 hz44
    simp only at hz44
    refine iQ 3 ?_
    let Z16:=zT [(1,Ia m),(2,.p 2 0),(4,.p 4 0),(5,Ba true),(6,Ia z19),(25,Ba vb25),(34,Ba vb34),(40,Ba true)] []
    refine iE 79 Z16 (zH [(4,[Bv false,Uv 0,Uv 0,Iv z44])] Z4) ?_
    refine Ab (Ag (iS (.agg [Bv false,Uv 0,Uv 0,Iv z44]) (Bv true) [] ?_))
    unfold Kc
    rw[if_pos hz,hz44,hz43]
    rfl
  intro hmid
  refine Aa rfl (iQ 2 (eC 90 [] 32 (a78) (eC 87 [.agg [Hw N1,Lw N1],.agg [Hw E34,Lw E34]] 33 (b0p hN1 Br) (jB .geq 3 (.int .i64 (Ch N1 E34)) (.int .i64 0) 34 ?_))))
  intro c34 hc34
  refine iE 79 [(1,Ia m),(2,.p 2 0),(4,.p 4 0),(5,Ba false),(6,Ia z19),(25,Ba vb25),(34,Ba c34)] [(2,[Bv neg,Hw 0,Lw 0,Hw N1,Lw N1,Iv e1,Bv false]),(4,[Bv false,Uv 0,Uv 0,Iv 0])] ?_
  cases c34
  ·replace hc34:=bf hc34
   rw[b5q] at hc34
   refine iF (Ad ?_)
   refine Cc hmid (N1,e1,false) (⟨by unfold Gq;rw[if_neg (by omega)],by unfold Gz;rw[if_neg (by omega)],by omega,by omega,by omega⟩) (by kernel_rfl)
  ·replace hc34:=bt hc34
   rw[b5q] at hc34
   have hq1:Bg m neg (0*B128+N1) false (1:Int).toNat<E34:=Nat.lt_of_le_of_lt Nl (by rw[Nat.zero_mul,Nat.zero_add];exact a0t i3)
   refine iT (Am rfl (iQ 2 (eC 66 [.agg [Bv neg,Hw 0,Lw 0,Hw N1,Lw N1,Iv e1,Bv false],Iv 1,Iv m] 37 (Yv (n:=1) (hi:=0) (by decide) hN1 (by omega) (by omega) (by omega) rfl (Nat.le_of_lt hq1)) (iQ 1 (iE 79 [(1,Ia m),(2,.p 2 0),(4,.p 4 0),(5,Ba false),(6,Ia z19),(25,Ba vb25),(34,Ba true)] [(2,[Bv neg,Hw 0,Lw 0,Hw (Bg m neg (0*B128+N1) false (1:Int).toNat),Lw (Bg m neg (0*B128+N1) false (1:Int).toNat),Iv (e1+(1:Int).toNat),Bv false]),(4,[Bv false,Uv 0,Uv 0,Iv 0])] ?_)))))
   refine Cc hmid (Bg m neg (0*B128+N1) false (1:Int).toNat,e1+(1:Int).toNat,true) (⟨by unfold Gq;rw[if_pos (by omega),Nat.zero_mul,Nat.zero_add];rfl,by unfold Gz;rw[if_pos (by omega)];rfl,hq1,by simp;omega,by simp;omega⟩) (by kernel_rfl)
 intro hmid
 refine Aa rfl (iQ 1 (jB .gtr 3 (.int .i64 z19) (.int .i64 0) 21 ?_))
 intro c21 hc21
 refine iQ 1 ?_
 cases c21
 ·replace hc21:=bf hc21
  refine iQ 3 (iE 79 [(1,Ia m),(2,.p 2 0),(4,.p 4 0),(5,Ba false),(6,Ia z19),(25,Ba more)] [(2,[Bv neg,Hw hi,Lw hi,Hw lo,Lw lo,Iv e,Bv more]),(4,[Bv false,Uv 0,Uv 0,Iv 0])] ?_)
  cases more
  ·have hN34:=a2r (N:=N) (e:=e) (by omega)
   have hhi0:=b2l hN hN34
   refine iF (Ad ?_)
   subst hhi0
   refine Cc hmid (lo,e,false) (⟨by rw[(Ql m neg (by omega)).1,hN];simp,(Ql m neg (by omega)).2.symm,by omega,by omega,by omega⟩) (by kernel_rfl)
  ·refine iT (Am rfl (iQ 3 (eC 66 [.agg [Bv neg,Hw hi,Lw hi,Hw lo,Lw lo,Iv e,Bv true],Iv z19,Iv m] 29 (Yv hhi hlo (by omega) (by omega) (by omega) rfl (by rw[← hN,hK];exact Ki (Nq N e))) (iQ 1 (iE 79 [(1,Ia m),(2,.p 2 0),(4,.p 4 0),(5,Ba false),(6,Ia z19),(25,Ba true)] [(2,[Bv neg,Hw 0,Lw 0,Hw (Bg m neg (hi*B128+lo) true z19.toNat),Lw (Bg m neg (hi*B128+lo) true z19.toNat),Iv (e+z19.toNat),Bv false]),(4,[Bv false,Uv 0,Uv 0,Iv 0])] ?_)))))
   refine Cc hmid (Bg m neg (hi*B128+lo) true z19.toNat,e+z19.toNat,true) (⟨by rw[(Hr m neg (.inr rfl)).1,← hN,hK],by rw[(Hr m neg (.inr rfl)).2,hK],by rw[← hN,hK];exact Ki (Nq N e),by omega,by omega⟩) (by kernel_rfl)
 ·replace hc21:=bt hc21
  refine iQ 3 (iE 79 [(1,Ia m),(2,.p 2 0),(4,.p 4 0),(5,Ba false),(6,Ia z19),(25,Ba true)] [(2,[Bv neg,Hw hi,Lw hi,Hw lo,Lw lo,Iv e,Bv more]),(4,[Bv false,Uv 0,Uv 0,Iv 0])] ?_)
  refine iT (Am rfl (iQ 3 (eC 66 [.agg [Bv neg,Hw hi,Lw hi,Hw lo,Lw lo,Iv e,Bv more],Iv z19,Iv m] 29 (Yv hhi hlo (by omega) (by omega) (by omega) rfl (by rw[← hN,hK];exact Ki (Nq N e))) (iQ 1 (iE 79 [(1,Ia m),(2,.p 2 0),(4,.p 4 0),(5,Ba false),(6,Ia z19),(25,Ba true)] [(2,[Bv neg,Hw 0,Lw 0,Hw (Bg m neg (hi*B128+lo) more z19.toNat),Lw (Bg m neg (hi*B128+lo) more z19.toNat),Iv (e+z19.toNat),Bv false]),(4,[Bv false,Uv 0,Uv 0,Iv 0])] ?_)))))
  refine Cc hmid (Bg m neg (hi*B128+lo) more z19.toNat,e+z19.toNat,true) (⟨by rw[(Hr m neg (.inl (by omega))).1,← hN,hK],by rw[(Hr m neg (.inl (by omega))).2,hK],by rw[← hN,hK];exact Ki (Nq N e),by omega,by omega⟩) (by kernel_rfl)
open Go.RowKit
set_option linter.unusedVariables false
set_option linter.unusedSimpArgs false
set_option maxRecDepth 100000
def Mp (neg:Bool) (n:Nat) (e:Int):Bool×Nat×Int×Bool :=
 if n=0 then (false,0,max (-6176) (min e 6111),true)
 else if 6111<e-Ev n e then (false,0,0,false)
 else (neg,n*10 ^ Ev n e,max (e-Ev n e) (-6176),true)
noncomputable def Fh (m:Int) (neg:Bool) (N:Nat) (e:Int) (more:Bool):Bool×Nat×Int×Bool:=Mp neg (Gq m neg (Iz m neg N e more)) (Gz (Iz m neg N e more) (Na N e more))
theorem a6f (neg:Bool) (n:Nat) (e:Int) : ∃ g k x ok,Kc neg n e=.tup [Bk g k x,.v (.bool ok)]∧Mp neg n e=(g,k,x,ok):=by
 unfold Kc Mp
 split
 ·exact ⟨_,_,_,_,rfl,rfl⟩
 ·split
  ·exact ⟨_,_,_,_,rfl,rfl⟩
  ·exact ⟨_,_,_,_,rfl,rfl⟩
theorem Hb {m e:Int} {neg more:Bool} {hi lo N:Nat} (hN:N=hi*B128+lo) (hhi:hi<B128) (hlo:lo<B128) (he0 : -1000000000000000000≤e) (he1:e≤1000000000000000000) :
  HasC Tryz.prog 56 [Lh neg hi lo e more,.v (.int .i64 m)] (fun y => ∃ g k x ok,y=.tup [Bk g k x,.v (.bool ok)]∧Fh m neg N e more=(g,k,x,ok)):=by
 subst hN
 refine (c0a hhi hlo he0 he1).mono fun y hy => ?_
 obtain ⟨g,k,x,ok,h1,h2⟩:=a6f neg (Gq m neg (Iz m neg (hi*B128+lo) e more)) (Gz (Iz m neg (hi*B128+lo) e more) (Na (hi*B128+lo) e more))
 exact ⟨g,k,x,ok,hy.trans h1,h2⟩
theorem a9q {g1 g2:Bool} {a b:Nat} {x1 x2:Int} (ha:a<B128) (hb:b<B128) (h1 : -100000000000000000≤x1) (h2:x1≤100000000000000000) (h3 : -100000000000000000≤x2) (h4:x2≤100000000000000000):HasC Tryz.prog 13 [.agg [.v (.bool g1),.v (.int .u64 (hiW (a))),.v (.int .u64 (loW (a))),.v (.int .i64 x1)],.agg [.v (.bool g2),.v (.int .u64 (hiW (b))),.v (.int .u64 (loW (b))),.v (.int .i64 x2)]] (fun y => ∃ g k x ok s,y=.tup [Bk g k x,.v (.bool ok)]∧(s=true↔g1≠g2)∧Fh 1 s (a*b) (x1+x2) false=(g,k,x,ok)):=by
 refine hO [] Tryz.f13 (fun a w=>Tryz.call13 a w) Tryz.func13 rfl (⟨_,_,_,_,_,g1 != g2,rfl,by simp,rfl⟩) ?_
 refine Aa rfl (iQ 4 ?_)
 let Z1:=zT [(2,.p 2 0),(3,.p 3 0),(4,.p 4 0),(5,Ba false)] []
 let Z2:=zH [(2,[Bv g1,Hw a,Lw a,Iv x1]),(3,[Bv g2,Hw b,Lw b,Iv x2]),(4,[Bv false,Uv 0,Uv 0,Iv 0])] []
 refine iE 32 Z1 Z2 ?_
 refine Aa rfl (iQ 4 (eC 61 [.agg [Hw a,Lw a],.agg [Hw b,Lw b]] 13 (Xz ha hb) (iQ 7 ?_)))
 let Z3:=zH [(6,[Hw (a*b / B128),Lw (a*b / B128)]),(7,[Hw (a*b % B128),Lw (a*b % B128)])] []
 refine iE 32 (zT [(6,.p 6 0),(7,.p 7 0)] Z1) (zH Z3 Z2) ?_
 refine Aa rfl (iQ 4 (jB .neq 4 (.bool g1) (.bool g2) 20 ?_))
 intro c20 hc20
 refine iQ 6 (jB .add 3 (.int .i64 x1) (.int .i64 x2) 27 ?_)
 intro z27 hz27
 try replace hz27:=hz27.i64 (by omega)
 refine iQ 1 (jC 56 [.agg [Bv c20,Hw (a*b / B128),Lw (a*b / B128),Hw (a*b % B128),Lw (a*b % B128),Iv z27,Bv false],Iv 1] 29 (Hb (m:=1) (N:=a*b) (Nat.div_add_mod' (a*b) B128).symm (Nat.div_lt_of_lt_mul (Nat.mul_lt_mul'' ha hb)) (Az _) (by omega) (by omega)) ?_)
 rintro _ ⟨g,k,x,ok,rfl,hT⟩
 refine iQ 4 ?_
 let Z4:=zT [(2,.p 2 0),(3,.p 3 0),(4,.p 4 0),(5,Ba ok),(6,.p 6 0),(7,.p 7 0)] []
 let Z5:=zH [(2,[Bv g1,Hw a,Lw a,Iv x1]),(3,[Bv g2,Hw b,Lw b,Iv x2]),(4,[Bv g,Hw k,Lw k,Iv x])] []
 refine iE 32 Z4 (zH Z5 Z3) ?_
 refine Ab (iS (.agg [Bv g,Hw k,Lw k,Iv x]) (Bv ok) [] ?_)
 exact ⟨_,_,_,_,_,rfl,hc20,hz27 ▸ hT⟩
theorem Pb {g:Bool} {a:Nat} {x:Int} (ha:a<B128):HasC Tryz.prog 62 [.agg [.v (.bool g),.v (.int .u64 (hiW (a))),.v (.int .u64 (loW (a))),.v (.int .i64 x)]] (fun y=>y=.v (.int .i64 (nd a))):=by
 refine hO [] Tryz.f62 (fun a w=>Tryz.call62 a w) Tryz.func62 rfl (⟨_,rfl⟩) ?_
 refine Aa rfl (iQ 2 (iE 7 [(1,.p 1 0),(2,Ia 0)] [(1,[Bv g,Hw a,Lw a,Iv x])] ?_))
 refine Aa rfl (iQ 3 (eC 92 [.agg [Uv 0,Uv 0],.agg [Hw a,Lw a]] 6 (Lo ha) (iQ 1 (iE 7 [(2,Ia ((nd a:Int)))] [] ?_))))
 refine Ab (iR (Iv ((nd a:Int))) ?_)
 rfl
theorem a04 {g:Bool} {a:Nat} {x:Int}:HasC Tryz.prog 25 [.agg [.v (.bool g),.v (.int .u64 (hiW (a))),.v (.int .u64 (loW (a))),.v (.int .i64 x)]] (fun y=>y=Bk false a x):=by
 refine hO [] Tryz.f25 (fun a w=>Tryz.call25 a w) Tryz.func25 rfl (⟨_,rfl⟩) ?_
 refine Aa rfl (iQ 2 ?_)
 let Z1:=zH [(1,[Bv g,Hw a,Lw a,Iv x]),(2,[Bv false,Uv 0,Uv 0,Iv 0])] []
 refine iE 5 [(1,.p 1 0),(2,.p 2 0)] Z1 ?_
 refine Aa rfl (iQ 2 ?_)
 let Z2:=zH [(1,[Bv false,Hw a,Lw a,Iv x]),(2,[Bv false,Uv 0,Uv 0,Iv 0])] []
 refine iE 5 [(1,.p 1 0),(2,.p 2 0)] Z2 ?_
 refine Aa rfl (iQ 2 ?_)
 let Z3:=zH [(1,[Bv false,Hw a,Lw a,Iv x]),(2,[Bv false,Hw a,Lw a,Iv x])] []
 refine iE 5 [(1,.p 1 0),(2,.p 2 0)] Z3 ?_
 refine Ab (iR (.agg [Bv false,Hw a,Lw a,Iv x]) ?_)
 rfl
open Go.RowKit
set_option linter.unusedVariables false
set_option linter.unusedSimpArgs false
set_option maxRecDepth 100000
theorem b2h {g:Bool} {a:Nat} {x:Int} (ha:a<B128):HasC Tryz.prog 74 [.agg [.v (.bool g),.v (.int .u64 (hiW (a))),.v (.int .u64 (loW (a))),.v (.int .i64 x)]] (fun y=>y=.v (.int .i64 (if a=0 then 0 else if g=true then -1 else 1))):=by
 refine hO [] Tryz.f74 (fun a w=>Tryz.call74 a w) Tryz.func74 rfl (⟨_,rfl⟩) ?_
 refine Aa rfl (iQ 2 (iE 10 [(1,.p 1 0),(2,Ia 0)] [(1,[Bv g,Hw a,Lw a,Iv x])] ?_))
 refine Ae (Ak (Aa rfl (iQ 2 (jC 47 [.agg [Hw a,Lw a]] 6 (Ea ha) ?_))))
 rintro _ ⟨z,rfl,hz⟩
 refine iQ 1 (iE 10 [(1,.p 1 0),(2,Ia 0),(3,Ba z)] [(1,[Bv g,Hw a,Lw a,Iv x])] ?_)
 cases z
 ·replace hz:=bf hz
  refine iF (Aa rfl (iQ 3 ?_))
  let Z1:=zT [(1,.p 1 0),(2,Ia 0),(3,Ba false),(7,Ba g)] []
  refine iE 10 Z1 [(1,[Bv g,Hw a,Lw a,Iv x])] ?_
  cases g
  ·refine iF (Ad (Ap (Af (Aa rfl (iQ 1 ?_)))))
   let Z2:=zT [(1,.p 1 0),(2,Ia 1),(3,Ba false),(7,Ba false)] []
   refine iE 10 Z2 [(1,[Bv false,Hw a,Lw a,Iv x])] ?_
   refine Ab (iR (Iv 1) ?_)
   rw[if_neg hz,if_neg (by simp)]
  ·refine iT (Aa rfl (iQ 1 ?_))
   let Z3:=zT [(1,.p 1 0),(2,Ia (-1)),(3,Ba false),(7,Ba true)] []
   refine iE 10 Z3 [(1,[Bv true,Hw a,Lw a,Iv x])] ?_
   refine Ab (Ai (Ag (iR (Iv (-1)) ?_)))
   rw[if_neg hz,if_pos rfl]
 ·replace hz:=bt hz
  refine iT (Aa rfl (iQ 1 (iE 10 [(1,.p 1 0),(2,Ia 0),(3,Ba true)] [(1,[Bv g,Hw a,Lw a,Iv x])] ?_)))
  refine Ab (Ai (Ag (iR (Iv 0) ?_)))
  rw[if_pos hz]
theorem Sl {h l T:Nat} (hT:T=h*B128+l) (hh:h<B128) (hl:l<B128) (hb:T*10<B128*B128) :
  (h*10 % B128+l*10 / B128) % B128*B128+l*10 % B128=T*10∧l*10 / B128<18446744073709551616:=by
 have hp:0<B128:=by decide
 have h1:l*10 / B128<10:=Nat.div_lt_of_lt_mul (by omega)
 have e1:=Nat.div_add_mod' (l*10) B128
 have e2:(h*10+l*10 / B128)*B128≤T*10:=by rw[Nat.add_mul,hT,Nat.mul_right_comm h 10 B128];omega
 have h2:h*10+l*10 / B128<B128:=Nat.lt_of_mul_lt_mul_right (a:=B128) (Nat.lt_of_le_of_lt e2 hb)
 refine ⟨?_,by omega⟩
 rw[Nat.mod_eq_of_lt (Nat.lt_of_le_of_lt (Nat.le_add_right _ _) h2),Nat.mod_eq_of_lt h2,Nat.add_mul,hT,Nat.mul_right_comm h 10 B128]
 omega
set_option maxHeartbeats 1600000 in
theorem b16 {a n:Nat} (ha:a<B128) (hn:n≤1000) (hb:a*10 ^ n<B128*B128):HasC Tryz.prog 63 [.agg [.v (.int .u64 (hiW (a))),.v (.int .u64 (loW (a)))],.v (.int .i64 ((n:Int)))] (fun y=>y=.tup [dU (a*10 ^ n / B128),dU (a*10 ^ n % B128)]):=by
 refine hO [10] Tryz.f63 (fun a w=>Tryz.call63 a w) Tryz.func63 rfl (⟨_,rfl⟩) ?_
 refine Aa rfl (iQ 3 ?_)
 let Z1:=zT [(1,Ia ((n:Int))),(2,.p 2 0),(4,.p 4 0),(5,.p 5 0)] []
 let Z2:=zH [(2,[Hw a,Lw a]),(4,[Uv 0,Uv 0]),(5,[Uv 0,Uv 0])] []
 refine iE 50 Z1 Z2 ?_
 refine Aa rfl (iQ 1 (jL .min [3,3] [.int .i64 ((n:Int)),.int .i64 38] 14 ?_))
 intro z14 hz14
 simp only at hz14
 refine eC 45 [Iv z14] 15 (Te (k:=z14) (by omega) (by omega)) ?_
 have ht:10 ^ z14.toNat<B128:=Nat.lt_of_le_of_lt (Nat.pow_le_pow_right (by decide) (show z14.toNat≤38 by omega)) (by decide)
 refine iQ 6 ?_
 let Z3:=zH [(6,[Hw (10 ^ z14.toNat),Lw (10 ^ z14.toNat)])] []
 refine iE 50 (zT [(6,.p 6 0)] Z1) (zH Z3 Z2) ?_
 refine Aa rfl (iQ 2 (eC 61 [.agg [Hw a,Lw a],.agg [Hw (10 ^ z14.toNat),Lw (10 ^ z14.toNat)]] 21 (Xz ha ht) (iQ 7 ?_)))
 let Z4:=zT [(1,Ia ((n:Int))),(4,.p 4 0),(5,.p 5 0),(6,.p 6 0),(8,.p 8 0),(9,.p 9 0)] []
 let Z5:=zH [(8,[Hw (a*10 ^ z14.toNat / B128),Lw (a*10 ^ z14.toNat / B128)])] []
 let Z6:=zH [(9,[Hw (a*10 ^ z14.toNat % B128),Lw (a*10 ^ z14.toNat % B128)])] []
 let Z7:=zH [(4,[Uv 0,Uv 0]),(5,[Uv 0,Uv 0])] (zH Z6 (zH Z5 Z3))
 refine iE 50 Z4 Z7 ?_
 refine Ae (Aa rfl (iQ 1 (jB .sub 3 (.int .i64 ((n:Int))) (.int .i64 38) 25 ?_)))
 intro z25 hz25
 try replace hz25:=hz25.i64 (by omega)
 refine iQ 1 ?_
 let Z8:=zT [(1,Ia z25),(4,.p 4 0),(5,.p 5 0),(6,.p 6 0),(8,.p 8 0),(9,.p 9 0)] []
 refine iE 50 Z8 Z7 ?_
 refine Ak (Bq 50 (fun (vcx:Nat×Nat×Nat×Int)=>match vcx with | (j,h,l,c)=>[(1,Ia c),(4,.p 4 0),(5,.p 5 0),(6,.p 6 0),(8,.p 8 0),(9,.p 9 0)]) (fun (vcx:Nat×Nat×Nat×Int)=>match vcx with | (j,h,l,c)=>[(4,[Uv 0,Uv 0]),(5,[Uv 0,Uv 0]),(6,[Hw (10 ^ z14.toNat),Lw (10 ^ z14.toNat)]),(8,[Hw h,Lw h]),(9,[Hw l,Lw l])]) (fun (vcx:Nat×Nat×Nat×Int)=>match vcx with | (j,h,l,c)=>a*10 ^ j=h*B128+l∧h<B128∧l<B128∧(j:Int)+max 0 c=n) (fun (vcx:Nat×Nat×Nat×Int)=>match vcx with | (j,h,l,c)=>c.toNat) ((z14.toNat,a*10 ^ z14.toNat / B128,a*10 ^ z14.toNat % B128,z25)) (⟨(Nat.div_add_mod' _ _).symm,Nat.div_lt_of_lt_mul (Nat.mul_lt_mul'' ha ht),Az _,by omega⟩) (by kernel_rfl) (by kernel_rfl) ?_)
 rintro ⟨j,h,l,c⟩ hinv
 simp only at hinv
 obtain ⟨i1,i2,i3,i4⟩:=hinv
 refine Ae (Aa rfl (iQ 1 (jB .gtr 3 (.int .i64 c) (.int .i64 0) 27 ?_)))
 intro c27 hc27
 let Z9:=zT [(1,Ia c),(4,.p 4 0),(5,.p 5 0),(6,.p 6 0),(8,.p 8 0),(9,.p 9 0),(27,Ba c27)] []
 let Z10:=zH [(4,[Uv 0,Uv 0]),(5,[Uv 0,Uv 0]),(8,[Hw h,Lw h]),(9,[Hw l,Lw l])] []
 refine iE 50 Z9 (zH Z10 Z3) ?_
 cases c27
 ·replace hc27:=bf hc27
  have hj:j=n:=by omega
  have e1:a*10 ^ n / B128=h∧a*10 ^ n % B128=l:=by rw[← hj,i1];exact Fe i3
  refine iF (Be (Ce (Bj (Bd rfl (Af (Rw rfl (by kernel_rfl) ?_))))))
  refine iQ 4 ?_
  let Z11:=zT [(1,Ia c),(4,.p 4 0),(5,.p 5 0),(6,.p 6 0),(8,.p 8 0),(9,.p 9 0),(27,Ba false)] []
  let Z12:=zH [(4,[Hw h,Lw h]),(5,[Hw l,Lw l]),(8,[Hw h,Lw h]),(9,[Hw l,Lw l])] []
  refine iE 50 Z11 (zH Z12 Z3) ?_
  refine Ab (iS (.agg [Hw h,Lw h]) (.agg [Hw l,Lw l]) [] ?_)
  rw[e1.1,e1.2]
  rfl
 ·replace hc27:=bt hc27
  have hjn:a*10 ^ j*10<B128*B128:=by rw[Nat.mul_assoc,← Nat.pow_succ];exact Nat.lt_of_le_of_lt (Nat.mul_le_mul_left _ (Nat.pow_le_pow_right (by decide) (by omega))) hb
  obtain ⟨r1,r2⟩:=Sl i1 i2 i3 hjn
  refine iT (Ad (Af (Ae (Ak (Aa rfl (iQ 1 (eC 86 [.agg [Hw l,Lw l],Uv 10] 32 (Dt (n:=10) i3 (by decide)) (iQ 6 ?_))))))))
  let Z13:=zT [(1,Ia c),(4,.p 4 0),(5,.p 5 0),(6,.p 6 0),(8,.p 8 0),(9,.p 9 0),(10,.d (Uv (((l*10 / B128:Nat):Int)))),(11,.p 11 0),(27,Ba true)] []
  let Z14:=zH [(11,[Hw (l*10 % B128),Lw (l*10 % B128)])] []
  let Z15:=zH Z14 (zH Z10 Z3)
  refine iE 50 Z13 Z15 ?_
  refine Aa rfl (iQ 1 (eC 86 [.agg [Hw h,Lw h],Uv 10] 37 (Dt (n:=10) i2 (by decide)) (iQ 4 ?_)))
  let Z16:=zH [(4,[Uv 0,Uv 0]),(5,[Uv 0,Uv 0]),(8,[Hw (h*10 % B128),Lw (h*10 % B128)]),(9,[Hw l,Lw l])] []
  let Z17:=zH Z16 (zH Z3 Z14)
  refine iE 50 Z13 Z17 ?_
  refine Aa rfl (iQ 2 (eC 59 [Uv (((l*10 / B128:Nat):Int))] 43 (We r2) (eC 93 [.agg [Hw (h*10 % B128),Lw (h*10 % B128)],.agg [Hw (l*10 / B128),Lw (l*10 / B128)]] 44 (a2t (Az (h*10)) (Nat.lt_trans r2 (by decide))) (iQ 4 ?_))))
  let Z18:=zH [(8,[Hw ((h*10 % B128+l*10 / B128) % B128),Lw ((h*10 % B128+l*10 / B128) % B128)])] []
  let Z19:=zH [(4,[Uv 0,Uv 0]),(5,[Uv 0,Uv 0]),(9,[Hw l,Lw l])] []
  let Z20:=zH Z19 (zH Z18 (zH Z3 Z14))
  refine iE 50 Z13 Z20 ?_
  refine Am rfl (iQ 2 ?_)
  let Z21:=zH [(4,[Uv 0,Uv 0]),(5,[Uv 0,Uv 0]),(9,[Hw (l*10 % B128),Lw (l*10 % B128)])] []
  let Z22:=zH Z21 (zH Z18 (zH Z3 Z14))
  refine iE 50 Z13 Z22 ?_
  refine Ap (Af (Am rfl (iQ 1 (jB .sub 3 (.int .i64 c) (.int .i64 1) 29 ?_))))
  intro z29 hz29
  try replace hz29:=hz29.i64 (by omega)
  refine iQ 1 ?_
  let Z23:=zT [(1,Ia z29),(4,.p 4 0),(5,.p 5 0),(6,.p 6 0),(8,.p 8 0),(9,.p 9 0),(10,.d (Uv (((l*10 / B128:Nat):Int)))),(11,.p 11 0),(27,Ba true)] []
  refine iE 50 Z23 Z22 ?_
  refine Bm (j+1,(h*10 % B128+l*10 / B128) % B128,l*10 % B128,z29) (⟨by rw[r1,Nat.pow_succ,Nat.mul_assoc],Az _,Az _,by omega⟩) (by show z29.toNat<c.toNat;omega) (by kernel_rfl) (by kernel_rfl)
theorem wrap_u64 (e:Int):IntKind.u64.wrap e=e % 18446744073709551616:=by
 unfold IntKind.wrap
 simp[IntKind.signed,IntKind.bits]
theorem a8g {n:Nat} {z:Int} (hz:z=(n:Int)) (hn:n<18446744073709551616):HasC Tryz.prog 59 [.v (.int .u64 z)] (fun y=>y=dU n):=by
 subst hz
 exact We hn
theorem a44 {x:Int} (h0 : -9223372036854775808≤x) (h1:x≤9223372036854775807):HasC Tryz.prog 42 [.v (.int .i64 x)] (fun y=>y=Bk (decide (x<0)) x.natAbs 0):=by
 refine hO [] Tryz.f42 (fun a w=>Tryz.call42 a w) Tryz.func42 rfl (⟨_,rfl⟩) ?_
 refine Aa rfl (iQ 1 (iE 15 [(0,Ia x),(2,.p 2 0)] [(2,[Bv false,Uv 0,Uv 0,Iv 0])] ?_))
 refine Aa rfl (iQ 1 (jV 3 22 (.int .i64 x) 5 ?_))
 intro z5 hz5
 try replace hz5:=hz5.u64 (by omega)
 replace hz5:z5=x % 18446744073709551616:=by have h:z5=IntKind.u64.wrap x:=hz5;rw[h,wrap_u64]
 refine iQ 1 (iE 15 [(0,Ia x),(2,.p 2 0),(3,.d (Uv z5))] [(2,[Bv false,Uv 0,Uv 0,Iv 0])] ?_)
 refine Ae (Aa rfl (iQ 1 (jB .lss 3 (.int .i64 x) (.int .i64 0) 7 ?_)))
 intro c7 hc7
 let Z1:=zT [(0,Ia x),(2,.p 2 0),(3,.d (Uv z5)),(7,Ba c7)] []
 refine iE 15 Z1 [(2,[Bv false,Uv 0,Uv 0,Iv 0])] ?_
 cases c7
 ·replace hc7:=bf hc7
  have ez:z5=(x.natAbs:Int):=by omega
  refine iF (Ad (Af (Aa rfl (iQ 1 (jB .lss 3 (.int .i64 x) (.int .i64 0) 11 ?_)))))
  intro c11 hc11
  refine iQ 1 (eC 59 [Uv z5] 13 (a8g ez (by omega)) (iQ 2 ?_))
  let Z2:=zT [(0,Ia x),(2,.p 2 0),(3,.d (Uv z5)),(7,Ba false)] []
  let Z3:=zH [(2,[Bv c11,Hw x.natAbs,Lw x.natAbs,Iv 0])] []
  refine iE 15 Z2 Z3 ?_
  refine Ab (iR (.agg [Bv c11,Hw x.natAbs,Lw x.natAbs,Iv 0]) ?_)
  have e1:c11=decide (x<0):=by rw[Bool.eq_iff_iff,hc11];simp
  rw[← e1];rfl
 ·replace hc7:=bt hc7
  refine iT (Am rfl (iQ 1 (jU .neg (.int .u64 z5) 9 ?_)))
  intro z9 hz9
  try replace hz9:=hz9.u64 (by omega)
  have ez:z9=(x.natAbs:Int):=by have h:z9=IntKind.u64.wrap (0-z5):=hz9;rw[wrap_u64] at h;omega
  refine iQ 1 ?_
  let Z4:=zT [(0,Ia x),(2,.p 2 0),(3,.d (Uv z9)),(7,Ba true)] []
  refine iE 15 Z4 [(2,[Bv false,Uv 0,Uv 0,Iv 0])] ?_
  refine Af (Aa rfl (iQ 1 (jB .lss 3 (.int .i64 x) (.int .i64 0) 11 ?_)))
  intro c11 hc11
  refine iQ 1 (eC 59 [Uv z9] 13 (a8g ez (by omega)) (iQ 2 ?_))
  let Z5:=zH [(2,[Bv c11,Hw x.natAbs,Lw x.natAbs,Iv 0])] []
  refine iE 15 Z4 Z5 ?_
  refine Ab (iR (.agg [Bv c11,Hw x.natAbs,Lw x.natAbs,Iv 0]) ?_)
  have e1:c11=decide (x<0):=by rw[Bool.eq_iff_iff,hc11];simp
  rw[← e1];rfl
open Go.RowKit
set_option linter.unusedVariables false
set_option linter.unusedSimpArgs false
set_option maxRecDepth 100000
def divN (a b:Nat):Nat:=35+nd b-nd a
def Cp:Nat→Nat→Nat×Nat
 | 0,q=>(q,0)
 | k+1,q=>if q % 10=0 then ((Cp k (q / 10)).1,(Cp k (q / 10)).2+1) else (q,0)
theorem Lm {k q:Nat} (h:q % 10=0):Cp (k+1) q=((Cp k (q / 10)).1,(Cp k (q / 10)).2+1):=by rw[Cp,if_pos h]
theorem Lp {k q:Nat} (h:q % 10≠0):Cp (k+1) q=(q,0):=by rw[Cp,if_neg h]
theorem Yg (q:Nat):Cp 0 q=(q,0):=rfl
def Ow (a b:Nat):Nat×Nat:=if a*10 ^ divN a b % b=0 then Cp (divN a b) (a*10 ^ divN a b / b) else (a*10 ^ divN a b / b,0)
def Kt (a b:Nat):Bool:=decide (a*10 ^ divN a b % b≠0)
theorem Zn {a b:Nat} (ha:a<E34) (hb:b<E34) (h0:0<b):a*10 ^ divN a b<10 ^ 36*b∧a*10 ^ divN a b<B128*B128∧divN a b≤1000:=by
 have h1:nd a≤34:=Cj _ _ ha
 have h2:nd b≤34:=Cj _ _ hb
 have h3:a*10 ^ divN a b<10 ^ (35+nd b):=by
  by_cases hz:a=0
  ·subst hz;simp;exact Nat.pow_pos (by decide)
  ·have h4:=Nat.mul_lt_mul_of_pos_right (Eg a) (show 0<10 ^ divN a b from Nat.pow_pos (by decide))
   rw[← Nat.pow_add] at h4
   have h5:nd a+divN a b=35+nd b:=by unfold divN;omega
   rwa[h5] at h4
 have h6:10 ^ nd b≤10*b:=by
  rw[Hl (show b≠0 by omega),Nat.pow_succ,Nat.mul_comm]
  refine Nat.mul_le_mul_left _ ?_
  rcases Nat.lt_or_ge b (10 ^ nd (b / 10)) with h | h
  ·exfalso
   have h7:=Cj _ _ h
   rw[Hl (show b≠0 by omega)] at h7
   omega
  ·exact h
 refine ⟨?_,?_,by unfold divN;omega⟩
 ·refine Nat.lt_of_lt_of_le h3 ?_
  rw[Nat.pow_add]
  have:=Nat.mul_le_mul_left (10 ^ 35) h6
  have e:(10:Nat) ^ 36=10 ^ 35*10:=by decide
  rw[e,Nat.mul_assoc]
  exact this
 ·exact Nat.lt_of_lt_of_le h3 (Nat.le_trans (Nat.pow_le_pow_right (by decide) (show 35+nd b≤69 by omega)) (by decide))
theorem b4d (e:Int):Lh false 0 0 e false=.agg [.v (.bool false),.v (.int .u64 0),.v (.int .u64 0),.v (.int .u64 0),.v (.int .u64 0),.v (.int .i64 e),.v (.bool false)]:=by kernel_rfl
theorem a3w (s:Bool) (n:Nat) (e:Int) (more:Bool):Lh s 0 n e more=.agg [.v (.bool s),.v (.int .u64 0),.v (.int .u64 0),.v (.int .u64 (hiW n)),.v (.int .u64 (loW n)),.v (.int .i64 e),.v (.bool more)]:=by kernel_rfl
theorem a4c {m e:Int} (he0 : -1000000000000000000≤e) (he1:e≤1000000000000000000) :
  HasC Tryz.prog 56 [.agg [.v (.bool false),.v (.int .u64 0),.v (.int .u64 0),.v (.int .u64 0),.v (.int .u64 0),.v (.int .i64 e),.v (.bool false)],.v (.int .i64 m)] (fun y => ∃ g k x ok,y=.tup [Bk g k x,.v (.bool ok)]∧Fh m false 0 e false=(g,k,x,ok)):=by
 rw[← b4d]
 exact Hb (by decide) (by decide) (by decide) he0 he1
theorem Ik {m e:Int} {neg more:Bool} {N:Nat} (hN:N<B128) (he0 : -1000000000000000000≤e) (he1:e≤1000000000000000000) :
  HasC Tryz.prog 56 [.agg [.v (.bool neg),.v (.int .u64 0),.v (.int .u64 0),.v (.int .u64 (hiW N)),.v (.int .u64 (loW N)),.v (.int .i64 e),.v (.bool more)],.v (.int .i64 m)] (fun y => ∃ g k x ok,y=.tup [Bk g k x,.v (.bool ok)]∧Fh m neg N e more=(g,k,x,ok)):=by
 rw[← a3w]
 exact Hb (by omega) (by decide) hN he0 he1
theorem Vv {a n:Nat} {X:Int} (hX:X=(n:Int)) (ha:a<B128) (hn:n≤1000) (hb:a*10 ^ n<B128*B128):HasC Tryz.prog 63 [dU a,.v (.int .i64 X)] (fun y=>y=.tup [dU (a*10 ^ n / B128),dU (a*10 ^ n % B128)]):=by
 subst hX
 exact b16 ha hn hb
theorem b5b {A d:Nat} (hd:d<B128) (hA:A<B128*d):HasC Tryz.prog 46 [dU (A / B128),dU (A % B128),dU d] (fun y=>y=.tup [dU (A / d),dU (A % d),.v (.bool true)]):=by
 have h:=Nat.div_lt_of_lt_mul hA
 have e:=Sp (h:=A / B128) (l:=A % B128) (Nat.lt_trans h hd) (Az _) hd h
 rw[Nat.div_add_mod'] at e
 exact e
theorem Ga {l:Nat} (hl:l<B128):HasC Tryz.prog 64 [.agg [.v (.int .u64 0),.v (.int .u64 0)],dU l,.v (.int .u64 10)] (fun y=>y=.tup [dU 0,dU (l / 10),.v (.int .u64 ((l % 10:Nat):Int)),.v (.bool true)]):=by
 rw[← a0y]
 have e:=Em (h:=0) (l:=l) (n:=10) (by decide) hl (by decide) (by decide)
 rw[Nat.zero_mul,Nat.zero_add] at e
 have h1:l / 10<B128:=by omega
 rw[Nat.div_eq_of_lt h1,Nat.mod_eq_of_lt h1] at e
 exact e
noncomputable def a06 (s:Bool) (a b:Nat) (like:Int):Bool×Nat×Int×Bool :=
 if a=0 then Fh 1 false 0 like false else Fh 1 s (Ow a b).1 (like-(divN a b:Nat)+((Ow a b).2:Nat)) (Kt a b)
noncomputable def Gy (s:Bool) (a b:Nat) (like:Int):Bool×Nat×Int×Bool:=if b=0 then (false,0,0,false) else a06 s a b like
def Xb (t:Bool×Nat×Int×Bool):DV:=.tup [Bk t.1 t.2.1 t.2.2.1,.v (.bool t.2.2.2)]
theorem Yi {c g1 g2:Bool} (h:c=true↔g1≠g2):(g1 != g2)=c:=by
 cases c<;>cases g1<;>cases g2<;>simp_all
set_option maxHeartbeats 1600000 in
theorem a3e {g1 g2:Bool} {a b:Nat} {x1 x2:Int} (ha:a<E34) (hb:b<E34) (h1 : -100000000000000000≤x1) (h2:x1≤100000000000000000) (h3 : -100000000000000000≤x2) (h4:x2≤100000000000000000):HasC Tryz.prog 15 [.agg [.v (.bool g1),.v (.int .u64 (hiW (a))),.v (.int .u64 (loW (a))),.v (.int .i64 x1)],.agg [.v (.bool g2),.v (.int .u64 (hiW (b))),.v (.int .u64 (loW (b))),.v (.int .i64 x2)]] (fun y=>y=Xb (Gy (g1 != g2) a b (x1-x2))):=by
 refine hO [] Tryz.f15 (fun a w=>Tryz.call15 a w) Tryz.func15 rfl (⟨_,rfl⟩) ?_
 have haB:=Nat.lt_trans ha Br;have hbB:=Nat.lt_trans hb Br
 refine Aa rfl (iQ 4 ?_)
 let Z1:=zT [(2,.p 2 0),(3,.p 3 0),(4,.p 4 0),(5,Ba false)] []
 let Z2:=zH [(2,[Bv g1,Hw a,Lw a,Iv x1]),(3,[Bv g2,Hw b,Lw b,Iv x2]),(4,[Bv false,Uv 0,Uv 0,Iv 0])] []
 refine iE 99 Z1 Z2 ?_
 refine Ae (Aa rfl (iQ 1 (jC 16 [.agg [Bv g2,Hw b,Lw b,Iv x2]] 19 (Du hbB) ?_)))
 rintro _ ⟨z,rfl,hz⟩
 refine iE 99 (zT [(19,Ba z)] Z1) Z2 ?_
 cases z
 ·replace hz:=bf hz
  refine iF (Ad (Af (Aa rfl (iQ 4 (jB .sub 3 (.int .i64 x1) (.int .i64 x2) 25 ?_)))))
  intro z25 hz25
  try replace hz25:=hz25.i64 (by omega)
  refine iQ 1 (iE 99 (zT [(6,Ia z25),(19,Ba false)] Z1) Z2 ?_)
  refine Ae (Aa rfl (iQ 1 (jC 16 [.agg [Bv g1,Hw a,Lw a,Iv x1]] 27 (Du haB) ?_)))
  rintro _ ⟨z',rfl,hz'⟩
  refine iE 99 (zT [(6,Ia z25),(19,Ba false),(27,Ba z')] Z1) Z2 ?_
  cases z'
  ·replace hz':=bf hz'
   obtain ⟨r1,r2,r3⟩:=Zn ha hb (Nat.pos_of_ne_zero hz)
   obtain ⟨n,hn⟩ : ∃ n,n=divN a b:=⟨_,rfl⟩
   rw[← hn] at r1 r2 r3
   have hnd:=hn;unfold divN at hnd
   have hnda:=Cj 34 a ha;have hndb:=Cj 34 b hb
   refine iF (Ad (Af (Aa rfl (iQ 1 (eC 62 [.agg [Bv g2,Hw b,Lw b,Iv x2]] 34 (Pb hbB) (jB .add 3 (.int .i64 35) (.int .i64 ((nd b:Int))) 35 ?_))))))
   intro z35 hz35
   try replace hz35:=hz35.i64 (by omega)
   refine iQ 1 (eC 62 [.agg [Bv g1,Hw a,Lw a,Iv x1]] 37 (Pb haB) (jB .sub 3 (.int .i64 z35) (.int .i64 ((nd a:Int))) 38 ?_))
   intro z38 hz38
   try replace hz38:=hz38.i64 (by omega)
   refine jL .max [3,3] [.int .i64 0,.int .i64 z38] 39 ?_
   intro z39 hz39
   simp only at hz39
   refine iQ 1 ?_
   let Z3:=zT [(6,Ia z25),(7,Ia z39),(19,Ba false),(27,Ba false)] []
   refine iE 99 (zT Z3 Z1) Z2 ?_
   refine Aa rfl (iQ 3 (eC 63 [.agg [Hw a,Lw a],Iv z39] 44 (Vv (n:=n) (by omega) haB r3 r2) ?_))
   have hAb:a*10 ^ n<B128*b:=Nat.lt_of_lt_of_le r1 (Nat.mul_le_mul_right _ (by decide))
   refine iQ 7 ?_
   let Z4:=zH [(8,[Hw (a*10 ^ n / B128),Lw (a*10 ^ n / B128)])] []
   let Z5:=zH [(9,[Hw (a*10 ^ n % B128),Lw (a*10 ^ n % B128)])] []
   let Z6:=zH Z5 (zH Z4 Z2)
   refine iE 99 (zT [(8,.p 8 0),(9,.p 9 0)] (zT Z3 Z1)) Z6 ?_
   refine Aa rfl (iQ 4 (eC 46 [.agg [Hw (a*10 ^ n / B128),Lw (a*10 ^ n / B128)],.agg [Hw (a*10 ^ n % B128),Lw (a*10 ^ n % B128)],.agg [Hw b,Lw b]] 52 (b5b hbB hAb) ?_))
   have hqB:a*10 ^ n / b<B128:=Nat.div_lt_of_lt_mul (by rw[Nat.mul_comm b];exact hAb)
   have hrB:a*10 ^ n % b<B128:=Nat.lt_trans (Nat.mod_lt _ (Nat.pos_of_ne_zero hz)) hbB
   refine iQ 9 ?_
   let Z7:=zT [(8,.p 8 0),(9,.p 9 0),(10,.p 10 0),(11,.p 11 0)] []
   let Z8:=zT Z7 (zT Z3 Z1)
   let Z9:=zH [(10,[Hw (a*10 ^ n / b),Lw (a*10 ^ n / b)])] []
   let Z10:=zH [(11,[Hw (a*10 ^ n % b),Lw (a*10 ^ n % b)])] []
   let Z11:=zH Z10 (zH Z9 Z6)
   refine iE 99 Z8 Z11 ?_
   refine Aa rfl (iQ 4 (jB .neq 4 (.bool g1) (.bool g2) 60 ?_))
   intro c60 hc60
   refine iQ 3 (jB .sub 3 (.int .i64 z25) (.int .i64 z39) 64 ?_)
   intro z64 hz64
   try replace hz64:=hz64.i64 (by omega)
   refine iQ 1 (jC 47 [.agg [Hw (a*10 ^ n % b),Lw (a*10 ^ n % b)]] 66 (Ea hrB) ?_)
   rintro _ ⟨zr,rfl,hzr⟩
   refine jU .not (.bool zr) 67 ?_
   intro c67 hc67
   refine iQ 3 ?_
   let Z12:=zH [(13,[Bv c60,Uv 0,Uv 0,Hw (a*10 ^ n / b),Lw (a*10 ^ n / b),Iv z64,Bv c67])] []
   refine iE 99 (zT [(13,.p 13 0)] Z8) (zH Z12 Z11) ?_
   refine Ae (Ak (Bq 99 (fun (vcx:Nat×Nat×Int)=>match vcx with | (j,p,x)=>[(2,.p 2 0),(3,.p 3 0),(4,.p 4 0),(5,Ba false),(6,Ia z25),(7,Ia z39),(8,.p 8 0),(9,.p 9 0),(10,.p 10 0),(11,.p 11 0),(13,.p 13 0),(19,Ba false),(27,Ba false)]) (fun (vcx:Nat×Nat×Int)=>match vcx with | (j,p,x)=>[(2,[Bv g1,Hw a,Lw a,Iv x1]),(3,[Bv g2,Hw b,Lw b,Iv x2]),(4,[Bv false,Uv 0,Uv 0,Iv 0]),(8,[Hw (a*10 ^ n / B128),Lw (a*10 ^ n / B128)]),(9,[Hw (a*10 ^ n % B128),Lw (a*10 ^ n % B128)]),(10,[Hw (a*10 ^ n / b),Lw (a*10 ^ n / b)]),(11,[Hw (a*10 ^ n % b),Lw (a*10 ^ n % b)]),(13,[Bv c60,Uv 0,Uv 0,Hw p,Lw p,Iv x,Bv c67])]) (fun (vcx:Nat×Nat×Int)=>match vcx with | (j,p,x)=>j≤n∧x=x1-x2-(n:Int)+(j:Int)∧p<B128∧Cp n (a*10 ^ n / b)=((Cp (n-j) p).1,(Cp (n-j) p).2+j)∧(c67=true→j=0∧p=a*10 ^ n / b)) (fun (vcx:Nat×Nat×Int)=>match vcx with | (j,p,x)=>n-j) ((0,a*10 ^ n / b,z64)) (⟨by omega,by omega,hqB,by simp,fun _=>⟨rfl,rfl⟩⟩) (by kernel_rfl) (by kernel_rfl) ?_))
   rintro ⟨j,p,x⟩ hinv
   simp only at hinv
   obtain ⟨hj,hjx,hp,hs,hm0⟩:=hinv
   refine Ae (Aa rfl (iQ 2 (jU .not (.bool c67) 71 ?_)))
   intro c71 hc71
   refine iQ 1 ?_
   cases c71
   ·replace hc71:=bf hc71
    refine iQ 5 ?_
    let Z13:=zT [(2,.p 2 0),(3,.p 3 0),(4,.p 4 0),(5,Ba false),(8,.p 8 0),(9,.p 9 0),(10,.p 10 0),(11,.p 11 0),(13,.p 13 0),(77,Ba false)] []
    let Z14:=zH [(13,[Bv c60,Uv 0,Uv 0,Hw p,Lw p,Iv x,Bv c67])] []
    refine iE 99 (zT Z13 Z3) (zH Z14 Z11) ?_
    have hc:c67=true:=by simpa using hc71
    obtain ⟨hj0,hpq⟩:=hm0 hc
    have hr0:a*10 ^ n % b≠0:=fun h=>by rw[hzr.2 h] at hc67;simp[hc] at hc67
    have hq:Ow a b=(p,j):=by rw[Ow,← hn,if_neg hr0,hj0,hpq]
    have hm:Kt a b=c67:=by rw[Kt,← hn,hc];simpa using hr0
    refine iF (Be (Ce (Bj (Bd rfl (Af (Aa rfl (iQ 1 (jC 56 [.agg [Bv c60,Uv 0,Uv 0,Hw p,Lw p,Iv x,Bv c67],Iv 1] 96 (Ik (m:=1) (N:=p) hp (by omega) (by omega)) ?_))))))))
    rintro _ ⟨g,k,x',ok,rfl,hT⟩
    refine iQ 4 ?_
    let Z15:=zT [(2,.p 2 0),(3,.p 3 0),(4,.p 4 0),(5,Ba ok),(8,.p 8 0),(9,.p 9 0),(10,.p 10 0),(11,.p 11 0),(13,.p 13 0),(77,Ba false)] []
    let Z16:=zH [(2,[Bv g1,Hw a,Lw a,Iv x1]),(3,[Bv g2,Hw b,Lw b,Iv x2]),(4,[Bv g,Hw k,Lw k,Iv x'])] []
    let Z17:=zH Z16 (zH Z4 (zH Z5 (zH Z14 (zH Z9 Z10))))
    refine iE 99 (zT Z15 Z3) Z17 ?_
    refine Ab (iS (.agg [Bv g,Hw k,Lw k,Iv x']) (Bv ok) [] ?_)
    rw[Gy,if_neg hz,a06,if_neg hz',← hn,hq,hm,Yi hc60,← hjx,hT]
    rfl
   ·replace hc71:=bt hc71
    refine iQ 3 (jB .lss 3 (.int .i64 x) (.int .i64 z25) 76 ?_)
    have hc:c67=false:=by simpa using hc71
    have hr0:a*10 ^ n % b=0:=hzr.1 (by rw[hc] at hc67;simpa using hc67)
    have hm:Kt a b=c67:=by rw[Kt,← hn,hc];simpa using hr0
    intro c76 hc76
    refine iQ 1 ?_
    let Z18:=zT [(2,.p 2 0),(3,.p 3 0),(4,.p 4 0),(5,Ba false),(8,.p 8 0),(9,.p 9 0),(10,.p 10 0),(11,.p 11 0),(13,.p 13 0),(77,Ba c76)] []
    let Z19:=zH [(13,[Bv c60,Uv 0,Uv 0,Hw p,Lw p,Iv x,Bv c67])] []
    refine iE 99 (zT Z18 Z3) (zH Z19 Z11) ?_
    cases c76
    ·replace hc76:=bf hc76
     have hq:Ow a b=(p,j):=by rw[Ow,← hn,if_pos hr0,hs,show n-j=0 by omega];simp[Yg]
     refine iF (Be (Ce (Bj (Bd rfl (Af (Aa rfl (iQ 1 (jC 56 [.agg [Bv c60,Uv 0,Uv 0,Hw p,Lw p,Iv x,Bv c67],Iv 1] 96 (Ik (m:=1) (N:=p) hp (by omega) (by omega)) ?_))))))))
     rintro _ ⟨g,k,x',ok,rfl,hT⟩
     refine iQ 4 ?_
     let Z20:=zT [(2,.p 2 0),(3,.p 3 0),(4,.p 4 0),(5,Ba ok),(8,.p 8 0),(9,.p 9 0),(10,.p 10 0),(11,.p 11 0),(13,.p 13 0),(77,Ba false)] []
     let Z21:=zH [(2,[Bv g1,Hw a,Lw a,Iv x1]),(3,[Bv g2,Hw b,Lw b,Iv x2]),(4,[Bv g,Hw k,Lw k,Iv x'])] []
     let Z22:=zH Z21 (zH Z4 (zH Z5 (zH Z19 (zH Z9 Z10))))
     refine iE 99 (zT Z20 Z3) Z22 ?_
     refine Ab (iS (.agg [Bv g,Hw k,Lw k,Iv x']) (Bv ok) [] ?_)
     rw[Gy,if_neg hz,a06,if_neg hz',← hn,hq,hm,Yi hc60,← hjx,hT]
     rfl
    ·replace hc76:=bt hc76
     refine iT (Ad (Af (Ak (Aa rfl (iQ 3 (eC 64 [.agg [Uv 0,Uv 0],.agg [Hw p,Lw p],Uv 10] 82 (Ga hp) (iQ 11 ?_)))))))
     let Z23:=zT [(2,.p 2 0),(3,.p 3 0),(4,.p 4 0),(5,Ba false),(8,.p 8 0),(9,.p 9 0),(10,.p 10 0),(11,.p 11 0),(13,.p 13 0),(15,.p 15 0),(16,.d (Uv (((p % 10:Nat):Int)))),(77,Ba true)] []
     refine iE 99 (zT Z23 Z3) (zH [(15,[Hw (p / 10),Lw (p / 10)])] (zH Z11 Z19)) ?_
     refine Ae (Aa rfl (iQ 1 (jB .neq 22 (.int .u64 (((p % 10:Nat):Int))) (.int .u64 0) 88 ?_)))
     intro c88 hc88
     refine iE 99 (zT [(88,Ba c88)] (zT Z23 Z3)) (zH [(15,[Hw (p / 10),Lw (p / 10)])] (zH Z11 Z19)) ?_
     cases c88
     ·replace hc88:=bf hc88
      have hp10:p % 10=0:=by omega
      refine iF (Ad (Af (Am rfl (iQ 3 (jB .add 3 (.int .i64 x) (.int .i64 1) 92 ?_)))))
      intro z92 hz92
      try replace hz92:=hz92.i64 (by omega)
      refine iQ 4 ?_
      let Z24:=zH [(13,[Bv c60,Uv 0,Uv 0,Hw (p / 10),Lw (p / 10),Iv z92,Bv c67])] []
      refine iE 99 (zT [(88,Ba false)] (zT Z23 Z3)) (zH [(15,[Hw (p / 10),Lw (p / 10)])] (zH Z24 Z11)) ?_
      refine Ap ?_
      refine Bm (j+1,p / 10,z92) (⟨by omega,by omega,by omega,by rw[hs,show n-j=(n-(j+1))+1 by omega,Lm hp10];exact Prod.ext rfl (by simp;omega),fun h=>by rw[hc] at h;cases h⟩) (by show n-(j+1)<n-j;omega) (by kernel_rfl) (by kernel_rfl)
     ·replace hc88:=bt hc88
      have hp10:p % 10≠0:=by omega
      have hq:Ow a b=(p,j):=by rw[Ow,← hn,if_pos hr0,hs,show n-j=(n-(j+1))+1 by omega,Lp hp10];simp
      refine iT (Be (Ce (a4s rfl (Bj (Bd rfl (Af (Aa rfl (iQ 1 (jC 56 [.agg [Bv c60,Uv 0,Uv 0,Hw p,Lw p,Iv x,Bv c67],Iv 1] 96 (Ik (m:=1) (N:=p) hp (by omega) (by omega)) ?_)))))))))
      rintro _ ⟨g,k,x',ok,rfl,hT⟩
      refine iQ 4 ?_
      let Z25:=zT [(2,.p 2 0),(3,.p 3 0),(4,.p 4 0),(5,Ba ok),(8,.p 8 0),(9,.p 9 0),(10,.p 10 0),(11,.p 11 0),(13,.p 13 0),(15,.p 15 0),(16,.d (Uv (((p % 10:Nat):Int)))),(77,Ba true),(88,Ba true)] []
      let Z26:=zH [(2,[Bv g1,Hw a,Lw a,Iv x1]),(3,[Bv g2,Hw b,Lw b,Iv x2]),(4,[Bv g,Hw k,Lw k,Iv x']),(15,[Hw (p / 10),Lw (p / 10)])] []
      let Z27:=zH Z26 (zH Z4 (zH Z5 (zH Z19 (zH Z9 Z10))))
      refine iE 99 (zT Z25 Z3) Z27 ?_
      refine Ab (iS (.agg [Bv g,Hw k,Lw k,Iv x']) (Bv ok) [] ?_)
      rw[Gy,if_neg hz,a06,if_neg hz',← hn,hq,hm,Yi hc60,← hjx,hT]
      rfl
  ·replace hz':=bt hz'
   refine iT (Aa rfl (iQ 2 (jC 56 [.agg [Bv false,Uv 0,Uv 0,Uv 0,Uv 0,Iv z25,Bv false],Iv 1] 30 (a4c (m:=1) (by omega) (by omega)) ?_)))
   rintro _ ⟨g,k,x,ok,rfl,hT⟩
   refine iQ 4 ?_
   let Z28:=zT [(2,.p 2 0),(3,.p 3 0),(4,.p 4 0),(5,Ba ok),(6,Ia z25),(19,Ba false),(27,Ba true)] []
   let Z29:=zH [(2,[Bv g1,Hw a,Lw a,Iv x1]),(3,[Bv g2,Hw b,Lw b,Iv x2]),(4,[Bv g,Hw k,Lw k,Iv x])] []
   refine iE 99 Z28 Z29 ?_
   refine Ab (Ag (iS (.agg [Bv g,Hw k,Lw k,Iv x]) (Bv ok) [] ?_))
   rw[Gy,if_neg hz,a06,if_pos hz',← hz25,hT]
   rfl
 ·replace hz:=bt hz
  refine iT (Aa rfl (iQ 3 ?_))
  let Z30:=zT [(2,.p 2 0),(3,.p 3 0),(4,.p 4 0),(5,Ba false),(19,Ba true)] []
  refine iE 99 Z30 Z2 ?_
  refine Ab (Ag (iS (.agg [Bv false,Uv 0,Uv 0,Iv 0]) (Bv false) [] ?_))
  rw[Gy,if_pos hz]
  rfl
open Go.RowKit
set_option linter.unusedVariables false
set_option linter.unusedSimpArgs false
set_option maxRecDepth 100000
theorem a17 {n:Nat} (h:n≠0):10 ^ (nd n-1)≤n:=by
 rcases Nat.lt_or_ge n (10 ^ (nd n-1)) with h1 | h1
 ·exfalso
  have h7:=Cj _ _ h1
  have:=Hl h
  omega
 ·exact h1
theorem a4k {n k:Nat} (h:10 ^ k≤n):k<nd n :=
 (Nat.pow_lt_pow_iff_right (by decide:1<10)).1 (Nat.lt_of_le_of_lt h (Eg n))
theorem b4j {N j r:Nat} (hN:N≠0) (hr:r<10 ^ j):nd (N*10 ^ j+r)=nd N+j:=by
 have h1:=a17 hN
 have h2:=Eg N
 have h0:=Hl hN
 have h3:nd (N*10 ^ j+r)≤nd N+j:=by
  refine Cj _ _ ?_
  rw[Nat.pow_add]
  have:=Nat.mul_le_mul_right (10 ^ j) (Nat.succ_le_of_lt h2)
  rw[Nat.succ_mul] at this
  omega
 have h4:nd N-1+j<nd (N*10 ^ j+r):=by
  refine a4k ?_
  rw[Nat.pow_add]
  have:=Nat.mul_le_mul_right (10 ^ j) h1
  omega
 omega
theorem b1l {m:Int} {neg odd:Bool} : ¬ UpP m neg odd 0 false:=by
 unfold UpP
 simp
theorem a3r {m:Int} {neg:Bool} {N k:Nat} {more:Bool}:upB m neg N more k=true↔UpP m neg (decide (N / 10 ^ k % 2=1)) (Es N k:Nat) (@decide (Eo more N k) (Classical.propDecidable _)):=by
 unfold upB
 simp only[decide_eq_true_eq]
theorem a5q {m:Int} {neg:Bool} {N N' k k':Nat} {more more':Bool} (h1:N / 10 ^ k=N' / 10 ^ k') (h2:Es N k=Es N' k') (h3:Eo more N k↔Eo more' N' k'):upB m neg N more k=upB m neg N' more' k':=by
 have e3 : @decide (Eo more N k) (Classical.propDecidable _) = @decide (Eo more' N' k') (Classical.propDecidable _):=by rw[Bool.eq_iff_iff];simp[h3]
 rw[Bool.eq_iff_iff,a3r,a3r,h1,h2,e3]
theorem Md {m:Int} {neg:Bool} {N N' k k':Nat} {more more':Bool} (h1:N / 10 ^ k=N' / 10 ^ k') (h2:Es N k=Es N' k') (h3:Eo more N k↔Eo more' N' k'):Bg m neg N more k=Bg m neg N' more' k':=by
 unfold Bg
 rw[a5q h1 h2 h3,h1]
theorem Yh (m:Int) (neg:Bool) (N:Nat):Bg m neg N false 0=N:=by
 have h:upB m neg N false 0=false:=a2n (h:=0) (l:=N) (d:=0) (mo:=false) (odd:=decide (N % 2=1)) (by simp) rfl Iff.rfl (by simp) (by simp[b1l])
 unfold Bg
 rw[h]
 simp
theorem Uf (m:Int) (neg:Bool) (N:Nat) (e:Int) (more:Bool):Iz m neg N e more=Bg m neg N more (Fs N e).toNat:=by
 by_cases h:0<Fs N e∨more=true
 ·exact (Hr m neg h).1
 ·obtain ⟨h1,h2⟩:Fs N e≤0∧more=false:=by
   constructor
   ·exact Int.not_lt.1 fun k=>h (.inl k)
   ·cases more
    ·rfl
    ·exact absurd (.inr rfl) h
  subst h2
  rw[(Ql m neg h1).1,show (Fs N e).toNat=0 by omega,Yh]
theorem a7g (N:Nat) (e:Int) (more:Bool):Na N e more=e+(Fs N e).toNat:=by
 by_cases h:0<Fs N e∨more=true
 ·exact (Hr 0 false h).2
 ·obtain ⟨h1,h2⟩:Fs N e≤0∧more=false:=by
   constructor
   ·exact Int.not_lt.1 fun k=>h (.inl k)
   ·cases more
    ·rfl
    ·exact absurd (.inr rfl) h
  subst h2
  rw[(Ql 0 false h1).2]
  omega
def Dp (N:Nat) (e:Int):Nat:=max (nd N-34) (-6176-e).toNat
noncomputable def Fg (m:Int) (neg:Bool) (N:Nat) (e:Int) (more:Bool):Bool×Nat×Int×Bool :=
 Mp neg (Gq m neg (Bg m neg N more (Dp N e))) (Gz (Bg m neg N more (Dp N e)) (e+Dp N e))
theorem Jz {m:Int} {neg:Bool} {n:Nat} (h:n≤1) (e:Int):Gq m neg n=n∧Gz n e=e:=by
 have h' : ¬ E34≤n:=by unfold E34;omega
 unfold Gq Gz
 exact ⟨if_neg h',if_neg h'⟩
theorem a9f {neg:Bool} {n:Nat} {e e':Int} (h1:e ≤ -6176) (h2:e' ≤ -6176):Mp neg n e=Mp neg n e':=by
 have d1:Ev n e=0:=by unfold Ev;omega
 have d2:Ev n e'=0:=by unfold Ev;omega
 unfold Mp
 rw[d1,d2]
 split
 ·rw[show max (-6176) (min e 6111)=max (-6176:Int) (min e' 6111) by omega]
 ·rw[if_neg (by omega),if_neg (by omega),show max (e-((0:Nat):Int)) (-6176)=max (e'-((0:Nat):Int)) (-6176:Int) by omega]
theorem Hk (m:Int) (neg:Bool) {N:Nat} (e:Int) (more:Bool) (h:nd N≤78):Fh m neg N e more=Fg m neg N e more:=by
 unfold Fh Fg
 rw[Uf,a7g]
 by_cases hc : -6176-e≤100
 ·have hk:(Fs N e).toNat=Dp N e:=by unfold Fs Dp;omega
  rw[hk]
 ·have k1:(Fs N e).toNat=100:=by unfold Fs;omega
  obtain ⟨j,hj⟩ : ∃ j,Dp N e=100+j∧e+((100+j:Nat):Int) ≤ -6176:=⟨Dp N e-100,by unfold Dp;omega,by unfold Dp;omega⟩
  have z:N<10 ^ 99:=Nat.lt_of_lt_of_le (Eg N) (Nat.pow_le_pow_right (by decide) (by omega))
  have h1:N / 10 ^ 100=0:=Nat.div_eq_of_lt (Nat.lt_of_lt_of_le z (Nat.pow_le_pow_right (by decide) (by decide)))
  have h2:Es N 100=0:=by
   show N / 10 ^ 99 % 10=0
   rw[Nat.div_eq_of_lt z]
  obtain ⟨s1,s2,s3⟩:=a0q (more:=more) h1 h2 j
  have hQ:Bg m neg N more (100+j)=Bg m neg N more 100:=Md (by rw[s1,h1]) (by rw[s2,h2]) s3
  have hle:Bg m neg N more 100≤1:=by
   have:=Nl (m:=m) (neg:=neg) (more:=more) (N:=N) (k:=100)
   omega
  rw[k1,hj.1,hQ,(Jz (m:=m) (neg:=neg) hle 0).1,(Jz (m:=m) (neg:=neg) hle (e+((100:Nat):Int))).2,(Jz (m:=m) (neg:=neg) hle (e+((100+j:Nat):Int))).2]
  exact a9f (by omega) hj.2
theorem a3b {N j r k:Nat} (hk:1≤k) (hr:r<10 ^ j):Es (N*10 ^ j+r) (k+j)=Es N k:=by
 obtain ⟨i,rfl⟩ : ∃ i,k=i+1:=⟨k-1,by omega⟩
 rw[show i+1+j=(j+i)+1 by omega]
 show (N*10 ^ j+r) / 10 ^ (j+i) % 10=N / 10 ^ i % 10
 have hp:0<10 ^ j:=Nat.pow_pos (by decide)
 rw[Nat.pow_add,← Nat.div_div_eq_div_mul,Nat.mul_comm,Nat.mul_add_div hp,Nat.div_eq_of_lt hr,Nat.add_zero]
theorem a9m {N j r k:Nat} (hr:r<10 ^ j):(N*10 ^ j+r) / 10 ^ (k+j)=N / 10 ^ k:=by
 have hp:0<10 ^ j:=Nat.pow_pos (by decide)
 rw[show k+j=j+k by omega,Nat.pow_add,← Nat.div_div_eq_div_mul,Nat.mul_comm,Nat.mul_add_div hp,Nat.div_eq_of_lt hr,Nat.add_zero]
theorem b1c {N j r i:Nat} (hr:r<10 ^ j):(N*10 ^ j+r) % 10 ^ (j+i)≠0↔N % 10 ^ i≠0∨r≠0:=by
 have hp:0<10 ^ j:=Nat.pow_pos (by decide)
 rw[Nat.pow_add,Nat.mod_mul,Nat.mul_comm N,Nat.mul_add_mod,Nat.mul_add_div hp,Nat.div_eq_of_lt hr,Nat.add_zero,Nat.mod_eq_of_lt hr]
 constructor
 ·intro h
  by_cases h1:N % 10 ^ i=0
  ·right
   intro h2
   rw[h1,h2] at h
   simp at h
  ·exact .inl h1
 ·rintro (h | h) h2
  ·rcases Nat.mul_eq_zero.1 (show 10 ^ j*(N % 10 ^ i)=0 by omega) with h3 | h3
   ·omega
   ·exact h h3
  ·omega
theorem a3c {N j r k:Nat} {more more':Bool} (hk:1≤k) (hr:r<10 ^ j) (hm:more=true↔more'=true∨r≠0):Eo more' (N*10 ^ j+r) (k+j)↔Eo more N k:=by
 obtain ⟨i,rfl⟩ : ∃ i,k=i+1:=⟨k-1,by omega⟩
 rw[show i+1+j=(j+i)+1 by omega]
 show more'=true∨(N*10 ^ j+r) % 10 ^ (j+i)≠0↔more=true∨N % 10 ^ i≠0
 rw[b1c hr,hm]
 constructor
 ·rintro (h | h | h)
  ·exact .inl (.inl h)
  ·exact .inr h
  ·exact .inl (.inr h)
 ·rintro ((h | h) | h)
  ·exact .inl h
  ·exact .inr (.inr h)
  ·exact .inr (.inl h)
theorem a5e {m:Int} {neg:Bool} {N j r k:Nat} {more more':Bool} (hk:1≤k) (hr:r<10 ^ j) (hm:more=true↔more'=true∨r≠0):Bg m neg (N*10 ^ j+r) more' (k+j)=Bg m neg N more k :=
 Md (a9m hr) (a3b hk hr) (a3c hk hr hm)
theorem Kn {m:Int} {neg:Bool} {N j r:Nat} {e:Int} {more more':Bool} (hN:35≤nd N) (hr:r<10 ^ j) (hm:more=true↔more'=true∨r≠0):Fg m neg (N*10 ^ j+r) (e-j) more'=Fg m neg N e more:=by
 have hN0:N≠0:=by
  intro h
  rw[h,Kd] at hN
  omega
 have hk:Dp (N*10 ^ j+r) (e-j)=Dp N e+j:=by
  unfold Dp
  rw[b4j hN0 hr]
  omega
 unfold Fg
 rw[hk,a5e (by unfold Dp;omega) hr hm,show e-(j:Int)+((Dp N e+j:Nat):Int)=e+(Dp N e:Int) by omega]
theorem Lz : ∀ k q,(Cp k q).1*10 ^ (Cp k q).2=q∧(Cp k q).2≤k
 | 0,q=>by simp[Yg]
 | k+1,q=>by
  by_cases h:q % 10=0
  ·obtain ⟨h1,h2⟩:=Lz k (q / 10)
   rw[Lm h]
   refine ⟨?_,Nat.succ_le_succ h2⟩
   show (Cp k (q / 10)).1*10 ^ ((Cp k (q / 10)).2+1)=q
   rw[Nat.pow_succ,← Nat.mul_assoc,h1]
   omega
  ·rw[Lp h]
   simp
theorem a0l {m:Int} {neg:Bool} {N:Nat} {e:Int} (hN:N<E34) (h1 : -6176≤e) (h2:e≤6111):Fg m neg N e false=(if N=0 then false else neg,N,e,true):=by
 have hk:Dp N e=0:=by
  have:=Cj 34 N hN
  unfold Dp
  omega
 have hd:Ev N (e+((0:Nat):Int))=0:=by unfold Ev;omega
 unfold Fg
 have h' : ¬ E34≤N:=by omega
 rw[hk,Yh]
 unfold Gq Gz
 rw[if_neg h',if_neg h']
 unfold Mp
 rw[hd]
 split
 ·rename_i h0
  rw[h0,show max (-6176) (min (e+((0:Nat):Int)) 6111)=e by omega]
 ·rw[if_neg (by omega),show max (e+((0:Nat):Int)-((0:Nat):Int)) (-6176)=e by omega,Nat.pow_zero,Nat.mul_one]
theorem Rb {m:Int} {neg:Bool} {N k:Nat} {more:Bool} (h:nd N≤k+34):Bg m neg N more k≤E34:=Ki (Nat.lt_of_lt_of_le (Eg N) (Nat.pow_le_pow_right (by decide) h))
theorem Yr {m:Int} {neg:Bool} {n:Nat} (h:n≤E34):Gq m neg n<E34:=by
 unfold Gq
 split
 ·have:=a0t h
  have e:n / 10 ^ (1:Int).toNat=n / 10 ^ 1:=rfl
  have:=Nl (m:=m) (neg:=neg) (more:=false) (N:=n) (k:=1)
  omega
 ·omega
theorem Ma {neg:Bool} {n:Nat} {e:Int} {g:Bool} {k:Nat} {x:Int} {ok:Bool} (h:n<E34) (ht:Mp neg n e=(g,k,x,ok)):k<E34 ∧ -6176≤x∧x≤6111∧(k=0→g=false):=by
 have hE:0<E34:=by decide
 unfold Mp at ht
 split at ht
 ·obtain ⟨rfl,rfl,rfl,rfl⟩:false=g∧0=k∧max (-6176) (min e 6111)=x∧true=ok:=by simpa using ht
  exact ⟨hE,by omega,by omega,fun _=>rfl⟩
 ·rename_i h0
  split at ht
  ·obtain ⟨rfl,rfl,rfl,rfl⟩:false=g∧0=k∧0=x∧false=ok:=by simpa using ht
   exact ⟨hE,by omega,by omega,fun _=>rfl⟩
  ·rename_i h1
   obtain ⟨rfl,rfl,rfl,rfl⟩:neg=g∧n*10 ^ Ev n e=k∧max (e-Ev n e) (-6176)=x∧true=ok:=by simpa using ht
   have hn:=Cj 34 n h
   refine ⟨?_,by omega,by omega,fun h2 => ?_⟩
   ·refine Nat.lt_of_lt_of_le (Eg _) (Nat.pow_le_pow_right (j:=34) (show 0<10 by decide) ?_)
    rw[Yb (by omega)]
    unfold Ev
    omega
   ·exfalso
    have hp:0<n*10 ^ Ev n e:=Nat.mul_pos (Nat.pos_of_ne_zero h0) (Nat.pow_pos (n:=Ev n e) (show 0<10 by decide))
    omega
theorem El {m:Int} {neg:Bool} {N:Nat} {e:Int} {more:Bool} {g:Bool} {k:Nat} {x:Int} {ok:Bool} (ht:Fh m neg N e more=(g,k,x,ok)):k<E34 ∧ -6176≤x∧x≤6111∧(k=0→g=false):=by
 unfold Fh at ht
 refine Ma (Yr ?_) ht
 rw[Uf]
 exact Ki (Nq N e)
open Go.RowKit
set_option linter.unusedVariables false
set_option linter.unusedSimpArgs false
set_option maxRecDepth 100000
abbrev T4:=Bool×Nat×Int×Bool
noncomputable def a7z (t u:T4):T4:=Fh 1 (t.1 != u.1) (t.2.1*u.2.1) (t.2.2.1+u.2.2.1) false
theorem a6t {g1 g2 o1 o2:Bool} {a b:Nat} {x1 x2:Int} (ha:a<B128) (hb:b<B128) (h1 : -100000000000000000≤x1) (h2:x1≤100000000000000000) (h3 : -100000000000000000≤x2) (h4:x2≤100000000000000000) :
  HasC Tryz.prog 13 [Bk g1 a x1,Bk g2 b x2] (fun y => ∃ g k x ok,y=.tup [Bk g k x,.v (.bool ok)]∧a7z (g1,a,x1,o1) (g2,b,x2,o2)=(g,k,x,ok)) :=
 (a9q ha hb h1 h2 h3 h4).mono fun y ⟨g,k,x,ok,s,h1,h2,h3⟩=>⟨g,k,x,ok,h1,by
  show Fh 1 (g1 != g2) (a*b) (x1+x2) false=_
  rw[Yi h2];exact h3⟩
theorem b3v {g1 g2:Bool} {a b:Nat} {x1 x2:Int} (ha:a<E34) (hb:b<E34) (h1 : -100000000000000000≤x1) (h2:x1≤100000000000000000) (h3 : -100000000000000000≤x2) (h4:x2≤100000000000000000) :
  HasC Tryz.prog 15 [Bk g1 a x1,Bk g2 b x2] (fun y => ∃ g k x ok,y=.tup [Bk g k x,.v (.bool ok)]∧Gy (g1 != g2) a b (x1-x2)=(g,k,x,ok)) :=
 (a3e ha hb h1 h2 h3 h4).mono fun y hy=>⟨_,_,_,_,hy,rfl⟩
theorem Va {x z:Int} (h:Qv .and .i64 x 1 z):z=x % 2:=by
 have e:(BitVec.ofInt 64 x &&& BitVec.ofInt 64 1).toNat=(x % 2).toNat:=by
  rw[BitVec.toNat_and]
  have e2:(BitVec.ofInt 64 (1:Int)).toNat=1:=by decide
  rw[e2,Nat.and_one_is_mod,BitVec.toNat_ofInt]
  omega
 have h':z=IntKind.i64.wrap (((BitVec.ofInt 64 x &&& BitVec.ofInt 64 1).toNat:Nat):Int):=h
 rw[e] at h'
 rw[h',show (((x % 2).toNat:Nat):Int)=x % 2 by omega]
 exact IntWalk.i64_in _ (by omega)
open Go.RowKit
set_option linter.unusedVariables false
set_option linter.unusedSimpArgs false
set_option maxRecDepth 100000
noncomputable def isq (a:Nat):Nat:=(Qi a).choose
theorem b13 (a:Nat):isq a*isq a≤a:=(Qi a).choose_spec.1
theorem b0z (a:Nat):a<(isq a+1)*(isq a+1):=(Qi a).choose_spec.2
theorem a4u {a b:Nat} (h:a*a<b*b):a<b:=by
 rcases Nat.lt_or_ge a b with k | k
 ·exact k
 ·exact absurd h (Nat.not_lt.2 (Nat.mul_le_mul k k))
theorem b8a {a s:Nat} (h1:s*s≤a) (h2:a<(s+1)*(s+1)):isq a=s:=by
 have h3:=a4u (Nat.lt_of_le_of_lt (b13 a) h2)
 have h4:=a4u (Nat.lt_of_le_of_lt h1 (b0z a))
 omega
def Co (a:Nat) (x:Int):Nat:=70-nd a+(70-nd a+(x % 2).toNat) % 2
def Vu (a:Nat) (x:Int):Nat:=(x / 2-(x-Co a x) / 2).toNat
open Classical in
noncomputable def Lg (a:Nat) (x:Int):Nat×Nat:=if isq (a*10 ^ Co a x)*isq (a*10 ^ Co a x)=a*10 ^ Co a x then Cp (Vu a x) (isq (a*10 ^ Co a x)) else (isq (a*10 ^ Co a x),0)
noncomputable def Fa (a:Nat) (x:Int):Bool:=decide (isq (a*10 ^ Co a x)*isq (a*10 ^ Co a x)≠a*10 ^ Co a x)
noncomputable def Ja (a:Nat) (x:Int):T4:=if a=0 then Fh 1 false 0 (x / 2) false else Fh 1 false (Lg a x).1 ((x-Co a x) / 2+(Lg a x).2) (Fa a x)
noncomputable def Fv (g:Bool) (a:Nat) (x:Int):T4:=if a≠0∧g=true then (false,0,0,false) else Ja a x
theorem b94 {y z:Int} (h:IntIs .i64 (y.tdiv 2) z) (h0:y % 2=0) (h1 : -1000000000000000000≤y) (h2:y≤1000000000000000000):z=y / 2:=by
 obtain ⟨k,rfl⟩ : ∃ k,y=2*k:=⟨y / 2,by omega⟩
 rw[Int.mul_tdiv_cancel_left _ (by decide)] at h
 have:=h.i64 (by omega)
 omega
theorem b11 {A:Nat} (hA:A<B128*B128):HasC Tryz.prog 75 [dU (A / B128),dU (A % B128)] (fun y => ∃ (r:Nat) (b:Bool),y=.tup [dU r,.v (.bool b)]∧(b=true↔r*r=A)∧r<B128∧isq A=r):=by
 refine (b2k (Nat.div_lt_of_lt_mul hA) (Az A)).mono fun y hy => ?_
 rw[Nat.div_add_mod'] at hy
 obtain ⟨r,b,h1,h2,h3,h4,h5⟩:=hy
 exact ⟨r,b,h1,h2,h3,b8a h4 h5⟩
theorem b7v {a:Nat} {g:Bool} (h:(if a=0 then 0 else if g=true then -1 else 1:Int)<0):a≠0∧g=true:=by
 by_cases k:a=0
 ·rw[if_pos k] at h
  exact absurd h (by decide)
 ·rw[if_neg k] at h
  cases g with
  | false=>exact absurd h (by decide)
  | true=>exact ⟨k,rfl⟩
set_option maxHeartbeats 1600000 in
theorem a35 {g:Bool} {a:Nat} {x:Int} (ha:a<E34) (hx0 : -100000000000000000≤x) (hx1:x≤100000000000000000):HasC Tryz.prog 28 [.agg [.v (.bool g),.v (.int .u64 (hiW (a))),.v (.int .u64 (loW (a))),.v (.int .i64 x)]] (fun y=>y=Xb (Fv g a x)):=by
 refine hO [] Tryz.f28 (fun a w=>Tryz.call28 a w) Tryz.func28 rfl (⟨_,rfl⟩) ?_
 have haB:=Nat.lt_trans ha Br
 refine Aa rfl (iQ 3 ?_)
 let Z1:=zH [(1,[Bv g,Hw a,Lw a,Iv x]),(2,[Bv false,Uv 0,Uv 0,Iv 0])] []
 refine iE 95 [(1,.p 1 0),(2,.p 2 0),(3,Ba false)] Z1 ?_
 refine Ae (Aa rfl (iQ 1 (eC 74 [.agg [Bv g,Hw a,Lw a,Iv x]] 17 (b2h haB) (jB .lss 3 (.int .i64 ((if a=0 then 0 else if g=true then -1 else 1:Int))) (.int .i64 0) 18 ?_))))
 intro c18 hc18
 let Z2:=zT [(1,.p 1 0),(2,.p 2 0),(3,Ba false),(18,Ba c18)] []
 refine iE 95 Z2 Z1 ?_
 cases c18
 ·replace hc18:=bf hc18
  have hsg : ¬ (a≠0∧g=true):=by rintro ⟨k1,k2⟩;rw[if_neg k1,if_pos k2] at hc18;exact hc18 (by decide)
  refine iF (Ad (Af (Aa rfl (iQ 2 (jB .and 3 (.int .i64 x) (.int .i64 1) 22 ?_)))))
  intro z22 hz22
  replace hz22:=Va hz22
  refine iQ 1 ?_
  let Z3:=zT [(1,.p 1 0),(2,.p 2 0),(3,Ba false),(4,Ia z22),(18,Ba false)] []
  refine iE 95 Z3 Z1 ?_
  refine Aa rfl (iQ 3 (jB .sub 3 (.int .i64 x) (.int .i64 z22) 26 ?_))
  intro z26 hz26
  try replace hz26:=hz26.i64 (by omega)
  refine jB .quo 3 (.int .i64 z26) (.int .i64 2) 27 ?_
  refine And.intro (by omega) ?_
  intro z27 hz27
  replace hz27:=b94 hz27 (by omega) (by omega) (by omega)
  have hlk:z27=x / 2:=by omega
  refine iQ 1 (iE 95 (zT [(5,Ia z27)] Z3) Z1 ?_)
  refine Ae (Aa rfl (iQ 1 (jC 16 [.agg [Bv g,Hw a,Lw a,Iv x]] 29 (Du haB) ?_)))
  rintro _ ⟨z,rfl,hz⟩
  refine iE 95 (zT [(5,Ia z27),(29,Ba z)] Z3) Z1 ?_
  cases z
  ·replace hz:=bf hz
   have hna:=Cj 34 a ha
   refine iF (Ad (Af (Aa rfl (iQ 1 (eC 62 [.agg [Bv g,Hw a,Lw a,Iv x]] 36 (Pb haB) (jB .sub 3 (.int .i64 70) (.int .i64 ((nd a:Int))) 37 ?_))))))
   intro z37 hz37
   try replace hz37:=hz37.i64 (by omega)
   refine jL .max [3,3] [.int .i64 0,.int .i64 z37] 38 ?_
   intro z38 hz38
   simp only at hz38
   refine iQ 1 (iE 95 (zT [(5,Ia z27),(6,Ia z38),(29,Ba false)] Z3) Z1 ?_)
   refine Aa rfl (iQ 3 (jB .add 3 (.int .i64 z38) (.int .i64 z22) 42 ?_))
   intro z42 hz42
   try replace hz42:=hz42.i64 (by omega)
   refine jB .and 3 (.int .i64 z42) (.int .i64 1) 43 ?_
   intro z43 hz43
   replace hz43:=Va hz43
   obtain ⟨n,hn⟩ : ∃ n,n=Co a x:=⟨_,rfl⟩
   have hnv:=hn;unfold Co at hnv
   refine jB .add 3 (.int .i64 z38) (.int .i64 z43) 44 ?_
   intro z44 hz44
   try replace hz44:=hz44.i64 (by omega)
   have h44:z44=(n:Int)∧n≤71∧((n:Int)+x) % 2=0∧nd a+n≤71:=by omega
   have hA:a*10 ^ n<B128*B128:=Nat.lt_of_lt_of_le (Nat.mul_lt_mul_of_pos_right (Eg a) (Nat.pow_pos (by decide))) (by rw[← Nat.pow_add];exact Nat.le_trans (Nat.pow_le_pow_right (by decide) h44.2.2.2) (by decide))
   refine iQ 1 (iE 95 (zT [(5,Ia z27),(6,Ia z44),(29,Ba false)] Z3) Z1 ?_)
   refine Aa rfl (iQ 3 (eC 63 [.agg [Hw a,Lw a],Iv z44] 49 (Vv (n:=n) (by omega) haB (by omega) hA) (iQ 7 ?_)))
   let Z4:=zT [(5,Ia z27),(6,Ia z44),(7,.p 7 0),(8,.p 8 0),(29,Ba false)] []
   let Z5:=zH [(7,[Hw (a*10 ^ n / B128),Lw (a*10 ^ n / B128)])] []
   let Z6:=zH [(8,[Hw (a*10 ^ n % B128),Lw (a*10 ^ n % B128)])] []
   let Z7:=zH Z6 (zH Z5 Z1)
   refine iE 95 (zT Z4 Z3) Z7 ?_
   refine Aa rfl (iQ 2 (jC 75 [.agg [Hw (a*10 ^ n / B128),Lw (a*10 ^ n / B128)],.agg [Hw (a*10 ^ n % B128),Lw (a*10 ^ n % B128)]] 55 (b11 hA) ?_))
   rintro _ ⟨q,al,rfl,hal,hqB,hq⟩
   refine iQ 6 (iE 95 (zT [(9,.p 9 0),(10,Ba al)] (zT Z3 Z4)) (zH [(9,[Hw q,Lw q])] Z7) ?_)
   refine Aa rfl (iQ 4 (jB .sub 3 (.int .i64 x) (.int .i64 z44) 62 ?_))
   intro z62 hz62
   try replace hz62:=hz62.i64 (by omega)
   refine jB .quo 3 (.int .i64 z62) (.int .i64 2) 63 ?_
   refine And.intro (by omega) ?_
   intro z63 hz63
   replace hz63:=b94 hz63 (by omega) (by omega) (by omega)
   have hy:z63=(x-n) / 2:=by omega
   obtain ⟨L,hL⟩ : ∃ L,L=Vu a x:=⟨_,rfl⟩
   have hLv:=hL;unfold Vu at hLv;rw[← hn] at hLv
   refine iQ 1 (jU .not (.bool al) 65 ?_)
   intro c65 hc65
   have hm:Fa a x=c65:=by rw[Fa,← hn,hq,Bool.eq_iff_iff,hc65];cases al<;>simp_all
   refine iQ 3 ?_
   let Z8:=zH [(11,[Bv false,Uv 0,Uv 0,Hw q,Lw q,Iv z63,Bv c65])] []
   refine iE 95 (zT [(9,.p 9 0),(10,Ba al),(11,.p 11 0)] (zT Z3 Z4)) (zH [(9,[Hw q,Lw q])] (zH Z8 Z7)) ?_
   refine Ae (Ak (Bq 95 (fun (vcx:Nat×Nat×Int)=>match vcx with | (j,p,y)=>[(1,.p 1 0),(2,.p 2 0),(3,Ba false),(4,Ia z22),(5,Ia z27),(6,Ia z44),(7,.p 7 0),(8,.p 8 0),(9,.p 9 0),(10,Ba al),(11,.p 11 0),(18,Ba false),(29,Ba false)]) (fun (vcx:Nat×Nat×Int)=>match vcx with | (j,p,y)=>[(1,[Bv g,Hw a,Lw a,Iv x]),(2,[Bv false,Uv 0,Uv 0,Iv 0]),(7,[Hw (a*10 ^ n / B128),Lw (a*10 ^ n / B128)]),(8,[Hw (a*10 ^ n % B128),Lw (a*10 ^ n % B128)]),(9,[Hw q,Lw q]),(11,[Bv false,Uv 0,Uv 0,Hw p,Lw p,Iv y,Bv c65])]) (fun (vcx:Nat×Nat×Int)=>match vcx with | (j,p,y)=>j≤L∧y=(x-(n:Int)) / 2+(j:Int)∧p<B128∧Cp L q=((Cp (L-j) p).1,(Cp (L-j) p).2+j)∧(al=false→j=0∧p=q)) (fun (vcx:Nat×Nat×Int)=>match vcx with | (j,p,y)=>L-j) ((0,q,z63)) (⟨by omega,by omega,hqB,by simp,fun _=>⟨rfl,rfl⟩⟩) (by kernel_rfl) (by kernel_rfl) ?_))
   rintro ⟨j,p,y⟩ hinv
   simp only at hinv
   obtain ⟨hj,hjy,hp,hs,hm0⟩:=hinv
   refine Ae (Aa rfl (iQ 2 ?_))
   cases al
   ·refine iQ 5 ?_
    let Z9:=zT [(1,.p 1 0),(2,.p 2 0),(3,Ba false),(4,Ia z22),(5,Ia z27),(6,Ia z44),(7,.p 7 0),(8,.p 8 0),(9,.p 9 0),(10,Ba false),(11,.p 11 0),(18,Ba false),(29,Ba false),(73,Ba false)] []
    let Z10:=zH [(11,[Bv false,Uv 0,Uv 0,Hw p,Lw p,Iv y,Bv c65])] []
    refine iE 95 Z9 (zH [(9,[Hw q,Lw q])] (zH Z10 Z7)) ?_
    obtain ⟨hj0,hpq⟩:=hm0 rfl
    have hQ:Lg a x=(p,j):=by rw[Lg,← hn,hq,if_neg (fun h=>by simpa using hal.2 h),hj0,hpq]
    refine iF (Be (Ce (Bj (Bd rfl (Af (Aa rfl (iQ 1 (jC 56 [.agg [Bv false,Uv 0,Uv 0,Hw p,Lw p,Iv y,Bv c65],Iv 1] 92 (Ik (m:=1) (N:=p) hp (by omega) (by omega)) ?_))))))))
    rintro _ ⟨g',k,x',ok,rfl,hT⟩
    refine iQ 4 ?_
    let Z11:=zT [(1,.p 1 0),(2,.p 2 0),(3,Ba ok),(4,Ia z22),(5,Ia z27),(6,Ia z44),(7,.p 7 0),(8,.p 8 0),(9,.p 9 0),(10,Ba false),(11,.p 11 0),(18,Ba false),(29,Ba false),(73,Ba false)] []
    let Z12:=zH [(1,[Bv g,Hw a,Lw a,Iv x]),(2,[Bv g',Hw k,Lw k,Iv x']),(9,[Hw q,Lw q])] []
    let Z13:=zH Z12 (zH Z10 (zH Z5 Z6))
    refine iE 95 Z11 Z13 ?_
    refine Ab (iS (.agg [Bv g',Hw k,Lw k,Iv x']) (Bv ok) [] ?_)
    rw[Fv,if_neg hsg,Ja,if_neg hz,hQ,hm,← hn,← hjy,hT]
    rfl
   ·refine iQ 3 (jB .lss 3 (.int .i64 y) (.int .i64 z27) 72 ?_)
    have hqq:q*q=a*10 ^ n:=hal.1 rfl
    intro c72 hc72
    refine iQ 1 ?_
    let Z14:=zT [(1,.p 1 0),(2,.p 2 0),(3,Ba false),(4,Ia z22),(5,Ia z27),(6,Ia z44),(7,.p 7 0),(8,.p 8 0),(9,.p 9 0),(10,Ba true),(11,.p 11 0),(18,Ba false),(29,Ba false),(73,Ba c72)] []
    let Z15:=zH [(11,[Bv false,Uv 0,Uv 0,Hw p,Lw p,Iv y,Bv c65])] []
    refine iE 95 Z14 (zH [(9,[Hw q,Lw q])] (zH Z15 Z7)) ?_
    cases c72
    ·replace hc72:=bf hc72
     have hQ:Lg a x=(p,j):=by rw[Lg,← hn,hq,if_pos hqq,← hL,hs,show L-j=0 by omega];simp[Yg]
     refine iF (Be (Ce (Bj (Bd rfl (Af (Aa rfl (iQ 1 (jC 56 [.agg [Bv false,Uv 0,Uv 0,Hw p,Lw p,Iv y,Bv c65],Iv 1] 92 (Ik (m:=1) (N:=p) hp (by omega) (by omega)) ?_))))))))
     rintro _ ⟨g',k,x',ok,rfl,hT⟩
     refine iQ 4 ?_
     let Z16:=zT [(1,.p 1 0),(2,.p 2 0),(3,Ba ok),(4,Ia z22),(5,Ia z27),(6,Ia z44),(7,.p 7 0),(8,.p 8 0),(9,.p 9 0),(10,Ba true),(11,.p 11 0),(18,Ba false),(29,Ba false),(73,Ba false)] []
     let Z17:=zH [(1,[Bv g,Hw a,Lw a,Iv x]),(2,[Bv g',Hw k,Lw k,Iv x']),(9,[Hw q,Lw q])] []
     let Z18:=zH Z17 (zH Z15 (zH Z5 Z6))
     refine iE 95 Z16 Z18 ?_
     refine Ab (iS (.agg [Bv g',Hw k,Lw k,Iv x']) (Bv ok) [] ?_)
     rw[Fv,if_neg hsg,Ja,if_neg hz,hQ,hm,← hn,← hjy,hT]
     rfl
    ·replace hc72:=bt hc72
     refine iT (Ad (Af (Ak (Aa rfl (iQ 3 (eC 64 [.agg [Uv 0,Uv 0],.agg [Hw p,Lw p],Uv 10] 78 (Ga hp) (iQ 11 ?_)))))))
     let Z19:=zT [(1,.p 1 0),(2,.p 2 0),(3,Ba false),(4,Ia z22),(5,Ia z27),(6,Ia z44),(7,.p 7 0),(8,.p 8 0),(9,.p 9 0),(10,Ba true),(11,.p 11 0),(13,.p 13 0),(14,.d (Uv (((p % 10:Nat):Int)))),(18,Ba false),(29,Ba false),(73,Ba true)] []
     let Z20:=zH [(9,[Hw q,Lw q]),(13,[Hw (p / 10),Lw (p / 10)])] []
     let Z21:=zH Z20 (zH Z7 Z15)
     refine iE 95 Z19 Z21 ?_
     refine Ae (Aa rfl (iQ 1 (jB .neq 22 (.int .u64 (((p % 10:Nat):Int))) (.int .u64 0) 84 ?_)))
     intro c84 hc84
     refine iE 95 (zT [(84,Ba c84)] Z19) Z21 ?_
     cases c84
     ·replace hc84:=bf hc84
      have hp10:p % 10=0:=by omega
      refine iF (Ad (Af (Am rfl (iQ 3 (jB .add 3 (.int .i64 y) (.int .i64 1) 88 ?_)))))
      intro z88 hz88
      try replace hz88:=hz88.i64 (by omega)
      refine iQ 4 ?_
      let Z22:=zH [(11,[Bv false,Uv 0,Uv 0,Hw (p / 10),Lw (p / 10),Iv z88,Bv c65])] []
      let Z23:=zH Z22 (zH Z7 Z20)
      refine iE 95 (zT [(84,Ba false)] Z19) Z23 ?_
      refine Ap ?_
      refine Bm (j+1,p / 10,z88) (⟨by omega,by omega,by omega,by rw[hs,show L-j=(L-(j+1))+1 by omega,Lm hp10];exact Prod.ext rfl (by simp;omega),fun h=>by cases h⟩) (by show L-(j+1)<L-j;omega) (by kernel_rfl) (by kernel_rfl)
     ·replace hc84:=bt hc84
      have hp10:p % 10≠0:=by omega
      have hQ:Lg a x=(p,j):=by rw[Lg,← hn,hq,if_pos hqq,← hL,hs,show L-j=(L-(j+1))+1 by omega,Lp hp10];simp
      refine iT (Be (Ce (a4s rfl (Bj (Bd rfl (Af (Aa rfl (iQ 1 (jC 56 [.agg [Bv false,Uv 0,Uv 0,Hw p,Lw p,Iv y,Bv c65],Iv 1] 92 (Ik (m:=1) (N:=p) hp (by omega) (by omega)) ?_)))))))))
      rintro _ ⟨g',k,x',ok,rfl,hT⟩
      refine iQ 4 ?_
      let Z24:=zT [(1,.p 1 0),(2,.p 2 0),(3,Ba ok),(4,Ia z22),(5,Ia z27),(6,Ia z44),(7,.p 7 0),(8,.p 8 0),(9,.p 9 0),(10,Ba true),(11,.p 11 0),(13,.p 13 0),(14,.d (Uv (((p % 10:Nat):Int)))),(18,Ba false),(29,Ba false),(73,Ba true),(84,Ba true)] []
      let Z25:=zH [(1,[Bv g,Hw a,Lw a,Iv x]),(2,[Bv g',Hw k,Lw k,Iv x'])] []
      let Z26:=zH Z25 (zH Z15 (zH Z5 (zH Z6 Z20)))
      refine iE 95 Z24 Z26 ?_
      refine Ab (iS (.agg [Bv g',Hw k,Lw k,Iv x']) (Bv ok) [] ?_)
      rw[Fv,if_neg hsg,Ja,if_neg hz,hQ,hm,← hn,← hjy,hT]
      rfl
  ·replace hz:=bt hz
   refine iT (Aa rfl (iQ 2 (jC 56 [.agg [Bv false,Uv 0,Uv 0,Uv 0,Uv 0,Iv z27,Bv false],Iv 1] 32 (a4c (m:=1) (by omega) (by omega)) ?_)))
   rintro _ ⟨g',k,x',ok,rfl,hT⟩
   refine iQ 4 ?_
   let Z27:=zT [(1,.p 1 0),(2,.p 2 0),(3,Ba ok),(4,Ia z22),(5,Ia z27),(18,Ba false),(29,Ba true)] []
   let Z28:=zH [(1,[Bv g,Hw a,Lw a,Iv x]),(2,[Bv g',Hw k,Lw k,Iv x'])] []
   refine iE 95 Z27 Z28 ?_
   refine Ab (Ag (iS (.agg [Bv g',Hw k,Lw k,Iv x']) (Bv ok) [] ?_))
   rw[Fv,if_neg hsg,Ja,if_pos hz,← hlk,hT]
   rfl
 ·replace hc18:=bt hc18
  have hsg:=b7v hc18
  refine iT (Aa rfl (iQ 3 ?_))
  let Z29:=zT [(1,.p 1 0),(2,.p 2 0),(3,Ba false),(18,Ba true)] []
  refine iE 95 Z29 Z1 ?_
  refine Ab (Ag (iS (.agg [Bv false,Uv 0,Uv 0,Iv 0]) (Bv false) [] ?_))
  rw[Fv,if_pos hsg]
  rfl
end Go.Proofs.YtdkgnmiiibpnnaaGreatDoor
