/- civil: leap years, the lengths of months, days and their numbers. civil: a day comes back from its number; the order of days is that of their numbers; months later; which of two days is ahead. lexical: what the texts of days, times and durations are, what is read of a text: in lists of bytes, with no program in sight. lexical: the texts of days, times, moments and durations. -/
import Derived.Test.YtfkfpkhgoijfdaaGreatDoorVcZ
import Derived.Test.YtfkfpkhgoijfdaaGreatDoorIto
namespace Go.Proofs.YtfkfpkhgoijfdaaGreatDoor
open Go.RowKit
set_option linter.unusedVariables false
set_option linter.unusedSimpArgs false
set_option maxRecDepth 100000
theorem b4d (a:Int) {b:Int} (hb:0<b) : -(a.natAbs:Int)≤a.tdiv b∧a.tdiv b≤a.natAbs:=by
 rcases Int.le_total 0 a with h | h
 ·rw[Int.tdiv_eq_ediv_of_nonneg h]
  have h1:=Int.ediv_nonneg h (Int.le_of_lt hb)
  have h2:=Int.ediv_le_self b h
  omega
 ·obtain ⟨c,rfl⟩ : ∃ c,a = -c:=⟨-a,by omega⟩
  have hc:0≤c:=by omega
  rw[Int.neg_tdiv,Int.tdiv_eq_ediv_of_nonneg hc]
  have h1:=Int.ediv_nonneg hc (Int.le_of_lt hb)
  have h2:=Int.ediv_le_self b hc
  omega
theorem b3h {a n z:Int} (h:IntIs .i64 (a.tdiv n) z) (hn:0<n) (h0 : -9223372036854775807≤a) (h1:a≤9223372036854775807):z=a.tdiv n:=h.i64 (by
 have:=b4d a hn
 omega)
theorem Dk {a n z:Int} (h:IntIs .i64 (a.tdiv n) z) (hn:0<n) (h0:0≤a) (h1:a≤9223372036854775807):z=a / n:=by
 rw[b3h h hn (by omega) h1,Int.tdiv_eq_ediv_of_nonneg h0]
theorem tm0 {p z n:Int} (h:z=p.tmod n) (hn:0<n):z=0↔p % n=0:=by
 have h3:n ∣ p↔p % n=0:=Int.dvd_iff_emod_eq_zero
 have h1:=Int.emod_nonneg p (show n≠0 by omega)
 have h2:=Int.emod_lt_of_pos p hn
 rw[h,Int.tmod_eq_emod]
 generalize p % n=e at *
 simp only[h3]
 split<;>omega
def Xb (y:Int):Prop:=y % 4=0∧(y % 100≠0∨y % 400=0)
instance (y:Int):Decidable (Xb y):=inferInstanceAs (Decidable (_∧_))
def Fy (y m:Int):Int:=if m=1∨m=3∨m=5∨m=7∨m=8∨m=10∨m=12 then 31 else if m=4∨m=6∨m=9∨m=11 then 30 else if m=2 then (if Xb y then 29 else 28) else 0
theorem a1e (y m:Int):0≤Fy y m∧Fy y m≤31:=by
 unfold Fy
 split
 ·decide
 ·split
  ·decide
  ·split
   ·split<;>decide
   ·decide
theorem Yy {y m:Int} (h:1≤Fy y m):1≤m∧m≤12:=by
 unfold Fy at h
 split at h
 ·omega
 ·split at h
  ·omega
  ·split at h
   ·omega
   ·omega
theorem b34 {y:Int}:HasC Tryz.prog 161 [.v (.int .i64 y)] (fun r => ∃ b,r=.v (.bool b)∧(b=true↔Xb y)):=by
 refine hO [] Tryz.f161 (fun a w=>Tryz.call161 a w) Tryz.func161 rfl (⟨_,decide (Xb y),rfl,by simp⟩) ?_
 refine Aa rfl (iQ 1 (iE 16 [(0,Ia y),(2,Ba false)] [] ?_))
 refine Aa rfl (iQ 1 (jB .rem 3 (.int .i64 y) (.int .i64 4) 4 ?_))
 refine And.intro (by omega) ?_
 intro z4 hz4
 have h4:=tm0 (n:=4) hz4 (by decide)
 refine jB .eql 3 (.int .i64 z4) (.int .i64 0) 5 ?_
 intro c5 hc5
 refine iQ 1 ?_
 cases c5
 ·replace hc5:=bf hc5
  refine iQ 10 (iE 16 [(2,Ba false)] [] ?_)
  refine Ab (iR (Bv false) ?_)
  exact ⟨_,rfl,⟨fun h=>(by cases h),fun h=>absurd (h4.2 h.1) hc5⟩⟩
 ·replace hc5:=bt hc5
  refine iQ 1 (jB .rem 3 (.int .i64 y) (.int .i64 100) 8 ?_)
  refine And.intro (by omega) ?_
  intro z8 hz8
  have h8:=tm0 (n:=100) hz8 (by decide)
  refine jB .neq 3 (.int .i64 z8) (.int .i64 0) 9 ?_
  intro c9 hc9
  refine iQ 1 ?_
  cases c9
  ·replace hc9:=bf hc9
   refine iQ 1 (jB .rem 3 (.int .i64 y) (.int .i64 400) 12 ?_)
   refine And.intro (by omega) ?_
   intro z12 hz12
   have h12:=tm0 (n:=400) hz12 (by decide)
   refine jB .eql 3 (.int .i64 z12) (.int .i64 0) 13 ?_
   intro c13 hc13
   refine iQ 3 (iE 16 [(2,Ba c13)] [] ?_)
   refine Ab (iR (Bv c13) ?_)
   exact ⟨_,rfl,by rw[hc13,h12];unfold Xb;omega⟩
  ·replace hc9:=bt hc9
   refine iQ 6 (iE 16 [(2,Ba true)] [] ?_)
   refine Ab (iR (Bv true) ?_)
   exact ⟨_,rfl,⟨fun _=>⟨h4.1 hc5,.inl fun k=>hc9 (h8.2 k)⟩,fun _=>rfl⟩⟩
set_option maxHeartbeats 1600000 in
theorem a41 {y m:Int}:HasC Tryz.prog 138 [.v (.int .i64 y),.v (.int .i64 m)] (fun r=>r=.v (.int .i64 (Fy y m))):=by
 refine hO [] Tryz.f138 (fun a w=>Tryz.call138 a w) Tryz.func138 rfl (⟨_,rfl⟩) ?_
 refine Aa rfl (iQ 1 (iE 23 [(0,Ia y),(1,Ia m),(4,Ia 0)] [] ?_))
 refine Af (Aa rfl (iQ 1 (iE 23 [(0,Ia y),(4,Ia 0),(5,Ia m)] [] ?_)))
 refine An (Af (Aa rfl (jB .eql 3 (.int .i64 m) (.int .i64 1) 7 ?_)))
 intro c7 hc7
 refine iQ 1 (iE 23 [(0,Ia y),(4,Ia 0),(5,Ia m),(6,Ba c7)] [] ?_)
 cases c7
 ·replace hc7:=bf hc7
  refine iF (Aa rfl (jB .eql 3 (.int .i64 m) (.int .i64 3) 8 ?_))
  intro c8 hc8
  refine iQ 1 (iE 23 [(0,Ia y),(4,Ia 0),(5,Ia m),(6,Ba c8)] [] ?_)
  cases c8
  ·replace hc8:=bf hc8
   refine iF (Aa rfl (jB .eql 3 (.int .i64 m) (.int .i64 5) 9 ?_))
   intro c9 hc9
   refine iQ 1 (iE 23 [(0,Ia y),(4,Ia 0),(5,Ia m),(6,Ba c9)] [] ?_)
   cases c9
   ·replace hc9:=bf hc9
    refine iF (Aa rfl (jB .eql 3 (.int .i64 m) (.int .i64 7) 10 ?_))
    intro c10 hc10
    refine iQ 1 ?_
    let Z1:=zT [(0,Ia y),(4,Ia 0),(5,Ia m),(6,Ba c10)] []
    refine iE 23 Z1 [] ?_
    cases c10
    ·replace hc10:=bf hc10
     refine iF (Aa rfl (jB .eql 3 (.int .i64 m) (.int .i64 8) 11 ?_))
     intro c11 hc11
     refine iQ 1 ?_
     let Z2:=zT [(0,Ia y),(4,Ia 0),(5,Ia m),(6,Ba c11)] []
     refine iE 23 Z2 [] ?_
     cases c11
     ·replace hc11:=bf hc11
      refine iF (Aa rfl (jB .eql 3 (.int .i64 m) (.int .i64 10) 12 ?_))
      intro c12 hc12
      refine iQ 1 ?_
      let Z3:=zT [(0,Ia y),(4,Ia 0),(5,Ia m),(6,Ba c12)] []
      refine iE 23 Z3 [] ?_
      cases c12
      ·replace hc12:=bf hc12
       refine iF (Am rfl (jB .eql 3 (.int .i64 m) (.int .i64 12) 13 ?_))
       intro c13 hc13
       refine iQ 1 ?_
       let Z4:=zT [(0,Ia y),(4,Ia 0),(5,Ia m),(6,Ba c13)] []
       refine iE 23 Z4 [] ?_
       refine Ae ?_
       cases c13
       ·replace hc13:=bf hc13
        refine iF (Af (Aa rfl (jB .eql 3 (.int .i64 m) (.int .i64 4) 15 ?_)))
        intro c15 hc15
        refine iQ 1 ?_
        let Z5:=zT [(0,Ia y),(4,Ia 0),(5,Ia m),(6,Ba false),(14,Ba c15)] []
        refine iE 23 Z5 [] ?_
        cases c15
        ·replace hc15:=bf hc15
         refine iF (Aa rfl (jB .eql 3 (.int .i64 m) (.int .i64 6) 16 ?_))
         intro c16 hc16
         refine iQ 1 ?_
         let Z6:=zT [(0,Ia y),(4,Ia 0),(5,Ia m),(6,Ba false),(14,Ba c16)] []
         refine iE 23 Z6 [] ?_
         cases c16
         ·replace hc16:=bf hc16
          refine iF (Aa rfl (jB .eql 3 (.int .i64 m) (.int .i64 9) 17 ?_))
          intro c17 hc17
          refine iQ 1 ?_
          let Z7:=zT [(0,Ia y),(4,Ia 0),(5,Ia m),(6,Ba false),(14,Ba c17)] []
          refine iE 23 Z7 [] ?_
          cases c17
          ·replace hc17:=bf hc17
           refine iF (Am rfl (jB .eql 3 (.int .i64 m) (.int .i64 11) 18 ?_))
           intro c18 hc18
           refine iQ 1 ?_
           let Z8:=zT [(0,Ia y),(4,Ia 0),(5,Ia m),(6,Ba false),(14,Ba c18)] []
           refine iE 23 Z8 [] ?_
           refine Ae ?_
           cases c18
           ·replace hc18:=bf hc18
            refine iF (Aa rfl (jB .eql 3 (.int .i64 m) (.int .i64 2) 20 ?_))
            intro c20 hc20
            refine iQ 1 ?_
            let Z9:=zT [(0,Ia y),(4,Ia 0),(5,Ia m),(6,Ba false),(14,Ba false),(19,Ba c20)] []
            refine iE 23 Z9 [] ?_
            cases c20
            ·replace hc20:=bf hc20
             refine iF (Ad (Ao (Ae (Aa rfl (iQ 1 ?_)))))
             let Z10:=zT [(0,Ia y),(4,Ia 0),(5,Ia m),(6,Ba false),(14,Ba false),(19,Ba false)] []
             refine iE 23 Z10 [] ?_
             refine Ab (iR (Iv 0) ?_)
             rw[Fy,if_neg (by omega),if_neg (by omega),if_neg (by omega)]
            ·replace hc20:=bt hc20
             refine iT (Af (Aa rfl (iQ 1 (jC 161 [Iv y] 22 (b34) ?_))))
             rintro _ ⟨lp,rfl,hlp⟩
             let Z11:=zT [(4,Ia 0),(5,Ia m),(6,Ba false),(14,Ba false),(19,Ba true),(22,Ba lp)] []
             refine iE 23 Z11 [] ?_
             cases lp
             ·replace hlp:=bf hlp
              refine iF (Ad (Ae (Aa rfl (iQ 1 ?_))))
              let Z12:=zT [(4,Ia 28),(5,Ia m),(6,Ba false),(14,Ba false),(19,Ba true),(22,Ba false)] []
              refine iE 23 Z12 [] ?_
              refine Ab (Aj (Ah (iR (Iv 28) ?_)))
              rw[Fy,if_neg (by omega),if_neg (by omega),if_pos (by omega),if_neg hlp]
             ·replace hlp:=bt hlp
              refine iT (Aa rfl (iQ 1 ?_))
              let Z13:=zT [(4,Ia 29),(5,Ia m),(6,Ba false),(14,Ba false),(19,Ba true),(22,Ba true)] []
              refine iE 23 Z13 [] ?_
              refine Ab (Ah (Aj (Ah (iR (Iv 29) ?_))))
              rw[Fy,if_neg (by omega),if_neg (by omega),if_pos (by omega),if_pos hlp]
           ·replace hc18:=bt hc18
            refine iT (Aa rfl (iQ 1 ?_))
            let Z14:=zT [(0,Ia y),(4,Ia 30),(5,Ia m),(6,Ba false),(14,Ba true)] []
            refine iE 23 Z14 [] ?_
            refine Ab (Aj (Ah (iR (Iv 30) ?_)))
            rw[Fy,if_neg (by omega),if_pos (by omega)]
          ·replace hc17:=bt hc17
           refine iT (Ad (Ae (iT (Aa rfl (iQ 1 ?_)))))
           let Z15:=zT [(0,Ia y),(4,Ia 30),(5,Ia m),(6,Ba false),(14,Ba true)] []
           refine iE 23 Z15 [] ?_
           refine Ab (Aj (Ah (iR (Iv 30) ?_)))
           rw[Fy,if_neg (by omega),if_pos (by omega)]
         ·replace hc16:=bt hc16
          refine iT (Ad (Ae (iT (Aa rfl (iQ 1 ?_)))))
          let Z16:=zT [(0,Ia y),(4,Ia 30),(5,Ia m),(6,Ba false),(14,Ba true)] []
          refine iE 23 Z16 [] ?_
          refine Ab (Aj (Ah (iR (Iv 30) ?_)))
          rw[Fy,if_neg (by omega),if_pos (by omega)]
        ·replace hc15:=bt hc15
         refine iT (Ad (Ae (iT (Aa rfl (iQ 1 ?_)))))
         let Z17:=zT [(0,Ia y),(4,Ia 30),(5,Ia m),(6,Ba false),(14,Ba true)] []
         refine iE 23 Z17 [] ?_
         refine Ab (Aj (Ah (iR (Iv 30) ?_)))
         rw[Fy,if_neg (by omega),if_pos (by omega)]
       ·replace hc13:=bt hc13
        refine iT (Aa rfl (iQ 1 ?_))
        let Z18:=zT [(0,Ia y),(4,Ia 31),(5,Ia m),(6,Ba true)] []
        refine iE 23 Z18 [] ?_
        refine Ab (Aj (Ah (iR (Iv 31) ?_)))
        rw[Fy,if_pos (by omega)]
      ·replace hc12:=bt hc12
       refine iT (Ad (Ae (iT (Aa rfl (iQ 1 ?_)))))
       let Z19:=zT [(0,Ia y),(4,Ia 31),(5,Ia m),(6,Ba true)] []
       refine iE 23 Z19 [] ?_
       refine Ab (Aj (Ah (iR (Iv 31) ?_)))
       rw[Fy,if_pos (by omega)]
     ·replace hc11:=bt hc11
      refine iT (Ad (Ae (iT (Aa rfl (iQ 1 ?_)))))
      let Z20:=zT [(0,Ia y),(4,Ia 31),(5,Ia m),(6,Ba true)] []
      refine iE 23 Z20 [] ?_
      refine Ab (Aj (Ah (iR (Iv 31) ?_)))
      rw[Fy,if_pos (by omega)]
    ·replace hc10:=bt hc10
     refine iT (Ad (Ae (iT (Aa rfl (iQ 1 ?_)))))
     let Z21:=zT [(0,Ia y),(4,Ia 31),(5,Ia m),(6,Ba true)] []
     refine iE 23 Z21 [] ?_
     refine Ab (Aj (Ah (iR (Iv 31) ?_)))
     rw[Fy,if_pos (by omega)]
   ·replace hc9:=bt hc9
    refine iT (Ad (Ae (iT (Aa rfl (iQ 1 ?_)))))
    let Z22:=zT [(0,Ia y),(4,Ia 31),(5,Ia m),(6,Ba true)] []
    refine iE 23 Z22 [] ?_
    refine Ab (Aj (Ah (iR (Iv 31) ?_)))
    rw[Fy,if_pos (by omega)]
  ·replace hc8:=bt hc8
   refine iT (Ad (Ae (iT (Aa rfl (iQ 1 ?_)))))
   let Z23:=zT [(0,Ia y),(4,Ia 31),(5,Ia m),(6,Ba true)] []
   refine iE 23 Z23 [] ?_
   refine Ab (Aj (Ah (iR (Iv 31) ?_)))
   rw[Fy,if_pos (by omega)]
 ·replace hc7:=bt hc7
  refine iT (Ad (Ae (iT (Aa rfl (iQ 1 ?_)))))
  let Z24:=zT [(0,Ia y),(4,Ia 31),(5,Ia m),(6,Ba true)] []
  refine iE 23 Z24 [] ?_
  refine Ab (Aj (Ah (iR (Iv 31) ?_)))
  rw[Fy,if_pos (by omega)]
def Fv (y m d:Int):Prop := -999999999≤y∧y≤999999999∧1≤d∧d≤Fy y m
instance (y m d:Int):Decidable (Fv y m d):=inferInstanceAs (Decidable (_∧_))
theorem Nu {y m d:Int}:HasC Tryz.prog 110 [.agg [.v (.int .i64 y),.v (.int .i64 m),.v (.int .i64 d)]] (fun r => ∃ b,r=.v (.bool b)∧(b=true↔Fv y m d)):=by
 refine hO [] Tryz.f110 (fun a w=>Tryz.call110 a w) Tryz.func110 rfl (⟨_,decide (Fv y m d),rfl,by simp⟩) ?_
 refine Aa rfl (iQ 2 (iE 26 [(1,.p 1 0),(2,Ba false)] [(1,[Iv y,Iv m,Iv d])] ?_))
 refine Aa rfl (iQ 2 (jB .geq 3 (.int .i64 y) (.int .i64 (-999999999)) 5 ?_))
 intro c5 hc5
 refine iQ 1 ?_
 cases c5
 ·replace hc5:=bf hc5
  refine iQ 20 (iE 26 [(2,Ba false)] [] ?_)
  refine Ab (iR (Bv false) ?_)
  exact ⟨_,rfl,⟨fun h=>(by cases h),fun h=>by unfold Fv at h;omega⟩⟩
 ·replace hc5:=bt hc5
  refine iQ 2 (jB .leq 3 (.int .i64 y) (.int .i64 999999999) 9 ?_)
  intro c9 hc9
  refine iQ 2 ?_
  cases c9
  ·replace hc9:=bf hc9
   refine iQ 15 (iE 26 [(2,Ba false)] [] ?_)
   refine Ab (iR (Bv false) ?_)
   exact ⟨_,rfl,⟨fun h=>(by cases h),fun h=>by unfold Fv at h;omega⟩⟩
  ·replace hc9:=bt hc9
   refine iQ 2 (jB .geq 3 (.int .i64 d) (.int .i64 1) 14 ?_)
   intro c14 hc14
   refine iQ 2 ?_
   cases c14
   ·replace hc14:=bf hc14
    refine iQ 10 (iE 26 [(2,Ba false)] [] ?_)
    refine Ab (iR (Bv false) ?_)
    exact ⟨_,rfl,⟨fun h=>(by cases h),fun h=>by unfold Fv at h;omega⟩⟩
   ·replace hc14:=bt hc14
    refine iQ 6 (eC 138 [Iv y,Iv m] 23 (a41) (jB .leq 3 (.int .i64 d) (.int .i64 (Fy y m)) 24 ?_))
    intro c24 hc24
    refine iQ 2 (iE 26 [(2,Ba c24)] [] ?_)
    refine Ab (iR (Bv c24) ?_)
    exact ⟨_,rfl,by rw[hc24];unfold Fv;omega⟩
def b5m (y m d:Int):Int:=146097*(y / 400)+365*(y-400*(y / 400))+(y-400*(y / 400)) / 4-(y-400*(y / 400)) / 100+((153*(m-3)+2) / 5+d-1)-719468
def b7v (y m d:Int):Int:=if m≤2 then b5m (y-1) (m+12) d else b5m y m d
open Go.RowKit
set_option linter.unusedVariables false
set_option linter.unusedSimpArgs false
set_option maxRecDepth 100000
structure MarIs (y m y1 m1:Int):Prop where
 h:(m≤2∧y1=y-1∧m1=m+12)∨(2<m∧y1=y∧m1=m)
open Go.RowKit
set_option linter.unusedVariables false
set_option linter.unusedSimpArgs false
set_option maxRecDepth 100000
def Ld (y m d:Int):L8:=(if y<0 then [45] else []) ++ Br (if y<0 then -y else y) 4 ++ [45] ++ Br m 2 ++ [45] ++ Br d 2
def Eu (y m d:Int):L8:=if Fv y m d then Ld y m d else []
def Sf (o:Int):L8:=Br (o / 3600) 2 ++ [58] ++ Br (o % 3600 / 60) 2 ++ (if o % 60=0 then [] else 58::Br (o % 60) 2)
def Ig (z:Bool) (o:Int):L8:=if z=false then [] else if o=0 then [90] else if o<0 then 45::Sf (-o) else 43::Sf o
def Gr (s:Int) (z:Bool) (o:Int):L8:=Br (s / 3600) 2 ++ [58] ++ Br (s % 3600 / 60) 2 ++ [58] ++ Br (s % 60) 2 ++ Ig z o
def Ez (s:Int) (z:Bool) (o:Int):Prop:=0≤s∧s<86400 ∧ -64800≤o∧o≤64800∧(z=true∨o=0)
instance (s:Int) (z:Bool) (o:Int):Decidable (Ez s z o):=inferInstanceAs (Decidable (_∧_))
def Do (s:Int) (z:Bool) (o:Int):L8:=if Ez s z o then Gr s z o else []
def a0v (y m d s:Int) (z:Bool) (o:Int):L8:=if Fv y m d∧Ez s z o then Ld y m d ++ [84] ++ Gr s z o else []
def Av (n:Int) (l:L8):L8:=if n=0 then [] else Lib.itoa n ++ l
def Ih (k:Int):L8:=Av (k % 86400 / 3600) [72] ++ Av (k % 3600 / 60) [77] ++ Av (k % 60) [83]
def Ke (n:Int):L8:=if n<0 then [45] else []
def Nv (n:Int):Int:=if n<0 then -n else n
def Ga (n:Int):L8:=if n < -9007199254740992∨9007199254740992<n then [] else if n=0 then [80,84,48,83] else
 Ke n ++ [80] ++ Av (Nv n / 86400) [68] ++ (if Ih (Nv n)=[] then [] else 84::Ih (Nv n))
def Ev (n:Int):L8:=if n < -9007199254740992∨9007199254740992<n then [] else if n=0 then [80,48,77] else
 Ke n ++ [80] ++ Av (Nv n / 12) [89] ++ Av (Nv n % 12) [77]
def Ge (lo hi:Nat) (l:L8):Option Nat:=if lo≤l.length∧l.length≤hi∧l.all Cg=true then some (nvL l) else none
def Et (most:Nat) (l:L8) (c:UInt8) (t:Nat):Option (Nat×L8) :=
 if l[ndg l]? = some c∧1≤ndg l∧ndg l≤most then some (nvL (l.take (ndg l))*t,l.drop (ndg l+1)) else none
def Dj (most:Nat):L8→List (UInt8×Nat)→Nat→Nat→Nat×L8×Nat
 | l,[],n,k=>(n,l,k)
 | l,(c,t)::r,n,k=>match Et most l c t with
  | some (m,l')=>Dj most l' r (n+m) (k+1)
  | none=>Dj most l r n k
def Dd (n:Nat) (neg:Bool):Option Int:=if 9007199254740992<n then none else some (if neg then -(n:Int) else n)
def Bi (l:L8):L8×Bool:=if l.head?=some 45 then (l.tail,true) else (l,false)
def It (l:L8):Option Int :=
 if (Bi l).1.head? ≠ some 80 then none else
 if (Dj 12 (Bi l).1.tail [(68,86400)] 0 0).2.1=[] then (if (Dj 12 (Bi l).1.tail [(68,86400)] 0 0).2.2=0 then none else Dd (Dj 12 (Bi l).1.tail [(68,86400)] 0 0).1 (Bi l).2) else
 if (Dj 12 (Bi l).1.tail [(68,86400)] 0 0).2.1.head? ≠ some 84 then none else
 if (Dj 12 (Dj 12 (Bi l).1.tail [(68,86400)] 0 0).2.1.tail [(72,3600),(77,60),(83,1)] 0 0).2.1≠[]∨(Dj 12 (Dj 12 (Bi l).1.tail [(68,86400)] 0 0).2.1.tail [(72,3600),(77,60),(83,1)] 0 0).2.2=0 then none else
 Dd ((Dj 12 (Bi l).1.tail [(68,86400)] 0 0).1+(Dj 12 (Dj 12 (Bi l).1.tail [(68,86400)] 0 0).2.1.tail [(72,3600),(77,60),(83,1)] 0 0).1) (Bi l).2
def Jl (l:L8):Option Int :=
 if (Bi l).1.head? ≠ some 80 then none else
 if (Dj 15 (Bi l).1.tail [(89,12),(77,1)] 0 0).2.1≠[]∨(Dj 15 (Bi l).1.tail [(89,12),(77,1)] 0 0).2.2=0 then none else
 Dd (Dj 15 (Bi l).1.tail [(89,12),(77,1)] 0 0).1 (Bi l).2
def a6r:Option Int→DV
 | some n=>.tup [.v (.int .i64 n),.v (.bool true)]
 | none=>.tup [.v (.int .i64 0),.v (.bool false)]
theorem Hj {most:Nat} {l l':L8} {c:UInt8} {t n:Nat} (h:Et most l c t=some (n,l')):n≤10 ^ most*t∧l'.length<l.length:=by
 unfold Et at h
 split at h
 ·rename_i hc
  simp only[Option.some.injEq,Prod.mk.injEq] at h
  obtain ⟨rfl,rfl⟩:=h
  have h1:=Fm (k:=most) (Ip (Nat.le_refl (ndg l))) (by rw[List.length_take];omega)
  have h2:=(List.getElem?_eq_some_iff.1 hc.1).1
  exact ⟨Nat.mul_le_mul_right _ (by omega),by rw[List.length_drop];omega⟩
 ·cases h
open Go.RowKit
set_option linter.unusedVariables false
set_option linter.unusedSimpArgs false
set_option maxRecDepth 100000
theorem Dv (l:L8):(⟨l.toArray⟩:ByteArray)=tx l:=rfl
def a8f (n:Int):Prop := -9223372036854775808≤n∧n≤9223372036854775807
theorem Eb {a b z:Int} (h:z=a.tmod b) (h0:0≤a):z=a % b:=by rw[h,Int.tmod_eq_emod_of_nonneg h0]
theorem Cc {n:Int} {w:Nat} (h:a8f n) (hw:w≤10):(Br n w).length≤21:=by
 rw[a8q]
 have:=Hb n h
 omega
theorem a6w {y m d:Int} (h:Fv y m d):(Ld y m d).length≤70:=by
 have hm:=Yy (y:=y) (m:=m) (by unfold Fv at h;omega)
 have hl:=a1e y m
 unfold Fv at h
 have h1:=Cc (n:=if y<0 then -y else y) (w:=4) (by unfold a8f;split<;>omega) (by decide)
 have h2:=Cc (n:=m) (w:=2) ⟨by omega,by omega⟩ (by decide)
 have h3:=Cc (n:=d) (w:=2) ⟨by omega,by omega⟩ (by decide)
 unfold Ld
 simp only[List.length_append,List.length_cons,List.length_nil]
 have:(if y<0 then [45] else ([]:L8)).length≤1:=by split<;>simp
 omega
theorem a5d (y m d:Int):(Eu y m d).length≤70:=by
 unfold Eu
 split
 ·rename_i h;exact a6w h
 ·simp
theorem a87 {o:Int} (z:Bool) (h : -64800≤o∧o≤64800):(Ig z o).length≤70:=by
 have hp : ∀ n:Int,0≤n→n≤64800→(Br n 2).length≤21:=fun n h0 h1=>Cc ⟨by omega,by omega⟩ (by decide)
 have ho : ∀ o:Int,0≤o→o≤64800→(Sf o).length≤69:=fun o h0 h1=>by
  have h1:=hp (o / 3600) (by omega) (by omega)
  have h2:=hp (o % 3600 / 60) (by omega) (by omega)
  have h3:=hp (o % 60) (by omega) (by omega)
  unfold Sf
  split<;>simp only[List.length_append,List.length_cons,List.length_nil]<;>omega
 unfold Ig
 split
 ·simp
 ·split
  ·simp
  ·split
   ·have:=ho (-o) (by omega) (by omega)
    simp only[List.length_cons]
    omega
   ·have:=ho o (by omega) (by omega)
    simp only[List.length_cons]
    omega
theorem a52 {s o:Int} {z:Bool} (h:Ez s z o):(Gr s z o).length≤140:=by
 unfold Ez at h
 have hp : ∀ n:Int,0≤n→n≤86400→(Br n 2).length≤21:=fun n h0 h1=>Cc ⟨by omega,by omega⟩ (by decide)
 have h1:=hp (s / 3600) (by omega) (by omega)
 have h2:=hp (s % 3600 / 60) (by omega) (by omega)
 have h3:=hp (s % 60) (by omega) (by omega)
 have h4:=a87 (o:=o) z ⟨by omega,by omega⟩
 unfold Gr
 simp only[List.length_append,List.length_cons,List.length_nil]
 omega
theorem a8u (s o:Int) (z:Bool):(Do s z o).length≤140:=by
 unfold Do
 split
 ·rename_i h;exact a52 h
 ·simp
theorem Cn {n:Int} (l:L8) (h:a8f n):(Av n l).length≤21+l.length:=by
 have:=Hb n h
 unfold Av
 split<;>simp
 omega
theorem Ci {n:Int} {w:Nat} (hn:a8f n) (hw:w≤10):HasC Tryz.prog 123 [.v (.int .i64 n),.v (.int .i64 ((w:Int)))] (fun y=>y=.v (.string (tx (Br n w)))):=by
 refine hO [] Tryz.f123 (fun a w=>Tryz.call123 a w) Tryz.func123 rfl (⟨_,rfl⟩) ?_
 refine Aa rfl (iQ 1 ?_)
 let Z1:=zT [(0,Ia n),(1,Ia ((w:Int))),(4,.d (Sv (⟨#[]⟩)))] []
 refine iE 15 Z1 [] ?_
 refine Aa rfl (iQ 1 (eC 122 [Iv n] 7 (Ui hn) ?_))
 have hi:=Hb n hn
 refine iQ 1 ?_
 let Z2:=zT [(1,Ia ((w:Int))),(4,.d (Sv (⟨#[]⟩))),(5,.d (Sv (tx (Lib.itoa n))))] []
 refine iE 15 Z2 [] ?_
 refine Af (An (Bp 15 (fun (vcx:Nat)=>match vcx with | k=>[(1,Ia ((w:Int))),(4,.d (Sv (⟨#[]⟩))),(5,.d (Sv (tx (List.replicate k 48 ++ Lib.itoa n))))]) (fun (vcx:Nat)=>match vcx with | k=>[]) (fun (vcx:Nat)=>match vcx with | k=>k≤w-(Lib.itoa n).length) (fun (vcx:Nat)=>match vcx with | k=>w-k) 0 (by omega) (by kernel_rfl) (by kernel_rfl) ?_))
 rintro k hinv
 simp only at hinv
 refine Af (Aa rfl (iQ 1 (jL .len [9] [.string (tx (List.replicate k 48 ++ Lib.itoa n))] 9 ?_)))
 intro n9 hn9
 have h9:n9=k+(Lib.itoa n).length:=by rw[hn9];simp
 refine iQ 1 (jB .lss 3 (.int .i64 ((n9:Nat))) (.int .i64 ((w:Int))) 11 ?_)
 intro c11 hc11
 let Z3:=zT [(5,.d (Sv (tx (List.replicate k 48 ++ Lib.itoa n))))] []
 let Z4:=zT [(1,Ia ((w:Int))),(4,.d (Sv (⟨#[]⟩))),(11,Ba c11)] []
 refine iE 15 (zT Z4 Z3) [] ?_
 cases c11
 ·replace hc11:=bf hc11
  refine iF (Bk (Cj (Bt (Bl rfl (Ae (Aa rfl (iQ 2 ?_)))))))
  let Z5:=zT [(4,.d (Sv (tx (List.replicate k 48 ++ Lib.itoa n))))] []
  refine iE 15 (zT [(1,Ia ((w:Int))),(11,Ba false)] (zT Z5 Z3)) [] ?_
  refine Ab (iR (Sv (tx (List.replicate k 48 ++ Lib.itoa n))) ?_)
  rw[Br,show w-(Lib.itoa n).length=k by omega]
 ·replace hc11:=bt hc11
  refine iT (Ad (Ae (An (Am rfl (iQ 1 (jB .add 9 (.string (⟨#[48]⟩)) (.string (tx (List.replicate k 48 ++ Lib.itoa n))) 13 ?_))))))
  refine And.intro (Bc (m:=1) (n:=((List.replicate k 48 ++ Lib.itoa n)).length) rfl rfl (by simp;omega)) ?_
  intro s13 hs13
  have hl13:(s13:ByteArray).size=1+((List.replicate k 48 ++ Lib.itoa n)).length:=At hs13 rfl rfl
  refine iQ 1 ?_
  let Z6:=zT [(1,Ia ((w:Int))),(4,.d (Sv (⟨#[]⟩))),(5,.d (Sv s13)),(11,Ba true)] []
  refine iE 15 Z6 [] ?_
  refine Ao ?_
  obtain rfl:s13=tx (List.replicate (k+1) 48 ++ Lib.itoa n):=by rw[hs13];exact As [48] _
  refine Be (k+1) (by omega) (by show w-(k+1)<w-k;omega) (by kernel_rfl) (by kernel_rfl)
theorem Jx {y m d:Int}:HasC Tryz.prog 92 [.agg [.v (.int .i64 y),.v (.int .i64 m),.v (.int .i64 d)]] (fun r=>r=.v (.string (tx (Eu y m d)))):=by
 refine hO [] Tryz.f92 (fun a w=>Tryz.call92 a w) Tryz.func92 rfl (⟨_,rfl⟩) ?_
 refine Aa rfl (iQ 2 (iE 28 [(1,.p 1 0),(2,.d (Sv (⟨#[]⟩)))] [(1,[Iv y,Iv m,Iv d])] ?_))
 refine Af (Aa rfl (iQ 1 (jC 110 [.agg [Iv y,Iv m,Iv d]] 6 (Nu) ?_)))
 rintro _ ⟨b,rfl,hb⟩
 refine jU .not (.bool b) 7 ?_
 intro c7 hc7
 let Z1:=zT [(1,.p 1 0),(2,.d (Sv (⟨#[]⟩))),(7,Ba c7)] []
 refine iE 28 Z1 [(1,[Iv y,Iv m,Iv d])] ?_
 cases c7
 ·replace hc7:=bf hc7
  replace hb:Fv y m d:=hb.1 (by simpa using hc7)
  have hm:=Yy (y:=y) (m:=m) (by unfold Fv at hb;omega)
  have hl:=a1e y m
  have hy : -999999999≤y∧y≤999999999∧1≤d∧d≤Fy y m:=hb
  refine iF (Ad (Ae (Aa rfl (iQ 4 ?_))))
  let Z2:=zT [(1,.p 1 0),(2,.d (Sv (⟨#[]⟩))),(3,.d (Sv (⟨#[]⟩))),(4,Ia y),(7,Ba false)] []
  refine iE 28 Z2 [(1,[Iv y,Iv m,Iv d])] ?_
  refine Af (Aa rfl (iQ 1 (jB .lss 3 (.int .i64 y) (.int .i64 0) 11 ?_)))
  intro c11 hc11
  refine iE 28 (zT [(11,Ba c11)] Z2) [(1,[Iv y,Iv m,Iv d])] ?_
  cases c11
  ·replace hc11:=bf hc11
   refine iF (Ad (Ae (Aa rfl (iQ 2 (eC 123 [Iv y,Iv 4] 16 (Ci (n:=y) (w:=4) ⟨by omega,by omega⟩ (by decide)) ?_)))))
   have p1:=Cc (n:=y) (w:=4) ⟨by omega,by omega⟩ (by decide)
   have p2:=Cc (n:=m) (w:=2) ⟨by omega,by omega⟩ (by decide)
   have p3:=Cc (n:=d) (w:=2) ⟨by omega,by omega⟩ (by decide)
   refine jB .add 9 (.string (⟨#[]⟩)) (.string (tx (Br y 4))) 17 ?_
   refine And.intro (Bc (m:=0) (n:=((Br y 4)).length) rfl rfl (by omega)) ?_
   intro s17 hs17
   have hl17:(s17:ByteArray).size=0+((Br y 4)).length:=At hs17 rfl rfl
   refine jB .add 9 (.string s17) (.string (⟨#[45]⟩)) 18 ?_
   refine And.intro (Bc (m:=(s17:ByteArray).size) (n:=1) rfl rfl (by omega)) ?_
   intro s18 hs18
   have hl18:(s18:ByteArray).size=(s17:ByteArray).size+1:=At hs18 rfl rfl
   refine iQ 2 (eC 123 [Iv m,Iv 2] 21 (Ci (n:=m) (w:=2) ⟨by omega,by omega⟩ (by decide)) (jB .add 9 (.string s18) (.string (tx (Br m 2))) 22 ?_))
   refine And.intro (Bc (m:=(s18:ByteArray).size) (n:=((Br m 2)).length) rfl rfl (by omega)) ?_
   intro s22 hs22
   have hl22:(s22:ByteArray).size=(s18:ByteArray).size+((Br m 2)).length:=At hs22 rfl rfl
   refine jB .add 9 (.string s22) (.string (⟨#[45]⟩)) 23 ?_
   refine And.intro (Bc (m:=(s22:ByteArray).size) (n:=1) rfl rfl (by omega)) ?_
   intro s23 hs23
   have hl23:(s23:ByteArray).size=(s22:ByteArray).size+1:=At hs23 rfl rfl
   refine iQ 2 (eC 123 [Iv d,Iv 2] 26 (Ci (n:=d) (w:=2) ⟨by omega,by omega⟩ (by decide)) (jB .add 9 (.string s23) (.string (tx (Br d 2))) 27 ?_))
   refine And.intro (Bc (m:=(s23:ByteArray).size) (n:=((Br d 2)).length) rfl rfl (by omega)) ?_
   intro s27 hs27
   have hl27:(s27:ByteArray).size=(s23:ByteArray).size+((Br d 2)).length:=At hs27 rfl rfl
   refine iQ 1 ?_
   let Z3:=zT [(1,.p 1 0),(2,.d (Sv s27)),(4,Ia y),(7,Ba false),(11,Ba false)] []
   refine iE 28 Z3 [(1,[Iv y,Iv m,Iv d])] ?_
   refine Ab (iR (Sv s27) ?_)
   rw[hs27,hs23,hs22,hs18,hs17,Eu,if_pos hb,Ld,if_neg hc11,if_neg hc11];simp only[Dv,As,a0y.symm,List.append_assoc]
  ·replace hc11:=bt hc11
   refine iT (Am rfl (iQ 1 (jU .neg (.int .i64 y) 13 ?_)))
   intro z13 hz13
   try replace hz13:=hz13.i64 (by omega)
   refine iQ 2 ?_
   let Z4:=zT [(1,.p 1 0),(2,.d (Sv (⟨#[]⟩))),(3,.d (Sv (⟨#[45]⟩))),(4,Ia z13),(7,Ba false),(11,Ba true)] []
   refine iE 28 Z4 [(1,[Iv y,Iv m,Iv d])] ?_
   refine Ae (Aa rfl (iQ 2 (eC 123 [Iv z13,Iv 4] 16 (Ci (n:=z13) (w:=4) ⟨by omega,by omega⟩ (by decide)) ?_)))
   have p1:=Cc (n:=z13) (w:=4) ⟨by omega,by omega⟩ (by decide)
   have p2:=Cc (n:=m) (w:=2) ⟨by omega,by omega⟩ (by decide)
   have p3:=Cc (n:=d) (w:=2) ⟨by omega,by omega⟩ (by decide)
   refine jB .add 9 (.string (⟨#[45]⟩)) (.string (tx (Br z13 4))) 17 ?_
   refine And.intro (Bc (m:=1) (n:=((Br z13 4)).length) rfl rfl (by omega)) ?_
   intro s17 hs17
   have hl17:(s17:ByteArray).size=1+((Br z13 4)).length:=At hs17 rfl rfl
   refine jB .add 9 (.string s17) (.string (⟨#[45]⟩)) 18 ?_
   refine And.intro (Bc (m:=(s17:ByteArray).size) (n:=1) rfl rfl (by omega)) ?_
   intro s18 hs18
   have hl18:(s18:ByteArray).size=(s17:ByteArray).size+1:=At hs18 rfl rfl
   refine iQ 2 (eC 123 [Iv m,Iv 2] 21 (Ci (n:=m) (w:=2) ⟨by omega,by omega⟩ (by decide)) (jB .add 9 (.string s18) (.string (tx (Br m 2))) 22 ?_))
   refine And.intro (Bc (m:=(s18:ByteArray).size) (n:=((Br m 2)).length) rfl rfl (by omega)) ?_
   intro s22 hs22
   have hl22:(s22:ByteArray).size=(s18:ByteArray).size+((Br m 2)).length:=At hs22 rfl rfl
   refine jB .add 9 (.string s22) (.string (⟨#[45]⟩)) 23 ?_
   refine And.intro (Bc (m:=(s22:ByteArray).size) (n:=1) rfl rfl (by omega)) ?_
   intro s23 hs23
   have hl23:(s23:ByteArray).size=(s22:ByteArray).size+1:=At hs23 rfl rfl
   refine iQ 2 (eC 123 [Iv d,Iv 2] 26 (Ci (n:=d) (w:=2) ⟨by omega,by omega⟩ (by decide)) (jB .add 9 (.string s23) (.string (tx (Br d 2))) 27 ?_))
   refine And.intro (Bc (m:=(s23:ByteArray).size) (n:=((Br d 2)).length) rfl rfl (by omega)) ?_
   intro s27 hs27
   have hl27:(s27:ByteArray).size=(s23:ByteArray).size+((Br d 2)).length:=At hs27 rfl rfl
   refine iQ 1 ?_
   let Z5:=zT [(1,.p 1 0),(2,.d (Sv s27)),(4,Ia z13),(7,Ba false),(11,Ba true)] []
   refine iE 28 Z5 [(1,[Iv y,Iv m,Iv d])] ?_
   refine Ab (iR (Sv s27) ?_)
   rw[hs27,hs23,hs22,hs18,hs17,Eu,if_pos hb,Ld,if_pos hc11,if_pos hc11,hz13];simp only[Dv,As,List.append_assoc,Int.zero_sub]
 ·replace hc7:=bt hc7
  refine iT (Aa rfl (iQ 1 ?_))
  let Z6:=zT [(1,.p 1 0),(2,.d (Sv (⟨#[]⟩))),(7,Ba true)] []
  refine iE 28 Z6 [(1,[Iv y,Iv m,Iv d])] ?_
  refine Ab (Ah (iR (Sv (⟨#[]⟩)) ?_))
  rw[Eu,if_neg (fun h=>by have:=hb.2 h;rw[hc7] at this;cases this)];rfl
theorem Vo {s o:Int} {z:Bool}:HasC Tryz.prog 115 [.agg [.v (.int .i64 s),.v (.bool z),.v (.int .i64 o)]] (fun r => ∃ b,r=.v (.bool b)∧(b=true↔Ez s z o)):=by
 refine hO [] Tryz.f115 (fun a w=>Tryz.call115 a w) Tryz.func115 rfl (⟨_,decide (Ez s z o),rfl,by simp⟩) ?_
 refine Aa rfl (iQ 2 (iE 30 [(1,.p 1 0),(2,Ba false)] [(1,[Iv s,Bv z,Iv o])] ?_))
 refine Aa rfl (iQ 2 (jB .geq 3 (.int .i64 s) (.int .i64 0) 5 ?_))
 intro c5 hc5
 refine iQ 1 ?_
 cases c5
 ·replace hc5:=bf hc5
  refine iQ 24 (iE 30 [(2,Ba false)] [] ?_)
  refine Ab (iR (Bv false) ?_)
  exact ⟨_,rfl,by unfold Ez;grind⟩
 ·replace hc5:=bt hc5
  refine iQ 2 (jB .lss 3 (.int .i64 s) (.int .i64 86400) 9 ?_)
  intro c9 hc9
  refine iQ 2 ?_
  cases c9
  ·replace hc9:=bf hc9
   refine iQ 19 (iE 30 [(2,Ba false)] [] ?_)
   refine Ab (iR (Bv false) ?_)
   exact ⟨_,rfl,by unfold Ez;grind⟩
  ·replace hc9:=bt hc9
   refine iQ 2 (jB .geq 3 (.int .i64 o) (.int .i64 (-64800)) 14 ?_)
   intro c14 hc14
   refine iQ 2 ?_
   cases c14
   ·replace hc14:=bf hc14
    refine iQ 14 (iE 30 [(2,Ba false)] [] ?_)
    refine Ab (iR (Bv false) ?_)
    exact ⟨_,rfl,by unfold Ez;grind⟩
   ·replace hc14:=bt hc14
    refine iQ 2 (jB .leq 3 (.int .i64 o) (.int .i64 64800) 19 ?_)
    intro c19 hc19
    refine iQ 2 ?_
    cases c19
    ·replace hc19:=bf hc19
     refine iQ 9 (iE 30 [(2,Ba false)] [] ?_)
     refine Ab (iR (Bv false) ?_)
     exact ⟨_,rfl,by unfold Ez;grind⟩
    ·replace hc19:=bt hc19
     refine iQ 3 ?_
     cases z
     ·refine iQ 2 (jB .eql 3 (.int .i64 o) (.int .i64 0) 27 ?_)
      intro c27 hc27
      refine iQ 3 (iE 30 [(2,Ba c27)] [] ?_)
      refine Ab (iR (Bv c27) ?_)
      exact ⟨_,rfl,by unfold Ez;grind⟩
     ·refine iQ 6 (iE 30 [(2,Ba true)] [] ?_)
      refine Ab (iR (Bv true) ?_)
      exact ⟨_,rfl,by unfold Ez;grind⟩
theorem b2m {s o:Int} {z:Bool} (h0:0≤s) (h1:s<86400):HasC Tryz.prog 124 [.agg [.v (.int .i64 s),.v (.bool z),.v (.int .i64 o)]] (fun r=>r=.v (.int .i64 (s / 3600))):=by
 refine hO [] Tryz.f124 (fun a w=>Tryz.call124 a w) Tryz.func124 rfl (⟨_,rfl⟩) ?_
 refine Aa rfl (iQ 2 (iE 6 [(1,.p 1 0),(2,Ia 0)] [(1,[Iv s,Bv z,Iv o])] ?_))
 refine Aa rfl (iQ 2 (jB .quo 3 (.int .i64 s) (.int .i64 3600) 5 ?_))
 refine And.intro (by omega) ?_
 intro z5 hz5
 refine iQ 1 (iE 6 [(2,Ia z5)] [] ?_)
 refine Ab (iR (Iv z5) ?_)
 rw[Dk hz5 (by decide) (by omega) (by omega)]
theorem a77 {s o:Int} {z:Bool} (h0:0≤s) (h1:s<86400):HasC Tryz.prog 125 [.agg [.v (.int .i64 s),.v (.bool z),.v (.int .i64 o)]] (fun r=>r=.v (.int .i64 (s % 3600 / 60))):=by
 refine hO [] Tryz.f125 (fun a w=>Tryz.call125 a w) Tryz.func125 rfl (⟨_,rfl⟩) ?_
 refine Aa rfl (iQ 2 (iE 7 [(1,.p 1 0),(2,Ia 0)] [(1,[Iv s,Bv z,Iv o])] ?_))
 refine Aa rfl (iQ 2 (jB .quo 3 (.int .i64 s) (.int .i64 60) 5 ?_))
 refine And.intro (by omega) ?_
 intro z5 hz5
 have e5:z5=s / 60:=Dk hz5 (by decide) (by omega) (by omega)
 refine jB .rem 3 (.int .i64 z5) (.int .i64 60) 6 ?_
 refine And.intro (by omega) ?_
 intro z6 hz6
 refine iQ 1 (iE 7 [(2,Ia z6)] [] ?_)
 refine Ab (iR (Iv z6) ?_)
 rw[Eb hz6 (by omega),show z5 % 60=s % 3600 / 60 by omega]
theorem a66 {s o:Int} {z:Bool} (h0:0≤s) (h1:s<86400):HasC Tryz.prog 126 [.agg [.v (.int .i64 s),.v (.bool z),.v (.int .i64 o)]] (fun r=>r=.v (.int .i64 (s % 60))):=by
 refine hO [] Tryz.f126 (fun a w=>Tryz.call126 a w) Tryz.func126 rfl (⟨_,rfl⟩) ?_
 refine Aa rfl (iQ 2 (iE 6 [(1,.p 1 0),(2,Ia 0)] [(1,[Iv s,Bv z,Iv o])] ?_))
 refine Aa rfl (iQ 2 (jB .rem 3 (.int .i64 s) (.int .i64 60) 5 ?_))
 refine And.intro (by omega) ?_
 intro z5 hz5
 refine iQ 1 (iE 6 [(2,Ia z5)] [] ?_)
 refine Ab (iR (Iv z5) ?_)
 rw[Eb hz5 (by omega)]
theorem Fw {s o:Int} {z:Bool}:HasC Tryz.prog 93 [.agg [.v (.int .i64 s),.v (.bool z),.v (.int .i64 o)]] (fun r=>r=.v (.string (tx (Do s z o)))):=by
 refine hO [] Tryz.f93 (fun a w=>Tryz.call93 a w) Tryz.func93 rfl (⟨_,rfl⟩) ?_
 refine Aa rfl (iQ 2 (iE 60 [(1,.p 1 0),(2,.d (Sv (⟨#[]⟩)))] [(1,[Iv s,Bv z,Iv o])] ?_))
 refine Af (Aa rfl (iQ 1 (jC 115 [.agg [Iv s,Bv z,Iv o]] 7 (Vo) ?_)))
 rintro _ ⟨b,rfl,hb⟩
 refine jU .not (.bool b) 8 ?_
 intro c8 hc8
 let Z1:=zT [(1,.p 1 0),(2,.d (Sv (⟨#[]⟩))),(8,Ba c8)] []
 refine iE 60 Z1 [(1,[Iv s,Bv z,Iv o])] ?_
 cases c8
 ·replace hc8:=bf hc8
  replace hb:Ez s z o:=hb.1 (by simpa using hc8)
  have hb':=hb
  unfold Ez at hb'
  refine iF (Ad (Ae (Aa rfl (iQ 1 (eC 124 [.agg [Iv s,Bv z,Iv o]] 10 (b2m (by omega) (by omega)) (eC 123 [Iv (s / 3600),Iv 2] 11 (Ci (n:=s / 3600) (w:=2) ⟨by omega,by omega⟩ (by decide)) ?_))))))
  have p1:=Cc (n:=s / 3600) (w:=2) ⟨by omega,by omega⟩ (by decide)
  have p2:=Cc (n:=s % 3600 / 60) (w:=2) ⟨by omega,by omega⟩ (by decide)
  have p3:=Cc (n:=s % 60) (w:=2) ⟨by omega,by omega⟩ (by decide)
  refine jB .add 9 (.string (tx (Br (s / 3600) 2))) (.string (⟨#[58]⟩)) 12 ?_
  refine And.intro (Bc (m:=((Br (s / 3600) 2)).length) (n:=1) rfl rfl (by omega)) ?_
  intro s12 hs12
  have hl12:(s12:ByteArray).size=((Br (s / 3600) 2)).length+1:=At hs12 rfl rfl
  refine iQ 1 (eC 125 [.agg [Iv s,Bv z,Iv o]] 14 (a77 (by omega) (by omega)) (eC 123 [Iv (s % 3600 / 60),Iv 2] 15 (Ci (n:=s % 3600 / 60) (w:=2) ⟨by omega,by omega⟩ (by decide)) (jB .add 9 (.string s12) (.string (tx (Br (s % 3600 / 60) 2))) 16 ?_)))
  refine And.intro (Bc (m:=(s12:ByteArray).size) (n:=((Br (s % 3600 / 60) 2)).length) rfl rfl (by omega)) ?_
  intro s16 hs16
  have hl16:(s16:ByteArray).size=(s12:ByteArray).size+((Br (s % 3600 / 60) 2)).length:=At hs16 rfl rfl
  refine jB .add 9 (.string s16) (.string (⟨#[58]⟩)) 17 ?_
  refine And.intro (Bc (m:=(s16:ByteArray).size) (n:=1) rfl rfl (by omega)) ?_
  intro s17 hs17
  have hl17:(s17:ByteArray).size=(s16:ByteArray).size+1:=At hs17 rfl rfl
  refine iQ 1 (eC 126 [.agg [Iv s,Bv z,Iv o]] 19 (a66 (by omega) (by omega)) (eC 123 [Iv (s % 60),Iv 2] 20 (Ci (n:=s % 60) (w:=2) ⟨by omega,by omega⟩ (by decide)) (jB .add 9 (.string s17) (.string (tx (Br (s % 60) 2))) 21 ?_)))
  refine And.intro (Bc (m:=(s17:ByteArray).size) (n:=((Br (s % 60) 2)).length) rfl rfl (by omega)) ?_
  intro s21 hs21
  have hl21:(s21:ByteArray).size=(s17:ByteArray).size+((Br (s % 60) 2)).length:=At hs21 rfl rfl
  refine iQ 1 ?_
  let Z2:=zT [(1,.p 1 0),(2,.d (Sv (⟨#[]⟩))),(3,.d (Sv s21)),(8,Ba false)] []
  refine iE 60 Z2 [(1,[Iv s,Bv z,Iv o])] ?_
  refine Af (Aa rfl (iQ 2 (jU .not (.bool z) 24 ?_)))
  intro c24 hc24
  refine iE 60 (zT [(24,Ba c24)] Z2) [(1,[Iv s,Bv z,Iv o])] ?_
  cases c24
  ·replace hc24:=bf hc24
   refine iF (Ad (Ae (Af (Aa rfl (iQ 2 (jB .eql 3 (.int .i64 o) (.int .i64 0) 28 ?_))))))
   intro c28 hc28
   refine iE 60 (zT [(24,Ba false),(28,Ba c28)] Z2) [(1,[Iv s,Bv z,Iv o])] ?_
   cases c28
   ·replace hc28:=bf hc28
    refine iF (Ad (Ae (Aa rfl (iQ 4 ?_))))
    let Z3:=zT [(4,.d (Sv (⟨#[43]⟩))),(5,Ia o),(24,Ba false),(28,Ba false)] []
    refine iE 60 (zT Z3 Z2) [(1,[Iv s,Bv z,Iv o])] ?_
    refine Af (Aa rfl (iQ 1 (jB .lss 3 (.int .i64 o) (.int .i64 0) 34 ?_)))
    intro c34 hc34
    refine iE 60 (zT [(34,Ba c34)] (zT Z2 Z3)) [(1,[Iv s,Bv z,Iv o])] ?_
    cases c34
    ·replace hc34:=bf hc34
     have hzl:Ig z o=43::Sf o:=by rw[Ig,if_neg hc24,if_neg hc28,if_neg hc34]
     refine iF (Ad (Ae (Aa rfl (iQ 3 (jB .quo 3 (.int .i64 o) (.int .i64 3600) 40 ?_)))))
     refine And.intro (by omega) ?_
     intro z40 hz40
     have e40:z40=o / 3600:=Dk hz40 (by decide) (by omega) (by omega)
     refine eC 123 [Iv z40,Iv 2] 41 (Ci (n:=z40) (w:=2) ⟨by omega,by omega⟩ (by decide)) ?_
     have p40:=Cc (n:=z40) (w:=2) ⟨by omega,by omega⟩ (by decide)
     refine jB .add 9 (.string (⟨#[43]⟩)) (.string (tx (Br z40 2))) 42 ?_
     refine And.intro (Bc (m:=1) (n:=((Br z40 2)).length) rfl rfl (by omega)) ?_
     intro s42 hs42
     have hl42:(s42:ByteArray).size=1+((Br z40 2)).length:=At hs42 rfl rfl
     refine jB .add 9 (.string s42) (.string (⟨#[58]⟩)) 43 ?_
     refine And.intro (Bc (m:=(s42:ByteArray).size) (n:=1) rfl rfl (by omega)) ?_
     intro s43 hs43
     have hl43:(s43:ByteArray).size=(s42:ByteArray).size+1:=At hs43 rfl rfl
     refine iQ 1 (jB .quo 3 (.int .i64 o) (.int .i64 60) 45 ?_)
     refine And.intro (by omega) ?_
     intro z45 hz45
     have e45:z45=o / 60:=Dk hz45 (by decide) (by omega) (by omega)
     refine jB .rem 3 (.int .i64 z45) (.int .i64 60) 46 ?_
     refine And.intro (by omega) ?_
     intro z46 hz46
     have e46:z46=o % 3600 / 60:=by rw[Eb hz46 (by omega),e45];omega
     refine eC 123 [Iv z46,Iv 2] 47 (Ci (n:=z46) (w:=2) ⟨by omega,by omega⟩ (by decide)) ?_
     have p46:=Cc (n:=z46) (w:=2) ⟨by omega,by omega⟩ (by decide)
     refine jB .add 9 (.string s43) (.string (tx (Br z46 2))) 48 ?_
     refine And.intro (Bc (m:=(s43:ByteArray).size) (n:=((Br z46 2)).length) rfl rfl (by omega)) ?_
     intro s48 hs48
     have hl48:(s48:ByteArray).size=(s43:ByteArray).size+((Br z46 2)).length:=At hs48 rfl rfl
     refine jB .add 9 (.string s21) (.string s48) 49 ?_
     refine And.intro (Bc (m:=(s21:ByteArray).size) (n:=(s48:ByteArray).size) rfl rfl (by omega)) ?_
     intro s49 hs49
     have hl49:(s49:ByteArray).size=(s21:ByteArray).size+(s48:ByteArray).size:=At hs49 rfl rfl
     refine iQ 1 ?_
     let Z4:=zT [(1,.p 1 0),(2,.d (Sv (⟨#[]⟩))),(3,.d (Sv s49)),(5,Ia o),(8,Ba false),(24,Ba false),(28,Ba false),(34,Ba false)] []
     refine iE 60 Z4 [(1,[Iv s,Bv z,Iv o])] ?_
     refine Af (Aa rfl (iQ 1 (jB .rem 3 (.int .i64 o) (.int .i64 60) 51 ?_)))
     refine And.intro (by omega) ?_
     intro z51 hz51
     have e51:z51=o % 60:=Eb hz51 (by omega)
     refine jB .neq 3 (.int .i64 z51) (.int .i64 0) 52 ?_
     intro c52 hc52
     refine iE 60 (zT [(52,Ba c52)] Z4) [(1,[Iv s,Bv z,Iv o])] ?_
     cases c52
     ·replace hc52:=bf hc52
      refine iF (Ad (Ae (Aa rfl (iQ 2 ?_))))
      let Z5:=zT [(1,.p 1 0),(2,.d (Sv s49)),(3,.d (Sv s49)),(5,Ia o),(8,Ba false),(24,Ba false),(28,Ba false),(34,Ba false),(52,Ba false)] []
      refine iE 60 Z5 [(1,[Iv s,Bv z,Iv o])] ?_
      refine Ab (iR (Sv s49) ?_)
      simp only[hs49,hs48,hs43,hs42,hs21,hs17,hs16,hs12,Dv,As,e40,e46];rw[Do,if_pos hb,Gr,hzl];rw[Sf,if_pos (by omega)];all_goals simp only[List.append_assoc,List.cons_append,List.nil_append,List.append_nil]
     ·replace hc52:=bt hc52
      refine iT (Am rfl (iQ 2 (jB .rem 3 (.int .i64 o) (.int .i64 60) 55 ?_)))
      refine And.intro (by omega) ?_
      intro z55 hz55
      have e55:z55=o % 60:=Eb hz55 (by omega)
      refine eC 123 [Iv z55,Iv 2] 56 (Ci (n:=z55) (w:=2) ⟨by omega,by omega⟩ (by decide)) ?_
      have p55:=Cc (n:=z55) (w:=2) ⟨by omega,by omega⟩ (by decide)
      refine jB .add 9 (.string (⟨#[58]⟩)) (.string (tx (Br z55 2))) 57 ?_
      refine And.intro (Bc (m:=1) (n:=((Br z55 2)).length) rfl rfl (by omega)) ?_
      intro s57 hs57
      have hl57:(s57:ByteArray).size=1+((Br z55 2)).length:=At hs57 rfl rfl
      refine jB .add 9 (.string s49) (.string s57) 58 ?_
      refine And.intro (Bc (m:=(s49:ByteArray).size) (n:=(s57:ByteArray).size) rfl rfl (by omega)) ?_
      intro s58 hs58
      have hl58:(s58:ByteArray).size=(s49:ByteArray).size+(s57:ByteArray).size:=At hs58 rfl rfl
      refine iQ 1 ?_
      let Z6:=zT [(1,.p 1 0),(2,.d (Sv (⟨#[]⟩))),(3,.d (Sv s58)),(5,Ia o),(8,Ba false),(24,Ba false),(28,Ba false),(34,Ba false),(52,Ba true)] []
      refine iE 60 Z6 [(1,[Iv s,Bv z,Iv o])] ?_
      refine Ae (Aa rfl (iQ 2 ?_))
      let Z7:=zT [(1,.p 1 0),(2,.d (Sv s58)),(3,.d (Sv s58)),(5,Ia o),(8,Ba false),(24,Ba false),(28,Ba false),(34,Ba false),(52,Ba true)] []
      refine iE 60 Z7 [(1,[Iv s,Bv z,Iv o])] ?_
      refine Ab (iR (Sv s58) ?_)
      simp only[hs58,hs57,hs49,hs48,hs43,hs42,hs21,hs17,hs16,hs12,Dv,As,e40,e46,e55];rw[Do,if_pos hb,Gr,hzl];rw[Sf,if_neg (by omega)];all_goals simp only[List.append_assoc,List.cons_append,List.nil_append,List.append_nil]
    ·replace hc34:=bt hc34
     refine iT (Am rfl (iQ 1 (jU .neg (.int .i64 o) 36 ?_)))
     intro z36 hz36
     try replace hz36:=hz36.i64 (by omega)
     have e36:z36 = -o:=by omega
     have hzl:Ig z o=45::Sf z36:=by rw[Ig,if_neg hc24,if_neg hc28,if_pos hc34,e36]
     refine iQ 2 ?_
     let Z8:=zT [(4,.d (Sv (⟨#[45]⟩))),(5,Ia z36),(24,Ba false),(28,Ba false),(34,Ba true)] []
     refine iE 60 (zT Z8 Z2) [(1,[Iv s,Bv z,Iv o])] ?_
     refine Ae (Aa rfl (iQ 3 (jB .quo 3 (.int .i64 z36) (.int .i64 3600) 40 ?_)))
     refine And.intro (by omega) ?_
     intro z40 hz40
     have e40:z40=z36 / 3600:=Dk hz40 (by decide) (by omega) (by omega)
     refine eC 123 [Iv z40,Iv 2] 41 (Ci (n:=z40) (w:=2) ⟨by omega,by omega⟩ (by decide)) ?_
     have p40:=Cc (n:=z40) (w:=2) ⟨by omega,by omega⟩ (by decide)
     refine jB .add 9 (.string (⟨#[45]⟩)) (.string (tx (Br z40 2))) 42 ?_
     refine And.intro (Bc (m:=1) (n:=((Br z40 2)).length) rfl rfl (by omega)) ?_
     intro s42 hs42
     have hl42:(s42:ByteArray).size=1+((Br z40 2)).length:=At hs42 rfl rfl
     refine jB .add 9 (.string s42) (.string (⟨#[58]⟩)) 43 ?_
     refine And.intro (Bc (m:=(s42:ByteArray).size) (n:=1) rfl rfl (by omega)) ?_
     intro s43 hs43
     have hl43:(s43:ByteArray).size=(s42:ByteArray).size+1:=At hs43 rfl rfl
     refine iQ 1 (jB .quo 3 (.int .i64 z36) (.int .i64 60) 45 ?_)
     refine And.intro (by omega) ?_
     intro z45 hz45
     have e45:z45=z36 / 60:=Dk hz45 (by decide) (by omega) (by omega)
     refine jB .rem 3 (.int .i64 z45) (.int .i64 60) 46 ?_
     refine And.intro (by omega) ?_
     intro z46 hz46
     have e46:z46=z36 % 3600 / 60:=by rw[Eb hz46 (by omega),e45];omega
     refine eC 123 [Iv z46,Iv 2] 47 (Ci (n:=z46) (w:=2) ⟨by omega,by omega⟩ (by decide)) ?_
     have p46:=Cc (n:=z46) (w:=2) ⟨by omega,by omega⟩ (by decide)
     refine jB .add 9 (.string s43) (.string (tx (Br z46 2))) 48 ?_
     refine And.intro (Bc (m:=(s43:ByteArray).size) (n:=((Br z46 2)).length) rfl rfl (by omega)) ?_
     intro s48 hs48
     have hl48:(s48:ByteArray).size=(s43:ByteArray).size+((Br z46 2)).length:=At hs48 rfl rfl
     refine jB .add 9 (.string s21) (.string s48) 49 ?_
     refine And.intro (Bc (m:=(s21:ByteArray).size) (n:=(s48:ByteArray).size) rfl rfl (by omega)) ?_
     intro s49 hs49
     have hl49:(s49:ByteArray).size=(s21:ByteArray).size+(s48:ByteArray).size:=At hs49 rfl rfl
     refine iQ 1 ?_
     let Z9:=zT [(1,.p 1 0),(2,.d (Sv (⟨#[]⟩))),(3,.d (Sv s49)),(5,Ia z36),(8,Ba false),(24,Ba false),(28,Ba false),(34,Ba true)] []
     refine iE 60 Z9 [(1,[Iv s,Bv z,Iv o])] ?_
     refine Af (Aa rfl (iQ 1 (jB .rem 3 (.int .i64 z36) (.int .i64 60) 51 ?_)))
     refine And.intro (by omega) ?_
     intro z51 hz51
     have e51:z51=z36 % 60:=Eb hz51 (by omega)
     refine jB .neq 3 (.int .i64 z51) (.int .i64 0) 52 ?_
     intro c52 hc52
     refine iE 60 (zT [(52,Ba c52)] Z9) [(1,[Iv s,Bv z,Iv o])] ?_
     cases c52
     ·replace hc52:=bf hc52
      refine iF (Ad (Ae (Aa rfl (iQ 2 ?_))))
      let Z10:=zT [(1,.p 1 0),(2,.d (Sv s49)),(3,.d (Sv s49)),(5,Ia z36),(8,Ba false),(24,Ba false),(28,Ba false),(34,Ba true),(52,Ba false)] []
      refine iE 60 Z10 [(1,[Iv s,Bv z,Iv o])] ?_
      refine Ab (iR (Sv s49) ?_)
      simp only[hs49,hs48,hs43,hs42,hs21,hs17,hs16,hs12,Dv,As,e40,e46];rw[Do,if_pos hb,Gr,hzl];rw[Sf,if_pos (by omega)];all_goals simp only[List.append_assoc,List.cons_append,List.nil_append,List.append_nil]
     ·replace hc52:=bt hc52
      refine iT (Am rfl (iQ 2 (jB .rem 3 (.int .i64 z36) (.int .i64 60) 55 ?_)))
      refine And.intro (by omega) ?_
      intro z55 hz55
      have e55:z55=z36 % 60:=Eb hz55 (by omega)
      refine eC 123 [Iv z55,Iv 2] 56 (Ci (n:=z55) (w:=2) ⟨by omega,by omega⟩ (by decide)) ?_
      have p55:=Cc (n:=z55) (w:=2) ⟨by omega,by omega⟩ (by decide)
      refine jB .add 9 (.string (⟨#[58]⟩)) (.string (tx (Br z55 2))) 57 ?_
      refine And.intro (Bc (m:=1) (n:=((Br z55 2)).length) rfl rfl (by omega)) ?_
      intro s57 hs57
      have hl57:(s57:ByteArray).size=1+((Br z55 2)).length:=At hs57 rfl rfl
      refine jB .add 9 (.string s49) (.string s57) 58 ?_
      refine And.intro (Bc (m:=(s49:ByteArray).size) (n:=(s57:ByteArray).size) rfl rfl (by omega)) ?_
      intro s58 hs58
      have hl58:(s58:ByteArray).size=(s49:ByteArray).size+(s57:ByteArray).size:=At hs58 rfl rfl
      refine iQ 1 ?_
      let Z11:=zT [(1,.p 1 0),(2,.d (Sv (⟨#[]⟩))),(3,.d (Sv s58)),(5,Ia z36),(8,Ba false),(24,Ba false),(28,Ba false),(34,Ba true),(52,Ba true)] []
      refine iE 60 Z11 [(1,[Iv s,Bv z,Iv o])] ?_
      refine Ae (Aa rfl (iQ 2 ?_))
      let Z12:=zT [(1,.p 1 0),(2,.d (Sv s58)),(3,.d (Sv s58)),(5,Ia z36),(8,Ba false),(24,Ba false),(28,Ba false),(34,Ba true),(52,Ba true)] []
      refine iE 60 Z12 [(1,[Iv s,Bv z,Iv o])] ?_
      refine Ab (iR (Sv s58) ?_)
      simp only[hs58,hs57,hs49,hs48,hs43,hs42,hs21,hs17,hs16,hs12,Dv,As,e40,e46,e55];rw[Do,if_pos hb,Gr,hzl];rw[Sf,if_neg (by omega)];all_goals simp only[List.append_assoc,List.cons_append,List.nil_append,List.append_nil]
   ·replace hc28:=bt hc28
    refine iT (Aa rfl (iQ 1 (jB .add 9 (.string s21) (.string (⟨#[90]⟩)) 30 ?_)))
    refine And.intro (Bc (m:=(s21:ByteArray).size) (n:=1) rfl rfl (by omega)) ?_
    intro s30 hs30
    have hl30:(s30:ByteArray).size=(s21:ByteArray).size+1:=At hs30 rfl rfl
    refine iQ 1 ?_
    let Z13:=zT [(1,.p 1 0),(2,.d (Sv s30)),(3,.d (Sv s21)),(8,Ba false),(24,Ba false),(28,Ba true)] []
    refine iE 60 Z13 [(1,[Iv s,Bv z,Iv o])] ?_
    refine Ab (Ah (iR (Sv s30) ?_))
    simp only[hs30,hs21,hs17,hs16,hs12,Dv,As];rw[Do,if_pos hb,Gr,Ig,if_neg hc24,if_pos hc28]
  ·replace hc24:=bt hc24
   refine iT (Aa rfl (iQ 2 ?_))
   let Z14:=zT [(1,.p 1 0),(2,.d (Sv s21)),(3,.d (Sv s21)),(8,Ba false),(24,Ba true)] []
   refine iE 60 Z14 [(1,[Iv s,Bv z,Iv o])] ?_
   refine Ab (Ah (iR (Sv s21) ?_))
   simp only[hs21,hs17,hs16,hs12,Dv,As];rw[Do,if_pos hb,Gr,Ig,if_pos hc24,List.append_nil]
 ·replace hc8:=bt hc8
  refine iT (Aa rfl (iQ 1 ?_))
  let Z15:=zT [(1,.p 1 0),(2,.d (Sv (⟨#[]⟩))),(8,Ba true)] []
  refine iE 60 Z15 [(1,[Iv s,Bv z,Iv o])] ?_
  refine Ab (Ah (iR (Sv (⟨#[]⟩)) ?_))
  rw[Do,if_neg (fun h=>by have:=hb.2 h;rw[hc8] at this;cases this)];rfl
theorem a54 {y m d s o:Int} {z:Bool}:HasC Tryz.prog 117 [.agg [.v (.int .i64 y),.v (.int .i64 m),.v (.int .i64 d),.v (.int .i64 s),.v (.bool z),.v (.int .i64 o)]] (fun r => ∃ b,r=.v (.bool b)∧(b=true↔Fv y m d∧Ez s z o)):=by
 refine hO [] Tryz.f117 (fun a w=>Tryz.call117 a w) Tryz.func117 rfl (⟨_,decide (Fv y m d∧Ez s z o),rfl,by simp⟩) ?_
 refine Aa rfl (iQ 2 (iE 11 [(1,.p 1 0),(2,Ba false)] [(1,[Iv y,Iv m,Iv d,Iv s,Bv z,Iv o])] ?_))
 refine Aa rfl (iQ 2 (jC 110 [.agg [Iv y,Iv m,Iv d]] 5 (Nu) ?_))
 rintro _ ⟨b5,rfl,hb5⟩
 refine iQ 1 ?_
 cases b5
 ·replace hb5:=bf hb5
  refine iQ 5 (iE 11 [(2,Ba false)] [] ?_)
  refine Ab (iR (Bv false) ?_)
  exact ⟨_,rfl,by grind⟩
 ·replace hb5:=bt hb5
  refine iQ 2 (jC 115 [.agg [Iv s,Bv z,Iv o]] 9 (Vo) ?_)
  rintro _ ⟨b9,rfl,hb9⟩
  refine iQ 2 (iE 11 [(2,Ba b9)] [] ?_)
  refine Ab (iR (Bv b9) ?_)
  exact ⟨_,rfl,by grind⟩
theorem Wt {y m d s o:Int} {z:Bool}:HasC Tryz.prog 94 [.agg [.v (.int .i64 y),.v (.int .i64 m),.v (.int .i64 d),.v (.int .i64 s),.v (.bool z),.v (.int .i64 o)]] (fun r=>r=.v (.string (tx (a0v y m d s z o)))):=by
 refine hO [] Tryz.f94 (fun a w=>Tryz.call94 a w) Tryz.func94 rfl (⟨_,rfl⟩) ?_
 refine Aa rfl (iQ 2 (iE 14 [(1,.p 1 0),(2,.d (Sv (⟨#[]⟩)))] [(1,[Iv y,Iv m,Iv d,Iv s,Bv z,Iv o])] ?_))
 refine Af (Aa rfl (iQ 1 (jC 117 [.agg [Iv y,Iv m,Iv d,Iv s,Bv z,Iv o]] 4 (a54) ?_)))
 rintro _ ⟨b,rfl,hb⟩
 refine jU .not (.bool b) 5 ?_
 intro c5 hc5
 let Z1:=zT [(1,.p 1 0),(2,.d (Sv (⟨#[]⟩))),(5,Ba c5)] []
 refine iE 14 Z1 [(1,[Iv y,Iv m,Iv d,Iv s,Bv z,Iv o])] ?_
 cases c5
 ·replace hc5:=bf hc5
  replace hb:Fv y m d∧Ez s z o:=hb.1 (by simpa using hc5)
  refine iF (Ad (Ae (Aa rfl (iQ 2 (eC 92 [.agg [Iv y,Iv m,Iv d]] 8 (Jx) ?_)))))
  have p1:=a5d y m d
  have p2:=a8u s o z
  refine jB .add 9 (.string (tx (Eu y m d))) (.string (⟨#[84]⟩)) 9 ?_
  refine And.intro (Bc (m:=((Eu y m d)).length) (n:=1) rfl rfl (by omega)) ?_
  intro s9 hs9
  have hl9:(s9:ByteArray).size=((Eu y m d)).length+1:=At hs9 rfl rfl
  refine iQ 2 (eC 93 [.agg [Iv s,Bv z,Iv o]] 12 (Fw) (jB .add 9 (.string s9) (.string (tx (Do s z o))) 13 ?_))
  refine And.intro (Bc (m:=(s9:ByteArray).size) (n:=((Do s z o)).length) rfl rfl (by omega)) ?_
  intro s13 hs13
  have hl13:(s13:ByteArray).size=(s9:ByteArray).size+((Do s z o)).length:=At hs13 rfl rfl
  refine iQ 1 ?_
  let Z2:=zT [(1,.p 1 0),(2,.d (Sv s13)),(5,Ba false)] []
  refine iE 14 Z2 [(1,[Iv y,Iv m,Iv d,Iv s,Bv z,Iv o])] ?_
  refine Ab (iR (Sv s13) ?_)
  simp only[hs13,hs9,Dv,As];rw[a0v,if_pos hb,Eu,if_pos hb.1,Do,if_pos hb.2]
 ·replace hc5:=bt hc5
  refine iT (Aa rfl (iQ 1 ?_))
  let Z3:=zT [(1,.p 1 0),(2,.d (Sv (⟨#[]⟩))),(5,Ba true)] []
  refine iE 14 Z3 [(1,[Iv y,Iv m,Iv d,Iv s,Bv z,Iv o])] ?_
  refine Ab (Ah (iR (Sv (⟨#[]⟩)) ?_))
  rw[a0v,if_neg (fun h=>by have:=hb.2 h;rw[hc5] at this;cases this)];rfl
theorem Ee {n:Int} {l:L8} (hn:a8f n) (hl:l.length≤100):HasC Tryz.prog 127 [.v (.int .i64 n),.v (.string (tx l))] (fun r=>r=.v (.string (tx (Av n l)))):=by
 refine hO [] Tryz.f127 (fun a w=>Tryz.call127 a w) Tryz.func127 rfl (⟨_,rfl⟩) ?_
 refine Aa rfl (iQ 1 ?_)
 let Z1:=zT [(0,Ia n),(1,.d (Sv (tx l))),(4,.d (Sv (⟨#[]⟩)))] []
 refine iE 11 Z1 [] ?_
 refine Af (Aa rfl (iQ 1 (jB .eql 3 (.int .i64 n) (.int .i64 0) 6 ?_)))
 intro c6 hc6
 refine iE 11 (zT [(6,Ba c6)] Z1) [] ?_
 cases c6
 ·replace hc6:=bf hc6
  refine iF (Ad (Ae (Aa rfl (iQ 1 (eC 122 [Iv n] 8 (Ui hn) ?_)))))
  have p:=Hb n hn
  refine iQ 1 (jB .add 9 (.string (tx (Lib.itoa n))) (.string (tx l)) 10 ?_)
  refine And.intro (Bc (m:=((Lib.itoa n)).length) (n:=(l).length) rfl rfl (by omega)) ?_
  intro s10 hs10
  have hl10:(s10:ByteArray).size=((Lib.itoa n)).length+(l).length:=At hs10 rfl rfl
  refine iQ 1 (iE 11 [(0,Ia n),(4,.d (Sv s10)),(6,Ba false)] [] ?_)
  refine Ab (iR (Sv s10) ?_)
  simp only[hs10,As];rw[Av,if_neg hc6]
 ·replace hc6:=bt hc6
  refine iT (Aa rfl (iQ 1 (iE 11 (zT [(6,Ba true)] Z1) [] ?_)))
  refine Ab (Ah (iR (Sv (⟨#[]⟩)) ?_))
  rw[Av,if_pos hc6];rfl
theorem Gb {n:Int} {l:L8}:Av n l=[]↔n=0:=by
 unfold Av
 split
 ·rename_i h;simp[h]
 ·rename_i h
  have:=a42 (n:=n)
  simp only[List.append_eq_nil_iff,h,iff_false,not_and]
  intro e
  rw[e] at this
  simp at this
theorem Ef {l:L8} {s:ByteArray} (h:s=tx l):s=⟨#[]⟩↔l=[]:=by
 rw[h,← a0y,Ns]
theorem Js {k:Int} (h:0≤k):Ih k=[]↔k % 86400=0:=by
 unfold Ih
 simp only[List.append_eq_nil_iff,Gb]
 omega
theorem a2k {n:Int}:HasC Tryz.prog 95 [.v (.int .i64 n)] (fun r=>r=.v (.string (tx (Ga n)))):=by
 refine hO [] Tryz.f95 (fun a w=>Tryz.call95 a w) Tryz.func95 rfl (⟨_,rfl⟩) ?_
 refine Aa rfl (iQ 1 (iE 52 [(0,Ia n),(2,.d (Sv (⟨#[]⟩)))] [] ?_))
 refine Af (Aa rfl (iQ 1 (jB .lss 3 (.int .i64 n) (.int .i64 (-9007199254740992)) 8 ?_)))
 intro c8 hc8
 refine iQ 1 ?_
 cases c8
 ·replace hc8:=bf hc8
  refine iQ 1 (jB .gtr 3 (.int .i64 n) (.int .i64 9007199254740992) 11 ?_)
  intro c11 hc11
  refine iQ 1 ?_
  let Z1:=zT [(0,Ia n),(2,.d (Sv (⟨#[]⟩))),(12,Ba c11)] []
  refine iE 52 Z1 [] ?_
  cases c11
  ·replace hc11:=bf hc11
   refine iF (Ad (Ae (Aa rfl (iQ 1 ?_))))
   let Z2:=zT [(0,Ia n),(2,.d (Sv (⟨#[]⟩))),(3,.d (Sv (⟨#[]⟩))),(12,Ba false)] []
   refine iE 52 Z2 [] ?_
   refine Af (Aa rfl (iQ 1 (jB .lss 3 (.int .i64 n) (.int .i64 0) 14 ?_)))
   intro c14 hc14
   refine iE 52 (zT [(14,Ba c14)] Z2) [] ?_
   cases c14
   ·replace hc14:=bf hc14
    have hab:Nv n=n:=by unfold Nv;rw[if_neg hc14]
    have hsg:Ke n=[]:=by unfold Ke;rw[if_neg hc14]
    refine iF (Ad (Ae (Aa rfl (iQ 1 (jB .quo 3 (.int .i64 n) (.int .i64 86400) 18 ?_)))))
    refine And.intro (by omega) ?_
    intro z18 hz18
    have e18:z18=n / 86400:=Dk hz18 (by decide) (by omega) (by omega)
    refine eC 127 [Iv z18,Sv (⟨#[68]⟩)] 19 (Ee (l:=[68]) ⟨by omega,by omega⟩ (by decide)) ?_
    have p18:=Cn [68] (n:=z18) ⟨by omega,by omega⟩
    simp only[List.length_cons,List.length_nil] at p18
    refine iQ 1 (jB .rem 3 (.int .i64 n) (.int .i64 86400) 21 ?_)
    refine And.intro (by omega) ?_
    intro z21 hz21
    have e21:z21=n % 86400:=Eb hz21 (by omega)
    refine iQ 2 ?_
    let Z3:=zT [(4,.d (Sv (tx (Av z18 [68])))),(5,Ia z21),(14,Ba false)] []
    refine iE 52 (zT Z3 Z2) [] ?_
    refine Aa rfl (iQ 1 (jB .quo 3 (.int .i64 z21) (.int .i64 3600) 23 ?_))
    refine And.intro (by omega) ?_
    intro z23 hz23
    have e23:z23=n % 86400 / 3600:=by rw[Dk hz23 (by decide) (by omega) (by omega),e21]
    refine eC 127 [Iv z23,Sv (⟨#[72]⟩)] 24 (Ee (l:=[72]) ⟨by omega,by omega⟩ (by decide)) ?_
    have p23:=Cn [72] (n:=z23) ⟨by omega,by omega⟩
    simp only[List.length_cons,List.length_nil] at p23
    refine iQ 1 (jB .quo 3 (.int .i64 z21) (.int .i64 60) 26 ?_)
    refine And.intro (by omega) ?_
    intro z26 hz26
    have e26:z26=z21 / 60:=Dk hz26 (by decide) (by omega) (by omega)
    refine jB .rem 3 (.int .i64 z26) (.int .i64 60) 27 ?_
    refine And.intro (by omega) ?_
    intro z27 hz27
    have e27:z27=n % 3600 / 60:=by rw[Eb hz27 (by omega),e26,e21];omega
    refine eC 127 [Iv z27,Sv (⟨#[77]⟩)] 28 (Ee (l:=[77]) ⟨by omega,by omega⟩ (by decide)) ?_
    have p27:=Cn [77] (n:=z27) ⟨by omega,by omega⟩
    simp only[List.length_cons,List.length_nil] at p27
    refine jB .add 9 (.string (tx (Av z23 [72]))) (.string (tx (Av z27 [77]))) 29 ?_
    refine And.intro (Bc (m:=((Av z23 [72])).length) (n:=((Av z27 [77])).length) rfl rfl (by omega)) ?_
    intro s29 hs29
    have hl29:(s29:ByteArray).size=((Av z23 [72])).length+((Av z27 [77])).length:=At hs29 rfl rfl
    refine iQ 1 (jB .rem 3 (.int .i64 z21) (.int .i64 60) 31 ?_)
    refine And.intro (by omega) ?_
    intro z31 hz31
    have e31:z31=n % 60:=by rw[Eb hz31 (by omega),e21];omega
    refine eC 127 [Iv z31,Sv (⟨#[83]⟩)] 32 (Ee (l:=[83]) ⟨by omega,by omega⟩ (by decide)) ?_
    have p31:=Cn [83] (n:=z31) ⟨by omega,by omega⟩
    simp only[List.length_cons,List.length_nil] at p31
    refine jB .add 9 (.string s29) (.string (tx (Av z31 [83]))) 33 ?_
    refine And.intro (Bc (m:=(s29:ByteArray).size) (n:=((Av z31 [83])).length) rfl rfl (by omega)) ?_
    intro s33 hs33
    have hl33:(s33:ByteArray).size=(s29:ByteArray).size+((Av z31 [83])).length:=At hs33 rfl rfl
    have e33:s33=tx (Ih n):=by rw[hs33,hs29,As,As,e23,e27,e31];rfl
    refine iQ 1 ?_
    let Z4:=zT [(4,.d (Sv (tx (Av z18 [68])))),(6,.d (Sv s33)),(14,Ba false)] []
    refine iE 52 (zT Z4 Z2) [] ?_
    refine Af (An (Aa rfl (iQ 1 (jB .eql 9 (.string (tx (Av z18 [68]))) (.string (⟨#[]⟩)) 36 ?_))))
    intro c36 hc36
    refine iQ 1 ?_
    cases c36
    ·replace hc36:=bf hc36
     refine iQ 4 (iE 52 (zT [(34,Ba false)] (zT Z2 Z4)) [] ?_)
     have k0 : ¬ n / 86400=0:=fun h=>hc36 ((Ef rfl).2 (Gb.2 (by rw[e18];exact h)))
     refine iF (Aa rfl (iQ 1 (jB .neq 9 (.string s33) (.string (⟨#[]⟩)) 43 ?_)))
     intro c43 hc43
     refine iQ 1 (iE 52 (zT [(34,Ba false),(41,Ba c43)] (zT Z2 Z4)) [] ?_)
     cases c43
     ·replace hc43:=bf hc43
      have k1:Ih n=[]:=(Ef e33).1 (by simpa using hc43)
      refine iF (Ad (Ao (Ae (Aa rfl (iQ 1 (jB .add 9 (.string (⟨#[]⟩)) (.string (⟨#[80]⟩)) 47 ?_))))))
      refine And.intro (Bc (m:=0) (n:=1) rfl rfl (by omega)) ?_
      intro s47 hs47
      have hl47:(s47:ByteArray).size=0+1:=At hs47 rfl rfl
      refine iQ 1 (jB .add 9 (.string s47) (.string (tx (Av z18 [68]))) 49 ?_)
      refine And.intro (Bc (m:=(s47:ByteArray).size) (n:=((Av z18 [68])).length) rfl rfl (by omega)) ?_
      intro s49 hs49
      have hl49:(s49:ByteArray).size=(s47:ByteArray).size+((Av z18 [68])).length:=At hs49 rfl rfl
      refine iQ 1 (jB .add 9 (.string s49) (.string s33) 51 ?_)
      refine And.intro (Bc (m:=(s49:ByteArray).size) (n:=(s33:ByteArray).size) rfl rfl (by omega)) ?_
      intro s51 hs51
      have hl51:(s51:ByteArray).size=(s49:ByteArray).size+(s33:ByteArray).size:=At hs51 rfl rfl
      refine iQ 1 ?_
      let Z5:=zT [(0,Ia n),(2,.d (Sv s51)),(12,Ba false),(34,Ba false),(41,Ba false)] []
      refine iE 52 (zT Z5 Z4) [] ?_
      refine Ab (iR (Sv s51) ?_)
      simp only[hs51,hs49,hs47,e33,Dv,As,e18];rw[Ga,if_neg (by omega),if_neg (by omega),hab,if_pos k1,hsg,k1];all_goals simp only[List.append_assoc,List.cons_append,List.nil_append,List.append_nil]
     ·replace hc43:=bt hc43
      have k1 : ¬ Ih n=[]:=fun h=>hc43 ((Ef e33).2 h)
      refine iT (Am rfl (iQ 1 (jB .add 9 (.string (⟨#[84]⟩)) (.string s33) 45 ?_)))
      refine And.intro (Bc (m:=1) (n:=(s33:ByteArray).size) rfl rfl (by omega)) ?_
      intro s45 hs45
      have hl45:(s45:ByteArray).size=1+(s33:ByteArray).size:=At hs45 rfl rfl
      refine iQ 1 ?_
      let Z6:=zT [(4,.d (Sv (tx (Av z18 [68])))),(6,.d (Sv s45)),(14,Ba false),(34,Ba false),(41,Ba true)] []
      refine iE 52 (zT Z6 Z2) [] ?_
      refine Ao (Ae (Aa rfl (iQ 1 (jB .add 9 (.string (⟨#[]⟩)) (.string (⟨#[80]⟩)) 47 ?_))))
      refine And.intro (Bc (m:=0) (n:=1) rfl rfl (by omega)) ?_
      intro s47 hs47
      have hl47:(s47:ByteArray).size=0+1:=At hs47 rfl rfl
      refine iQ 1 (jB .add 9 (.string s47) (.string (tx (Av z18 [68]))) 49 ?_)
      refine And.intro (Bc (m:=(s47:ByteArray).size) (n:=((Av z18 [68])).length) rfl rfl (by omega)) ?_
      intro s49 hs49
      have hl49:(s49:ByteArray).size=(s47:ByteArray).size+((Av z18 [68])).length:=At hs49 rfl rfl
      refine iQ 1 (jB .add 9 (.string s49) (.string s45) 51 ?_)
      refine And.intro (Bc (m:=(s49:ByteArray).size) (n:=(s45:ByteArray).size) rfl rfl (by omega)) ?_
      intro s51 hs51
      have hl51:(s51:ByteArray).size=(s49:ByteArray).size+(s45:ByteArray).size:=At hs51 rfl rfl
      refine iQ 1 (iE 52 (zT [(0,Ia n),(2,.d (Sv s51)),(12,Ba false)] Z6) [] ?_)
      refine Ab (iR (Sv s51) ?_)
      simp only[hs51,hs49,hs47,hs45,e33,Dv,As,e18];rw[Ga,if_neg (by omega),if_neg (by omega),hab,if_neg k1,hsg];all_goals simp only[List.append_assoc,List.cons_append,List.nil_append,List.append_nil]
    ·replace hc36:=bt hc36
     refine iQ 1 (jB .eql 9 (.string s33) (.string (⟨#[]⟩)) 39 ?_)
     have k0:n / 86400=0:=by rw[← e18];exact Gb.1 ((Ef rfl).1 hc36)
     intro c39 hc39
     refine iQ 2 (iE 52 (zT [(34,Ba c39)] (zT Z2 Z4)) [] ?_)
     cases c39
     ·replace hc39:=bf hc39
      have k1 : ¬ Ih n=[]:=fun h=>hc39 ((Ef e33).2 h)
      have k2 : ¬ n=0:=fun h=>k1 ((Js (by omega)).2 (by omega))
      refine iF (Aa rfl (iQ 1 (jB .neq 9 (.string s33) (.string (⟨#[]⟩)) 43 ?_)))
      refine Bg (hc39) ?_
      refine iQ 1 (iE 52 (zT [(34,Ba false),(41,Ba true)] (zT Z2 Z4)) [] ?_)
      refine iT (Am rfl (iQ 1 (jB .add 9 (.string (⟨#[84]⟩)) (.string s33) 45 ?_)))
      refine And.intro (Bc (m:=1) (n:=(s33:ByteArray).size) rfl rfl (by omega)) ?_
      intro s45 hs45
      have hl45:(s45:ByteArray).size=1+(s33:ByteArray).size:=At hs45 rfl rfl
      refine iQ 1 ?_
      let Z7:=zT [(4,.d (Sv (tx (Av z18 [68])))),(6,.d (Sv s45)),(14,Ba false),(34,Ba false),(41,Ba true)] []
      refine iE 52 (zT Z7 Z2) [] ?_
      refine Ao (Ae (Aa rfl (iQ 1 (jB .add 9 (.string (⟨#[]⟩)) (.string (⟨#[80]⟩)) 47 ?_))))
      refine And.intro (Bc (m:=0) (n:=1) rfl rfl (by omega)) ?_
      intro s47 hs47
      have hl47:(s47:ByteArray).size=0+1:=At hs47 rfl rfl
      refine iQ 1 (jB .add 9 (.string s47) (.string (tx (Av z18 [68]))) 49 ?_)
      refine And.intro (Bc (m:=(s47:ByteArray).size) (n:=((Av z18 [68])).length) rfl rfl (by omega)) ?_
      intro s49 hs49
      have hl49:(s49:ByteArray).size=(s47:ByteArray).size+((Av z18 [68])).length:=At hs49 rfl rfl
      refine iQ 1 (jB .add 9 (.string s49) (.string s45) 51 ?_)
      refine And.intro (Bc (m:=(s49:ByteArray).size) (n:=(s45:ByteArray).size) rfl rfl (by omega)) ?_
      intro s51 hs51
      have hl51:(s51:ByteArray).size=(s49:ByteArray).size+(s45:ByteArray).size:=At hs51 rfl rfl
      refine iQ 1 (iE 52 (zT [(0,Ia n),(2,.d (Sv s51)),(12,Ba false)] Z7) [] ?_)
      refine Ab (iR (Sv s51) ?_)
      simp only[hs51,hs49,hs47,hs45,e33,Dv,As,e18];rw[Ga,if_neg (by omega),if_neg k2,hab,if_neg k1,hsg];all_goals simp only[List.append_assoc,List.cons_append,List.nil_append,List.append_nil]
     ·replace hc39:=bt hc39
      have k1:n % 86400=0:=(Js (by omega)).1 ((Ef e33).1 hc39)
      refine iT (Aa rfl (iQ 1 ?_))
      let Z8:=zT [(0,Ia n),(2,.d (Sv (⟨#[80,84,48,83]⟩))),(3,.d (Sv (⟨#[]⟩))),(12,Ba false),(34,Ba true)] []
      refine iE 52 (zT Z8 Z4) [] ?_
      refine Ab (Aj (Ah (iR (Sv (⟨#[80,84,48,83]⟩)) ?_)))
      rw[Ga,if_neg (by omega),if_pos (by omega)];rfl
   ·replace hc14:=bt hc14
    refine iT (Am rfl (iQ 1 (jU .neg (.int .i64 n) 16 ?_)))
    intro z16 hz16
    try replace hz16:=hz16.i64 (by omega)
    have e16:z16 = -n:=by omega
    have hab:Nv n=z16:=by unfold Nv;rw[if_pos hc14,e16]
    have hsg:Ke n=[45]:=by unfold Ke;rw[if_pos hc14]
    refine iQ 2 ?_
    let Z9:=zT [(0,Ia z16),(2,.d (Sv (⟨#[]⟩))),(3,.d (Sv (⟨#[45]⟩))),(12,Ba false),(14,Ba true)] []
    refine iE 52 Z9 [] ?_
    refine Ae (Aa rfl (iQ 1 (jB .quo 3 (.int .i64 z16) (.int .i64 86400) 18 ?_)))
    refine And.intro (by omega) ?_
    intro z18 hz18
    have e18:z18=z16 / 86400:=Dk hz18 (by decide) (by omega) (by omega)
    refine eC 127 [Iv z18,Sv (⟨#[68]⟩)] 19 (Ee (l:=[68]) ⟨by omega,by omega⟩ (by decide)) ?_
    have p18:=Cn [68] (n:=z18) ⟨by omega,by omega⟩
    simp only[List.length_cons,List.length_nil] at p18
    refine iQ 1 (jB .rem 3 (.int .i64 z16) (.int .i64 86400) 21 ?_)
    refine And.intro (by omega) ?_
    intro z21 hz21
    have e21:z21=z16 % 86400:=Eb hz21 (by omega)
    refine iQ 2 ?_
    let Z10:=zT [(4,.d (Sv (tx (Av z18 [68])))),(5,Ia z21)] []
    refine iE 52 (zT Z10 Z9) [] ?_
    refine Aa rfl (iQ 1 (jB .quo 3 (.int .i64 z21) (.int .i64 3600) 23 ?_))
    refine And.intro (by omega) ?_
    intro z23 hz23
    have e23:z23=z16 % 86400 / 3600:=by rw[Dk hz23 (by decide) (by omega) (by omega),e21]
    refine eC 127 [Iv z23,Sv (⟨#[72]⟩)] 24 (Ee (l:=[72]) ⟨by omega,by omega⟩ (by decide)) ?_
    have p23:=Cn [72] (n:=z23) ⟨by omega,by omega⟩
    simp only[List.length_cons,List.length_nil] at p23
    refine iQ 1 (jB .quo 3 (.int .i64 z21) (.int .i64 60) 26 ?_)
    refine And.intro (by omega) ?_
    intro z26 hz26
    have e26:z26=z21 / 60:=Dk hz26 (by decide) (by omega) (by omega)
    refine jB .rem 3 (.int .i64 z26) (.int .i64 60) 27 ?_
    refine And.intro (by omega) ?_
    intro z27 hz27
    have e27:z27=z16 % 3600 / 60:=by rw[Eb hz27 (by omega),e26,e21];omega
    refine eC 127 [Iv z27,Sv (⟨#[77]⟩)] 28 (Ee (l:=[77]) ⟨by omega,by omega⟩ (by decide)) ?_
    have p27:=Cn [77] (n:=z27) ⟨by omega,by omega⟩
    simp only[List.length_cons,List.length_nil] at p27
    refine jB .add 9 (.string (tx (Av z23 [72]))) (.string (tx (Av z27 [77]))) 29 ?_
    refine And.intro (Bc (m:=((Av z23 [72])).length) (n:=((Av z27 [77])).length) rfl rfl (by omega)) ?_
    intro s29 hs29
    have hl29:(s29:ByteArray).size=((Av z23 [72])).length+((Av z27 [77])).length:=At hs29 rfl rfl
    refine iQ 1 (jB .rem 3 (.int .i64 z21) (.int .i64 60) 31 ?_)
    refine And.intro (by omega) ?_
    intro z31 hz31
    have e31:z31=z16 % 60:=by rw[Eb hz31 (by omega),e21];omega
    refine eC 127 [Iv z31,Sv (⟨#[83]⟩)] 32 (Ee (l:=[83]) ⟨by omega,by omega⟩ (by decide)) ?_
    have p31:=Cn [83] (n:=z31) ⟨by omega,by omega⟩
    simp only[List.length_cons,List.length_nil] at p31
    refine jB .add 9 (.string s29) (.string (tx (Av z31 [83]))) 33 ?_
    refine And.intro (Bc (m:=(s29:ByteArray).size) (n:=((Av z31 [83])).length) rfl rfl (by omega)) ?_
    intro s33 hs33
    have hl33:(s33:ByteArray).size=(s29:ByteArray).size+((Av z31 [83])).length:=At hs33 rfl rfl
    have e33:s33=tx (Ih z16):=by rw[hs33,hs29,As,As,e23,e27,e31];rfl
    refine iQ 1 ?_
    let Z11:=zT [(4,.d (Sv (tx (Av z18 [68])))),(6,.d (Sv s33))] []
    refine iE 52 (zT Z11 Z9) [] ?_
    refine Af (An (Aa rfl (iQ 1 (jB .eql 9 (.string (tx (Av z18 [68]))) (.string (⟨#[]⟩)) 36 ?_))))
    intro c36 hc36
    refine iQ 1 ?_
    cases c36
    ·replace hc36:=bf hc36
     refine iQ 4 (iE 52 (zT [(34,Ba false)] (zT Z9 Z11)) [] ?_)
     have k0 : ¬ z16 / 86400=0:=fun h=>hc36 ((Ef rfl).2 (Gb.2 (by rw[e18];exact h)))
     refine iF (Aa rfl (iQ 1 (jB .neq 9 (.string s33) (.string (⟨#[]⟩)) 43 ?_)))
     intro c43 hc43
     refine iQ 1 (iE 52 (zT [(34,Ba false),(41,Ba c43)] (zT Z9 Z11)) [] ?_)
     cases c43
     ·replace hc43:=bf hc43
      have k1:Ih z16=[]:=(Ef e33).1 (by simpa using hc43)
      refine iF (Ad (Ao (Ae (Aa rfl (iQ 1 (jB .add 9 (.string (⟨#[45]⟩)) (.string (⟨#[80]⟩)) 47 ?_))))))
      refine And.intro (Bc (m:=1) (n:=1) rfl rfl (by omega)) ?_
      intro s47 hs47
      have hl47:(s47:ByteArray).size=1+1:=At hs47 rfl rfl
      refine iQ 1 (jB .add 9 (.string s47) (.string (tx (Av z18 [68]))) 49 ?_)
      refine And.intro (Bc (m:=(s47:ByteArray).size) (n:=((Av z18 [68])).length) rfl rfl (by omega)) ?_
      intro s49 hs49
      have hl49:(s49:ByteArray).size=(s47:ByteArray).size+((Av z18 [68])).length:=At hs49 rfl rfl
      refine iQ 1 (jB .add 9 (.string s49) (.string s33) 51 ?_)
      refine And.intro (Bc (m:=(s49:ByteArray).size) (n:=(s33:ByteArray).size) rfl rfl (by omega)) ?_
      intro s51 hs51
      have hl51:(s51:ByteArray).size=(s49:ByteArray).size+(s33:ByteArray).size:=At hs51 rfl rfl
      refine iQ 1 ?_
      let Z12:=zT [(0,Ia z16),(2,.d (Sv s51)),(12,Ba false),(14,Ba true),(34,Ba false),(41,Ba false)] []
      refine iE 52 (zT Z12 Z11) [] ?_
      refine Ab (iR (Sv s51) ?_)
      simp only[hs51,hs49,hs47,e33,Dv,As,e18];rw[Ga,if_neg (by omega),if_neg (by omega),hab,if_pos k1,hsg,k1];all_goals simp only[List.append_assoc,List.cons_append,List.nil_append,List.append_nil]
     ·replace hc43:=bt hc43
      have k1 : ¬ Ih z16=[]:=fun h=>hc43 ((Ef e33).2 h)
      refine iT (Am rfl (iQ 1 (jB .add 9 (.string (⟨#[84]⟩)) (.string s33) 45 ?_)))
      refine And.intro (Bc (m:=1) (n:=(s33:ByteArray).size) rfl rfl (by omega)) ?_
      intro s45 hs45
      have hl45:(s45:ByteArray).size=1+(s33:ByteArray).size:=At hs45 rfl rfl
      refine iQ 1 ?_
      let Z13:=zT [(4,.d (Sv (tx (Av z18 [68])))),(6,.d (Sv s45)),(34,Ba false),(41,Ba true)] []
      refine iE 52 (zT Z13 Z9) [] ?_
      refine Ao (Ae (Aa rfl (iQ 1 (jB .add 9 (.string (⟨#[45]⟩)) (.string (⟨#[80]⟩)) 47 ?_))))
      refine And.intro (Bc (m:=1) (n:=1) rfl rfl (by omega)) ?_
      intro s47 hs47
      have hl47:(s47:ByteArray).size=1+1:=At hs47 rfl rfl
      refine iQ 1 (jB .add 9 (.string s47) (.string (tx (Av z18 [68]))) 49 ?_)
      refine And.intro (Bc (m:=(s47:ByteArray).size) (n:=((Av z18 [68])).length) rfl rfl (by omega)) ?_
      intro s49 hs49
      have hl49:(s49:ByteArray).size=(s47:ByteArray).size+((Av z18 [68])).length:=At hs49 rfl rfl
      refine iQ 1 (jB .add 9 (.string s49) (.string s45) 51 ?_)
      refine And.intro (Bc (m:=(s49:ByteArray).size) (n:=(s45:ByteArray).size) rfl rfl (by omega)) ?_
      intro s51 hs51
      have hl51:(s51:ByteArray).size=(s49:ByteArray).size+(s45:ByteArray).size:=At hs51 rfl rfl
      refine iQ 1 ?_
      let Z14:=zT [(0,Ia z16),(2,.d (Sv s51)),(12,Ba false),(14,Ba true)] []
      refine iE 52 (zT Z14 Z13) [] ?_
      refine Ab (iR (Sv s51) ?_)
      simp only[hs51,hs49,hs47,hs45,e33,Dv,As,e18];rw[Ga,if_neg (by omega),if_neg (by omega),hab,if_neg k1,hsg];all_goals simp only[List.append_assoc,List.cons_append,List.nil_append,List.append_nil]
    ·replace hc36:=bt hc36
     refine iQ 1 (jB .eql 9 (.string s33) (.string (⟨#[]⟩)) 39 ?_)
     have k0:z16 / 86400=0:=by rw[← e18];exact Gb.1 ((Ef rfl).1 hc36)
     intro c39 hc39
     refine iQ 2 (iE 52 (zT [(34,Ba c39)] (zT Z9 Z11)) [] ?_)
     cases c39
     ·replace hc39:=bf hc39
      have k1 : ¬ Ih z16=[]:=fun h=>hc39 ((Ef e33).2 h)
      have k2 : ¬ n=0:=fun h=>k1 ((Js (by omega)).2 (by omega))
      refine iF (Aa rfl (iQ 1 (jB .neq 9 (.string s33) (.string (⟨#[]⟩)) 43 ?_)))
      refine Bg (hc39) ?_
      refine iQ 1 (iE 52 (zT [(34,Ba false),(41,Ba true)] (zT Z9 Z11)) [] ?_)
      refine iT (Am rfl (iQ 1 (jB .add 9 (.string (⟨#[84]⟩)) (.string s33) 45 ?_)))
      refine And.intro (Bc (m:=1) (n:=(s33:ByteArray).size) rfl rfl (by omega)) ?_
      intro s45 hs45
      have hl45:(s45:ByteArray).size=1+(s33:ByteArray).size:=At hs45 rfl rfl
      refine iQ 1 ?_
      let Z15:=zT [(4,.d (Sv (tx (Av z18 [68])))),(6,.d (Sv s45)),(34,Ba false),(41,Ba true)] []
      refine iE 52 (zT Z15 Z9) [] ?_
      refine Ao (Ae (Aa rfl (iQ 1 (jB .add 9 (.string (⟨#[45]⟩)) (.string (⟨#[80]⟩)) 47 ?_))))
      refine And.intro (Bc (m:=1) (n:=1) rfl rfl (by omega)) ?_
      intro s47 hs47
      have hl47:(s47:ByteArray).size=1+1:=At hs47 rfl rfl
      refine iQ 1 (jB .add 9 (.string s47) (.string (tx (Av z18 [68]))) 49 ?_)
      refine And.intro (Bc (m:=(s47:ByteArray).size) (n:=((Av z18 [68])).length) rfl rfl (by omega)) ?_
      intro s49 hs49
      have hl49:(s49:ByteArray).size=(s47:ByteArray).size+((Av z18 [68])).length:=At hs49 rfl rfl
      refine iQ 1 (jB .add 9 (.string s49) (.string s45) 51 ?_)
      refine And.intro (Bc (m:=(s49:ByteArray).size) (n:=(s45:ByteArray).size) rfl rfl (by omega)) ?_
      intro s51 hs51
      have hl51:(s51:ByteArray).size=(s49:ByteArray).size+(s45:ByteArray).size:=At hs51 rfl rfl
      refine iQ 1 ?_
      let Z16:=zT [(0,Ia z16),(2,.d (Sv s51)),(12,Ba false),(14,Ba true)] []
      refine iE 52 (zT Z16 Z15) [] ?_
      refine Ab (iR (Sv s51) ?_)
      simp only[hs51,hs49,hs47,hs45,e33,Dv,As,e18];rw[Ga,if_neg (by omega),if_neg k2,hab,if_neg k1,hsg];all_goals simp only[List.append_assoc,List.cons_append,List.nil_append,List.append_nil]
     ·replace hc39:=bt hc39
      have k1:z16 % 86400=0:=(Js (by omega)).1 ((Ef e33).1 hc39)
      refine iT (Aa rfl (iQ 1 ?_))
      let Z17:=zT [(0,Ia z16),(2,.d (Sv (⟨#[80,84,48,83]⟩))),(3,.d (Sv (⟨#[45]⟩))),(12,Ba false),(14,Ba true),(34,Ba true)] []
      refine iE 52 (zT Z17 Z11) [] ?_
      refine Ab (Aj (Ah (iR (Sv (⟨#[80,84,48,83]⟩)) ?_)))
      rw[Ga,if_neg (by omega),if_pos (by omega)];rfl
  ·replace hc11:=bt hc11
   refine iT (Aa rfl (iQ 1 ?_))
   let Z18:=zT [(0,Ia n),(2,.d (Sv (⟨#[]⟩))),(12,Ba true)] []
   refine iE 52 Z18 [] ?_
   refine Ab (Ah (iR (Sv (⟨#[]⟩)) ?_))
   rw[Ga,if_pos (by omega)];rfl
 ·replace hc8:=bt hc8
  refine iQ 3 ?_
  let Z19:=zT [(0,Ia n),(2,.d (Sv (⟨#[]⟩))),(12,Ba true)] []
  refine iE 52 Z19 [] ?_
  refine iT (Aa rfl (iQ 1 (iE 52 Z19 [] ?_)))
  refine Ab (Ah (iR (Sv (⟨#[]⟩)) ?_))
  rw[Ga,if_pos (by omega)];rfl
theorem Zh {n:Int}:HasC Tryz.prog 96 [.v (.int .i64 n)] (fun r=>r=.v (.string (tx (Ev n)))):=by
 refine hO [] Tryz.f96 (fun a w=>Tryz.call96 a w) Tryz.func96 rfl (⟨_,rfl⟩) ?_
 refine Aa rfl (iQ 1 (iE 26 [(0,Ia n),(2,.d (Sv (⟨#[]⟩)))] [] ?_))
 refine Af (Aa rfl (iQ 1 (jB .lss 3 (.int .i64 n) (.int .i64 (-9007199254740992)) 5 ?_)))
 intro c5 hc5
 refine iQ 1 ?_
 cases c5
 ·replace hc5:=bf hc5
  refine iQ 1 (jB .gtr 3 (.int .i64 n) (.int .i64 9007199254740992) 8 ?_)
  intro c8 hc8
  refine iQ 1 ?_
  let Z1:=zT [(0,Ia n),(2,.d (Sv (⟨#[]⟩))),(9,Ba c8)] []
  refine iE 26 Z1 [] ?_
  cases c8
  ·replace hc8:=bf hc8
   refine iF (Ad (Ae (Aa rfl (iQ 1 ?_))))
   let Z2:=zT [(0,Ia n),(2,.d (Sv (⟨#[]⟩))),(3,.d (Sv (⟨#[]⟩))),(9,Ba false)] []
   refine iE 26 Z2 [] ?_
   refine Af (Aa rfl (iQ 1 (jB .lss 3 (.int .i64 n) (.int .i64 0) 11 ?_)))
   intro c11 hc11
   refine iE 26 (zT [(11,Ba c11)] Z2) [] ?_
   cases c11
   ·replace hc11:=bf hc11
    have hab:Nv n=n:=by unfold Nv;rw[if_neg hc11]
    have hsg:Ke n=[]:=by unfold Ke;rw[if_neg hc11]
    refine iF (Ad (Ae (Af (Aa rfl (iQ 1 (jB .eql 3 (.int .i64 n) (.int .i64 0) 15 ?_))))))
    intro c15 hc15
    refine iE 26 (zT [(11,Ba false),(15,Ba c15)] Z2) [] ?_
    cases c15
    ·replace hc15:=bf hc15
     refine iF (Ad (Ae (Aa rfl (iQ 1 (jB .add 9 (.string (⟨#[]⟩)) (.string (⟨#[80]⟩)) 17 ?_)))))
     refine And.intro (Bc (m:=0) (n:=1) rfl rfl (by omega)) ?_
     intro s17 hs17
     have hl17:(s17:ByteArray).size=0+1:=At hs17 rfl rfl
     refine iQ 1 (jB .quo 3 (.int .i64 n) (.int .i64 12) 19 ?_)
     refine And.intro (by omega) ?_
     intro z19 hz19
     have e19:z19=n / 12:=Dk hz19 (by decide) (by omega) (by omega)
     refine eC 127 [Iv z19,Sv (⟨#[89]⟩)] 20 (Ee (l:=[89]) ⟨by omega,by omega⟩ (by decide)) ?_
     have p19:=Cn [89] (n:=z19) ⟨by omega,by omega⟩
     simp only[List.length_cons,List.length_nil] at p19
     refine jB .add 9 (.string s17) (.string (tx (Av z19 [89]))) 21 ?_
     refine And.intro (Bc (m:=(s17:ByteArray).size) (n:=((Av z19 [89])).length) rfl rfl (by omega)) ?_
     intro s21 hs21
     have hl21:(s21:ByteArray).size=(s17:ByteArray).size+((Av z19 [89])).length:=At hs21 rfl rfl
     refine iQ 1 (jB .rem 3 (.int .i64 n) (.int .i64 12) 23 ?_)
     refine And.intro (by omega) ?_
     intro z23 hz23
     have e23:z23=n % 12:=Eb hz23 (by omega)
     refine eC 127 [Iv z23,Sv (⟨#[77]⟩)] 24 (Ee (l:=[77]) ⟨by omega,by omega⟩ (by decide)) ?_
     have p23:=Cn [77] (n:=z23) ⟨by omega,by omega⟩
     simp only[List.length_cons,List.length_nil] at p23
     refine jB .add 9 (.string s21) (.string (tx (Av z23 [77]))) 25 ?_
     refine And.intro (Bc (m:=(s21:ByteArray).size) (n:=((Av z23 [77])).length) rfl rfl (by omega)) ?_
     intro s25 hs25
     have hl25:(s25:ByteArray).size=(s21:ByteArray).size+((Av z23 [77])).length:=At hs25 rfl rfl
     refine iQ 1 ?_
     let Z3:=zT [(0,Ia n),(2,.d (Sv s25)),(9,Ba false),(11,Ba false),(15,Ba false)] []
     refine iE 26 Z3 [] ?_
     refine Ab (iR (Sv s25) ?_)
     simp only[hs25,hs21,hs17,Dv,As,e19,e23];rw[Ev,if_neg (by omega),if_neg (by omega),hab,hsg];all_goals simp only[List.append_assoc,List.cons_append,List.nil_append,List.append_nil]
    ·replace hc15:=bt hc15
     refine iT (Aa rfl (iQ 1 ?_))
     let Z4:=zT [(0,Ia n),(2,.d (Sv (⟨#[80,48,77]⟩))),(3,.d (Sv (⟨#[]⟩))),(9,Ba false),(11,Ba false),(15,Ba true)] []
     refine iE 26 Z4 [] ?_
     refine Ab (Ah (iR (Sv (⟨#[80,48,77]⟩)) ?_))
     rw[Ev,if_neg (by omega),if_pos (by omega)];rfl
   ·replace hc11:=bt hc11
    refine iT (Am rfl (iQ 1 (jU .neg (.int .i64 n) 13 ?_)))
    intro z13 hz13
    try replace hz13:=hz13.i64 (by omega)
    have e13:z13 = -n:=by omega
    have hab:Nv n=z13:=by unfold Nv;rw[if_pos hc11,e13]
    have hsg:Ke n=[45]:=by unfold Ke;rw[if_pos hc11]
    refine iQ 2 ?_
    let Z5:=zT [(0,Ia z13),(2,.d (Sv (⟨#[]⟩))),(3,.d (Sv (⟨#[45]⟩))),(9,Ba false),(11,Ba true)] []
    refine iE 26 Z5 [] ?_
    refine Ae (Af (Aa rfl (iQ 1 (jB .eql 3 (.int .i64 z13) (.int .i64 0) 15 ?_))))
    intro c15 hc15
    refine iE 26 (zT [(15,Ba c15)] Z5) [] ?_
    cases c15
    ·replace hc15:=bf hc15
     refine iF (Ad (Ae (Aa rfl (iQ 1 (jB .add 9 (.string (⟨#[45]⟩)) (.string (⟨#[80]⟩)) 17 ?_)))))
     refine And.intro (Bc (m:=1) (n:=1) rfl rfl (by omega)) ?_
     intro s17 hs17
     have hl17:(s17:ByteArray).size=1+1:=At hs17 rfl rfl
     refine iQ 1 (jB .quo 3 (.int .i64 z13) (.int .i64 12) 19 ?_)
     refine And.intro (by omega) ?_
     intro z19 hz19
     have e19:z19=z13 / 12:=Dk hz19 (by decide) (by omega) (by omega)
     refine eC 127 [Iv z19,Sv (⟨#[89]⟩)] 20 (Ee (l:=[89]) ⟨by omega,by omega⟩ (by decide)) ?_
     have p19:=Cn [89] (n:=z19) ⟨by omega,by omega⟩
     simp only[List.length_cons,List.length_nil] at p19
     refine jB .add 9 (.string s17) (.string (tx (Av z19 [89]))) 21 ?_
     refine And.intro (Bc (m:=(s17:ByteArray).size) (n:=((Av z19 [89])).length) rfl rfl (by omega)) ?_
     intro s21 hs21
     have hl21:(s21:ByteArray).size=(s17:ByteArray).size+((Av z19 [89])).length:=At hs21 rfl rfl
     refine iQ 1 (jB .rem 3 (.int .i64 z13) (.int .i64 12) 23 ?_)
     refine And.intro (by omega) ?_
     intro z23 hz23
     have e23:z23=z13 % 12:=Eb hz23 (by omega)
     refine eC 127 [Iv z23,Sv (⟨#[77]⟩)] 24 (Ee (l:=[77]) ⟨by omega,by omega⟩ (by decide)) ?_
     have p23:=Cn [77] (n:=z23) ⟨by omega,by omega⟩
     simp only[List.length_cons,List.length_nil] at p23
     refine jB .add 9 (.string s21) (.string (tx (Av z23 [77]))) 25 ?_
     refine And.intro (Bc (m:=(s21:ByteArray).size) (n:=((Av z23 [77])).length) rfl rfl (by omega)) ?_
     intro s25 hs25
     have hl25:(s25:ByteArray).size=(s21:ByteArray).size+((Av z23 [77])).length:=At hs25 rfl rfl
     refine iQ 1 ?_
     let Z6:=zT [(0,Ia z13),(2,.d (Sv s25)),(9,Ba false),(11,Ba true),(15,Ba false)] []
     refine iE 26 Z6 [] ?_
     refine Ab (iR (Sv s25) ?_)
     simp only[hs25,hs21,hs17,Dv,As,e19,e23];rw[Ev,if_neg (by omega),if_neg (by omega),hab,hsg];all_goals simp only[List.append_assoc,List.cons_append,List.nil_append,List.append_nil]
    ·replace hc15:=bt hc15
     refine iT (Aa rfl (iQ 1 ?_))
     let Z7:=zT [(0,Ia z13),(2,.d (Sv (⟨#[80,48,77]⟩))),(3,.d (Sv (⟨#[45]⟩))),(9,Ba false),(11,Ba true),(15,Ba true)] []
     refine iE 26 Z7 [] ?_
     refine Ab (Ah (iR (Sv (⟨#[80,48,77]⟩)) ?_))
     rw[Ev,if_neg (by omega),if_pos (by omega)];rfl
  ·replace hc8:=bt hc8
   refine iT (Aa rfl (iQ 1 ?_))
   let Z8:=zT [(0,Ia n),(2,.d (Sv (⟨#[]⟩))),(9,Ba true)] []
   refine iE 26 Z8 [] ?_
   refine Ab (Ah (iR (Sv (⟨#[]⟩)) ?_))
   rw[Ev,if_pos (by omega)];rfl
 ·replace hc5:=bt hc5
  refine iQ 3 ?_
  let Z9:=zT [(0,Ia n),(2,.d (Sv (⟨#[]⟩))),(9,Ba true)] []
  refine iE 26 Z9 [] ?_
  refine iT (Aa rfl (iQ 1 (iE 26 Z9 [] ?_)))
  refine Ab (Ah (iR (Sv (⟨#[]⟩)) ?_))
  rw[Ev,if_pos (by omega)];rfl
end Go.Proofs.YtfkfpkhgoijfdaaGreatDoor
