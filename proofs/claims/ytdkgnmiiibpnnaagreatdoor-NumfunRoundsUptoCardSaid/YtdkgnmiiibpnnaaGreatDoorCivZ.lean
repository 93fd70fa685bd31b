/- civil: leap years, the lengths of months, days and their numbers. civil: a day comes back from its number; the order of days is that of their numbers; months later; which of two days is ahead. lexical: what the texts of days, times and durations are, what is read of a text: in lists of bytes, with no program in sight. lexical: the texts of days, times, moments and durations. -/
import Derived.Test.YtdkgnmiiibpnnaaGreatDoorVcZ
import Derived.Test.YtdkgnmiiibpnnaaGreatDoorIto
namespace Go.Proofs.YtdkgnmiiibpnnaaGreatDoor
open Go.RowKit
set_option linter.unusedVariables false
set_option linter.unusedSimpArgs false
set_option maxRecDepth 100000
theorem b7k (a:Int) {b:Int} (hb:0<b) : -(a.natAbs:Int)≤a.tdiv b∧a.tdiv b≤a.natAbs:=by
 rcases Int.le_total 0 a with h | h
 ·rw[Int.tdiv_eq_ediv_of_nonneg h]
  have h1:=Int.ediv_nonneg h (Int.le_of_lt hb)
  have h2:=Int.ediv_le_self b h
  omega
 ·obtain ⟨c,rfl⟩ : ∃ c,a = -c:=⟨-a,by omega⟩
  have hc:0≤c:=by omega
  rw[Int.neg_tdiv,Int.tdiv_eq_ediv_of_nonneg hc]
  have h1:=Int.ediv_nonneg hc (Int.le_of_lt hb)
  have h2:=Int.ediv_le_self b hc
  omega
theorem b8l {a n z:Int} (h:IntIs .i64 (a.tdiv n) z) (hn:0<n) (h0 : -9223372036854775807≤a) (h1:a≤9223372036854775807):z=a.tdiv n:=h.i64 (by
 have:=b7k a hn
 omega)
theorem Ko {a n z:Int} (h:IntIs .i64 (a.tdiv n) z) (hn:0<n) (h0:0≤a) (h1:a≤9223372036854775807):z=a / n:=by
 rw[b8l h hn (by omega) h1,Int.tdiv_eq_ediv_of_nonneg h0]
theorem tm0 {p z n:Int} (h:z=p.tmod n) (hn:0<n):z=0↔p % n=0:=by
 have h3:n ∣ p↔p % n=0:=Int.dvd_iff_emod_eq_zero
 have h1:=Int.emod_nonneg p (show n≠0 by omega)
 have h2:=Int.emod_lt_of_pos p hn
 rw[h,Int.tmod_eq_emod]
 generalize p % n=e at *
 simp only[h3]
 split<;>omega
def a19 (y:Int):Prop:=y % 4=0∧(y % 100≠0∨y % 400=0)
instance (y:Int):Decidable (a19 y):=inferInstanceAs (Decidable (_∧_))
def Gt (y m:Int):Int:=if m=1∨m=3∨m=5∨m=7∨m=8∨m=10∨m=12 then 31 else if m=4∨m=6∨m=9∨m=11 then 30 else if m=2 then (if a19 y then 29 else 28) else 0
theorem b2t (y m:Int):0≤Gt y m∧Gt y m≤31:=by
 unfold Gt
 split
 ·decide
 ·split
  ·decide
  ·split
   ·split<;>decide
   ·decide
theorem b1m {y m:Int} (h:1≤Gt y m):1≤m∧m≤12:=by
 unfold Gt at h
 split at h
 ·omega
 ·split at h
  ·omega
  ·split at h
   ·omega
   ·omega
theorem b72 {y:Int}:HasC Tryz.prog 200 [.v (.int .i64 y)] (fun r => ∃ b,r=.v (.bool b)∧(b=true↔a19 y)):=by
 refine hO [] Tryz.f200 (fun a w=>Tryz.call200 a w) Tryz.func200 rfl (⟨_,decide (a19 y),rfl,by simp⟩) ?_
 refine Aa rfl (iQ 1 (iE 16 [(0,Ia y),(2,Ba false)] [] ?_))
 refine Aa rfl (iQ 1 (jB .rem 3 (.int .i64 y) (.int .i64 4) 4 ?_))
 refine And.intro (by omega) ?_
 intro z4 hz4
 have h4:=tm0 (n:=4) hz4 (by decide)
 refine jB .eql 3 (.int .i64 z4) (.int .i64 0) 5 ?_
 intro c5 hc5
 refine iQ 1 ?_
 cases c5
 ·replace hc5:=bf hc5
  refine iQ 10 (iE 16 [(2,Ba false)] [] ?_)
  refine Ab (iR (Bv false) ?_)
  exact ⟨_,rfl,⟨fun h=>(by cases h),fun h=>absurd (h4.2 h.1) hc5⟩⟩
 ·replace hc5:=bt hc5
  refine iQ 1 (jB .rem 3 (.int .i64 y) (.int .i64 100) 8 ?_)
  refine And.intro (by omega) ?_
  intro z8 hz8
  have h8:=tm0 (n:=100) hz8 (by decide)
  refine jB .neq 3 (.int .i64 z8) (.int .i64 0) 9 ?_
  intro c9 hc9
  refine iQ 1 ?_
  cases c9
  ·replace hc9:=bf hc9
   refine iQ 1 (jB .rem 3 (.int .i64 y) (.int .i64 400) 12 ?_)
   refine And.intro (by omega) ?_
   intro z12 hz12
   have h12:=tm0 (n:=400) hz12 (by decide)
   refine jB .eql 3 (.int .i64 z12) (.int .i64 0) 13 ?_
   intro c13 hc13
   refine iQ 3 (iE 16 [(2,Ba c13)] [] ?_)
   refine Ab (iR (Bv c13) ?_)
   exact ⟨_,rfl,by rw[hc13,h12];unfold a19;omega⟩
  ·replace hc9:=bt hc9
   refine iQ 6 (iE 16 [(2,Ba true)] [] ?_)
   refine Ab (iR (Bv true) ?_)
   exact ⟨_,rfl,⟨fun _=>⟨h4.1 hc5,.inl fun k=>hc9 (h8.2 k)⟩,fun _=>rfl⟩⟩
set_option maxHeartbeats 1600000 in
theorem b2i {y m:Int}:HasC Tryz.prog 174 [.v (.int .i64 y),.v (.int .i64 m)] (fun r=>r=.v (.int .i64 (Gt y m))):=by
 refine hO [] Tryz.f174 (fun a w=>Tryz.call174 a w) Tryz.func174 rfl (⟨_,rfl⟩) ?_
 refine Aa rfl (iQ 1 (iE 23 [(0,Ia y),(1,Ia m),(4,Ia 0)] [] ?_))
 refine Ae (Aa rfl (iQ 1 (iE 23 [(0,Ia y),(4,Ia 0),(5,Ia m)] [] ?_)))
 refine Ak (Ae (Aa rfl (jB .eql 3 (.int .i64 m) (.int .i64 1) 7 ?_)))
 intro c7 hc7
 refine iQ 1 (iE 23 [(0,Ia y),(4,Ia 0),(5,Ia m),(6,Ba c7)] [] ?_)
 cases c7
 ·replace hc7:=bf hc7
  refine iF (Aa rfl (jB .eql 3 (.int .i64 m) (.int .i64 3) 8 ?_))
  intro c8 hc8
  refine iQ 1 (iE 23 [(0,Ia y),(4,Ia 0),(5,Ia m),(6,Ba c8)] [] ?_)
  cases c8
  ·replace hc8:=bf hc8
   refine iF (Aa rfl (jB .eql 3 (.int .i64 m) (.int .i64 5) 9 ?_))
   intro c9 hc9
   refine iQ 1 (iE 23 [(0,Ia y),(4,Ia 0),(5,Ia m),(6,Ba c9)] [] ?_)
   cases c9
   ·replace hc9:=bf hc9
    refine iF (Aa rfl (jB .eql 3 (.int .i64 m) (.int .i64 7) 10 ?_))
    intro c10 hc10
    refine iQ 1 ?_
    let Z1:=zT [(0,Ia y),(4,Ia 0),(5,Ia m),(6,Ba c10)] []
    refine iE 23 Z1 [] ?_
    cases c10
    ·replace hc10:=bf hc10
     refine iF (Aa rfl (jB .eql 3 (.int .i64 m) (.int .i64 8) 11 ?_))
     intro c11 hc11
     refine iQ 1 ?_
     let Z2:=zT [(0,Ia y),(4,Ia 0),(5,Ia m),(6,Ba c11)] []
     refine iE 23 Z2 [] ?_
     cases c11
     ·replace hc11:=bf hc11
      refine iF (Aa rfl (jB .eql 3 (.int .i64 m) (.int .i64 10) 12 ?_))
      intro c12 hc12
      refine iQ 1 ?_
      let Z3:=zT [(0,Ia y),(4,Ia 0),(5,Ia m),(6,Ba c12)] []
      refine iE 23 Z3 [] ?_
      cases c12
      ·replace hc12:=bf hc12
       refine iF (Am rfl (jB .eql 3 (.int .i64 m) (.int .i64 12) 13 ?_))
       intro c13 hc13
       refine iQ 1 ?_
       let Z4:=zT [(0,Ia y),(4,Ia 0),(5,Ia m),(6,Ba c13)] []
       refine iE 23 Z4 [] ?_
       refine Af ?_
       cases c13
       ·replace hc13:=bf hc13
        refine iF (Ae (Aa rfl (jB .eql 3 (.int .i64 m) (.int .i64 4) 15 ?_)))
        intro c15 hc15
        refine iQ 1 ?_
        let Z5:=zT [(0,Ia y),(4,Ia 0),(5,Ia m),(6,Ba false),(14,Ba c15)] []
        refine iE 23 Z5 [] ?_
        cases c15
        ·replace hc15:=bf hc15
         refine iF (Aa rfl (jB .eql 3 (.int .i64 m) (.int .i64 6) 16 ?_))
         intro c16 hc16
         refine iQ 1 ?_
         let Z6:=zT [(0,Ia y),(4,Ia 0),(5,Ia m),(6,Ba false),(14,Ba c16)] []
         refine iE 23 Z6 [] ?_
         cases c16
         ·replace hc16:=bf hc16
          refine iF (Aa rfl (jB .eql 3 (.int .i64 m) (.int .i64 9) 17 ?_))
          intro c17 hc17
          refine iQ 1 ?_
          let Z7:=zT [(0,Ia y),(4,Ia 0),(5,Ia m),(6,Ba false),(14,Ba c17)] []
          refine iE 23 Z7 [] ?_
          cases c17
          ·replace hc17:=bf hc17
           refine iF (Am rfl (jB .eql 3 (.int .i64 m) (.int .i64 11) 18 ?_))
           intro c18 hc18
           refine iQ 1 ?_
           let Z8:=zT [(0,Ia y),(4,Ia 0),(5,Ia m),(6,Ba false),(14,Ba c18)] []
           refine iE 23 Z8 [] ?_
           refine Af ?_
           cases c18
           ·replace hc18:=bf hc18
            refine iF (Aa rfl (jB .eql 3 (.int .i64 m) (.int .i64 2) 20 ?_))
            intro c20 hc20
            refine iQ 1 ?_
            let Z9:=zT [(0,Ia y),(4,Ia 0),(5,Ia m),(6,Ba false),(14,Ba false),(19,Ba c20)] []
            refine iE 23 Z9 [] ?_
            cases c20
            ·replace hc20:=bf hc20
             refine iF (Ad (Ap (Af (Aa rfl (iQ 1 ?_)))))
             let Z10:=zT [(0,Ia y),(4,Ia 0),(5,Ia m),(6,Ba false),(14,Ba false),(19,Ba false)] []
             refine iE 23 Z10 [] ?_
             refine Ab (iR (Iv 0) ?_)
             rw[Gt,if_neg (by omega),if_neg (by omega),if_neg (by omega)]
            ·replace hc20:=bt hc20
             refine iT (Ae (Aa rfl (iQ 1 (jC 200 [Iv y] 22 (b72) ?_))))
             rintro _ ⟨lp,rfl,hlp⟩
             let Z11:=zT [(4,Ia 0),(5,Ia m),(6,Ba false),(14,Ba false),(19,Ba true),(22,Ba lp)] []
             refine iE 23 Z11 [] ?_
             cases lp
             ·replace hlp:=bf hlp
              refine iF (Ad (Af (Aa rfl (iQ 1 ?_))))
              let Z12:=zT [(4,Ia 28),(5,Ia m),(6,Ba false),(14,Ba false),(19,Ba true),(22,Ba false)] []
              refine iE 23 Z12 [] ?_
              refine Ab (Ai (Ag (iR (Iv 28) ?_)))
              rw[Gt,if_neg (by omega),if_neg (by omega),if_pos (by omega),if_neg hlp]
             ·replace hlp:=bt hlp
              refine iT (Aa rfl (iQ 1 ?_))
              let Z13:=zT [(4,Ia 29),(5,Ia m),(6,Ba false),(14,Ba false),(19,Ba true),(22,Ba true)] []
              refine iE 23 Z13 [] ?_
              refine Ab (Ag (Ai (Ag (iR (Iv 29) ?_))))
              rw[Gt,if_neg (by omega),if_neg (by omega),if_pos (by omega),if_pos hlp]
           ·replace hc18:=bt hc18
            refine iT (Aa rfl (iQ 1 ?_))
            let Z14:=zT [(0,Ia y),(4,Ia 30),(5,Ia m),(6,Ba false),(14,Ba true)] []
            refine iE 23 Z14 [] ?_
            refine Ab (Ai (Ag (iR (Iv 30) ?_)))
            rw[Gt,if_neg (by omega),if_pos (by omega)]
          ·replace hc17:=bt hc17
           refine iT (Ad (Af (iT (Aa rfl (iQ 1 ?_)))))
           let Z15:=zT [(0,Ia y),(4,Ia 30),(5,Ia m),(6,Ba false),(14,Ba true)] []
           refine iE 23 Z15 [] ?_
           refine Ab (Ai (Ag (iR (Iv 30) ?_)))
           rw[Gt,if_neg (by omega),if_pos (by omega)]
         ·replace hc16:=bt hc16
          refine iT (Ad (Af (iT (Aa rfl (iQ 1 ?_)))))
          let Z16:=zT [(0,Ia y),(4,Ia 30),(5,Ia m),(6,Ba false),(14,Ba true)] []
          refine iE 23 Z16 [] ?_
          refine Ab (Ai (Ag (iR (Iv 30) ?_)))
          rw[Gt,if_neg (by omega),if_pos (by omega)]
        ·replace hc15:=bt hc15
         refine iT (Ad (Af (iT (Aa rfl (iQ 1 ?_)))))
         let Z17:=zT [(0,Ia y),(4,Ia 30),(5,Ia m),(6,Ba false),(14,Ba true)] []
         refine iE 23 Z17 [] ?_
         refine Ab (Ai (Ag (iR (Iv 30) ?_)))
         rw[Gt,if_neg (by omega),if_pos (by omega)]
       ·replace hc13:=bt hc13
        refine iT (Aa rfl (iQ 1 ?_))
        let Z18:=zT [(0,Ia y),(4,Ia 31),(5,Ia m),(6,Ba true)] []
        refine iE 23 Z18 [] ?_
        refine Ab (Ai (Ag (iR (Iv 31) ?_)))
        rw[Gt,if_pos (by omega)]
      ·replace hc12:=bt hc12
       refine iT (Ad (Af (iT (Aa rfl (iQ 1 ?_)))))
       let Z19:=zT [(0,Ia y),(4,Ia 31),(5,Ia m),(6,Ba true)] []
       refine iE 23 Z19 [] ?_
       refine Ab (Ai (Ag (iR (Iv 31) ?_)))
       rw[Gt,if_pos (by omega)]
     ·replace hc11:=bt hc11
      refine iT (Ad (Af (iT (Aa rfl (iQ 1 ?_)))))
      let Z20:=zT [(0,Ia y),(4,Ia 31),(5,Ia m),(6,Ba true)] []
      refine iE 23 Z20 [] ?_
      refine Ab (Ai (Ag (iR (Iv 31) ?_)))
      rw[Gt,if_pos (by omega)]
    ·replace hc10:=bt hc10
     refine iT (Ad (Af (iT (Aa rfl (iQ 1 ?_)))))
     let Z21:=zT [(0,Ia y),(4,Ia 31),(5,Ia m),(6,Ba true)] []
     refine iE 23 Z21 [] ?_
     refine Ab (Ai (Ag (iR (Iv 31) ?_)))
     rw[Gt,if_pos (by omega)]
   ·replace hc9:=bt hc9
    refine iT (Ad (Af (iT (Aa rfl (iQ 1 ?_)))))
    let Z22:=zT [(0,Ia y),(4,Ia 31),(5,Ia m),(6,Ba true)] []
    refine iE 23 Z22 [] ?_
    refine Ab (Ai (Ag (iR (Iv 31) ?_)))
    rw[Gt,if_pos (by omega)]
  ·replace hc8:=bt hc8
   refine iT (Ad (Af (iT (Aa rfl (iQ 1 ?_)))))
   let Z23:=zT [(0,Ia y),(4,Ia 31),(5,Ia m),(6,Ba true)] []
   refine iE 23 Z23 [] ?_
   refine Ab (Ai (Ag (iR (Iv 31) ?_)))
   rw[Gt,if_pos (by omega)]
 ·replace hc7:=bt hc7
  refine iT (Ad (Af (iT (Aa rfl (iQ 1 ?_)))))
  let Z24:=zT [(0,Ia y),(4,Ia 31),(5,Ia m),(6,Ba true)] []
  refine iE 23 Z24 [] ?_
  refine Ab (Ai (Ag (iR (Iv 31) ?_)))
  rw[Gt,if_pos (by omega)]
def Io (y m d:Int):Prop := -999999999≤y∧y≤999999999∧1≤d∧d≤Gt y m
instance (y m d:Int):Decidable (Io y m d):=inferInstanceAs (Decidable (_∧_))
theorem Nv {y m d:Int}:HasC Tryz.prog 146 [.agg [.v (.int .i64 y),.v (.int .i64 m),.v (.int .i64 d)]] (fun r => ∃ b,r=.v (.bool b)∧(b=true↔Io y m d)):=by
 refine hO [] Tryz.f146 (fun a w=>Tryz.call146 a w) Tryz.func146 rfl (⟨_,decide (Io y m d),rfl,by simp⟩) ?_
 refine Aa rfl (iQ 2 (iE 26 [(1,.p 1 0),(2,Ba false)] [(1,[Iv y,Iv m,Iv d])] ?_))
 refine Aa rfl (iQ 2 (jB .geq 3 (.int .i64 y) (.int .i64 (-999999999)) 5 ?_))
 intro c5 hc5
 refine iQ 1 ?_
 cases c5
 ·replace hc5:=bf hc5
  refine iQ 20 (iE 26 [(2,Ba false)] [] ?_)
  refine Ab (iR (Bv false) ?_)
  exact ⟨_,rfl,⟨fun h=>(by cases h),fun h=>by unfold Io at h;omega⟩⟩
 ·replace hc5:=bt hc5
  refine iQ 2 (jB .leq 3 (.int .i64 y) (.int .i64 999999999) 9 ?_)
  intro c9 hc9
  refine iQ 2 ?_
  cases c9
  ·replace hc9:=bf hc9
   refine iQ 15 (iE 26 [(2,Ba false)] [] ?_)
   refine Ab (iR (Bv false) ?_)
   exact ⟨_,rfl,⟨fun h=>(by cases h),fun h=>by unfold Io at h;omega⟩⟩
  ·replace hc9:=bt hc9
   refine iQ 2 (jB .geq 3 (.int .i64 d) (.int .i64 1) 14 ?_)
   intro c14 hc14
   refine iQ 2 ?_
   cases c14
   ·replace hc14:=bf hc14
    refine iQ 10 (iE 26 [(2,Ba false)] [] ?_)
    refine Ab (iR (Bv false) ?_)
    exact ⟨_,rfl,⟨fun h=>(by cases h),fun h=>by unfold Io at h;omega⟩⟩
   ·replace hc14:=bt hc14
    refine iQ 6 (eC 174 [Iv y,Iv m] 23 (b2i) (jB .leq 3 (.int .i64 d) (.int .i64 (Gt y m)) 24 ?_))
    intro c24 hc24
    refine iQ 2 (iE 26 [(2,Ba c24)] [] ?_)
    refine Ab (iR (Bv c24) ?_)
    exact ⟨_,rfl,by rw[hc24];unfold Io;omega⟩
open Go.RowKit
set_option linter.unusedVariables false
set_option linter.unusedSimpArgs false
set_option maxRecDepth 100000
structure MarIs (y m y1 m1:Int):Prop where
 h:(m≤2∧y1=y-1∧m1=m+12)∨(2<m∧y1=y∧m1=m)
open Go.RowKit
set_option linter.unusedVariables false
set_option linter.unusedSimpArgs false
set_option maxRecDepth 100000
def Vn (y m d:Int):L8:=(if y<0 then [45] else []) ++ Bt (if y<0 then -y else y) 4 ++ [45] ++ Bt m 2 ++ [45] ++ Bt d 2
def Mz (y m d:Int):L8:=if Io y m d then Vn y m d else []
def a1k (o:Int):L8:=Bt (o / 3600) 2 ++ [58] ++ Bt (o % 3600 / 60) 2 ++ (if o % 60=0 then [] else 58::Bt (o % 60) 2)
def La (z:Bool) (o:Int):L8:=if z=false then [] else if o=0 then [90] else if o<0 then 45::a1k (-o) else 43::a1k o
def Jg (s:Int) (z:Bool) (o:Int):L8:=Bt (s / 3600) 2 ++ [58] ++ Bt (s % 3600 / 60) 2 ++ [58] ++ Bt (s % 60) 2 ++ La z o
def Gv (s:Int) (z:Bool) (o:Int):Prop:=0≤s∧s<86400 ∧ -64800≤o∧o≤64800∧(z=true∨o=0)
instance (s:Int) (z:Bool) (o:Int):Decidable (Gv s z o):=inferInstanceAs (Decidable (_∧_))
def He (s:Int) (z:Bool) (o:Int):L8:=if Gv s z o then Jg s z o else []
def Gl (lo hi:Nat) (l:L8):Option Nat:=if lo≤l.length∧l.length≤hi∧l.all Ci=true then some (nvL l) else none
def Ez (most:Nat) (l:L8) (c:UInt8) (t:Nat):Option (Nat×L8) :=
 if l[ndg l]? = some c∧1≤ndg l∧ndg l≤most then some (nvL (l.take (ndg l))*t,l.drop (ndg l+1)) else none
def Dh (most:Nat):L8→List (UInt8×Nat)→Nat→Nat→Nat×L8×Nat
 | l,[],n,k=>(n,l,k)
 | l,(c,t)::r,n,k=>match Ez most l c t with
  | some (m,l')=>Dh most l' r (n+m) (k+1)
  | none=>Dh most l r n k
def De (n:Nat) (neg:Bool):Option Int:=if 9007199254740992<n then none else some (if neg then -(n:Int) else n)
def Bh (l:L8):L8×Bool:=if l.head?=some 45 then (l.tail,true) else (l,false)
def Jx (l:L8):Option Int :=
 if (Bh l).1.head? ≠ some 80 then none else
 if (Dh 12 (Bh l).1.tail [(68,86400)] 0 0).2.1=[] then (if (Dh 12 (Bh l).1.tail [(68,86400)] 0 0).2.2=0 then none else De (Dh 12 (Bh l).1.tail [(68,86400)] 0 0).1 (Bh l).2) else
 if (Dh 12 (Bh l).1.tail [(68,86400)] 0 0).2.1.head? ≠ some 84 then none else
 if (Dh 12 (Dh 12 (Bh l).1.tail [(68,86400)] 0 0).2.1.tail [(72,3600),(77,60),(83,1)] 0 0).2.1≠[]∨(Dh 12 (Dh 12 (Bh l).1.tail [(68,86400)] 0 0).2.1.tail [(72,3600),(77,60),(83,1)] 0 0).2.2=0 then none else
 De ((Dh 12 (Bh l).1.tail [(68,86400)] 0 0).1+(Dh 12 (Dh 12 (Bh l).1.tail [(68,86400)] 0 0).2.1.tail [(72,3600),(77,60),(83,1)] 0 0).1) (Bh l).2
def Kq (l:L8):Option Int :=
 if (Bh l).1.head? ≠ some 80 then none else
 if (Dh 15 (Bh l).1.tail [(89,12),(77,1)] 0 0).2.1≠[]∨(Dh 15 (Bh l).1.tail [(89,12),(77,1)] 0 0).2.2=0 then none else
 De (Dh 15 (Bh l).1.tail [(89,12),(77,1)] 0 0).1 (Bh l).2
def a7x:Option Int→DV
 | some n=>.tup [.v (.int .i64 n),.v (.bool true)]
 | none=>.tup [.v (.int .i64 0),.v (.bool false)]
theorem Hv {most:Nat} {l l':L8} {c:UInt8} {t n:Nat} (h:Ez most l c t=some (n,l')):n≤10 ^ most*t∧l'.length<l.length:=by
 unfold Ez at h
 split at h
 ·rename_i hc
  simp only[Option.some.injEq,Prod.mk.injEq] at h
  obtain ⟨rfl,rfl⟩:=h
  have h1:=Fy (k:=most) (Ju (Nat.le_refl (ndg l))) (by rw[List.length_take];omega)
  have h2:=(List.getElem?_eq_some_iff.1 hc.1).1
  exact ⟨Nat.mul_le_mul_right _ (by omega),by rw[List.length_drop];omega⟩
 ·cases h
open Go.RowKit
set_option linter.unusedVariables false
set_option linter.unusedSimpArgs false
set_option maxRecDepth 100000
theorem Jy (l:L8):(⟨l.toArray⟩:ByteArray)=tx l:=rfl
def b86 (n:Int):Prop := -9223372036854775808≤n∧n≤9223372036854775807
theorem Jh {a b z:Int} (h:z=a.tmod b) (h0:0≤a):z=a % b:=by rw[h,Int.tmod_eq_emod_of_nonneg h0]
theorem Dc {n:Int} {w:Nat} (h:b86 n) (hw:w≤10):(Bt n w).length≤21:=by
 rw[a8k]
 have:=a16 n h
 omega
theorem Cl {n:Int} {w:Nat} (hn:b86 n) (hw:w≤10):HasC Tryz.prog 173 [.v (.int .i64 n),.v (.int .i64 ((w:Int)))] (fun y=>y=.v (.string (tx (Bt n w)))):=by
 refine hO [] Tryz.f173 (fun a w=>Tryz.call173 a w) Tryz.func173 rfl (⟨_,rfl⟩) ?_
 refine Aa rfl (iQ 1 ?_)
 let Z1:=zT [(0,Ia n),(1,Ia ((w:Int))),(4,.d (Sv (⟨#[]⟩)))] []
 refine iE 15 Z1 [] ?_
 refine Aa rfl (iQ 1 (eC 185 [Iv n] 7 (b8d hn) ?_))
 have hi:=a16 n hn
 refine iQ 1 ?_
 let Z2:=zT [(1,Ia ((w:Int))),(4,.d (Sv (⟨#[]⟩))),(5,.d (Sv (tx (Lib.itoa n))))] []
 refine iE 15 Z2 [] ?_
 refine Ae (Ak (Bq 15 (fun (vcx:Nat)=>match vcx with | k=>[(1,Ia ((w:Int))),(4,.d (Sv (⟨#[]⟩))),(5,.d (Sv (tx (List.replicate k 48 ++ Lib.itoa n))))]) (fun (vcx:Nat)=>match vcx with | k=>[]) (fun (vcx:Nat)=>match vcx with | k=>k≤w-(Lib.itoa n).length) (fun (vcx:Nat)=>match vcx with | k=>w-k) 0 (by omega) (by kernel_rfl) (by kernel_rfl) ?_))
 rintro k hinv
 simp only at hinv
 refine Ae (Aa rfl (iQ 1 (jL .len [9] [.string (tx (List.replicate k 48 ++ Lib.itoa n))] 9 ?_)))
 intro n9 hn9
 have h9:n9=k+(Lib.itoa n).length:=by rw[hn9];simp
 refine iQ 1 (jB .lss 3 (.int .i64 ((n9:Nat))) (.int .i64 ((w:Int))) 11 ?_)
 intro c11 hc11
 let Z3:=zT [(5,.d (Sv (tx (List.replicate k 48 ++ Lib.itoa n))))] []
 let Z4:=zT [(1,Ia ((w:Int))),(4,.d (Sv (⟨#[]⟩))),(11,Ba c11)] []
 refine iE 15 (zT Z4 Z3) [] ?_
 cases c11
 ·replace hc11:=bf hc11
  refine iF (Be (Ce (Bj (Bd rfl (Af (Aa rfl (iQ 2 ?_)))))))
  let Z5:=zT [(4,.d (Sv (tx (List.replicate k 48 ++ Lib.itoa n))))] []
  refine iE 15 (zT [(1,Ia ((w:Int))),(11,Ba false)] (zT Z5 Z3)) [] ?_
  refine Ab (iR (Sv (tx (List.replicate k 48 ++ Lib.itoa n))) ?_)
  rw[Bt,show w-(Lib.itoa n).length=k by omega]
 ·replace hc11:=bt hc11
  refine iT (Ad (Af (Ak (Am rfl (iQ 1 (jB .add 9 (.string (⟨#[48]⟩)) (.string (tx (List.replicate k 48 ++ Lib.itoa n))) 13 ?_))))))
  refine And.intro (Cw (m:=1) (n:=((List.replicate k 48 ++ Lib.itoa n)).length) rfl rfl (by simp;omega)) ?_
  intro s13 hs13
  have hl13:(s13:ByteArray).size=1+((List.replicate k 48 ++ Lib.itoa n)).length:=Bz hs13 rfl rfl
  refine iQ 1 ?_
  let Z6:=zT [(1,Ia ((w:Int))),(4,.d (Sv (⟨#[]⟩))),(5,.d (Sv s13)),(11,Ba true)] []
  refine iE 15 Z6 [] ?_
  refine Ap ?_
  obtain rfl:s13=tx (List.replicate (k+1) 48 ++ Lib.itoa n):=by rw[hs13];exact Dg [48] _
  refine Bm (k+1) (by omega) (by show w-(k+1)<w-k;omega) (by kernel_rfl) (by kernel_rfl)
theorem Vj {y m d:Int}:HasC Tryz.prog 145 [.agg [.v (.int .i64 y),.v (.int .i64 m),.v (.int .i64 d)]] (fun r=>r=.v (.string (tx (Mz y m d)))):=by
 refine hO [] Tryz.f145 (fun a w=>Tryz.call145 a w) Tryz.func145 rfl (⟨_,rfl⟩) ?_
 refine Aa rfl (iQ 2 (iE 28 [(1,.p 1 0),(2,.d (Sv (⟨#[]⟩)))] [(1,[Iv y,Iv m,Iv d])] ?_))
 refine Ae (Aa rfl (iQ 1 (jC 146 [.agg [Iv y,Iv m,Iv d]] 6 (Nv) ?_)))
 rintro _ ⟨b,rfl,hb⟩
 refine jU .not (.bool b) 7 ?_
 intro c7 hc7
 let Z1:=zT [(1,.p 1 0),(2,.d (Sv (⟨#[]⟩))),(7,Ba c7)] []
 refine iE 28 Z1 [(1,[Iv y,Iv m,Iv d])] ?_
 cases c7
 ·replace hc7:=bf hc7
  replace hb:Io y m d:=hb.1 (by simpa using hc7)
  have hm:=b1m (y:=y) (m:=m) (by unfold Io at hb;omega)
  have hl:=b2t y m
  have hy : -999999999≤y∧y≤999999999∧1≤d∧d≤Gt y m:=hb
  refine iF (Ad (Af (Aa rfl (iQ 4 ?_))))
  let Z2:=zT [(1,.p 1 0),(2,.d (Sv (⟨#[]⟩))),(3,.d (Sv (⟨#[]⟩))),(4,Ia y),(7,Ba false)] []
  refine iE 28 Z2 [(1,[Iv y,Iv m,Iv d])] ?_
  refine Ae (Aa rfl (iQ 1 (jB .lss 3 (.int .i64 y) (.int .i64 0) 11 ?_)))
  intro c11 hc11
  refine iE 28 (zT [(11,Ba c11)] Z2) [(1,[Iv y,Iv m,Iv d])] ?_
  cases c11
  ·replace hc11:=bf hc11
   refine iF (Ad (Af (Aa rfl (iQ 2 (eC 173 [Iv y,Iv 4] 16 (Cl (n:=y) (w:=4) ⟨by omega,by omega⟩ (by decide)) ?_)))))
   have p1:=Dc (n:=y) (w:=4) ⟨by omega,by omega⟩ (by decide)
   have p2:=Dc (n:=m) (w:=2) ⟨by omega,by omega⟩ (by decide)
   have p3:=Dc (n:=d) (w:=2) ⟨by omega,by omega⟩ (by decide)
   refine jB .add 9 (.string (⟨#[]⟩)) (.string (tx (Bt y 4))) 17 ?_
   refine And.intro (Cw (m:=0) (n:=((Bt y 4)).length) rfl rfl (by omega)) ?_
   intro s17 hs17
   have hl17:(s17:ByteArray).size=0+((Bt y 4)).length:=Bz hs17 rfl rfl
   refine jB .add 9 (.string s17) (.string (⟨#[45]⟩)) 18 ?_
   refine And.intro (Cw (m:=(s17:ByteArray).size) (n:=1) rfl rfl (by omega)) ?_
   intro s18 hs18
   have hl18:(s18:ByteArray).size=(s17:ByteArray).size+1:=Bz hs18 rfl rfl
   refine iQ 2 (eC 173 [Iv m,Iv 2] 21 (Cl (n:=m) (w:=2) ⟨by omega,by omega⟩ (by decide)) (jB .add 9 (.string s18) (.string (tx (Bt m 2))) 22 ?_))
   refine And.intro (Cw (m:=(s18:ByteArray).size) (n:=((Bt m 2)).length) rfl rfl (by omega)) ?_
   intro s22 hs22
   have hl22:(s22:ByteArray).size=(s18:ByteArray).size+((Bt m 2)).length:=Bz hs22 rfl rfl
   refine jB .add 9 (.string s22) (.string (⟨#[45]⟩)) 23 ?_
   refine And.intro (Cw (m:=(s22:ByteArray).size) (n:=1) rfl rfl (by omega)) ?_
   intro s23 hs23
   have hl23:(s23:ByteArray).size=(s22:ByteArray).size+1:=Bz hs23 rfl rfl
   refine iQ 2 (eC 173 [Iv d,Iv 2] 26 (Cl (n:=d) (w:=2) ⟨by omega,by omega⟩ (by decide)) (jB .add 9 (.string s23) (.string (tx (Bt d 2))) 27 ?_))
   refine And.intro (Cw (m:=(s23:ByteArray).size) (n:=((Bt d 2)).length) rfl rfl (by omega)) ?_
   intro s27 hs27
   have hl27:(s27:ByteArray).size=(s23:ByteArray).size+((Bt d 2)).length:=Bz hs27 rfl rfl
   refine iQ 1 ?_
   let Z3:=zT [(1,.p 1 0),(2,.d (Sv s27)),(4,Ia y),(7,Ba false),(11,Ba false)] []
   refine iE 28 Z3 [(1,[Iv y,Iv m,Iv d])] ?_
   refine Ab (iR (Sv s27) ?_)
   rw[hs27,hs23,hs22,hs18,hs17,Mz,if_pos hb,Vn,if_neg hc11,if_neg hc11];simp only[Jy,Dg,a9o.symm,List.append_assoc]
  ·replace hc11:=bt hc11
   refine iT (Am rfl (iQ 1 (jU .neg (.int .i64 y) 13 ?_)))
   intro z13 hz13
   try replace hz13:=hz13.i64 (by omega)
   refine iQ 2 ?_
   let Z4:=zT [(1,.p 1 0),(2,.d (Sv (⟨#[]⟩))),(3,.d (Sv (⟨#[45]⟩))),(4,Ia z13),(7,Ba false),(11,Ba true)] []
   refine iE 28 Z4 [(1,[Iv y,Iv m,Iv d])] ?_
   refine Af (Aa rfl (iQ 2 (eC 173 [Iv z13,Iv 4] 16 (Cl (n:=z13) (w:=4) ⟨by omega,by omega⟩ (by decide)) ?_)))
   have p1:=Dc (n:=z13) (w:=4) ⟨by omega,by omega⟩ (by decide)
   have p2:=Dc (n:=m) (w:=2) ⟨by omega,by omega⟩ (by decide)
   have p3:=Dc (n:=d) (w:=2) ⟨by omega,by omega⟩ (by decide)
   refine jB .add 9 (.string (⟨#[45]⟩)) (.string (tx (Bt z13 4))) 17 ?_
   refine And.intro (Cw (m:=1) (n:=((Bt z13 4)).length) rfl rfl (by omega)) ?_
   intro s17 hs17
   have hl17:(s17:ByteArray).size=1+((Bt z13 4)).length:=Bz hs17 rfl rfl
   refine jB .add 9 (.string s17) (.string (⟨#[45]⟩)) 18 ?_
   refine And.intro (Cw (m:=(s17:ByteArray).size) (n:=1) rfl rfl (by omega)) ?_
   intro s18 hs18
   have hl18:(s18:ByteArray).size=(s17:ByteArray).size+1:=Bz hs18 rfl rfl
   refine iQ 2 (eC 173 [Iv m,Iv 2] 21 (Cl (n:=m) (w:=2) ⟨by omega,by omega⟩ (by decide)) (jB .add 9 (.string s18) (.string (tx (Bt m 2))) 22 ?_))
   refine And.intro (Cw (m:=(s18:ByteArray).size) (n:=((Bt m 2)).length) rfl rfl (by omega)) ?_
   intro s22 hs22
   have hl22:(s22:ByteArray).size=(s18:ByteArray).size+((Bt m 2)).length:=Bz hs22 rfl rfl
   refine jB .add 9 (.string s22) (.string (⟨#[45]⟩)) 23 ?_
   refine And.intro (Cw (m:=(s22:ByteArray).size) (n:=1) rfl rfl (by omega)) ?_
   intro s23 hs23
   have hl23:(s23:ByteArray).size=(s22:ByteArray).size+1:=Bz hs23 rfl rfl
   refine iQ 2 (eC 173 [Iv d,Iv 2] 26 (Cl (n:=d) (w:=2) ⟨by omega,by omega⟩ (by decide)) (jB .add 9 (.string s23) (.string (tx (Bt d 2))) 27 ?_))
   refine And.intro (Cw (m:=(s23:ByteArray).size) (n:=((Bt d 2)).length) rfl rfl (by omega)) ?_
   intro s27 hs27
   have hl27:(s27:ByteArray).size=(s23:ByteArray).size+((Bt d 2)).length:=Bz hs27 rfl rfl
   refine iQ 1 ?_
   let Z5:=zT [(1,.p 1 0),(2,.d (Sv s27)),(4,Ia z13),(7,Ba false),(11,Ba true)] []
   refine iE 28 Z5 [(1,[Iv y,Iv m,Iv d])] ?_
   refine Ab (iR (Sv s27) ?_)
   rw[hs27,hs23,hs22,hs18,hs17,Mz,if_pos hb,Vn,if_pos hc11,if_pos hc11,hz13];simp only[Jy,Dg,List.append_assoc,Int.zero_sub]
 ·replace hc7:=bt hc7
  refine iT (Aa rfl (iQ 1 ?_))
  let Z6:=zT [(1,.p 1 0),(2,.d (Sv (⟨#[]⟩))),(7,Ba true)] []
  refine iE 28 Z6 [(1,[Iv y,Iv m,Iv d])] ?_
  refine Ab (Ag (iR (Sv (⟨#[]⟩)) ?_))
  rw[Mz,if_neg (fun h=>by have:=hb.2 h;rw[hc7] at this;cases this)];rfl
theorem Wm {s o:Int} {z:Bool}:HasC Tryz.prog 152 [.agg [.v (.int .i64 s),.v (.bool z),.v (.int .i64 o)]] (fun r => ∃ b,r=.v (.bool b)∧(b=true↔Gv s z o)):=by
 refine hO [] Tryz.f152 (fun a w=>Tryz.call152 a w) Tryz.func152 rfl (⟨_,decide (Gv s z o),rfl,by simp⟩) ?_
 refine Aa rfl (iQ 2 (iE 30 [(1,.p 1 0),(2,Ba false)] [(1,[Iv s,Bv z,Iv o])] ?_))
 refine Aa rfl (iQ 2 (jB .geq 3 (.int .i64 s) (.int .i64 0) 5 ?_))
 intro c5 hc5
 refine iQ 1 ?_
 cases c5
 ·replace hc5:=bf hc5
  refine iQ 24 (iE 30 [(2,Ba false)] [] ?_)
  refine Ab (iR (Bv false) ?_)
  exact ⟨_,rfl,by unfold Gv;grind⟩
 ·replace hc5:=bt hc5
  refine iQ 2 (jB .lss 3 (.int .i64 s) (.int .i64 86400) 9 ?_)
  intro c9 hc9
  refine iQ 2 ?_
  cases c9
  ·replace hc9:=bf hc9
   refine iQ 19 (iE 30 [(2,Ba false)] [] ?_)
   refine Ab (iR (Bv false) ?_)
   exact ⟨_,rfl,by unfold Gv;grind⟩
  ·replace hc9:=bt hc9
   refine iQ 2 (jB .geq 3 (.int .i64 o) (.int .i64 (-64800)) 14 ?_)
   intro c14 hc14
   refine iQ 2 ?_
   cases c14
   ·replace hc14:=bf hc14
    refine iQ 14 (iE 30 [(2,Ba false)] [] ?_)
    refine Ab (iR (Bv false) ?_)
    exact ⟨_,rfl,by unfold Gv;grind⟩
   ·replace hc14:=bt hc14
    refine iQ 2 (jB .leq 3 (.int .i64 o) (.int .i64 64800) 19 ?_)
    intro c19 hc19
    refine iQ 2 ?_
    cases c19
    ·replace hc19:=bf hc19
     refine iQ 9 (iE 30 [(2,Ba false)] [] ?_)
     refine Ab (iR (Bv false) ?_)
     exact ⟨_,rfl,by unfold Gv;grind⟩
    ·replace hc19:=bt hc19
     refine iQ 3 ?_
     cases z
     ·refine iQ 2 (jB .eql 3 (.int .i64 o) (.int .i64 0) 27 ?_)
      intro c27 hc27
      refine iQ 3 (iE 30 [(2,Ba c27)] [] ?_)
      refine Ab (iR (Bv c27) ?_)
      exact ⟨_,rfl,by unfold Gv;grind⟩
     ·refine iQ 6 (iE 30 [(2,Ba true)] [] ?_)
      refine Ab (iR (Bv true) ?_)
      exact ⟨_,rfl,by unfold Gv;grind⟩
theorem b7e {s o:Int} {z:Bool} (h0:0≤s) (h1:s<86400):HasC Tryz.prog 178 [.agg [.v (.int .i64 s),.v (.bool z),.v (.int .i64 o)]] (fun r=>r=.v (.int .i64 (s / 3600))):=by
 refine hO [] Tryz.f178 (fun a w=>Tryz.call178 a w) Tryz.func178 rfl (⟨_,rfl⟩) ?_
 refine Aa rfl (iQ 2 (iE 6 [(1,.p 1 0),(2,Ia 0)] [(1,[Iv s,Bv z,Iv o])] ?_))
 refine Aa rfl (iQ 2 (jB .quo 3 (.int .i64 s) (.int .i64 3600) 5 ?_))
 refine And.intro (by omega) ?_
 intro z5 hz5
 refine iQ 1 (iE 6 [(2,Ia z5)] [] ?_)
 refine Ab (iR (Iv z5) ?_)
 rw[Ko hz5 (by decide) (by omega) (by omega)]
theorem b0w {s o:Int} {z:Bool} (h0:0≤s) (h1:s<86400):HasC Tryz.prog 179 [.agg [.v (.int .i64 s),.v (.bool z),.v (.int .i64 o)]] (fun r=>r=.v (.int .i64 (s % 3600 / 60))):=by
 refine hO [] Tryz.f179 (fun a w=>Tryz.call179 a w) Tryz.func179 rfl (⟨_,rfl⟩) ?_
 refine Aa rfl (iQ 2 (iE 7 [(1,.p 1 0),(2,Ia 0)] [(1,[Iv s,Bv z,Iv o])] ?_))
 refine Aa rfl (iQ 2 (jB .quo 3 (.int .i64 s) (.int .i64 60) 5 ?_))
 refine And.intro (by omega) ?_
 intro z5 hz5
 have e5:z5=s / 60:=Ko hz5 (by decide) (by omega) (by omega)
 refine jB .rem 3 (.int .i64 z5) (.int .i64 60) 6 ?_
 refine And.intro (by omega) ?_
 intro z6 hz6
 refine iQ 1 (iE 7 [(2,Ia z6)] [] ?_)
 refine Ab (iR (Iv z6) ?_)
 rw[Jh hz6 (by omega),show z5 % 60=s % 3600 / 60 by omega]
theorem a8v {s o:Int} {z:Bool} (h0:0≤s) (h1:s<86400):HasC Tryz.prog 180 [.agg [.v (.int .i64 s),.v (.bool z),.v (.int .i64 o)]] (fun r=>r=.v (.int .i64 (s % 60))):=by
 refine hO [] Tryz.f180 (fun a w=>Tryz.call180 a w) Tryz.func180 rfl (⟨_,rfl⟩) ?_
 refine Aa rfl (iQ 2 (iE 6 [(1,.p 1 0),(2,Ia 0)] [(1,[Iv s,Bv z,Iv o])] ?_))
 refine Aa rfl (iQ 2 (jB .rem 3 (.int .i64 s) (.int .i64 60) 5 ?_))
 refine And.intro (by omega) ?_
 intro z5 hz5
 refine iQ 1 (iE 6 [(2,Ia z5)] [] ?_)
 refine Ab (iR (Iv z5) ?_)
 rw[Jh hz5 (by omega)]
theorem Kk {s o:Int} {z:Bool}:HasC Tryz.prog 151 [.agg [.v (.int .i64 s),.v (.bool z),.v (.int .i64 o)]] (fun r=>r=.v (.string (tx (He s z o)))):=by
 refine hO [] Tryz.f151 (fun a w=>Tryz.call151 a w) Tryz.func151 rfl (⟨_,rfl⟩) ?_
 refine Aa rfl (iQ 2 (iE 60 [(1,.p 1 0),(2,.d (Sv (⟨#[]⟩)))] [(1,[Iv s,Bv z,Iv o])] ?_))
 refine Ae (Aa rfl (iQ 1 (jC 152 [.agg [Iv s,Bv z,Iv o]] 7 (Wm) ?_)))
 rintro _ ⟨b,rfl,hb⟩
 refine jU .not (.bool b) 8 ?_
 intro c8 hc8
 let Z1:=zT [(1,.p 1 0),(2,.d (Sv (⟨#[]⟩))),(8,Ba c8)] []
 refine iE 60 Z1 [(1,[Iv s,Bv z,Iv o])] ?_
 cases c8
 ·replace hc8:=bf hc8
  replace hb:Gv s z o:=hb.1 (by simpa using hc8)
  have hb':=hb
  unfold Gv at hb'
  refine iF (Ad (Af (Aa rfl (iQ 1 (eC 178 [.agg [Iv s,Bv z,Iv o]] 10 (b7e (by omega) (by omega)) (eC 173 [Iv (s / 3600),Iv 2] 11 (Cl (n:=s / 3600) (w:=2) ⟨by omega,by omega⟩ (by decide)) ?_))))))
  have p1:=Dc (n:=s / 3600) (w:=2) ⟨by omega,by omega⟩ (by decide)
  have p2:=Dc (n:=s % 3600 / 60) (w:=2) ⟨by omega,by omega⟩ (by decide)
  have p3:=Dc (n:=s % 60) (w:=2) ⟨by omega,by omega⟩ (by decide)
  refine jB .add 9 (.string (tx (Bt (s / 3600) 2))) (.string (⟨#[58]⟩)) 12 ?_
  refine And.intro (Cw (m:=((Bt (s / 3600) 2)).length) (n:=1) rfl rfl (by omega)) ?_
  intro s12 hs12
  have hl12:(s12:ByteArray).size=((Bt (s / 3600) 2)).length+1:=Bz hs12 rfl rfl
  refine iQ 1 (eC 179 [.agg [Iv s,Bv z,Iv o]] 14 (b0w (by omega) (by omega)) (eC 173 [Iv (s % 3600 / 60),Iv 2] 15 (Cl (n:=s % 3600 / 60) (w:=2) ⟨by omega,by omega⟩ (by decide)) (jB .add 9 (.string s12) (.string (tx (Bt (s % 3600 / 60) 2))) 16 ?_)))
  refine And.intro (Cw (m:=(s12:ByteArray).size) (n:=((Bt (s % 3600 / 60) 2)).length) rfl rfl (by omega)) ?_
  intro s16 hs16
  have hl16:(s16:ByteArray).size=(s12:ByteArray).size+((Bt (s % 3600 / 60) 2)).length:=Bz hs16 rfl rfl
  refine jB .add 9 (.string s16) (.string (⟨#[58]⟩)) 17 ?_
  refine And.intro (Cw (m:=(s16:ByteArray).size) (n:=1) rfl rfl (by omega)) ?_
  intro s17 hs17
  have hl17:(s17:ByteArray).size=(s16:ByteArray).size+1:=Bz hs17 rfl rfl
  refine iQ 1 (eC 180 [.agg [Iv s,Bv z,Iv o]] 19 (a8v (by omega) (by omega)) (eC 173 [Iv (s % 60),Iv 2] 20 (Cl (n:=s % 60) (w:=2) ⟨by omega,by omega⟩ (by decide)) (jB .add 9 (.string s17) (.string (tx (Bt (s % 60) 2))) 21 ?_)))
  refine And.intro (Cw (m:=(s17:ByteArray).size) (n:=((Bt (s % 60) 2)).length) rfl rfl (by omega)) ?_
  intro s21 hs21
  have hl21:(s21:ByteArray).size=(s17:ByteArray).size+((Bt (s % 60) 2)).length:=Bz hs21 rfl rfl
  refine iQ 1 ?_
  let Z2:=zT [(1,.p 1 0),(2,.d (Sv (⟨#[]⟩))),(3,.d (Sv s21)),(8,Ba false)] []
  refine iE 60 Z2 [(1,[Iv s,Bv z,Iv o])] ?_
  refine Ae (Aa rfl (iQ 2 (jU .not (.bool z) 24 ?_)))
  intro c24 hc24
  refine iE 60 (zT [(24,Ba c24)] Z2) [(1,[Iv s,Bv z,Iv o])] ?_
  cases c24
  ·replace hc24:=bf hc24
   refine iF (Ad (Af (Ae (Aa rfl (iQ 2 (jB .eql 3 (.int .i64 o) (.int .i64 0) 28 ?_))))))
   intro c28 hc28
   refine iE 60 (zT [(24,Ba false),(28,Ba c28)] Z2) [(1,[Iv s,Bv z,Iv o])] ?_
   cases c28
   ·replace hc28:=bf hc28
    refine iF (Ad (Af (Aa rfl (iQ 4 ?_))))
    let Z3:=zT [(4,.d (Sv (⟨#[43]⟩))),(5,Ia o),(24,Ba false),(28,Ba false)] []
    refine iE 60 (zT Z3 Z2) [(1,[Iv s,Bv z,Iv o])] ?_
    refine Ae (Aa rfl (iQ 1 (jB .lss 3 (.int .i64 o) (.int .i64 0) 34 ?_)))
    intro c34 hc34
    refine iE 60 (zT [(34,Ba c34)] (zT Z2 Z3)) [(1,[Iv s,Bv z,Iv o])] ?_
    cases c34
    ·replace hc34:=bf hc34
     have hzl:La z o=43::a1k o:=by rw[La,if_neg hc24,if_neg hc28,if_neg hc34]
     refine iF (Ad (Af (Aa rfl (iQ 3 (jB .quo 3 (.int .i64 o) (.int .i64 3600) 40 ?_)))))
     refine And.intro (by omega) ?_
     intro z40 hz40
     have e40:z40=o / 3600:=Ko hz40 (by decide) (by omega) (by omega)
     refine eC 173 [Iv z40,Iv 2] 41 (Cl (n:=z40) (w:=2) ⟨by omega,by omega⟩ (by decide)) ?_
     have p40:=Dc (n:=z40) (w:=2) ⟨by omega,by omega⟩ (by decide)
     refine jB .add 9 (.string (⟨#[43]⟩)) (.string (tx (Bt z40 2))) 42 ?_
     refine And.intro (Cw (m:=1) (n:=((Bt z40 2)).length) rfl rfl (by omega)) ?_
     intro s42 hs42
     have hl42:(s42:ByteArray).size=1+((Bt z40 2)).length:=Bz hs42 rfl rfl
     refine jB .add 9 (.string s42) (.string (⟨#[58]⟩)) 43 ?_
     refine And.intro (Cw (m:=(s42:ByteArray).size) (n:=1) rfl rfl (by omega)) ?_
     intro s43 hs43
     have hl43:(s43:ByteArray).size=(s42:ByteArray).size+1:=Bz hs43 rfl rfl
     refine iQ 1 (jB .quo 3 (.int .i64 o) (.int .i64 60) 45 ?_)
     refine And.intro (by omega) ?_
     intro z45 hz45
     have e45:z45=o / 60:=Ko hz45 (by decide) (by omega) (by omega)
     refine jB .rem 3 (.int .i64 z45) (.int .i64 60) 46 ?_
     refine And.intro (by omega) ?_
     intro z46 hz46
     have e46:z46=o % 3600 / 60:=by rw[Jh hz46 (by omega),e45];omega
     refine eC 173 [Iv z46,Iv 2] 47 (Cl (n:=z46) (w:=2) ⟨by omega,by omega⟩ (by decide)) ?_
     have p46:=Dc (n:=z46) (w:=2) ⟨by omega,by omega⟩ (by decide)
     refine jB .add 9 (.string s43) (.string (tx (Bt z46 2))) 48 ?_
     refine And.intro (Cw (m:=(s43:ByteArray).size) (n:=((Bt z46 2)).length) rfl rfl (by omega)) ?_
     intro s48 hs48
     have hl48:(s48:ByteArray).size=(s43:ByteArray).size+((Bt z46 2)).length:=Bz hs48 rfl rfl
     refine jB .add 9 (.string s21) (.string s48) 49 ?_
     refine And.intro (Cw (m:=(s21:ByteArray).size) (n:=(s48:ByteArray).size) rfl rfl (by omega)) ?_
     intro s49 hs49
     have hl49:(s49:ByteArray).size=(s21:ByteArray).size+(s48:ByteArray).size:=Bz hs49 rfl rfl
     refine iQ 1 ?_
     let Z4:=zT [(1,.p 1 0),(2,.d (Sv (⟨#[]⟩))),(3,.d (Sv s49)),(5,Ia o),(8,Ba false),(24,Ba false),(28,Ba false),(34,Ba false)] []
     refine iE 60 Z4 [(1,[Iv s,Bv z,Iv o])] ?_
     refine Ae (Aa rfl (iQ 1 (jB .rem 3 (.int .i64 o) (.int .i64 60) 51 ?_)))
     refine And.intro (by omega) ?_
     intro z51 hz51
     have e51:z51=o % 60:=Jh hz51 (by omega)
     refine jB .neq 3 (.int .i64 z51) (.int .i64 0) 52 ?_
     intro c52 hc52
     refine iE 60 (zT [(52,Ba c52)] Z4) [(1,[Iv s,Bv z,Iv o])] ?_
     cases c52
     ·replace hc52:=bf hc52
      refine iF (Ad (Af (Aa rfl (iQ 2 ?_))))
      let Z5:=zT [(1,.p 1 0),(2,.d (Sv s49)),(3,.d (Sv s49)),(5,Ia o),(8,Ba false),(24,Ba false),(28,Ba false),(34,Ba false),(52,Ba false)] []
      refine iE 60 Z5 [(1,[Iv s,Bv z,Iv o])] ?_
      refine Ab (iR (Sv s49) ?_)
      simp only[hs49,hs48,hs43,hs42,hs21,hs17,hs16,hs12,Jy,Dg,e40,e46];rw[He,if_pos hb,Jg,hzl];rw[a1k,if_pos (by omega)];all_goals simp only[List.append_assoc,List.cons_append,List.nil_append,List.append_nil]
     ·replace hc52:=bt hc52
      refine iT (Am rfl (iQ 2 (jB .rem 3 (.int .i64 o) (.int .i64 60) 55 ?_)))
      refine And.intro (by omega) ?_
      intro z55 hz55
      have e55:z55=o % 60:=Jh hz55 (by omega)
      refine eC 173 [Iv z55,Iv 2] 56 (Cl (n:=z55) (w:=2) ⟨by omega,by omega⟩ (by decide)) ?_
      have p55:=Dc (n:=z55) (w:=2) ⟨by omega,by omega⟩ (by decide)
      refine jB .add 9 (.string (⟨#[58]⟩)) (.string (tx (Bt z55 2))) 57 ?_
      refine And.intro (Cw (m:=1) (n:=((Bt z55 2)).length) rfl rfl (by omega)) ?_
      intro s57 hs57
      have hl57:(s57:ByteArray).size=1+((Bt z55 2)).length:=Bz hs57 rfl rfl
      refine jB .add 9 (.string s49) (.string s57) 58 ?_
      refine And.intro (Cw (m:=(s49:ByteArray).size) (n:=(s57:ByteArray).size) rfl rfl (by omega)) ?_
      intro s58 hs58
      have hl58:(s58:ByteArray).size=(s49:ByteArray).size+(s57:ByteArray).size:=Bz hs58 rfl rfl
      refine iQ 1 ?_
      let Z6:=zT [(1,.p 1 0),(2,.d (Sv (⟨#[]⟩))),(3,.d (Sv s58)),(5,Ia o),(8,Ba false),(24,Ba false),(28,Ba false),(34,Ba false),(52,Ba true)] []
      refine iE 60 Z6 [(1,[Iv s,Bv z,Iv o])] ?_
      refine Af (Aa rfl (iQ 2 ?_))
      let Z7:=zT [(1,.p 1 0),(2,.d (Sv s58)),(3,.d (Sv s58)),(5,Ia o),(8,Ba false),(24,Ba false),(28,Ba false),(34,Ba false),(52,Ba true)] []
      refine iE 60 Z7 [(1,[Iv s,Bv z,Iv o])] ?_
      refine Ab (iR (Sv s58) ?_)
      simp only[hs58,hs57,hs49,hs48,hs43,hs42,hs21,hs17,hs16,hs12,Jy,Dg,e40,e46,e55];rw[He,if_pos hb,Jg,hzl];rw[a1k,if_neg (by omega)];all_goals simp only[List.append_assoc,List.cons_append,List.nil_append,List.append_nil]
    ·replace hc34:=bt hc34
     refine iT (Am rfl (iQ 1 (jU .neg (.int .i64 o) 36 ?_)))
     intro z36 hz36
     try replace hz36:=hz36.i64 (by omega)
     have e36:z36 = -o:=by omega
     have hzl:La z o=45::a1k z36:=by rw[La,if_neg hc24,if_neg hc28,if_pos hc34,e36]
     refine iQ 2 ?_
     let Z8:=zT [(4,.d (Sv (⟨#[45]⟩))),(5,Ia z36),(24,Ba false),(28,Ba false),(34,Ba true)] []
     refine iE 60 (zT Z8 Z2) [(1,[Iv s,Bv z,Iv o])] ?_
     refine Af (Aa rfl (iQ 3 (jB .quo 3 (.int .i64 z36) (.int .i64 3600) 40 ?_)))
     refine And.intro (by omega) ?_
     intro z40 hz40
     have e40:z40=z36 / 3600:=Ko hz40 (by decide) (by omega) (by omega)
     refine eC 173 [Iv z40,Iv 2] 41 (Cl (n:=z40) (w:=2) ⟨by omega,by omega⟩ (by decide)) ?_
     have p40:=Dc (n:=z40) (w:=2) ⟨by omega,by omega⟩ (by decide)
     refine jB .add 9 (.string (⟨#[45]⟩)) (.string (tx (Bt z40 2))) 42 ?_
     refine And.intro (Cw (m:=1) (n:=((Bt z40 2)).length) rfl rfl (by omega)) ?_
     intro s42 hs42
     have hl42:(s42:ByteArray).size=1+((Bt z40 2)).length:=Bz hs42 rfl rfl
     refine jB .add 9 (.string s42) (.string (⟨#[58]⟩)) 43 ?_
     refine And.intro (Cw (m:=(s42:ByteArray).size) (n:=1) rfl rfl (by omega)) ?_
     intro s43 hs43
     have hl43:(s43:ByteArray).size=(s42:ByteArray).size+1:=Bz hs43 rfl rfl
     refine iQ 1 (jB .quo 3 (.int .i64 z36) (.int .i64 60) 45 ?_)
     refine And.intro (by omega) ?_
     intro z45 hz45
     have e45:z45=z36 / 60:=Ko hz45 (by decide) (by omega) (by omega)
     refine jB .rem 3 (.int .i64 z45) (.int .i64 60) 46 ?_
     refine And.intro (by omega) ?_
     intro z46 hz46
     have e46:z46=z36 % 3600 / 60:=by rw[Jh hz46 (by omega),e45];omega
     refine eC 173 [Iv z46,Iv 2] 47 (Cl (n:=z46) (w:=2) ⟨by omega,by omega⟩ (by decide)) ?_
     have p46:=Dc (n:=z46) (w:=2) ⟨by omega,by omega⟩ (by decide)
     refine jB .add 9 (.string s43) (.string (tx (Bt z46 2))) 48 ?_
     refine And.intro (Cw (m:=(s43:ByteArray).size) (n:=((Bt z46 2)).length) rfl rfl (by omega)) ?_
     intro s48 hs48
     have hl48:(s48:ByteArray).size=(s43:ByteArray).size+((Bt z46 2)).length:=Bz hs48 rfl rfl
     refine jB .add 9 (.string s21) (.string s48) 49 ?_
     refine And.intro (Cw (m:=(s21:ByteArray).size) (n:=(s48:ByteArray).size) rfl rfl (by omega)) ?_
     intro s49 hs49
     have hl49:(s49:ByteArray).size=(s21:ByteArray).size+(s48:ByteArray).size:=Bz hs49 rfl rfl
     refine iQ 1 ?_
     let Z9:=zT [(1,.p 1 0),(2,.d (Sv (⟨#[]⟩))),(3,.d (Sv s49)),(5,Ia z36),(8,Ba false),(24,Ba false),(28,Ba false),(34,Ba true)] []
     refine iE 60 Z9 [(1,[Iv s,Bv z,Iv o])] ?_
     refine Ae (Aa rfl (iQ 1 (jB .rem 3 (.int .i64 z36) (.int .i64 60) 51 ?_)))
     refine And.intro (by omega) ?_
     intro z51 hz51
     have e51:z51=z36 % 60:=Jh hz51 (by omega)
     refine jB .neq 3 (.int .i64 z51) (.int .i64 0) 52 ?_
     intro c52 hc52
     refine iE 60 (zT [(52,Ba c52)] Z9) [(1,[Iv s,Bv z,Iv o])] ?_
     cases c52
     ·replace hc52:=bf hc52
      refine iF (Ad (Af (Aa rfl (iQ 2 ?_))))
      let Z10:=zT [(1,.p 1 0),(2,.d (Sv s49)),(3,.d (Sv s49)),(5,Ia z36),(8,Ba false),(24,Ba false),(28,Ba false),(34,Ba true),(52,Ba false)] []
      refine iE 60 Z10 [(1,[Iv s,Bv z,Iv o])] ?_
      refine Ab (iR (Sv s49) ?_)
      simp only[hs49,hs48,hs43,hs42,hs21,hs17,hs16,hs12,Jy,Dg,e40,e46];rw[He,if_pos hb,Jg,hzl];rw[a1k,if_pos (by omega)];all_goals simp only[List.append_assoc,List.cons_append,List.nil_append,List.append_nil]
     ·replace hc52:=bt hc52
      refine iT (Am rfl (iQ 2 (jB .rem 3 (.int .i64 z36) (.int .i64 60) 55 ?_)))
      refine And.intro (by omega) ?_
      intro z55 hz55
      have e55:z55=z36 % 60:=Jh hz55 (by omega)
      refine eC 173 [Iv z55,Iv 2] 56 (Cl (n:=z55) (w:=2) ⟨by omega,by omega⟩ (by decide)) ?_
      have p55:=Dc (n:=z55) (w:=2) ⟨by omega,by omega⟩ (by decide)
      refine jB .add 9 (.string (⟨#[58]⟩)) (.string (tx (Bt z55 2))) 57 ?_
      refine And.intro (Cw (m:=1) (n:=((Bt z55 2)).length) rfl rfl (by omega)) ?_
      intro s57 hs57
      have hl57:(s57:ByteArray).size=1+((Bt z55 2)).length:=Bz hs57 rfl rfl
      refine jB .add 9 (.string s49) (.string s57) 58 ?_
      refine And.intro (Cw (m:=(s49:ByteArray).size) (n:=(s57:ByteArray).size) rfl rfl (by omega)) ?_
      intro s58 hs58
      have hl58:(s58:ByteArray).size=(s49:ByteArray).size+(s57:ByteArray).size:=Bz hs58 rfl rfl
      refine iQ 1 ?_
      let Z11:=zT [(1,.p 1 0),(2,.d (Sv (⟨#[]⟩))),(3,.d (Sv s58)),(5,Ia z36),(8,Ba false),(24,Ba false),(28,Ba false),(34,Ba true),(52,Ba true)] []
      refine iE 60 Z11 [(1,[Iv s,Bv z,Iv o])] ?_
      refine Af (Aa rfl (iQ 2 ?_))
      let Z12:=zT [(1,.p 1 0),(2,.d (Sv s58)),(3,.d (Sv s58)),(5,Ia z36),(8,Ba false),(24,Ba false),(28,Ba false),(34,Ba true),(52,Ba true)] []
      refine iE 60 Z12 [(1,[Iv s,Bv z,Iv o])] ?_
      refine Ab (iR (Sv s58) ?_)
      simp only[hs58,hs57,hs49,hs48,hs43,hs42,hs21,hs17,hs16,hs12,Jy,Dg,e40,e46,e55];rw[He,if_pos hb,Jg,hzl];rw[a1k,if_neg (by omega)];all_goals simp only[List.append_assoc,List.cons_append,List.nil_append,List.append_nil]
   ·replace hc28:=bt hc28
    refine iT (Aa rfl (iQ 1 (jB .add 9 (.string s21) (.string (⟨#[90]⟩)) 30 ?_)))
    refine And.intro (Cw (m:=(s21:ByteArray).size) (n:=1) rfl rfl (by omega)) ?_
    intro s30 hs30
    have hl30:(s30:ByteArray).size=(s21:ByteArray).size+1:=Bz hs30 rfl rfl
    refine iQ 1 ?_
    let Z13:=zT [(1,.p 1 0),(2,.d (Sv s30)),(3,.d (Sv s21)),(8,Ba false),(24,Ba false),(28,Ba true)] []
    refine iE 60 Z13 [(1,[Iv s,Bv z,Iv o])] ?_
    refine Ab (Ag (iR (Sv s30) ?_))
    simp only[hs30,hs21,hs17,hs16,hs12,Jy,Dg];rw[He,if_pos hb,Jg,La,if_neg hc24,if_pos hc28]
  ·replace hc24:=bt hc24
   refine iT (Aa rfl (iQ 2 ?_))
   let Z14:=zT [(1,.p 1 0),(2,.d (Sv s21)),(3,.d (Sv s21)),(8,Ba false),(24,Ba true)] []
   refine iE 60 Z14 [(1,[Iv s,Bv z,Iv o])] ?_
   refine Ab (Ag (iR (Sv s21) ?_))
   simp only[hs21,hs17,hs16,hs12,Jy,Dg];rw[He,if_pos hb,Jg,La,if_pos hc24,List.append_nil]
 ·replace hc8:=bt hc8
  refine iT (Aa rfl (iQ 1 ?_))
  let Z15:=zT [(1,.p 1 0),(2,.d (Sv (⟨#[]⟩))),(8,Ba true)] []
  refine iE 60 Z15 [(1,[Iv s,Bv z,Iv o])] ?_
  refine Ab (Ag (iR (Sv (⟨#[]⟩)) ?_))
  rw[He,if_neg (fun h=>by have:=hb.2 h;rw[hc8] at this;cases this)];rfl
theorem b77 {y m d s o:Int} {z:Bool}:HasC Tryz.prog 154 [.agg [.v (.int .i64 y),.v (.int .i64 m),.v (.int .i64 d),.v (.int .i64 s),.v (.bool z),.v (.int .i64 o)]] (fun r => ∃ b,r=.v (.bool b)∧(b=true↔Io y m d∧Gv s z o)):=by
 refine hO [] Tryz.f154 (fun a w=>Tryz.call154 a w) Tryz.func154 rfl (⟨_,decide (Io y m d∧Gv s z o),rfl,by simp⟩) ?_
 refine Aa rfl (iQ 2 (iE 11 [(1,.p 1 0),(2,Ba false)] [(1,[Iv y,Iv m,Iv d,Iv s,Bv z,Iv o])] ?_))
 refine Aa rfl (iQ 2 (jC 146 [.agg [Iv y,Iv m,Iv d]] 5 (Nv) ?_))
 rintro _ ⟨b5,rfl,hb5⟩
 refine iQ 1 ?_
 cases b5
 ·replace hb5:=bf hb5
  refine iQ 5 (iE 11 [(2,Ba false)] [] ?_)
  refine Ab (iR (Bv false) ?_)
  exact ⟨_,rfl,by grind⟩
 ·replace hb5:=bt hb5
  refine iQ 2 (jC 152 [.agg [Iv s,Bv z,Iv o]] 9 (Wm) ?_)
  rintro _ ⟨b9,rfl,hb9⟩
  refine iQ 2 (iE 11 [(2,Ba b9)] [] ?_)
  refine Ab (iR (Bv b9) ?_)
  exact ⟨_,rfl,by grind⟩
end Go.Proofs.YtdkgnmiiibpnnaaGreatDoor
