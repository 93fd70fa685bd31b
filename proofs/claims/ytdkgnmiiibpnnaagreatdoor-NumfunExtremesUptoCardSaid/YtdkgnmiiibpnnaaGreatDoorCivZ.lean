/- civil: leap years, the lengths of months, days and their numbers. civil: a day comes back from its number; the order of days is that of their numbers; months later; which of two days is ahead. lexical: what the texts of days, times and durations are, what is read of a text: in lists of bytes, with no program in sight. lexical: the texts of days, times, moments and durations. -/
import Derived.Test.YtdkgnmiiibpnnaaGreatDoorVcZ
import Derived.Test.YtdkgnmiiibpnnaaGreatDoorIto
namespace Go.Proofs.YtdkgnmiiibpnnaaGreatDoor
open Go.RowKit
set_option linter.unusedVariables false
set_option linter.unusedSimpArgs false
set_option maxRecDepth 100000
theorem b09 (a:Int) {b:Int} (hb:0<b) : -(a.natAbs:Int)≤a.tdiv b∧a.tdiv b≤a.natAbs:=by
 rcases Int.le_total 0 a with h | h
 ·rw[Int.tdiv_eq_ediv_of_nonneg h]
  have h1:=Int.ediv_nonneg h (Int.le_of_lt hb)
  have h2:=Int.ediv_le_self b h
  omega
 ·obtain ⟨c,rfl⟩ : ∃ c,a = -c:=⟨-a,by omega⟩
  have hc:0≤c:=by omega
  rw[Int.neg_tdiv,Int.tdiv_eq_ediv_of_nonneg hc]
  have h1:=Int.ediv_nonneg hc (Int.le_of_lt hb)
  have h2:=Int.ediv_le_self b hc
  omega
theorem b1f {a n z:Int} (h:IntIs .i64 (a.tdiv n) z) (hn:0<n) (h0 : -9223372036854775807≤a) (h1:a≤9223372036854775807):z=a.tdiv n:=h.i64 (by
 have:=b09 a hn
 omega)
theorem Cu {a n z:Int} (h:IntIs .i64 (a.tdiv n) z) (hn:0<n) (h0:0≤a) (h1:a≤9223372036854775807):z=a / n:=by
 rw[b1f h hn (by omega) h1,Int.tdiv_eq_ediv_of_nonneg h0]
theorem b46 (a:Int) {n:Int} (hn:0<n):n*a.tdiv n+a.tmod n=a ∧ -n<a.tmod n∧a.tmod n<n∧(0≤a→0≤a.tdiv n∧0≤a.tmod n)∧(a≤0→a.tdiv n≤0∧a.tmod n≤0):=by
 have e:n*a.tdiv n+a.tmod n=a:=Int.mul_tdiv_add_tmod a n
 refine ⟨e,Int.lt_tmod_of_pos a hn,Int.tmod_lt_of_pos a hn,fun h => ?_,fun h => ?_⟩
 ·exact ⟨Int.tdiv_nonneg h (Int.le_of_lt hn),Int.tmod_nonneg n h⟩
 ·obtain ⟨c,rfl⟩ : ∃ c,a = -c:=⟨-a,by omega⟩
  have h1:=Int.tdiv_nonneg (a:=c) (by omega) (Int.le_of_lt hn)
  have h2:=Int.tmod_nonneg n (a:=c) (by omega)
  rw[Int.neg_tdiv,Int.neg_tmod]
  omega
theorem c01 {a b q r:Int} (hb:0<b) (hq:q=a.tdiv b) (hr:r=a.tmod b):(r<0→a / b=q-1)∧(¬ r<0→a / b=q):=by
 obtain ⟨h1,h2,h3,_⟩:=b46 a hb
 rw[← hq,← hr] at h1
 rw[← hr] at h2 h3
 constructor
 ·intro h
  refine ((Int.ediv_emod_unique (r:=r+b) hb).2 ⟨?_,by omega,by omega⟩).1
  rw[Int.mul_sub,Int.mul_one]
  omega
 ·intro h
  exact ((Int.ediv_emod_unique (r:=r) hb).2 ⟨by omega,by omega,by omega⟩).1
theorem tm0 {p z n:Int} (h:z=p.tmod n) (hn:0<n):z=0↔p % n=0:=by
 have h3:n ∣ p↔p % n=0:=Int.dvd_iff_emod_eq_zero
 have h1:=Int.emod_nonneg p (show n≠0 by omega)
 have h2:=Int.emod_lt_of_pos p hn
 rw[h,Int.tmod_eq_emod]
 generalize p % n=e at *
 simp only[h3]
 split<;>omega
def Zy (y:Int):Prop:=y % 4=0∧(y % 100≠0∨y % 400=0)
instance (y:Int):Decidable (Zy y):=inferInstanceAs (Decidable (_∧_))
def Gg (y m:Int):Int:=if m=1∨m=3∨m=5∨m=7∨m=8∨m=10∨m=12 then 31 else if m=4∨m=6∨m=9∨m=11 then 30 else if m=2 then (if Zy y then 29 else 28) else 0
theorem Wm (y m:Int):0≤Gg y m∧Gg y m≤31:=by
 unfold Gg
 split
 ·decide
 ·split
  ·decide
  ·split
   ·split<;>decide
   ·decide
theorem Qw {y m:Int} (h:1≤Gg y m):1≤m∧m≤12:=by
 unfold Gg at h
 split at h
 ·omega
 ·split at h
  ·omega
  ·split at h
   ·omega
   ·omega
theorem b67 {y:Int}:HasC Tryz.prog 200 [.v (.int .i64 y)] (fun r => ∃ b,r=.v (.bool b)∧(b=true↔Zy y)):=by
 refine hO [] Tryz.f200 (fun a w=>Tryz.call200 a w) Tryz.func200 rfl (⟨_,decide (Zy y),rfl,by simp⟩) ?_
 refine Aa rfl (iQ 1 (iE 16 [(0,Ia y),(2,Ba false)] [] ?_))
 refine Aa rfl (iQ 1 (jB .rem 3 (.int .i64 y) (.int .i64 4) 4 ?_))
 refine And.intro (by omega) ?_
 intro z4 hz4
 have h4:=tm0 (n:=4) hz4 (by decide)
 refine jB .eql 3 (.int .i64 z4) (.int .i64 0) 5 ?_
 intro c5 hc5
 refine iQ 1 ?_
 cases c5
 ·replace hc5:=bf hc5
  refine iQ 10 (iE 16 [(2,Ba false)] [] ?_)
  refine Ab (iR (Bv false) ?_)
  exact ⟨_,rfl,⟨fun h=>(by cases h),fun h=>absurd (h4.2 h.1) hc5⟩⟩
 ·replace hc5:=bt hc5
  refine iQ 1 (jB .rem 3 (.int .i64 y) (.int .i64 100) 8 ?_)
  refine And.intro (by omega) ?_
  intro z8 hz8
  have h8:=tm0 (n:=100) hz8 (by decide)
  refine jB .neq 3 (.int .i64 z8) (.int .i64 0) 9 ?_
  intro c9 hc9
  refine iQ 1 ?_
  cases c9
  ·replace hc9:=bf hc9
   refine iQ 1 (jB .rem 3 (.int .i64 y) (.int .i64 400) 12 ?_)
   refine And.intro (by omega) ?_
   intro z12 hz12
   have h12:=tm0 (n:=400) hz12 (by decide)
   refine jB .eql 3 (.int .i64 z12) (.int .i64 0) 13 ?_
   intro c13 hc13
   refine iQ 3 (iE 16 [(2,Ba c13)] [] ?_)
   refine Ab (iR (Bv c13) ?_)
   exact ⟨_,rfl,by rw[hc13,h12];unfold Zy;omega⟩
  ·replace hc9:=bt hc9
   refine iQ 6 (iE 16 [(2,Ba true)] [] ?_)
   refine Ab (iR (Bv true) ?_)
   exact ⟨_,rfl,⟨fun _=>⟨h4.1 hc5,.inl fun k=>hc9 (h8.2 k)⟩,fun _=>rfl⟩⟩
set_option maxHeartbeats 1600000 in
theorem a9j {y m:Int}:HasC Tryz.prog 174 [.v (.int .i64 y),.v (.int .i64 m)] (fun r=>r=.v (.int .i64 (Gg y m))):=by
 refine hO [] Tryz.f174 (fun a w=>Tryz.call174 a w) Tryz.func174 rfl (⟨_,rfl⟩) ?_
 refine Aa rfl (iQ 1 (iE 23 [(0,Ia y),(1,Ia m),(4,Ia 0)] [] ?_))
 refine Ae (Aa rfl (iQ 1 (iE 23 [(0,Ia y),(4,Ia 0),(5,Ia m)] [] ?_)))
 refine Aj (Ae (Aa rfl (jB .eql 3 (.int .i64 m) (.int .i64 1) 7 ?_)))
 intro c7 hc7
 refine iQ 1 (iE 23 [(0,Ia y),(4,Ia 0),(5,Ia m),(6,Ba c7)] [] ?_)
 cases c7
 ·replace hc7:=bf hc7
  refine iF (Aa rfl (jB .eql 3 (.int .i64 m) (.int .i64 3) 8 ?_))
  intro c8 hc8
  refine iQ 1 (iE 23 [(0,Ia y),(4,Ia 0),(5,Ia m),(6,Ba c8)] [] ?_)
  cases c8
  ·replace hc8:=bf hc8
   refine iF (Aa rfl (jB .eql 3 (.int .i64 m) (.int .i64 5) 9 ?_))
   intro c9 hc9
   refine iQ 1 (iE 23 [(0,Ia y),(4,Ia 0),(5,Ia m),(6,Ba c9)] [] ?_)
   cases c9
   ·replace hc9:=bf hc9
    refine iF (Aa rfl (jB .eql 3 (.int .i64 m) (.int .i64 7) 10 ?_))
    intro c10 hc10
    refine iQ 1 ?_
    let Z1:=zT [(0,Ia y),(4,Ia 0),(5,Ia m),(6,Ba c10)] []
    refine iE 23 Z1 [] ?_
    cases c10
    ·replace hc10:=bf hc10
     refine iF (Aa rfl (jB .eql 3 (.int .i64 m) (.int .i64 8) 11 ?_))
     intro c11 hc11
     refine iQ 1 ?_
     let Z2:=zT [(0,Ia y),(4,Ia 0),(5,Ia m),(6,Ba c11)] []
     refine iE 23 Z2 [] ?_
     cases c11
     ·replace hc11:=bf hc11
      refine iF (Aa rfl (jB .eql 3 (.int .i64 m) (.int .i64 10) 12 ?_))
      intro c12 hc12
      refine iQ 1 ?_
      let Z3:=zT [(0,Ia y),(4,Ia 0),(5,Ia m),(6,Ba c12)] []
      refine iE 23 Z3 [] ?_
      cases c12
      ·replace hc12:=bf hc12
       refine iF (Al rfl (jB .eql 3 (.int .i64 m) (.int .i64 12) 13 ?_))
       intro c13 hc13
       refine iQ 1 ?_
       let Z4:=zT [(0,Ia y),(4,Ia 0),(5,Ia m),(6,Ba c13)] []
       refine iE 23 Z4 [] ?_
       refine Af ?_
       cases c13
       ·replace hc13:=bf hc13
        refine iF (Ae (Aa rfl (jB .eql 3 (.int .i64 m) (.int .i64 4) 15 ?_)))
        intro c15 hc15
        refine iQ 1 ?_
        let Z5:=zT [(0,Ia y),(4,Ia 0),(5,Ia m),(6,Ba false),(14,Ba c15)] []
        refine iE 23 Z5 [] ?_
        cases c15
        ·replace hc15:=bf hc15
         refine iF (Aa rfl (jB .eql 3 (.int .i64 m) (.int .i64 6) 16 ?_))
         intro c16 hc16
         refine iQ 1 ?_
         let Z6:=zT [(0,Ia y),(4,Ia 0),(5,Ia m),(6,Ba false),(14,Ba c16)] []
         refine iE 23 Z6 [] ?_
         cases c16
         ·replace hc16:=bf hc16
          refine iF (Aa rfl (jB .eql 3 (.int .i64 m) (.int .i64 9) 17 ?_))
          intro c17 hc17
          refine iQ 1 ?_
          let Z7:=zT [(0,Ia y),(4,Ia 0),(5,Ia m),(6,Ba false),(14,Ba c17)] []
          refine iE 23 Z7 [] ?_
          cases c17
          ·replace hc17:=bf hc17
           refine iF (Al rfl (jB .eql 3 (.int .i64 m) (.int .i64 11) 18 ?_))
           intro c18 hc18
           refine iQ 1 ?_
           let Z8:=zT [(0,Ia y),(4,Ia 0),(5,Ia m),(6,Ba false),(14,Ba c18)] []
           refine iE 23 Z8 [] ?_
           refine Af ?_
           cases c18
           ·replace hc18:=bf hc18
            refine iF (Aa rfl (jB .eql 3 (.int .i64 m) (.int .i64 2) 20 ?_))
            intro c20 hc20
            refine iQ 1 ?_
            let Z9:=zT [(0,Ia y),(4,Ia 0),(5,Ia m),(6,Ba false),(14,Ba false),(19,Ba c20)] []
            refine iE 23 Z9 [] ?_
            cases c20
            ·replace hc20:=bf hc20
             refine iF (Ad (Am (Af (Aa rfl (iQ 1 ?_)))))
             let Z10:=zT [(0,Ia y),(4,Ia 0),(5,Ia m),(6,Ba false),(14,Ba false),(19,Ba false)] []
             refine iE 23 Z10 [] ?_
             refine Ab (iR (Iv 0) ?_)
             rw[Gg,if_neg (by omega),if_neg (by omega),if_neg (by omega)]
            ·replace hc20:=bt hc20
             refine iT (Ae (Aa rfl (iQ 1 (jC 200 [Iv y] 22 (b67) ?_))))
             rintro _ ⟨lp,rfl,hlp⟩
             let Z11:=zT [(4,Ia 0),(5,Ia m),(6,Ba false),(14,Ba false),(19,Ba true),(22,Ba lp)] []
             refine iE 23 Z11 [] ?_
             cases lp
             ·replace hlp:=bf hlp
              refine iF (Ad (Af (Aa rfl (iQ 1 ?_))))
              let Z12:=zT [(4,Ia 28),(5,Ia m),(6,Ba false),(14,Ba false),(19,Ba true),(22,Ba false)] []
              refine iE 23 Z12 [] ?_
              refine Ab (Ai (Ag (iR (Iv 28) ?_)))
              rw[Gg,if_neg (by omega),if_neg (by omega),if_pos (by omega),if_neg hlp]
             ·replace hlp:=bt hlp
              refine iT (Aa rfl (iQ 1 ?_))
              let Z13:=zT [(4,Ia 29),(5,Ia m),(6,Ba false),(14,Ba false),(19,Ba true),(22,Ba true)] []
              refine iE 23 Z13 [] ?_
              refine Ab (Ag (Ai (Ag (iR (Iv 29) ?_))))
              rw[Gg,if_neg (by omega),if_neg (by omega),if_pos (by omega),if_pos hlp]
           ·replace hc18:=bt hc18
            refine iT (Aa rfl (iQ 1 ?_))
            let Z14:=zT [(0,Ia y),(4,Ia 30),(5,Ia m),(6,Ba false),(14,Ba true)] []
            refine iE 23 Z14 [] ?_
            refine Ab (Ai (Ag (iR (Iv 30) ?_)))
            rw[Gg,if_neg (by omega),if_pos (by omega)]
          ·replace hc17:=bt hc17
           refine iT (Ad (Af (iT (Aa rfl (iQ 1 ?_)))))
           let Z15:=zT [(0,Ia y),(4,Ia 30),(5,Ia m),(6,Ba false),(14,Ba true)] []
           refine iE 23 Z15 [] ?_
           refine Ab (Ai (Ag (iR (Iv 30) ?_)))
           rw[Gg,if_neg (by omega),if_pos (by omega)]
         ·replace hc16:=bt hc16
          refine iT (Ad (Af (iT (Aa rfl (iQ 1 ?_)))))
          let Z16:=zT [(0,Ia y),(4,Ia 30),(5,Ia m),(6,Ba false),(14,Ba true)] []
          refine iE 23 Z16 [] ?_
          refine Ab (Ai (Ag (iR (Iv 30) ?_)))
          rw[Gg,if_neg (by omega),if_pos (by omega)]
        ·replace hc15:=bt hc15
         refine iT (Ad (Af (iT (Aa rfl (iQ 1 ?_)))))
         let Z17:=zT [(0,Ia y),(4,Ia 30),(5,Ia m),(6,Ba false),(14,Ba true)] []
         refine iE 23 Z17 [] ?_
         refine Ab (Ai (Ag (iR (Iv 30) ?_)))
         rw[Gg,if_neg (by omega),if_pos (by omega)]
       ·replace hc13:=bt hc13
        refine iT (Aa rfl (iQ 1 ?_))
        let Z18:=zT [(0,Ia y),(4,Ia 31),(5,Ia m),(6,Ba true)] []
        refine iE 23 Z18 [] ?_
        refine Ab (Ai (Ag (iR (Iv 31) ?_)))
        rw[Gg,if_pos (by omega)]
      ·replace hc12:=bt hc12
       refine iT (Ad (Af (iT (Aa rfl (iQ 1 ?_)))))
       let Z19:=zT [(0,Ia y),(4,Ia 31),(5,Ia m),(6,Ba true)] []
       refine iE 23 Z19 [] ?_
       refine Ab (Ai (Ag (iR (Iv 31) ?_)))
       rw[Gg,if_pos (by omega)]
     ·replace hc11:=bt hc11
      refine iT (Ad (Af (iT (Aa rfl (iQ 1 ?_)))))
      let Z20:=zT [(0,Ia y),(4,Ia 31),(5,Ia m),(6,Ba true)] []
      refine iE 23 Z20 [] ?_
      refine Ab (Ai (Ag (iR (Iv 31) ?_)))
      rw[Gg,if_pos (by omega)]
    ·replace hc10:=bt hc10
     refine iT (Ad (Af (iT (Aa rfl (iQ 1 ?_)))))
     let Z21:=zT [(0,Ia y),(4,Ia 31),(5,Ia m),(6,Ba true)] []
     refine iE 23 Z21 [] ?_
     refine Ab (Ai (Ag (iR (Iv 31) ?_)))
     rw[Gg,if_pos (by omega)]
   ·replace hc9:=bt hc9
    refine iT (Ad (Af (iT (Aa rfl (iQ 1 ?_)))))
    let Z22:=zT [(0,Ia y),(4,Ia 31),(5,Ia m),(6,Ba true)] []
    refine iE 23 Z22 [] ?_
    refine Ab (Ai (Ag (iR (Iv 31) ?_)))
    rw[Gg,if_pos (by omega)]
  ·replace hc8:=bt hc8
   refine iT (Ad (Af (iT (Aa rfl (iQ 1 ?_)))))
   let Z23:=zT [(0,Ia y),(4,Ia 31),(5,Ia m),(6,Ba true)] []
   refine iE 23 Z23 [] ?_
   refine Ab (Ai (Ag (iR (Iv 31) ?_)))
   rw[Gg,if_pos (by omega)]
 ·replace hc7:=bt hc7
  refine iT (Ad (Af (iT (Aa rfl (iQ 1 ?_)))))
  let Z24:=zT [(0,Ia y),(4,Ia 31),(5,Ia m),(6,Ba true)] []
  refine iE 23 Z24 [] ?_
  refine Ab (Ai (Ag (iR (Iv 31) ?_)))
  rw[Gg,if_pos (by omega)]
def Dw (y m d:Int):Prop := -999999999≤y∧y≤999999999∧1≤d∧d≤Gg y m
instance (y m d:Int):Decidable (Dw y m d):=inferInstanceAs (Decidable (_∧_))
theorem Kq {y m d:Int}:HasC Tryz.prog 146 [.agg [.v (.int .i64 y),.v (.int .i64 m),.v (.int .i64 d)]] (fun r => ∃ b,r=.v (.bool b)∧(b=true↔Dw y m d)):=by
 refine hO [] Tryz.f146 (fun a w=>Tryz.call146 a w) Tryz.func146 rfl (⟨_,decide (Dw y m d),rfl,by simp⟩) ?_
 refine Aa rfl (iQ 2 (iE 26 [(1,.p 1 0),(2,Ba false)] [(1,[Iv y,Iv m,Iv d])] ?_))
 refine Aa rfl (iQ 2 (jB .geq 3 (.int .i64 y) (.int .i64 (-999999999)) 5 ?_))
 intro c5 hc5
 refine iQ 1 ?_
 cases c5
 ·replace hc5:=bf hc5
  refine iQ 20 (iE 26 [(2,Ba false)] [] ?_)
  refine Ab (iR (Bv false) ?_)
  exact ⟨_,rfl,⟨fun h=>(by cases h),fun h=>by unfold Dw at h;omega⟩⟩
 ·replace hc5:=bt hc5
  refine iQ 2 (jB .leq 3 (.int .i64 y) (.int .i64 999999999) 9 ?_)
  intro c9 hc9
  refine iQ 2 ?_
  cases c9
  ·replace hc9:=bf hc9
   refine iQ 15 (iE 26 [(2,Ba false)] [] ?_)
   refine Ab (iR (Bv false) ?_)
   exact ⟨_,rfl,⟨fun h=>(by cases h),fun h=>by unfold Dw at h;omega⟩⟩
  ·replace hc9:=bt hc9
   refine iQ 2 (jB .geq 3 (.int .i64 d) (.int .i64 1) 14 ?_)
   intro c14 hc14
   refine iQ 2 ?_
   cases c14
   ·replace hc14:=bf hc14
    refine iQ 10 (iE 26 [(2,Ba false)] [] ?_)
    refine Ab (iR (Bv false) ?_)
    exact ⟨_,rfl,⟨fun h=>(by cases h),fun h=>by unfold Dw at h;omega⟩⟩
   ·replace hc14:=bt hc14
    refine iQ 6 (eC 174 [Iv y,Iv m] 23 (a9j) (jB .leq 3 (.int .i64 d) (.int .i64 (Gg y m)) 24 ?_))
    intro c24 hc24
    refine iQ 2 (iE 26 [(2,Ba c24)] [] ?_)
    refine Ab (iR (Bv c24) ?_)
    exact ⟨_,rfl,by rw[hc24];unfold Dw;omega⟩
theorem b2w {a b:Int} (hb:0<b) (h0 : -9223372036854775000≤a) (h1:a≤9223372036854775000):HasC Tryz.prog 202 [.v (.int .i64 a),.v (.int .i64 b)] (fun r=>r=.v (.int .i64 (a / b))):=by
 refine hO [] Tryz.f202 (fun a w=>Tryz.call202 a w) Tryz.func202 rfl (⟨_,rfl⟩) ?_
 refine Aa rfl (iQ 1 (iE 16 [(0,Ia a),(1,Ia b),(4,Ia 0)] [] ?_))
 refine Aa rfl (iQ 2 (jB .quo 3 (.int .i64 a) (.int .i64 b) 8 ?_))
 refine And.intro (by omega) ?_
 intro z8 hz8
 have h8:=b1f hz8 hb (by omega) (by omega)
 refine iQ 1 (iE 16 [(0,Ia a),(1,Ia b),(4,Ia 0),(5,Ia z8)] [] ?_)
 refine Ae (Aa rfl (iQ 2 (jB .rem 3 (.int .i64 a) (.int .i64 b) 11 ?_)))
 refine And.intro (by omega) ?_
 intro z11 hz11
 have h11:=c01 hb h8 hz11
 have h9:=b09 a hb
 refine jB .lss 3 (.int .i64 z11) (.int .i64 0) 12 ?_
 intro c12 hc12
 let Z1:=zT [(0,Ia a),(1,Ia b),(4,Ia 0),(5,Ia z8),(12,Ba c12)] []
 refine iE 16 Z1 [] ?_
 cases c12
 ·replace hc12:=bf hc12
  refine iF (Ad (Af (Aa rfl (iQ 2 ?_))))
  let Z2:=zT [(0,Ia a),(1,Ia b),(4,Ia z8),(5,Ia z8),(12,Ba false)] []
  refine iE 16 Z2 [] ?_
  refine Ab (iR (Iv z8) ?_)
  rw[h11.2 hc12]
 ·replace hc12:=bt hc12
  refine iT (Al rfl (iQ 1 (jB .sub 3 (.int .i64 z8) (.int .i64 1) 14 ?_)))
  intro z14 hz14
  try replace hz14:=hz14.i64 (by omega)
  refine iQ 1 ?_
  let Z3:=zT [(0,Ia a),(1,Ia b),(4,Ia 0),(5,Ia z14),(12,Ba true)] []
  refine iE 16 Z3 [] ?_
  refine Af (Aa rfl (iQ 2 ?_))
  let Z4:=zT [(0,Ia a),(1,Ia b),(4,Ia z14),(5,Ia z14),(12,Ba true)] []
  refine iE 16 Z4 [] ?_
  refine Ab (iR (Iv z14) ?_)
  rw[h11.1 hc12,← hz14]
def a6n (y m d:Int):Int:=146097*(y / 400)+365*(y-400*(y / 400))+(y-400*(y / 400)) / 4-(y-400*(y / 400)) / 100+((153*(m-3)+2) / 5+d-1)-719468
def Fg (y m d:Int):Int:=if m≤2 then a6n (y-1) (m+12) d else a6n y m d
theorem Mz {y m d:Int} (h:Dw y m d) : -999999999≤y∧y≤999999999∧1≤m∧m≤12∧1≤d∧d≤31:=by
 obtain ⟨h1,h2,h3,h4⟩:=h
 have h5:=Qw (show 1≤Gg y m by omega)
 have h6:=Wm y m
 omega
theorem Rd {y m d:Int} (h:Dw y m d) : -366000000000≤Fg y m d∧Fg y m d≤366000000000:=by
 have h1:=Mz h
 unfold Fg a6n
 split<;>omega
set_option maxHeartbeats 1600000 in
theorem a81 {y m d:Int} (hmay:Dw y m d):HasC Tryz.prog 183 [.agg [.v (.int .i64 y),.v (.int .i64 m),.v (.int .i64 d)]] (fun r=>r=.tup [.v (.int .i64 (Fg y m d)),.v (.bool true)]):=by
 refine hO [] Tryz.f183 (fun a w=>Tryz.call183 a w) Tryz.func183 rfl (⟨_,rfl⟩) ?_
 have hr:=Mz hmay
 refine Aa rfl (iQ 3 (iE 51 [(1,.p 1 0),(2,Ia 0),(3,Ba false)] [(1,[Iv y,Iv m,Iv d])] ?_))
 refine Ae (Aa rfl (iQ 1 (jC 146 [.agg [Iv y,Iv m,Iv d]] 10 (Kq) ?_)))
 rintro _ ⟨b,rfl,hb⟩
 refine jU .not (.bool b) 11 ?_
 refine An ((by rw[hb.2 hmay];simp)) ?_
 let Z1:=zT [(1,.p 1 0),(2,Ia 0),(3,Ba false),(11,Ba false)] []
 refine iE 51 Z1 [(1,[Iv y,Iv m,Iv d])] ?_
 refine iF (Ad (Af (Aa rfl (iQ 6 (iE 51 (zT [(4,Ia y),(5,Ia m)] Z1) [(1,[Iv y,Iv m,Iv d])] ?_)))))
 refine Gb 51 (fun (vcx:Int×Int×Bool)=>match vcx with | (y1,m1,vb17)=>[(1,.p 1 0),(2,Ia 0),(3,Ba false),(4,Ia y1),(5,Ia m1),(11,Ba false),(17,Ba vb17)]) (fun (vcx:Int×Int×Bool)=>match vcx with | (y1,m1,vb17)=>[(1,[Iv y,Iv m,Iv d])]) (fun (vcx:Int×Int×Bool)=>match vcx with | (y1,m1,vb17)=>(m≤2∧y1=y-1∧m1=m+12)∨(2<m∧y1=y∧m1=m)) ?_ ?_
 ·rintro ⟨y1,m1,vb17⟩ hinv
  simp only at hinv
  refine Aa rfl (iQ 1 (eC 202 [Iv y1,Iv 400] 23 (b2w (by decide) (by omega) (by omega)) (iQ 1 ?_)))
  let Z2:=zT [(4,Ia y1),(5,Ia m1),(6,Ia (y1 / 400)),(17,Ba vb17)] []
  refine iE 51 (zT Z2 Z1) [(1,[Iv y,Iv m,Iv d])] ?_
  refine Aa rfl (iQ 2 (jB .mul 3 (.int .i64 400) (.int .i64 (y1 / 400)) 26 ?_))
  intro z26 hz26
  try replace hz26:=hz26.i64 (by omega)
  refine jB .sub 3 (.int .i64 y1) (.int .i64 z26) 27 ?_
  intro z27 hz27
  try replace hz27:=hz27.i64 (by omega)
  refine iQ 1 (iE 51 (zT [(7,Ia z27)] (zT Z2 Z1)) [(1,[Iv y,Iv m,Iv d])] ?_)
  refine Aa rfl (iQ 1 (jB .sub 3 (.int .i64 m1) (.int .i64 3) 29 ?_))
  intro z29 hz29
  try replace hz29:=hz29.i64 (by omega)
  refine jB .mul 3 (.int .i64 153) (.int .i64 z29) 30 ?_
  intro z30 hz30
  try replace hz30:=hz30.i64 (by omega)
  refine jB .add 3 (.int .i64 z30) (.int .i64 2) 31 ?_
  intro z31 hz31
  try replace hz31:=hz31.i64 (by omega)
  refine jB .quo 3 (.int .i64 z31) (.int .i64 5) 32 ?_
  refine And.intro (by omega) ?_
  intro z32 hz32
  have h32:=Cu hz32 (by decide) (by omega) (by omega)
  refine iQ 2 (jB .add 3 (.int .i64 z32) (.int .i64 d) 35 ?_)
  intro z35 hz35
  try replace hz35:=hz35.i64 (by omega)
  refine jB .sub 3 (.int .i64 z35) (.int .i64 1) 36 ?_
  intro z36 hz36
  try replace hz36:=hz36.i64 (by omega)
  refine iQ 1 (iE 51 (zT [(7,Ia z27),(8,Ia z36)] (zT Z2 Z1)) [(1,[Iv y,Iv m,Iv d])] ?_)
  refine Aa rfl (iQ 1 (jB .mul 3 (.int .i64 146097) (.int .i64 (y1 / 400)) 38 ?_))
  intro z38 hz38
  try replace hz38:=hz38.i64 (by omega)
  refine iQ 1 (jB .mul 3 (.int .i64 365) (.int .i64 z27) 40 ?_)
  intro z40 hz40
  try replace hz40:=hz40.i64 (by omega)
  refine jB .add 3 (.int .i64 z38) (.int .i64 z40) 41 ?_
  intro z41 hz41
  try replace hz41:=hz41.i64 (by omega)
  refine iQ 1 (jB .quo 3 (.int .i64 z27) (.int .i64 4) 43 ?_)
  refine And.intro (by omega) ?_
  intro z43 hz43
  have h43:=Cu hz43 (by decide) (by omega) (by omega)
  refine jB .add 3 (.int .i64 z41) (.int .i64 z43) 44 ?_
  intro z44 hz44
  try replace hz44:=hz44.i64 (by omega)
  refine iQ 1 (jB .quo 3 (.int .i64 z27) (.int .i64 100) 46 ?_)
  refine And.intro (by omega) ?_
  intro z46 hz46
  have h46:=Cu hz46 (by decide) (by omega) (by omega)
  have e1:Fg y m d=a6n y1 m1 d:=by unfold Fg;rcases hinv with ⟨k1,k2,k3⟩ | ⟨k1,k2,k3⟩;rw[if_pos k1,k2,k3];rw[if_neg (by omega),k2,k3]
  refine jB .sub 3 (.int .i64 z44) (.int .i64 z46) 47 ?_
  intro z47 hz47
  try replace hz47:=hz47.i64 (by omega)
  refine iQ 1 (jB .add 3 (.int .i64 z47) (.int .i64 z36) 49 ?_)
  intro z49 hz49
  try replace hz49:=hz49.i64 (by omega)
  refine jB .sub 3 (.int .i64 z49) (.int .i64 719468) 50 ?_
  intro z50 hz50
  try replace hz50:=hz50.i64 (by omega)
  refine iQ 2 ?_
  let Z3:=zT [(1,.p 1 0),(2,Ia z50),(3,Ba true),(11,Ba false)] []
  refine iE 51 (zT Z3 Z2) [(1,[Iv y,Iv m,Iv d])] ?_
  refine Ab (iS (Iv z50) (Bv true) [] ?_)
  rw[e1,show a6n y1 m1 d=z50 by unfold a6n;rw[show y1-400*(y1 / 400)=z27 by omega];omega]
 intro hmid
 refine Aa rfl (iQ 1 (jB .leq 3 (.int .i64 m) (.int .i64 2) 17 ?_))
 intro c17 hc17
 refine iE 51 [(1,.p 1 0),(2,Ia 0),(3,Ba false),(4,Ia y),(5,Ia m),(11,Ba false),(17,Ba c17)] [(1,[Iv y,Iv m,Iv d])] ?_
 cases c17
 ·replace hc17:=bf hc17
  refine iF (Ad ?_)
  refine Di hmid (y,m,false) (by omega) (by kernel_rfl)
 ·replace hc17:=bt hc17
  refine iT (Al rfl (iQ 1 (jB .sub 3 (.int .i64 y) (.int .i64 1) 19 ?_)))
  intro z19 hz19
  try replace hz19:=hz19.i64 (by omega)
  refine iQ 1 (jB .add 3 (.int .i64 m) (.int .i64 12) 21 ?_)
  intro z21 hz21
  try replace hz21:=hz21.i64 (by omega)
  refine iQ 2 (iE 51 [(1,.p 1 0),(2,Ia 0),(3,Ba false),(4,Ia z19),(5,Ia z21),(11,Ba false),(17,Ba true)] [(1,[Iv y,Iv m,Iv d])] ?_)
  refine Di hmid (z19,z21,true) (by omega) (by kernel_rfl)
open Go.RowKit
set_option linter.unusedVariables false
set_option linter.unusedSimpArgs false
set_option maxRecDepth 100000
structure MarIs (y m y1 m1:Int):Prop where
 h:(m≤2∧y1=y-1∧m1=m+12)∨(2<m∧y1=y∧m1=m)
def Do (k:Nat) (a b c:Int):Int:=if k=0 then a else if k=1 then b else c
def ltD (y m d y' m' d':Int):Prop:=y<y'∨(y=y'∧(m<m'∨(m=m'∧d<d')))
theorem a0k {k:Nat} {y m d y' m' d':Int} (hk:k<3) (hi : ∀ j,j<k→Do j y m d=Do j y' m' d') (h:Do k y m d<Do k y' m' d'):ltD y m d y' m' d' ∧ ¬ ltD y' m' d' y m d:=by
 have h0:=hi 0
 have h1:=hi 1
 unfold Do at h h0 h1
 unfold ltD
 simp at h0 h1
 split at h
 ·omega
 ·split at h
  ·have:=h0 (by omega)
   omega
  ·have:=h0 (by omega)
   have:=h1 (by omega)
   omega
theorem b1k {k:Nat} {y m d y' m' d':Int} (hk:k<3):(([.v (.int .i64 y),.v (.int .i64 y'),.v (.int .i64 m),.v (.int .i64 m'),.v (.int .i64 d),.v (.int .i64 d')]:List DV).drop ((k:Int).toNat*2)).take 2=[.v (.int .i64 (Do k y m d)),.v (.int .i64 (Do k y' m' d'))]:=by
 match k,hk with
 | 0,_=>rfl
 | 1,_=>rfl
 | 2,_=>rfl
theorem a4j {k:Nat} {y m d y' m' d':Int} (hi : ∀ j,j<k→Do j y m d=Do j y' m' d') (h:Do k y m d=Do k y' m' d') : ∀ j,j<k+1→Do j y m d=Do j y' m' d':=fun j hj=>by
 rcases Nat.lt_or_ge j k with l | l
 ·exact hi j l
 ·rw[show j=k by omega]
  exact h
theorem b2p {y m d y' m' d':Int} (hi : ∀ j,j<3→Do j y m d=Do j y' m' d') : ¬ ltD y m d y' m' d' ∧ ¬ ltD y' m' d' y m d:=by
 have h0:y=y':=hi 0 (by decide)
 have h1:m=m':=hi 1 (by decide)
 have h2:d=d':=hi 2 (by decide)
 unfold ltD
 omega
set_option maxHeartbeats 1600000 in
theorem a5e {y m d y' m' d':Int}:HasC Tryz.prog 105 [.agg [.v (.int .i64 y),.v (.int .i64 m),.v (.int .i64 d)],.agg [.v (.int .i64 y'),.v (.int .i64 m'),.v (.int .i64 d')]] (fun r => ∃ c,r=.v (.int .i64 c)∧(c<0↔ltD y m d y' m' d')∧(0<c↔ltD y' m' d' y m d) ∧ -1≤c∧c≤1):=by
 refine hO [] Tryz.f105 (fun a w=>Tryz.call105 a w) Tryz.func105 rfl (by
    by_cases h1:ltD y m d y' m' d'
    · exact ⟨_, -1,rfl,⟨fun _=>h1,fun _=>by decide⟩,⟨fun h=>absurd h (by decide),fun h=>by unfold ltD at h h1;omega⟩,by decide,by decide⟩
    · by_cases h2:ltD y' m' d' y m d
      · exact ⟨_,1,rfl,⟨fun h=>absurd h (by decide),fun h=>absurd h h1⟩,⟨fun _=>h2,fun _=>by decide⟩,by decide,by decide⟩
      · exact ⟨_,0,rfl,⟨fun h=>absurd h (by decide),fun h=>absurd h h1⟩,⟨fun h=>absurd h (by decide),fun h=>absurd h h2⟩,by decide,by decide⟩) ?_
 refine Aa rfl (iQ 3 ?_)
 let Z1:=zH [(2,[Iv y,Iv m,Iv d]),(3,[Iv y',Iv m',Iv d'])] []
 refine iE 39 [(2,.p 2 0),(3,.p 3 0),(4,Ia 0)] Z1 ?_
 refine Ae (Aa rfl (iQ 18 ?_))
 let Z2:=zT [(22,.w (.sl 3 [.v (.int .i64 y),.v (.int .i64 y'),.v (.int .i64 m),.v (.int .i64 m'),.v (.int .i64 d),.v (.int .i64 d')]) none)] []
 let Z3:=zT [(4,Ia 0),(23,Ia (((3:Nat):Int))),(24,Ia 0)] []
 refine iE 39 (zT Z3 Z2) [] ?_
 refine Aj (Bm 39 (fun (vcx:Nat)=>match vcx with | k=>[(4,Ia 0),(22,.w (.sl 3 [.v (.int .i64 y),.v (.int .i64 y'),.v (.int .i64 m),.v (.int .i64 m'),.v (.int .i64 d),.v (.int .i64 d')]) none),(23,Ia (((3:Nat):Int))),(24,Ia ((k:Int)))]) (fun (vcx:Nat)=>match vcx with | k=>[]) (fun (vcx:Nat)=>match vcx with | k=>k≤3∧(∀ j,j<k→Do j y m d=Do j y' m' d')) (fun (vcx:Nat)=>match vcx with | k=>3-k) 0 (⟨by decide,fun j h=>absurd h (Nat.not_lt_zero j)⟩) (by kernel_rfl) (by kernel_rfl) ?_)
 rintro k hinv
 simp only at hinv
 obtain ⟨hk3,hi⟩:=hinv
 refine Aa rfl (jB .lss 3 (.int .i64 ((k:Int))) (.int .i64 (((3:Nat):Int))) 25 ?_)
 intro c25 hc25
 let Z4:=zT [(4,Ia 0),(23,Ia (((3:Nat):Int))),(24,Ia ((k:Int))),(25,Ba c25)] []
 refine iE 39 (zT Z4 Z2) [] ?_
 refine Ae ?_
 cases c25
 ·replace hc25:=bf hc25
  have hk:k=3:=by omega
  obtain ⟨q1,q2⟩:=b2p (hk ▸ hi)
  refine iF (Bf (Ca (Bn (Bg rfl (Af (Aa rfl (iQ 1 ?_)))))))
  let Z5:=zT [(4,Ia 0),(23,Ia (((3:Nat):Int))),(24,Ia ((k:Int))),(25,Ba false)] []
  refine iE 39 (zT Z5 Z2) [] ?_
  refine Ab (iR (Iv 0) ?_)
  exact ⟨_,rfl,⟨fun h=>absurd h (by decide),fun h=>absurd h q1⟩,⟨fun h=>absurd h (by decide),fun h=>absurd h q2⟩,by decide,by decide⟩
 ·replace hc25:=bt hc25
  have hk:k<3:=by omega
  refine iT (Ad (Af (Ae (Aj (Aa rfl (Dt (q:=((k:Int))) (n:=3) (cs:=[.v (.int .i64 y),.v (.int .i64 y'),.v (.int .i64 m),.v (.int .i64 m'),.v (.int .i64 d),.v (.int .i64 d')]) (z:=2) (ds:=[.v (.int .i64 (Do k y m d)),.v (.int .i64 (Do k y' m' d'))]) (dst:=(some 26)) (by kernel_rfl) (by omega) (b1k hk) ?_))))))
  refine iQ 3 ?_
  let Z6:=zT [(4,Ia 0),(6,.p 6 0),(23,Ia (((3:Nat):Int))),(24,Ia ((k:Int))),(25,Ba true)] []
  let Z7:=zH [(6,[Iv (Do k y m d),Iv (Do k y' m' d')])] []
  refine iE 39 (zT Z6 Z2) Z7 ?_
  refine Ae (Aa rfl (iQ 4 (jB .lss 3 (.int .i64 (Do k y m d)) (.int .i64 (Do k y' m' d')) 32 ?_)))
  intro c32 hc32
  refine iE 39 (zT [(32,Ba c32)] (zT Z2 Z6)) Z7 ?_
  cases c32
  ·replace hc32:=bf hc32
   refine iF (Ad (Af (Aa rfl (iQ 4 (jB .gtr 3 (.int .i64 (Do k y m d)) (.int .i64 (Do k y' m' d')) 37 ?_)))))
   intro c37 hc37
   refine iE 39 (zT [(32,Ba false),(37,Ba c37)] (zT Z2 Z6)) Z7 ?_
   cases c37
   ·replace hc37:=bf hc37
    refine iF (Ad (Am (Af (Al rfl (jB .add 3 (.int .i64 ((k:Int))) (.int .i64 1) 38 ?_)))))
    intro z38 hz38
    try replace hz38:=hz38.i64 (by omega)
    refine iQ 1 ?_
    let Z8:=zT [(4,Ia 0),(6,.p 6 0),(23,Ia (((3:Nat):Int))),(24,Ia z38),(25,Ba true),(32,Ba false),(37,Ba false)] []
    refine iE 39 (zT Z8 Z2) Z7 ?_
    obtain rfl:z38=((k+1:Nat):Int):=by omega
    refine Bh (k+1) (⟨by omega,a4j hi (by omega)⟩) (by show 3-(k+1)<3-k;omega) (by kernel_rfl) (by kernel_rfl)
   ·replace hc37:=bt hc37
    obtain ⟨q1,q2⟩:=a0k hk (fun j h=>(hi j h).symm) hc37
    refine iT (Aa rfl (iQ 1 ?_))
    let Z9:=zT [(4,Ia 1),(6,.p 6 0),(23,Ia (((3:Nat):Int))),(24,Ia ((k:Int))),(25,Ba true),(32,Ba false),(37,Ba true)] []
    refine iE 39 (zT Z9 Z2) Z7 ?_
    refine Ab (Ai (Ag (Dj (Ai (Ag (iR (Iv 1) ?_))))))
    exact ⟨_,rfl,⟨fun h=>absurd h (by decide),fun h=>absurd h q2⟩,⟨fun _=>q1,fun _=>by decide⟩,by decide,by decide⟩
  ·replace hc32:=bt hc32
   obtain ⟨q1,q2⟩:=a0k hk hi hc32
   refine iT (Aa rfl (iQ 1 ?_))
   let Z10:=zT [(4,Ia (-1)),(6,.p 6 0),(23,Ia (((3:Nat):Int))),(24,Ia ((k:Int))),(25,Ba true),(32,Ba true)] []
   refine iE 39 (zT Z10 Z2) Z7 ?_
   refine Ab (Ag (Ai (Ag (Dj (Ai (Ag (iR (Iv (-1)) ?_)))))))
   exact ⟨_,rfl,⟨fun _=>q1,fun _=>by decide⟩,⟨fun h=>absurd h (by decide),fun h=>absurd h q2⟩,by decide,by decide⟩
open Go.RowKit
set_option linter.unusedVariables false
set_option linter.unusedSimpArgs false
set_option maxRecDepth 100000
def Mw (y m d:Int):L8:=(if y<0 then [45] else []) ++ Bs (if y<0 then -y else y) 4 ++ [45] ++ Bs m 2 ++ [45] ++ Bs d 2
def Fb (y m d:Int):L8:=if Dw y m d then Mw y m d else []
def Ui (o:Int):L8:=Bs (o / 3600) 2 ++ [58] ++ Bs (o % 3600 / 60) 2 ++ (if o % 60=0 then [] else 58::Bs (o % 60) 2)
def Jb (z:Bool) (o:Int):L8:=if z=false then [] else if o=0 then [90] else if o<0 then 45::Ui (-o) else 43::Ui o
def Gz (s:Int) (z:Bool) (o:Int):L8:=Bs (s / 3600) 2 ++ [58] ++ Bs (s % 3600 / 60) 2 ++ [58] ++ Bs (s % 60) 2 ++ Jb z o
def Dq (s:Int) (z:Bool) (o:Int):Prop:=0≤s∧s<86400 ∧ -64800≤o∧o≤64800∧(z=true∨o=0)
instance (s:Int) (z:Bool) (o:Int):Decidable (Dq s z o):=inferInstanceAs (Decidable (_∧_))
def Du (s:Int) (z:Bool) (o:Int):L8:=if Dq s z o then Gz s z o else []
def a2e (y m d s:Int) (z:Bool) (o:Int):L8:=if Dw y m d∧Dq s z o then Mw y m d ++ [84] ++ Gz s z o else []
def Av (n:Int) (l:L8):L8:=if n=0 then [] else Lib.itoa n ++ l
def Jc (k:Int):L8:=Av (k % 86400 / 3600) [72] ++ Av (k % 3600 / 60) [77] ++ Av (k % 60) [83]
def Lj (n:Int):L8:=if n<0 then [45] else []
def Ox (n:Int):Int:=if n<0 then -n else n
def Gp (n:Int):L8:=if n < -9007199254740992∨9007199254740992<n then [] else if n=0 then [80,84,48,83] else
 Lj n ++ [80] ++ Av (Ox n / 86400) [68] ++ (if Jc (Ox n)=[] then [] else 84::Jc (Ox n))
def Ev (n:Int):L8:=if n < -9007199254740992∨9007199254740992<n then [] else if n=0 then [80,48,77] else
 Lj n ++ [80] ++ Av (Ox n / 12) [89] ++ Av (Ox n % 12) [77]
def Gr (lo hi:Nat) (l:L8):Option Nat:=if lo≤l.length∧l.length≤hi∧l.all Ci=true then some (nvL l) else none
def Fa (most:Nat) (l:L8) (c:UInt8) (t:Nat):Option (Nat×L8) :=
 if l[ndg l]? = some c∧1≤ndg l∧ndg l≤most then some (nvL (l.take (ndg l))*t,l.drop (ndg l+1)) else none
def Dr (most:Nat):L8→List (UInt8×Nat)→Nat→Nat→Nat×L8×Nat
 | l,[],n,k=>(n,l,k)
 | l,(c,t)::r,n,k=>match Fa most l c t with
  | some (m,l')=>Dr most l' r (n+m) (k+1)
  | none=>Dr most l r n k
def Dk (n:Nat) (neg:Bool):Option Int:=if 9007199254740992<n then none else some (if neg then -(n:Int) else n)
def Bl (l:L8):L8×Bool:=if l.head?=some 45 then (l.tail,true) else (l,false)
def Jm (l:L8):Option Int :=
 if (Bl l).1.head? ≠ some 80 then none else
 if (Dr 12 (Bl l).1.tail [(68,86400)] 0 0).2.1=[] then (if (Dr 12 (Bl l).1.tail [(68,86400)] 0 0).2.2=0 then none else Dk (Dr 12 (Bl l).1.tail [(68,86400)] 0 0).1 (Bl l).2) else
 if (Dr 12 (Bl l).1.tail [(68,86400)] 0 0).2.1.head? ≠ some 84 then none else
 if (Dr 12 (Dr 12 (Bl l).1.tail [(68,86400)] 0 0).2.1.tail [(72,3600),(77,60),(83,1)] 0 0).2.1≠[]∨(Dr 12 (Dr 12 (Bl l).1.tail [(68,86400)] 0 0).2.1.tail [(72,3600),(77,60),(83,1)] 0 0).2.2=0 then none else
 Dk ((Dr 12 (Bl l).1.tail [(68,86400)] 0 0).1+(Dr 12 (Dr 12 (Bl l).1.tail [(68,86400)] 0 0).2.1.tail [(72,3600),(77,60),(83,1)] 0 0).1) (Bl l).2
def Ko (l:L8):Option Int :=
 if (Bl l).1.head? ≠ some 80 then none else
 if (Dr 15 (Bl l).1.tail [(89,12),(77,1)] 0 0).2.1≠[]∨(Dr 15 (Bl l).1.tail [(89,12),(77,1)] 0 0).2.2=0 then none else
 Dk (Dr 15 (Bl l).1.tail [(89,12),(77,1)] 0 0).1 (Bl l).2
def b1p:Option Int→DV
 | some n=>.tup [.v (.int .i64 n),.v (.bool true)]
 | none=>.tup [.v (.int .i64 0),.v (.bool false)]
theorem Ht {most:Nat} {l l':L8} {c:UInt8} {t n:Nat} (h:Fa most l c t=some (n,l')):n≤10 ^ most*t∧l'.length<l.length:=by
 unfold Fa at h
 split at h
 ·rename_i hc
  simp only[Option.some.injEq,Prod.mk.injEq] at h
  obtain ⟨rfl,rfl⟩:=h
  have h1:=Fz (k:=most) (Jj (Nat.le_refl (ndg l))) (by rw[List.length_take];omega)
  have h2:=(List.getElem?_eq_some_iff.1 hc.1).1
  exact ⟨Nat.mul_le_mul_right _ (by omega),by rw[List.length_drop];omega⟩
 ·cases h
open Go.RowKit
set_option linter.unusedVariables false
set_option linter.unusedSimpArgs false
set_option maxRecDepth 100000
theorem Ea (l:L8):(⟨l.toArray⟩:ByteArray)=tx l:=rfl
def a7l (n:Int):Prop := -9223372036854775808≤n∧n≤9223372036854775807
theorem Ef {a b z:Int} (h:z=a.tmod b) (h0:0≤a):z=a % b:=by rw[h,Int.tmod_eq_emod_of_nonneg h0]
theorem Cf {n:Int} {w:Nat} (h:a7l n) (hw:w≤10):(Bs n w).length≤21:=by
 rw[a7y]
 have:=Ib n h
 omega
theorem a8i {y m d:Int} (h:Dw y m d):(Mw y m d).length≤70:=by
 have hm:=Qw (y:=y) (m:=m) (by unfold Dw at h;omega)
 have hl:=Wm y m
 unfold Dw at h
 have h1:=Cf (n:=if y<0 then -y else y) (w:=4) (by unfold a7l;split<;>omega) (by decide)
 have h2:=Cf (n:=m) (w:=2) ⟨by omega,by omega⟩ (by decide)
 have h3:=Cf (n:=d) (w:=2) ⟨by omega,by omega⟩ (by decide)
 unfold Mw
 simp only[List.length_append,List.length_cons,List.length_nil]
 have:(if y<0 then [45] else ([]:L8)).length≤1:=by split<;>simp
 omega
theorem b0p (y m d:Int):(Fb y m d).length≤70:=by
 unfold Fb
 split
 ·rename_i h;exact a8i h
 ·simp
theorem a9b {o:Int} (z:Bool) (h : -64800≤o∧o≤64800):(Jb z o).length≤70:=by
 have hp : ∀ n:Int,0≤n→n≤64800→(Bs n 2).length≤21:=fun n h0 h1=>Cf ⟨by omega,by omega⟩ (by decide)
 have ho : ∀ o:Int,0≤o→o≤64800→(Ui o).length≤69:=fun o h0 h1=>by
  have h1:=hp (o / 3600) (by omega) (by omega)
  have h2:=hp (o % 3600 / 60) (by omega) (by omega)
  have h3:=hp (o % 60) (by omega) (by omega)
  unfold Ui
  split<;>simp only[List.length_append,List.length_cons,List.length_nil]<;>omega
 unfold Jb
 split
 ·simp
 ·split
  ·simp
  ·split
   ·have:=ho (-o) (by omega) (by omega)
    simp only[List.length_cons]
    omega
   ·have:=ho o (by omega) (by omega)
    simp only[List.length_cons]
    omega
theorem b1l {s o:Int} {z:Bool} (h:Dq s z o):(Gz s z o).length≤140:=by
 unfold Dq at h
 have hp : ∀ n:Int,0≤n→n≤86400→(Bs n 2).length≤21:=fun n h0 h1=>Cf ⟨by omega,by omega⟩ (by decide)
 have h1:=hp (s / 3600) (by omega) (by omega)
 have h2:=hp (s % 3600 / 60) (by omega) (by omega)
 have h3:=hp (s % 60) (by omega) (by omega)
 have h4:=a9b (o:=o) z ⟨by omega,by omega⟩
 unfold Gz
 simp only[List.length_append,List.length_cons,List.length_nil]
 omega
theorem a9w (s o:Int) (z:Bool):(Du s z o).length≤140:=by
 unfold Du
 split
 ·rename_i h;exact b1l h
 ·simp
theorem Cs {n:Int} (l:L8) (h:a7l n):(Av n l).length≤21+l.length:=by
 have:=Ib n h
 unfold Av
 split<;>simp
 omega
theorem Ck {n:Int} {w:Nat} (hn:a7l n) (hw:w≤10):HasC Tryz.prog 173 [.v (.int .i64 n),.v (.int .i64 ((w:Int)))] (fun y=>y=.v (.string (tx (Bs n w)))):=by
 refine hO [] Tryz.f173 (fun a w=>Tryz.call173 a w) Tryz.func173 rfl (⟨_,rfl⟩) ?_
 refine Aa rfl (iQ 1 ?_)
 let Z1:=zT [(0,Ia n),(1,Ia ((w:Int))),(4,.d (Sv (⟨#[]⟩)))] []
 refine iE 15 Z1 [] ?_
 refine Aa rfl (iQ 1 (eC 185 [Iv n] 7 (Wh hn) ?_))
 have hi:=Ib n hn
 refine iQ 1 ?_
 let Z2:=zT [(1,Ia ((w:Int))),(4,.d (Sv (⟨#[]⟩))),(5,.d (Sv (tx (Lib.itoa n))))] []
 refine iE 15 Z2 [] ?_
 refine Ae (Aj (Bm 15 (fun (vcx:Nat)=>match vcx with | k=>[(1,Ia ((w:Int))),(4,.d (Sv (⟨#[]⟩))),(5,.d (Sv (tx (List.replicate k 48 ++ Lib.itoa n))))]) (fun (vcx:Nat)=>match vcx with | k=>[]) (fun (vcx:Nat)=>match vcx with | k=>k≤w-(Lib.itoa n).length) (fun (vcx:Nat)=>match vcx with | k=>w-k) 0 (by omega) (by kernel_rfl) (by kernel_rfl) ?_))
 rintro k hinv
 simp only at hinv
 refine Ae (Aa rfl (iQ 1 (jL .len [9] [.string (tx (List.replicate k 48 ++ Lib.itoa n))] 9 ?_)))
 intro n9 hn9
 have h9:n9=k+(Lib.itoa n).length:=by rw[hn9];simp
 refine iQ 1 (jB .lss 3 (.int .i64 ((n9:Nat))) (.int .i64 ((w:Int))) 11 ?_)
 intro c11 hc11
 let Z3:=zT [(5,.d (Sv (tx (List.replicate k 48 ++ Lib.itoa n))))] []
 let Z4:=zT [(1,Ia ((w:Int))),(4,.d (Sv (⟨#[]⟩))),(11,Ba c11)] []
 refine iE 15 (zT Z4 Z3) [] ?_
 cases c11
 ·replace hc11:=bf hc11
  refine iF (Bf (Ca (Bn (Bg rfl (Af (Aa rfl (iQ 2 ?_)))))))
  let Z5:=zT [(4,.d (Sv (tx (List.replicate k 48 ++ Lib.itoa n))))] []
  refine iE 15 (zT [(1,Ia ((w:Int))),(11,Ba false)] (zT Z5 Z3)) [] ?_
  refine Ab (iR (Sv (tx (List.replicate k 48 ++ Lib.itoa n))) ?_)
  rw[Bs,show w-(Lib.itoa n).length=k by omega]
 ·replace hc11:=bt hc11
  refine iT (Ad (Af (Aj (Al rfl (iQ 1 (jB .add 9 (.string (⟨#[48]⟩)) (.string (tx (List.replicate k 48 ++ Lib.itoa n))) 13 ?_))))))
  refine And.intro (Bc (m:=1) (n:=((List.replicate k 48 ++ Lib.itoa n)).length) rfl rfl (by simp;omega)) ?_
  intro s13 hs13
  have hl13:(s13:ByteArray).size=1+((List.replicate k 48 ++ Lib.itoa n)).length:=At hs13 rfl rfl
  refine iQ 1 ?_
  let Z6:=zT [(1,Ia ((w:Int))),(4,.d (Sv (⟨#[]⟩))),(5,.d (Sv s13)),(11,Ba true)] []
  refine iE 15 Z6 [] ?_
  refine Am ?_
  obtain rfl:s13=tx (List.replicate (k+1) 48 ++ Lib.itoa n):=by rw[hs13];exact Ar [48] _
  refine Bh (k+1) (by omega) (by show w-(k+1)<w-k;omega) (by kernel_rfl) (by kernel_rfl)
theorem Kk {y m d:Int}:HasC Tryz.prog 145 [.agg [.v (.int .i64 y),.v (.int .i64 m),.v (.int .i64 d)]] (fun r=>r=.v (.string (tx (Fb y m d)))):=by
 refine hO [] Tryz.f145 (fun a w=>Tryz.call145 a w) Tryz.func145 rfl (⟨_,rfl⟩) ?_
 refine Aa rfl (iQ 2 (iE 28 [(1,.p 1 0),(2,.d (Sv (⟨#[]⟩)))] [(1,[Iv y,Iv m,Iv d])] ?_))
 refine Ae (Aa rfl (iQ 1 (jC 146 [.agg [Iv y,Iv m,Iv d]] 6 (Kq) ?_)))
 rintro _ ⟨b,rfl,hb⟩
 refine jU .not (.bool b) 7 ?_
 intro c7 hc7
 let Z1:=zT [(1,.p 1 0),(2,.d (Sv (⟨#[]⟩))),(7,Ba c7)] []
 refine iE 28 Z1 [(1,[Iv y,Iv m,Iv d])] ?_
 cases c7
 ·replace hc7:=bf hc7
  replace hb:Dw y m d:=hb.1 (by simpa using hc7)
  have hm:=Qw (y:=y) (m:=m) (by unfold Dw at hb;omega)
  have hl:=Wm y m
  have hy : -999999999≤y∧y≤999999999∧1≤d∧d≤Gg y m:=hb
  refine iF (Ad (Af (Aa rfl (iQ 4 ?_))))
  let Z2:=zT [(1,.p 1 0),(2,.d (Sv (⟨#[]⟩))),(3,.d (Sv (⟨#[]⟩))),(4,Ia y),(7,Ba false)] []
  refine iE 28 Z2 [(1,[Iv y,Iv m,Iv d])] ?_
  refine Ae (Aa rfl (iQ 1 (jB .lss 3 (.int .i64 y) (.int .i64 0) 11 ?_)))
  intro c11 hc11
  refine iE 28 (zT [(11,Ba c11)] Z2) [(1,[Iv y,Iv m,Iv d])] ?_
  cases c11
  ·replace hc11:=bf hc11
   refine iF (Ad (Af (Aa rfl (iQ 2 (eC 173 [Iv y,Iv 4] 16 (Ck (n:=y) (w:=4) ⟨by omega,by omega⟩ (by decide)) ?_)))))
   have p1:=Cf (n:=y) (w:=4) ⟨by omega,by omega⟩ (by decide)
   have p2:=Cf (n:=m) (w:=2) ⟨by omega,by omega⟩ (by decide)
   have p3:=Cf (n:=d) (w:=2) ⟨by omega,by omega⟩ (by decide)
   refine jB .add 9 (.string (⟨#[]⟩)) (.string (tx (Bs y 4))) 17 ?_
   refine And.intro (Bc (m:=0) (n:=((Bs y 4)).length) rfl rfl (by omega)) ?_
   intro s17 hs17
   have hl17:(s17:ByteArray).size=0+((Bs y 4)).length:=At hs17 rfl rfl
   refine jB .add 9 (.string s17) (.string (⟨#[45]⟩)) 18 ?_
   refine And.intro (Bc (m:=(s17:ByteArray).size) (n:=1) rfl rfl (by omega)) ?_
   intro s18 hs18
   have hl18:(s18:ByteArray).size=(s17:ByteArray).size+1:=At hs18 rfl rfl
   refine iQ 2 (eC 173 [Iv m,Iv 2] 21 (Ck (n:=m) (w:=2) ⟨by omega,by omega⟩ (by decide)) (jB .add 9 (.string s18) (.string (tx (Bs m 2))) 22 ?_))
   refine And.intro (Bc (m:=(s18:ByteArray).size) (n:=((Bs m 2)).length) rfl rfl (by omega)) ?_
   intro s22 hs22
   have hl22:(s22:ByteArray).size=(s18:ByteArray).size+((Bs m 2)).length:=At hs22 rfl rfl
   refine jB .add 9 (.string s22) (.string (⟨#[45]⟩)) 23 ?_
   refine And.intro (Bc (m:=(s22:ByteArray).size) (n:=1) rfl rfl (by omega)) ?_
   intro s23 hs23
   have hl23:(s23:ByteArray).size=(s22:ByteArray).size+1:=At hs23 rfl rfl
   refine iQ 2 (eC 173 [Iv d,Iv 2] 26 (Ck (n:=d) (w:=2) ⟨by omega,by omega⟩ (by decide)) (jB .add 9 (.string s23) (.string (tx (Bs d 2))) 27 ?_))
   refine And.intro (Bc (m:=(s23:ByteArray).size) (n:=((Bs d 2)).length) rfl rfl (by omega)) ?_
   intro s27 hs27
   have hl27:(s27:ByteArray).size=(s23:ByteArray).size+((Bs d 2)).length:=At hs27 rfl rfl
   refine iQ 1 ?_
   let Z3:=zT [(1,.p 1 0),(2,.d (Sv s27)),(4,Ia y),(7,Ba false),(11,Ba false)] []
   refine iE 28 Z3 [(1,[Iv y,Iv m,Iv d])] ?_
   refine Ab (iR (Sv s27) ?_)
   rw[hs27,hs23,hs22,hs18,hs17,Fb,if_pos hb,Mw,if_neg hc11,if_neg hc11];simp only[Ea,Ar,a1o.symm,List.append_assoc]
  ·replace hc11:=bt hc11
   refine iT (Al rfl (iQ 1 (jU .neg (.int .i64 y) 13 ?_)))
   intro z13 hz13
   try replace hz13:=hz13.i64 (by omega)
   refine iQ 2 ?_
   let Z4:=zT [(1,.p 1 0),(2,.d (Sv (⟨#[]⟩))),(3,.d (Sv (⟨#[45]⟩))),(4,Ia z13),(7,Ba false),(11,Ba true)] []
   refine iE 28 Z4 [(1,[Iv y,Iv m,Iv d])] ?_
   refine Af (Aa rfl (iQ 2 (eC 173 [Iv z13,Iv 4] 16 (Ck (n:=z13) (w:=4) ⟨by omega,by omega⟩ (by decide)) ?_)))
   have p1:=Cf (n:=z13) (w:=4) ⟨by omega,by omega⟩ (by decide)
   have p2:=Cf (n:=m) (w:=2) ⟨by omega,by omega⟩ (by decide)
   have p3:=Cf (n:=d) (w:=2) ⟨by omega,by omega⟩ (by decide)
   refine jB .add 9 (.string (⟨#[45]⟩)) (.string (tx (Bs z13 4))) 17 ?_
   refine And.intro (Bc (m:=1) (n:=((Bs z13 4)).length) rfl rfl (by omega)) ?_
   intro s17 hs17
   have hl17:(s17:ByteArray).size=1+((Bs z13 4)).length:=At hs17 rfl rfl
   refine jB .add 9 (.string s17) (.string (⟨#[45]⟩)) 18 ?_
   refine And.intro (Bc (m:=(s17:ByteArray).size) (n:=1) rfl rfl (by omega)) ?_
   intro s18 hs18
   have hl18:(s18:ByteArray).size=(s17:ByteArray).size+1:=At hs18 rfl rfl
   refine iQ 2 (eC 173 [Iv m,Iv 2] 21 (Ck (n:=m) (w:=2) ⟨by omega,by omega⟩ (by decide)) (jB .add 9 (.string s18) (.string (tx (Bs m 2))) 22 ?_))
   refine And.intro (Bc (m:=(s18:ByteArray).size) (n:=((Bs m 2)).length) rfl rfl (by omega)) ?_
   intro s22 hs22
   have hl22:(s22:ByteArray).size=(s18:ByteArray).size+((Bs m 2)).length:=At hs22 rfl rfl
   refine jB .add 9 (.string s22) (.string (⟨#[45]⟩)) 23 ?_
   refine And.intro (Bc (m:=(s22:ByteArray).size) (n:=1) rfl rfl (by omega)) ?_
   intro s23 hs23
   have hl23:(s23:ByteArray).size=(s22:ByteArray).size+1:=At hs23 rfl rfl
   refine iQ 2 (eC 173 [Iv d,Iv 2] 26 (Ck (n:=d) (w:=2) ⟨by omega,by omega⟩ (by decide)) (jB .add 9 (.string s23) (.string (tx (Bs d 2))) 27 ?_))
   refine And.intro (Bc (m:=(s23:ByteArray).size) (n:=((Bs d 2)).length) rfl rfl (by omega)) ?_
   intro s27 hs27
   have hl27:(s27:ByteArray).size=(s23:ByteArray).size+((Bs d 2)).length:=At hs27 rfl rfl
   refine iQ 1 ?_
   let Z5:=zT [(1,.p 1 0),(2,.d (Sv s27)),(4,Ia z13),(7,Ba false),(11,Ba true)] []
   refine iE 28 Z5 [(1,[Iv y,Iv m,Iv d])] ?_
   refine Ab (iR (Sv s27) ?_)
   rw[hs27,hs23,hs22,hs18,hs17,Fb,if_pos hb,Mw,if_pos hc11,if_pos hc11,hz13];simp only[Ea,Ar,List.append_assoc,Int.zero_sub]
 ·replace hc7:=bt hc7
  refine iT (Aa rfl (iQ 1 ?_))
  let Z6:=zT [(1,.p 1 0),(2,.d (Sv (⟨#[]⟩))),(7,Ba true)] []
  refine iE 28 Z6 [(1,[Iv y,Iv m,Iv d])] ?_
  refine Ab (Ag (iR (Sv (⟨#[]⟩)) ?_))
  rw[Fb,if_neg (fun h=>by have:=hb.2 h;rw[hc7] at this;cases this)];rfl
theorem Tp {s o:Int} {z:Bool}:HasC Tryz.prog 152 [.agg [.v (.int .i64 s),.v (.bool z),.v (.int .i64 o)]] (fun r => ∃ b,r=.v (.bool b)∧(b=true↔Dq s z o)):=by
 refine hO [] Tryz.f152 (fun a w=>Tryz.call152 a w) Tryz.func152 rfl (⟨_,decide (Dq s z o),rfl,by simp⟩) ?_
 refine Aa rfl (iQ 2 (iE 30 [(1,.p 1 0),(2,Ba false)] [(1,[Iv s,Bv z,Iv o])] ?_))
 refine Aa rfl (iQ 2 (jB .geq 3 (.int .i64 s) (.int .i64 0) 5 ?_))
 intro c5 hc5
 refine iQ 1 ?_
 cases c5
 ·replace hc5:=bf hc5
  refine iQ 24 (iE 30 [(2,Ba false)] [] ?_)
  refine Ab (iR (Bv false) ?_)
  exact ⟨_,rfl,by unfold Dq;grind⟩
 ·replace hc5:=bt hc5
  refine iQ 2 (jB .lss 3 (.int .i64 s) (.int .i64 86400) 9 ?_)
  intro c9 hc9
  refine iQ 2 ?_
  cases c9
  ·replace hc9:=bf hc9
   refine iQ 19 (iE 30 [(2,Ba false)] [] ?_)
   refine Ab (iR (Bv false) ?_)
   exact ⟨_,rfl,by unfold Dq;grind⟩
  ·replace hc9:=bt hc9
   refine iQ 2 (jB .geq 3 (.int .i64 o) (.int .i64 (-64800)) 14 ?_)
   intro c14 hc14
   refine iQ 2 ?_
   cases c14
   ·replace hc14:=bf hc14
    refine iQ 14 (iE 30 [(2,Ba false)] [] ?_)
    refine Ab (iR (Bv false) ?_)
    exact ⟨_,rfl,by unfold Dq;grind⟩
   ·replace hc14:=bt hc14
    refine iQ 2 (jB .leq 3 (.int .i64 o) (.int .i64 64800) 19 ?_)
    intro c19 hc19
    refine iQ 2 ?_
    cases c19
    ·replace hc19:=bf hc19
     refine iQ 9 (iE 30 [(2,Ba false)] [] ?_)
     refine Ab (iR (Bv false) ?_)
     exact ⟨_,rfl,by unfold Dq;grind⟩
    ·replace hc19:=bt hc19
     refine iQ 3 ?_
     cases z
     ·refine iQ 2 (jB .eql 3 (.int .i64 o) (.int .i64 0) 27 ?_)
      intro c27 hc27
      refine iQ 3 (iE 30 [(2,Ba c27)] [] ?_)
      refine Ab (iR (Bv c27) ?_)
      exact ⟨_,rfl,by unfold Dq;grind⟩
     ·refine iQ 6 (iE 30 [(2,Ba true)] [] ?_)
      refine Ab (iR (Bv true) ?_)
      exact ⟨_,rfl,by unfold Dq;grind⟩
theorem b7w {s o:Int} {z:Bool} (h0:0≤s) (h1:s<86400):HasC Tryz.prog 178 [.agg [.v (.int .i64 s),.v (.bool z),.v (.int .i64 o)]] (fun r=>r=.v (.int .i64 (s / 3600))):=by
 refine hO [] Tryz.f178 (fun a w=>Tryz.call178 a w) Tryz.func178 rfl (⟨_,rfl⟩) ?_
 refine Aa rfl (iQ 2 (iE 6 [(1,.p 1 0),(2,Ia 0)] [(1,[Iv s,Bv z,Iv o])] ?_))
 refine Aa rfl (iQ 2 (jB .quo 3 (.int .i64 s) (.int .i64 3600) 5 ?_))
 refine And.intro (by omega) ?_
 intro z5 hz5
 refine iQ 1 (iE 6 [(2,Ia z5)] [] ?_)
 refine Ab (iR (Iv z5) ?_)
 rw[Cu hz5 (by decide) (by omega) (by omega)]
theorem a8v {s o:Int} {z:Bool} (h0:0≤s) (h1:s<86400):HasC Tryz.prog 179 [.agg [.v (.int .i64 s),.v (.bool z),.v (.int .i64 o)]] (fun r=>r=.v (.int .i64 (s % 3600 / 60))):=by
 refine hO [] Tryz.f179 (fun a w=>Tryz.call179 a w) Tryz.func179 rfl (⟨_,rfl⟩) ?_
 refine Aa rfl (iQ 2 (iE 7 [(1,.p 1 0),(2,Ia 0)] [(1,[Iv s,Bv z,Iv o])] ?_))
 refine Aa rfl (iQ 2 (jB .quo 3 (.int .i64 s) (.int .i64 60) 5 ?_))
 refine And.intro (by omega) ?_
 intro z5 hz5
 have e5:z5=s / 60:=Cu hz5 (by decide) (by omega) (by omega)
 refine jB .rem 3 (.int .i64 z5) (.int .i64 60) 6 ?_
 refine And.intro (by omega) ?_
 intro z6 hz6
 refine iQ 1 (iE 7 [(2,Ia z6)] [] ?_)
 refine Ab (iR (Iv z6) ?_)
 rw[Ef hz6 (by omega),show z5 % 60=s % 3600 / 60 by omega]
theorem b1b {s o:Int} {z:Bool} (h0:0≤s) (h1:s<86400):HasC Tryz.prog 180 [.agg [.v (.int .i64 s),.v (.bool z),.v (.int .i64 o)]] (fun r=>r=.v (.int .i64 (s % 60))):=by
 refine hO [] Tryz.f180 (fun a w=>Tryz.call180 a w) Tryz.func180 rfl (⟨_,rfl⟩) ?_
 refine Aa rfl (iQ 2 (iE 6 [(1,.p 1 0),(2,Ia 0)] [(1,[Iv s,Bv z,Iv o])] ?_))
 refine Aa rfl (iQ 2 (jB .rem 3 (.int .i64 s) (.int .i64 60) 5 ?_))
 refine And.intro (by omega) ?_
 intro z5 hz5
 refine iQ 1 (iE 6 [(2,Ia z5)] [] ?_)
 refine Ab (iR (Iv z5) ?_)
 rw[Ef hz5 (by omega)]
theorem Gn {s o:Int} {z:Bool}:HasC Tryz.prog 151 [.agg [.v (.int .i64 s),.v (.bool z),.v (.int .i64 o)]] (fun r=>r=.v (.string (tx (Du s z o)))):=by
 refine hO [] Tryz.f151 (fun a w=>Tryz.call151 a w) Tryz.func151 rfl (⟨_,rfl⟩) ?_
 refine Aa rfl (iQ 2 (iE 60 [(1,.p 1 0),(2,.d (Sv (⟨#[]⟩)))] [(1,[Iv s,Bv z,Iv o])] ?_))
 refine Ae (Aa rfl (iQ 1 (jC 152 [.agg [Iv s,Bv z,Iv o]] 7 (Tp) ?_)))
 rintro _ ⟨b,rfl,hb⟩
 refine jU .not (.bool b) 8 ?_
 intro c8 hc8
 let Z1:=zT [(1,.p 1 0),(2,.d (Sv (⟨#[]⟩))),(8,Ba c8)] []
 refine iE 60 Z1 [(1,[Iv s,Bv z,Iv o])] ?_
 cases c8
 ·replace hc8:=bf hc8
  replace hb:Dq s z o:=hb.1 (by simpa using hc8)
  have hb':=hb
  unfold Dq at hb'
  refine iF (Ad (Af (Aa rfl (iQ 1 (eC 178 [.agg [Iv s,Bv z,Iv o]] 10 (b7w (by omega) (by omega)) (eC 173 [Iv (s / 3600),Iv 2] 11 (Ck (n:=s / 3600) (w:=2) ⟨by omega,by omega⟩ (by decide)) ?_))))))
  have p1:=Cf (n:=s / 3600) (w:=2) ⟨by omega,by omega⟩ (by decide)
  have p2:=Cf (n:=s % 3600 / 60) (w:=2) ⟨by omega,by omega⟩ (by decide)
  have p3:=Cf (n:=s % 60) (w:=2) ⟨by omega,by omega⟩ (by decide)
  refine jB .add 9 (.string (tx (Bs (s / 3600) 2))) (.string (⟨#[58]⟩)) 12 ?_
  refine And.intro (Bc (m:=((Bs (s / 3600) 2)).length) (n:=1) rfl rfl (by omega)) ?_
  intro s12 hs12
  have hl12:(s12:ByteArray).size=((Bs (s / 3600) 2)).length+1:=At hs12 rfl rfl
  refine iQ 1 (eC 179 [.agg [Iv s,Bv z,Iv o]] 14 (a8v (by omega) (by omega)) (eC 173 [Iv (s % 3600 / 60),Iv 2] 15 (Ck (n:=s % 3600 / 60) (w:=2) ⟨by omega,by omega⟩ (by decide)) (jB .add 9 (.string s12) (.string (tx (Bs (s % 3600 / 60) 2))) 16 ?_)))
  refine And.intro (Bc (m:=(s12:ByteArray).size) (n:=((Bs (s % 3600 / 60) 2)).length) rfl rfl (by omega)) ?_
  intro s16 hs16
  have hl16:(s16:ByteArray).size=(s12:ByteArray).size+((Bs (s % 3600 / 60) 2)).length:=At hs16 rfl rfl
  refine jB .add 9 (.string s16) (.string (⟨#[58]⟩)) 17 ?_
  refine And.intro (Bc (m:=(s16:ByteArray).size) (n:=1) rfl rfl (by omega)) ?_
  intro s17 hs17
  have hl17:(s17:ByteArray).size=(s16:ByteArray).size+1:=At hs17 rfl rfl
  refine iQ 1 (eC 180 [.agg [Iv s,Bv z,Iv o]] 19 (b1b (by omega) (by omega)) (eC 173 [Iv (s % 60),Iv 2] 20 (Ck (n:=s % 60) (w:=2) ⟨by omega,by omega⟩ (by decide)) (jB .add 9 (.string s17) (.string (tx (Bs (s % 60) 2))) 21 ?_)))
  refine And.intro (Bc (m:=(s17:ByteArray).size) (n:=((Bs (s % 60) 2)).length) rfl rfl (by omega)) ?_
  intro s21 hs21
  have hl21:(s21:ByteArray).size=(s17:ByteArray).size+((Bs (s % 60) 2)).length:=At hs21 rfl rfl
  refine iQ 1 ?_
  let Z2:=zT [(1,.p 1 0),(2,.d (Sv (⟨#[]⟩))),(3,.d (Sv s21)),(8,Ba false)] []
  refine iE 60 Z2 [(1,[Iv s,Bv z,Iv o])] ?_
  refine Ae (Aa rfl (iQ 2 (jU .not (.bool z) 24 ?_)))
  intro c24 hc24
  refine iE 60 (zT [(24,Ba c24)] Z2) [(1,[Iv s,Bv z,Iv o])] ?_
  cases c24
  ·replace hc24:=bf hc24
   refine iF (Ad (Af (Ae (Aa rfl (iQ 2 (jB .eql 3 (.int .i64 o) (.int .i64 0) 28 ?_))))))
   intro c28 hc28
   refine iE 60 (zT [(24,Ba false),(28,Ba c28)] Z2) [(1,[Iv s,Bv z,Iv o])] ?_
   cases c28
   ·replace hc28:=bf hc28
    refine iF (Ad (Af (Aa rfl (iQ 4 ?_))))
    let Z3:=zT [(4,.d (Sv (⟨#[43]⟩))),(5,Ia o),(24,Ba false),(28,Ba false)] []
    refine iE 60 (zT Z3 Z2) [(1,[Iv s,Bv z,Iv o])] ?_
    refine Ae (Aa rfl (iQ 1 (jB .lss 3 (.int .i64 o) (.int .i64 0) 34 ?_)))
    intro c34 hc34
    refine iE 60 (zT [(34,Ba c34)] (zT Z2 Z3)) [(1,[Iv s,Bv z,Iv o])] ?_
    cases c34
    ·replace hc34:=bf hc34
     have hzl:Jb z o=43::Ui o:=by rw[Jb,if_neg hc24,if_neg hc28,if_neg hc34]
     refine iF (Ad (Af (Aa rfl (iQ 3 (jB .quo 3 (.int .i64 o) (.int .i64 3600) 40 ?_)))))
     refine And.intro (by omega) ?_
     intro z40 hz40
     have e40:z40=o / 3600:=Cu hz40 (by decide) (by omega) (by omega)
     refine eC 173 [Iv z40,Iv 2] 41 (Ck (n:=z40) (w:=2) ⟨by omega,by omega⟩ (by decide)) ?_
     have p40:=Cf (n:=z40) (w:=2) ⟨by omega,by omega⟩ (by decide)
     refine jB .add 9 (.string (⟨#[43]⟩)) (.string (tx (Bs z40 2))) 42 ?_
     refine And.intro (Bc (m:=1) (n:=((Bs z40 2)).length) rfl rfl (by omega)) ?_
     intro s42 hs42
     have hl42:(s42:ByteArray).size=1+((Bs z40 2)).length:=At hs42 rfl rfl
     refine jB .add 9 (.string s42) (.string (⟨#[58]⟩)) 43 ?_
     refine And.intro (Bc (m:=(s42:ByteArray).size) (n:=1) rfl rfl (by omega)) ?_
     intro s43 hs43
     have hl43:(s43:ByteArray).size=(s42:ByteArray).size+1:=At hs43 rfl rfl
     refine iQ 1 (jB .quo 3 (.int .i64 o) (.int .i64 60) 45 ?_)
     refine And.intro (by omega) ?_
     intro z45 hz45
     have e45:z45=o / 60:=Cu hz45 (by decide) (by omega) (by omega)
     refine jB .rem 3 (.int .i64 z45) (.int .i64 60) 46 ?_
     refine And.intro (by omega) ?_
     intro z46 hz46
     have e46:z46=o % 3600 / 60:=by rw[Ef hz46 (by omega),e45];omega
     refine eC 173 [Iv z46,Iv 2] 47 (Ck (n:=z46) (w:=2) ⟨by omega,by omega⟩ (by decide)) ?_
     have p46:=Cf (n:=z46) (w:=2) ⟨by omega,by omega⟩ (by decide)
     refine jB .add 9 (.string s43) (.string (tx (Bs z46 2))) 48 ?_
     refine And.intro (Bc (m:=(s43:ByteArray).size) (n:=((Bs z46 2)).length) rfl rfl (by omega)) ?_
     intro s48 hs48
     have hl48:(s48:ByteArray).size=(s43:ByteArray).size+((Bs z46 2)).length:=At hs48 rfl rfl
     refine jB .add 9 (.string s21) (.string s48) 49 ?_
     refine And.intro (Bc (m:=(s21:ByteArray).size) (n:=(s48:ByteArray).size) rfl rfl (by omega)) ?_
     intro s49 hs49
     have hl49:(s49:ByteArray).size=(s21:ByteArray).size+(s48:ByteArray).size:=At hs49 rfl rfl
     refine iQ 1 ?_
     let Z4:=zT [(1,.p 1 0),(2,.d (Sv (⟨#[]⟩))),(3,.d (Sv s49)),(5,Ia o),(8,Ba false),(24,Ba false),(28,Ba false),(34,Ba false)] []
     refine iE 60 Z4 [(1,[Iv s,Bv z,Iv o])] ?_
     refine Ae (Aa rfl (iQ 1 (jB .rem 3 (.int .i64 o) (.int .i64 60) 51 ?_)))
     refine And.intro (by omega) ?_
     intro z51 hz51
     have e51:z51=o % 60:=Ef hz51 (by omega)
     refine jB .neq 3 (.int .i64 z51) (.int .i64 0) 52 ?_
     intro c52 hc52
     refine iE 60 (zT [(52,Ba c52)] Z4) [(1,[Iv s,Bv z,Iv o])] ?_
     cases c52
     ·replace hc52:=bf hc52
      refine iF (Ad (Af (Aa rfl (iQ 2 ?_))))
      let Z5:=zT [(1,.p 1 0),(2,.d (Sv s49)),(3,.d (Sv s49)),(5,Ia o),(8,Ba false),(24,Ba false),(28,Ba false),(34,Ba false),(52,Ba false)] []
      refine iE 60 Z5 [(1,[Iv s,Bv z,Iv o])] ?_
      refine Ab (iR (Sv s49) ?_)
      simp only[hs49,hs48,hs43,hs42,hs21,hs17,hs16,hs12,Ea,Ar,e40,e46];rw[Du,if_pos hb,Gz,hzl];rw[Ui,if_pos (by omega)];all_goals simp only[List.append_assoc,List.cons_append,List.nil_append,List.append_nil]
     ·replace hc52:=bt hc52
      refine iT (Al rfl (iQ 2 (jB .rem 3 (.int .i64 o) (.int .i64 60) 55 ?_)))
      refine And.intro (by omega) ?_
      intro z55 hz55
      have e55:z55=o % 60:=Ef hz55 (by omega)
      refine eC 173 [Iv z55,Iv 2] 56 (Ck (n:=z55) (w:=2) ⟨by omega,by omega⟩ (by decide)) ?_
      have p55:=Cf (n:=z55) (w:=2) ⟨by omega,by omega⟩ (by decide)
      refine jB .add 9 (.string (⟨#[58]⟩)) (.string (tx (Bs z55 2))) 57 ?_
      refine And.intro (Bc (m:=1) (n:=((Bs z55 2)).length) rfl rfl (by omega)) ?_
      intro s57 hs57
      have hl57:(s57:ByteArray).size=1+((Bs z55 2)).length:=At hs57 rfl rfl
      refine jB .add 9 (.string s49) (.string s57) 58 ?_
      refine And.intro (Bc (m:=(s49:ByteArray).size) (n:=(s57:ByteArray).size) rfl rfl (by omega)) ?_
      intro s58 hs58
      have hl58:(s58:ByteArray).size=(s49:ByteArray).size+(s57:ByteArray).size:=At hs58 rfl rfl
      refine iQ 1 ?_
      let Z6:=zT [(1,.p 1 0),(2,.d (Sv (⟨#[]⟩))),(3,.d (Sv s58)),(5,Ia o),(8,Ba false),(24,Ba false),(28,Ba false),(34,Ba false),(52,Ba true)] []
      refine iE 60 Z6 [(1,[Iv s,Bv z,Iv o])] ?_
      refine Af (Aa rfl (iQ 2 ?_))
      let Z7:=zT [(1,.p 1 0),(2,.d (Sv s58)),(3,.d (Sv s58)),(5,Ia o),(8,Ba false),(24,Ba false),(28,Ba false),(34,Ba false),(52,Ba true)] []
      refine iE 60 Z7 [(1,[Iv s,Bv z,Iv o])] ?_
      refine Ab (iR (Sv s58) ?_)
      simp only[hs58,hs57,hs49,hs48,hs43,hs42,hs21,hs17,hs16,hs12,Ea,Ar,e40,e46,e55];rw[Du,if_pos hb,Gz,hzl];rw[Ui,if_neg (by omega)];all_goals simp only[List.append_assoc,List.cons_append,List.nil_append,List.append_nil]
    ·replace hc34:=bt hc34
     refine iT (Al rfl (iQ 1 (jU .neg (.int .i64 o) 36 ?_)))
     intro z36 hz36
     try replace hz36:=hz36.i64 (by omega)
     have e36:z36 = -o:=by omega
     have hzl:Jb z o=45::Ui z36:=by rw[Jb,if_neg hc24,if_neg hc28,if_pos hc34,e36]
     refine iQ 2 ?_
     let Z8:=zT [(4,.d (Sv (⟨#[45]⟩))),(5,Ia z36),(24,Ba false),(28,Ba false),(34,Ba true)] []
     refine iE 60 (zT Z8 Z2) [(1,[Iv s,Bv z,Iv o])] ?_
     refine Af (Aa rfl (iQ 3 (jB .quo 3 (.int .i64 z36) (.int .i64 3600) 40 ?_)))
     refine And.intro (by omega) ?_
     intro z40 hz40
     have e40:z40=z36 / 3600:=Cu hz40 (by decide) (by omega) (by omega)
     refine eC 173 [Iv z40,Iv 2] 41 (Ck (n:=z40) (w:=2) ⟨by omega,by omega⟩ (by decide)) ?_
     have p40:=Cf (n:=z40) (w:=2) ⟨by omega,by omega⟩ (by decide)
     refine jB .add 9 (.string (⟨#[45]⟩)) (.string (tx (Bs z40 2))) 42 ?_
     refine And.intro (Bc (m:=1) (n:=((Bs z40 2)).length) rfl rfl (by omega)) ?_
     intro s42 hs42
     have hl42:(s42:ByteArray).size=1+((Bs z40 2)).length:=At hs42 rfl rfl
     refine jB .add 9 (.string s42) (.string (⟨#[58]⟩)) 43 ?_
     refine And.intro (Bc (m:=(s42:ByteArray).size) (n:=1) rfl rfl (by omega)) ?_
     intro s43 hs43
     have hl43:(s43:ByteArray).size=(s42:ByteArray).size+1:=At hs43 rfl rfl
     refine iQ 1 (jB .quo 3 (.int .i64 z36) (.int .i64 60) 45 ?_)
     refine And.intro (by omega) ?_
     intro z45 hz45
     have e45:z45=z36 / 60:=Cu hz45 (by decide) (by omega) (by omega)
     refine jB .rem 3 (.int .i64 z45) (.int .i64 60) 46 ?_
     refine And.intro (by omega) ?_
     intro z46 hz46
     have e46:z46=z36 % 3600 / 60:=by rw[Ef hz46 (by omega),e45];omega
     refine eC 173 [Iv z46,Iv 2] 47 (Ck (n:=z46) (w:=2) ⟨by omega,by omega⟩ (by decide)) ?_
     have p46:=Cf (n:=z46) (w:=2) ⟨by omega,by omega⟩ (by decide)
     refine jB .add 9 (.string s43) (.string (tx (Bs z46 2))) 48 ?_
     refine And.intro (Bc (m:=(s43:ByteArray).size) (n:=((Bs z46 2)).length) rfl rfl (by omega)) ?_
     intro s48 hs48
     have hl48:(s48:ByteArray).size=(s43:ByteArray).size+((Bs z46 2)).length:=At hs48 rfl rfl
     refine jB .add 9 (.string s21) (.string s48) 49 ?_
     refine And.intro (Bc (m:=(s21:ByteArray).size) (n:=(s48:ByteArray).size) rfl rfl (by omega)) ?_
     intro s49 hs49
     have hl49:(s49:ByteArray).size=(s21:ByteArray).size+(s48:ByteArray).size:=At hs49 rfl rfl
     refine iQ 1 ?_
     let Z9:=zT [(1,.p 1 0),(2,.d (Sv (⟨#[]⟩))),(3,.d (Sv s49)),(5,Ia z36),(8,Ba false),(24,Ba false),(28,Ba false),(34,Ba true)] []
     refine iE 60 Z9 [(1,[Iv s,Bv z,Iv o])] ?_
     refine Ae (Aa rfl (iQ 1 (jB .rem 3 (.int .i64 z36) (.int .i64 60) 51 ?_)))
     refine And.intro (by omega) ?_
     intro z51 hz51
     have e51:z51=z36 % 60:=Ef hz51 (by omega)
     refine jB .neq 3 (.int .i64 z51) (.int .i64 0) 52 ?_
     intro c52 hc52
     refine iE 60 (zT [(52,Ba c52)] Z9) [(1,[Iv s,Bv z,Iv o])] ?_
     cases c52
     ·replace hc52:=bf hc52
      refine iF (Ad (Af (Aa rfl (iQ 2 ?_))))
      let Z10:=zT [(1,.p 1 0),(2,.d (Sv s49)),(3,.d (Sv s49)),(5,Ia z36),(8,Ba false),(24,Ba false),(28,Ba false),(34,Ba true),(52,Ba false)] []
      refine iE 60 Z10 [(1,[Iv s,Bv z,Iv o])] ?_
      refine Ab (iR (Sv s49) ?_)
      simp only[hs49,hs48,hs43,hs42,hs21,hs17,hs16,hs12,Ea,Ar,e40,e46];rw[Du,if_pos hb,Gz,hzl];rw[Ui,if_pos (by omega)];all_goals simp only[List.append_assoc,List.cons_append,List.nil_append,List.append_nil]
     ·replace hc52:=bt hc52
      refine iT (Al rfl (iQ 2 (jB .rem 3 (.int .i64 z36) (.int .i64 60) 55 ?_)))
      refine And.intro (by omega) ?_
      intro z55 hz55
      have e55:z55=z36 % 60:=Ef hz55 (by omega)
      refine eC 173 [Iv z55,Iv 2] 56 (Ck (n:=z55) (w:=2) ⟨by omega,by omega⟩ (by decide)) ?_
      have p55:=Cf (n:=z55) (w:=2) ⟨by omega,by omega⟩ (by decide)
      refine jB .add 9 (.string (⟨#[58]⟩)) (.string (tx (Bs z55 2))) 57 ?_
      refine And.intro (Bc (m:=1) (n:=((Bs z55 2)).length) rfl rfl (by omega)) ?_
      intro s57 hs57
      have hl57:(s57:ByteArray).size=1+((Bs z55 2)).length:=At hs57 rfl rfl
      refine jB .add 9 (.string s49) (.string s57) 58 ?_
      refine And.intro (Bc (m:=(s49:ByteArray).size) (n:=(s57:ByteArray).size) rfl rfl (by omega)) ?_
      intro s58 hs58
      have hl58:(s58:ByteArray).size=(s49:ByteArray).size+(s57:ByteArray).size:=At hs58 rfl rfl
      refine iQ 1 ?_
      let Z11:=zT [(1,.p 1 0),(2,.d (Sv (⟨#[]⟩))),(3,.d (Sv s58)),(5,Ia z36),(8,Ba false),(24,Ba false),(28,Ba false),(34,Ba true),(52,Ba true)] []
      refine iE 60 Z11 [(1,[Iv s,Bv z,Iv o])] ?_
      refine Af (Aa rfl (iQ 2 ?_))
      let Z12:=zT [(1,.p 1 0),(2,.d (Sv s58)),(3,.d (Sv s58)),(5,Ia z36),(8,Ba false),(24,Ba false),(28,Ba false),(34,Ba true),(52,Ba true)] []
      refine iE 60 Z12 [(1,[Iv s,Bv z,Iv o])] ?_
      refine Ab (iR (Sv s58) ?_)
      simp only[hs58,hs57,hs49,hs48,hs43,hs42,hs21,hs17,hs16,hs12,Ea,Ar,e40,e46,e55];rw[Du,if_pos hb,Gz,hzl];rw[Ui,if_neg (by omega)];all_goals simp only[List.append_assoc,List.cons_append,List.nil_append,List.append_nil]
   ·replace hc28:=bt hc28
    refine iT (Aa rfl (iQ 1 (jB .add 9 (.string s21) (.string (⟨#[90]⟩)) 30 ?_)))
    refine And.intro (Bc (m:=(s21:ByteArray).size) (n:=1) rfl rfl (by omega)) ?_
    intro s30 hs30
    have hl30:(s30:ByteArray).size=(s21:ByteArray).size+1:=At hs30 rfl rfl
    refine iQ 1 ?_
    let Z13:=zT [(1,.p 1 0),(2,.d (Sv s30)),(3,.d (Sv s21)),(8,Ba false),(24,Ba false),(28,Ba true)] []
    refine iE 60 Z13 [(1,[Iv s,Bv z,Iv o])] ?_
    refine Ab (Ag (iR (Sv s30) ?_))
    simp only[hs30,hs21,hs17,hs16,hs12,Ea,Ar];rw[Du,if_pos hb,Gz,Jb,if_neg hc24,if_pos hc28]
  ·replace hc24:=bt hc24
   refine iT (Aa rfl (iQ 2 ?_))
   let Z14:=zT [(1,.p 1 0),(2,.d (Sv s21)),(3,.d (Sv s21)),(8,Ba false),(24,Ba true)] []
   refine iE 60 Z14 [(1,[Iv s,Bv z,Iv o])] ?_
   refine Ab (Ag (iR (Sv s21) ?_))
   simp only[hs21,hs17,hs16,hs12,Ea,Ar];rw[Du,if_pos hb,Gz,Jb,if_pos hc24,List.append_nil]
 ·replace hc8:=bt hc8
  refine iT (Aa rfl (iQ 1 ?_))
  let Z15:=zT [(1,.p 1 0),(2,.d (Sv (⟨#[]⟩))),(8,Ba true)] []
  refine iE 60 Z15 [(1,[Iv s,Bv z,Iv o])] ?_
  refine Ab (Ag (iR (Sv (⟨#[]⟩)) ?_))
  rw[Du,if_neg (fun h=>by have:=hb.2 h;rw[hc8] at this;cases this)];rfl
theorem b1n {y m d s o:Int} {z:Bool}:HasC Tryz.prog 154 [.agg [.v (.int .i64 y),.v (.int .i64 m),.v (.int .i64 d),.v (.int .i64 s),.v (.bool z),.v (.int .i64 o)]] (fun r => ∃ b,r=.v (.bool b)∧(b=true↔Dw y m d∧Dq s z o)):=by
 refine hO [] Tryz.f154 (fun a w=>Tryz.call154 a w) Tryz.func154 rfl (⟨_,decide (Dw y m d∧Dq s z o),rfl,by simp⟩) ?_
 refine Aa rfl (iQ 2 (iE 11 [(1,.p 1 0),(2,Ba false)] [(1,[Iv y,Iv m,Iv d,Iv s,Bv z,Iv o])] ?_))
 refine Aa rfl (iQ 2 (jC 146 [.agg [Iv y,Iv m,Iv d]] 5 (Kq) ?_))
 rintro _ ⟨b5,rfl,hb5⟩
 refine iQ 1 ?_
 cases b5
 ·replace hb5:=bf hb5
  refine iQ 5 (iE 11 [(2,Ba false)] [] ?_)
  refine Ab (iR (Bv false) ?_)
  exact ⟨_,rfl,by grind⟩
 ·replace hb5:=bt hb5
  refine iQ 2 (jC 152 [.agg [Iv s,Bv z,Iv o]] 9 (Tp) ?_)
  rintro _ ⟨b9,rfl,hb9⟩
  refine iQ 2 (iE 11 [(2,Ba b9)] [] ?_)
  refine Ab (iR (Bv b9) ?_)
  exact ⟨_,rfl,by grind⟩
theorem Yq {y m d s o:Int} {z:Bool}:HasC Tryz.prog 160 [.agg [.v (.int .i64 y),.v (.int .i64 m),.v (.int .i64 d),.v (.int .i64 s),.v (.bool z),.v (.int .i64 o)]] (fun r=>r=.v (.string (tx (a2e y m d s z o)))):=by
 refine hO [] Tryz.f160 (fun a w=>Tryz.call160 a w) Tryz.func160 rfl (⟨_,rfl⟩) ?_
 refine Aa rfl (iQ 2 (iE 14 [(1,.p 1 0),(2,.d (Sv (⟨#[]⟩)))] [(1,[Iv y,Iv m,Iv d,Iv s,Bv z,Iv o])] ?_))
 refine Ae (Aa rfl (iQ 1 (jC 154 [.agg [Iv y,Iv m,Iv d,Iv s,Bv z,Iv o]] 4 (b1n) ?_)))
 rintro _ ⟨b,rfl,hb⟩
 refine jU .not (.bool b) 5 ?_
 intro c5 hc5
 let Z1:=zT [(1,.p 1 0),(2,.d (Sv (⟨#[]⟩))),(5,Ba c5)] []
 refine iE 14 Z1 [(1,[Iv y,Iv m,Iv d,Iv s,Bv z,Iv o])] ?_
 cases c5
 ·replace hc5:=bf hc5
  replace hb:Dw y m d∧Dq s z o:=hb.1 (by simpa using hc5)
  refine iF (Ad (Af (Aa rfl (iQ 2 (eC 145 [.agg [Iv y,Iv m,Iv d]] 8 (Kk) ?_)))))
  have p1:=b0p y m d
  have p2:=a9w s o z
  refine jB .add 9 (.string (tx (Fb y m d))) (.string (⟨#[84]⟩)) 9 ?_
  refine And.intro (Bc (m:=((Fb y m d)).length) (n:=1) rfl rfl (by omega)) ?_
  intro s9 hs9
  have hl9:(s9:ByteArray).size=((Fb y m d)).length+1:=At hs9 rfl rfl
  refine iQ 2 (eC 151 [.agg [Iv s,Bv z,Iv o]] 12 (Gn) (jB .add 9 (.string s9) (.string (tx (Du s z o))) 13 ?_))
  refine And.intro (Bc (m:=(s9:ByteArray).size) (n:=((Du s z o)).length) rfl rfl (by omega)) ?_
  intro s13 hs13
  have hl13:(s13:ByteArray).size=(s9:ByteArray).size+((Du s z o)).length:=At hs13 rfl rfl
  refine iQ 1 ?_
  let Z2:=zT [(1,.p 1 0),(2,.d (Sv s13)),(5,Ba false)] []
  refine iE 14 Z2 [(1,[Iv y,Iv m,Iv d,Iv s,Bv z,Iv o])] ?_
  refine Ab (iR (Sv s13) ?_)
  simp only[hs13,hs9,Ea,Ar];rw[a2e,if_pos hb,Fb,if_pos hb.1,Du,if_pos hb.2]
 ·replace hc5:=bt hc5
  refine iT (Aa rfl (iQ 1 ?_))
  let Z3:=zT [(1,.p 1 0),(2,.d (Sv (⟨#[]⟩))),(5,Ba true)] []
  refine iE 14 Z3 [(1,[Iv y,Iv m,Iv d,Iv s,Bv z,Iv o])] ?_
  refine Ab (Ag (iR (Sv (⟨#[]⟩)) ?_))
  rw[a2e,if_neg (fun h=>by have:=hb.2 h;rw[hc5] at this;cases this)];rfl
theorem Ek {n:Int} {l:L8} (hn:a7l n) (hl:l.length≤100):HasC Tryz.prog 186 [.v (.int .i64 n),.v (.string (tx l))] (fun r=>r=.v (.string (tx (Av n l)))):=by
 refine hO [] Tryz.f186 (fun a w=>Tryz.call186 a w) Tryz.func186 rfl (⟨_,rfl⟩) ?_
 refine Aa rfl (iQ 1 ?_)
 let Z1:=zT [(0,Ia n),(1,.d (Sv (tx l))),(4,.d (Sv (⟨#[]⟩)))] []
 refine iE 11 Z1 [] ?_
 refine Ae (Aa rfl (iQ 1 (jB .eql 3 (.int .i64 n) (.int .i64 0) 6 ?_)))
 intro c6 hc6
 refine iE 11 (zT [(6,Ba c6)] Z1) [] ?_
 cases c6
 ·replace hc6:=bf hc6
  refine iF (Ad (Af (Aa rfl (iQ 1 (eC 185 [Iv n] 8 (Wh hn) ?_)))))
  have p:=Ib n hn
  refine iQ 1 (jB .add 9 (.string (tx (Lib.itoa n))) (.string (tx l)) 10 ?_)
  refine And.intro (Bc (m:=((Lib.itoa n)).length) (n:=(l).length) rfl rfl (by omega)) ?_
  intro s10 hs10
  have hl10:(s10:ByteArray).size=((Lib.itoa n)).length+(l).length:=At hs10 rfl rfl
  refine iQ 1 (iE 11 [(0,Ia n),(4,.d (Sv s10)),(6,Ba false)] [] ?_)
  refine Ab (iR (Sv s10) ?_)
  simp only[hs10,Ar];rw[Av,if_neg hc6]
 ·replace hc6:=bt hc6
  refine iT (Aa rfl (iQ 1 (iE 11 (zT [(6,Ba true)] Z1) [] ?_)))
  refine Ab (Ag (iR (Sv (⟨#[]⟩)) ?_))
  rw[Av,if_pos hc6];rfl
theorem Gx {n:Int} {l:L8}:Av n l=[]↔n=0:=by
 unfold Av
 split
 ·rename_i h;simp[h]
 ·rename_i h
  have:=a95 (n:=n)
  simp only[List.append_eq_nil_iff,h,iff_false,not_and]
  intro e
  rw[e] at this
  simp at this
theorem El {l:L8} {s:ByteArray} (h:s=tx l):s=⟨#[]⟩↔l=[]:=by
 rw[h,← a1o,Pi]
theorem Kz {k:Int} (h:0≤k):Jc k=[]↔k % 86400=0:=by
 unfold Jc
 simp only[List.append_eq_nil_iff,Gx]
 omega
theorem a6w {n:Int}:HasC Tryz.prog 161 [.v (.int .i64 n)] (fun r=>r=.v (.string (tx (Gp n)))):=by
 refine hO [] Tryz.f161 (fun a w=>Tryz.call161 a w) Tryz.func161 rfl (⟨_,rfl⟩) ?_
 refine Aa rfl (iQ 1 (iE 52 [(0,Ia n),(2,.d (Sv (⟨#[]⟩)))] [] ?_))
 refine Ae (Aa rfl (iQ 1 (jB .lss 3 (.int .i64 n) (.int .i64 (-9007199254740992)) 8 ?_)))
 intro c8 hc8
 refine iQ 1 ?_
 cases c8
 ·replace hc8:=bf hc8
  refine iQ 1 (jB .gtr 3 (.int .i64 n) (.int .i64 9007199254740992) 11 ?_)
  intro c11 hc11
  refine iQ 1 ?_
  let Z1:=zT [(0,Ia n),(2,.d (Sv (⟨#[]⟩))),(12,Ba c11)] []
  refine iE 52 Z1 [] ?_
  cases c11
  ·replace hc11:=bf hc11
   refine iF (Ad (Af (Aa rfl (iQ 1 ?_))))
   let Z2:=zT [(0,Ia n),(2,.d (Sv (⟨#[]⟩))),(3,.d (Sv (⟨#[]⟩))),(12,Ba false)] []
   refine iE 52 Z2 [] ?_
   refine Ae (Aa rfl (iQ 1 (jB .lss 3 (.int .i64 n) (.int .i64 0) 14 ?_)))
   intro c14 hc14
   refine iE 52 (zT [(14,Ba c14)] Z2) [] ?_
   cases c14
   ·replace hc14:=bf hc14
    have hab:Ox n=n:=by unfold Ox;rw[if_neg hc14]
    have hsg:Lj n=[]:=by unfold Lj;rw[if_neg hc14]
    refine iF (Ad (Af (Aa rfl (iQ 1 (jB .quo 3 (.int .i64 n) (.int .i64 86400) 18 ?_)))))
    refine And.intro (by omega) ?_
    intro z18 hz18
    have e18:z18=n / 86400:=Cu hz18 (by decide) (by omega) (by omega)
    refine eC 186 [Iv z18,Sv (⟨#[68]⟩)] 19 (Ek (l:=[68]) ⟨by omega,by omega⟩ (by decide)) ?_
    have p18:=Cs [68] (n:=z18) ⟨by omega,by omega⟩
    simp only[List.length_cons,List.length_nil] at p18
    refine iQ 1 (jB .rem 3 (.int .i64 n) (.int .i64 86400) 21 ?_)
    refine And.intro (by omega) ?_
    intro z21 hz21
    have e21:z21=n % 86400:=Ef hz21 (by omega)
    refine iQ 2 ?_
    let Z3:=zT [(4,.d (Sv (tx (Av z18 [68])))),(5,Ia z21),(14,Ba false)] []
    refine iE 52 (zT Z3 Z2) [] ?_
    refine Aa rfl (iQ 1 (jB .quo 3 (.int .i64 z21) (.int .i64 3600) 23 ?_))
    refine And.intro (by omega) ?_
    intro z23 hz23
    have e23:z23=n % 86400 / 3600:=by rw[Cu hz23 (by decide) (by omega) (by omega),e21]
    refine eC 186 [Iv z23,Sv (⟨#[72]⟩)] 24 (Ek (l:=[72]) ⟨by omega,by omega⟩ (by decide)) ?_
    have p23:=Cs [72] (n:=z23) ⟨by omega,by omega⟩
    simp only[List.length_cons,List.length_nil] at p23
    refine iQ 1 (jB .quo 3 (.int .i64 z21) (.int .i64 60) 26 ?_)
    refine And.intro (by omega) ?_
    intro z26 hz26
    have e26:z26=z21 / 60:=Cu hz26 (by decide) (by omega) (by omega)
    refine jB .rem 3 (.int .i64 z26) (.int .i64 60) 27 ?_
    refine And.intro (by omega) ?_
    intro z27 hz27
    have e27:z27=n % 3600 / 60:=by rw[Ef hz27 (by omega),e26,e21];omega
    refine eC 186 [Iv z27,Sv (⟨#[77]⟩)] 28 (Ek (l:=[77]) ⟨by omega,by omega⟩ (by decide)) ?_
    have p27:=Cs [77] (n:=z27) ⟨by omega,by omega⟩
    simp only[List.length_cons,List.length_nil] at p27
    refine jB .add 9 (.string (tx (Av z23 [72]))) (.string (tx (Av z27 [77]))) 29 ?_
    refine And.intro (Bc (m:=((Av z23 [72])).length) (n:=((Av z27 [77])).length) rfl rfl (by omega)) ?_
    intro s29 hs29
    have hl29:(s29:ByteArray).size=((Av z23 [72])).length+((Av z27 [77])).length:=At hs29 rfl rfl
    refine iQ 1 (jB .rem 3 (.int .i64 z21) (.int .i64 60) 31 ?_)
    refine And.intro (by omega) ?_
    intro z31 hz31
    have e31:z31=n % 60:=by rw[Ef hz31 (by omega),e21];omega
    refine eC 186 [Iv z31,Sv (⟨#[83]⟩)] 32 (Ek (l:=[83]) ⟨by omega,by omega⟩ (by decide)) ?_
    have p31:=Cs [83] (n:=z31) ⟨by omega,by omega⟩
    simp only[List.length_cons,List.length_nil] at p31
    refine jB .add 9 (.string s29) (.string (tx (Av z31 [83]))) 33 ?_
    refine And.intro (Bc (m:=(s29:ByteArray).size) (n:=((Av z31 [83])).length) rfl rfl (by omega)) ?_
    intro s33 hs33
    have hl33:(s33:ByteArray).size=(s29:ByteArray).size+((Av z31 [83])).length:=At hs33 rfl rfl
    have e33:s33=tx (Jc n):=by rw[hs33,hs29,Ar,Ar,e23,e27,e31];rfl
    refine iQ 1 ?_
    let Z4:=zT [(4,.d (Sv (tx (Av z18 [68])))),(6,.d (Sv s33)),(14,Ba false)] []
    refine iE 52 (zT Z4 Z2) [] ?_
    refine Ae (Aj (Aa rfl (iQ 1 (jB .eql 9 (.string (tx (Av z18 [68]))) (.string (⟨#[]⟩)) 36 ?_))))
    intro c36 hc36
    refine iQ 1 ?_
    cases c36
    ·replace hc36:=bf hc36
     refine iQ 4 (iE 52 (zT [(34,Ba false)] (zT Z2 Z4)) [] ?_)
     have k0 : ¬ n / 86400=0:=fun h=>hc36 ((El rfl).2 (Gx.2 (by rw[e18];exact h)))
     refine iF (Aa rfl (iQ 1 (jB .neq 9 (.string s33) (.string (⟨#[]⟩)) 43 ?_)))
     intro c43 hc43
     refine iQ 1 (iE 52 (zT [(34,Ba false),(41,Ba c43)] (zT Z2 Z4)) [] ?_)
     cases c43
     ·replace hc43:=bf hc43
      have k1:Jc n=[]:=(El e33).1 (by simpa using hc43)
      refine iF (Ad (Am (Af (Aa rfl (iQ 1 (jB .add 9 (.string (⟨#[]⟩)) (.string (⟨#[80]⟩)) 47 ?_))))))
      refine And.intro (Bc (m:=0) (n:=1) rfl rfl (by omega)) ?_
      intro s47 hs47
      have hl47:(s47:ByteArray).size=0+1:=At hs47 rfl rfl
      refine iQ 1 (jB .add 9 (.string s47) (.string (tx (Av z18 [68]))) 49 ?_)
      refine And.intro (Bc (m:=(s47:ByteArray).size) (n:=((Av z18 [68])).length) rfl rfl (by omega)) ?_
      intro s49 hs49
      have hl49:(s49:ByteArray).size=(s47:ByteArray).size+((Av z18 [68])).length:=At hs49 rfl rfl
      refine iQ 1 (jB .add 9 (.string s49) (.string s33) 51 ?_)
      refine And.intro (Bc (m:=(s49:ByteArray).size) (n:=(s33:ByteArray).size) rfl rfl (by omega)) ?_
      intro s51 hs51
      have hl51:(s51:ByteArray).size=(s49:ByteArray).size+(s33:ByteArray).size:=At hs51 rfl rfl
      refine iQ 1 ?_
      let Z5:=zT [(0,Ia n),(2,.d (Sv s51)),(12,Ba false),(34,Ba false),(41,Ba false)] []
      refine iE 52 (zT Z5 Z4) [] ?_
      refine Ab (iR (Sv s51) ?_)
      simp only[hs51,hs49,hs47,e33,Ea,Ar,e18];rw[Gp,if_neg (by omega),if_neg (by omega),hab,if_pos k1,hsg,k1];all_goals simp only[List.append_assoc,List.cons_append,List.nil_append,List.append_nil]
     ·replace hc43:=bt hc43
      have k1 : ¬ Jc n=[]:=fun h=>hc43 ((El e33).2 h)
      refine iT (Al rfl (iQ 1 (jB .add 9 (.string (⟨#[84]⟩)) (.string s33) 45 ?_)))
      refine And.intro (Bc (m:=1) (n:=(s33:ByteArray).size) rfl rfl (by omega)) ?_
      intro s45 hs45
      have hl45:(s45:ByteArray).size=1+(s33:ByteArray).size:=At hs45 rfl rfl
      refine iQ 1 ?_
      let Z6:=zT [(4,.d (Sv (tx (Av z18 [68])))),(6,.d (Sv s45)),(14,Ba false),(34,Ba false),(41,Ba true)] []
      refine iE 52 (zT Z6 Z2) [] ?_
      refine Am (Af (Aa rfl (iQ 1 (jB .add 9 (.string (⟨#[]⟩)) (.string (⟨#[80]⟩)) 47 ?_))))
      refine And.intro (Bc (m:=0) (n:=1) rfl rfl (by omega)) ?_
      intro s47 hs47
      have hl47:(s47:ByteArray).size=0+1:=At hs47 rfl rfl
      refine iQ 1 (jB .add 9 (.string s47) (.string (tx (Av z18 [68]))) 49 ?_)
      refine And.intro (Bc (m:=(s47:ByteArray).size) (n:=((Av z18 [68])).length) rfl rfl (by omega)) ?_
      intro s49 hs49
      have hl49:(s49:ByteArray).size=(s47:ByteArray).size+((Av z18 [68])).length:=At hs49 rfl rfl
      refine iQ 1 (jB .add 9 (.string s49) (.string s45) 51 ?_)
      refine And.intro (Bc (m:=(s49:ByteArray).size) (n:=(s45:ByteArray).size) rfl rfl (by omega)) ?_
      intro s51 hs51
      have hl51:(s51:ByteArray).size=(s49:ByteArray).size+(s45:ByteArray).size:=At hs51 rfl rfl
      refine iQ 1 (iE 52 (zT [(0,Ia n),(2,.d (Sv s51)),(12,Ba false)] Z6) [] ?_)
      refine Ab (iR (Sv s51) ?_)
      simp only[hs51,hs49,hs47,hs45,e33,Ea,Ar,e18];rw[Gp,if_neg (by omega),if_neg (by omega),hab,if_neg k1,hsg];all_goals simp only[List.append_assoc,List.cons_append,List.nil_append,List.append_nil]
    ·replace hc36:=bt hc36
     refine iQ 1 (jB .eql 9 (.string s33) (.string (⟨#[]⟩)) 39 ?_)
     have k0:n / 86400=0:=by rw[← e18];exact Gx.1 ((El rfl).1 hc36)
     intro c39 hc39
     refine iQ 2 (iE 52 (zT [(34,Ba c39)] (zT Z2 Z4)) [] ?_)
     cases c39
     ·replace hc39:=bf hc39
      have k1 : ¬ Jc n=[]:=fun h=>hc39 ((El e33).2 h)
      have k2 : ¬ n=0:=fun h=>k1 ((Kz (by omega)).2 (by omega))
      refine iF (Aa rfl (iQ 1 (jB .neq 9 (.string s33) (.string (⟨#[]⟩)) 43 ?_)))
      refine Bj (hc39) ?_
      refine iQ 1 (iE 52 (zT [(34,Ba false),(41,Ba true)] (zT Z2 Z4)) [] ?_)
      refine iT (Al rfl (iQ 1 (jB .add 9 (.string (⟨#[84]⟩)) (.string s33) 45 ?_)))
      refine And.intro (Bc (m:=1) (n:=(s33:ByteArray).size) rfl rfl (by omega)) ?_
      intro s45 hs45
      have hl45:(s45:ByteArray).size=1+(s33:ByteArray).size:=At hs45 rfl rfl
      refine iQ 1 ?_
      let Z7:=zT [(4,.d (Sv (tx (Av z18 [68])))),(6,.d (Sv s45)),(14,Ba false),(34,Ba false),(41,Ba true)] []
      refine iE 52 (zT Z7 Z2) [] ?_
      refine Am (Af (Aa rfl (iQ 1 (jB .add 9 (.string (⟨#[]⟩)) (.string (⟨#[80]⟩)) 47 ?_))))
      refine And.intro (Bc (m:=0) (n:=1) rfl rfl (by omega)) ?_
      intro s47 hs47
      have hl47:(s47:ByteArray).size=0+1:=At hs47 rfl rfl
      refine iQ 1 (jB .add 9 (.string s47) (.string (tx (Av z18 [68]))) 49 ?_)
      refine And.intro (Bc (m:=(s47:ByteArray).size) (n:=((Av z18 [68])).length) rfl rfl (by omega)) ?_
      intro s49 hs49
      have hl49:(s49:ByteArray).size=(s47:ByteArray).size+((Av z18 [68])).length:=At hs49 rfl rfl
      refine iQ 1 (jB .add 9 (.string s49) (.string s45) 51 ?_)
      refine And.intro (Bc (m:=(s49:ByteArray).size) (n:=(s45:ByteArray).size) rfl rfl (by omega)) ?_
      intro s51 hs51
      have hl51:(s51:ByteArray).size=(s49:ByteArray).size+(s45:ByteArray).size:=At hs51 rfl rfl
      refine iQ 1 (iE 52 (zT [(0,Ia n),(2,.d (Sv s51)),(12,Ba false)] Z7) [] ?_)
      refine Ab (iR (Sv s51) ?_)
      simp only[hs51,hs49,hs47,hs45,e33,Ea,Ar,e18];rw[Gp,if_neg (by omega),if_neg k2,hab,if_neg k1,hsg];all_goals simp only[List.append_assoc,List.cons_append,List.nil_append,List.append_nil]
     ·replace hc39:=bt hc39
      have k1:n % 86400=0:=(Kz (by omega)).1 ((El e33).1 hc39)
      refine iT (Aa rfl (iQ 1 ?_))
      let Z8:=zT [(0,Ia n),(2,.d (Sv (⟨#[80,84,48,83]⟩))),(3,.d (Sv (⟨#[]⟩))),(12,Ba false),(34,Ba true)] []
      refine iE 52 (zT Z8 Z4) [] ?_
      refine Ab (Ai (Ag (iR (Sv (⟨#[80,84,48,83]⟩)) ?_)))
      rw[Gp,if_neg (by omega),if_pos (by omega)];rfl
   ·replace hc14:=bt hc14
    refine iT (Al rfl (iQ 1 (jU .neg (.int .i64 n) 16 ?_)))
    intro z16 hz16
    try replace hz16:=hz16.i64 (by omega)
    have e16:z16 = -n:=by omega
    have hab:Ox n=z16:=by unfold Ox;rw[if_pos hc14,e16]
    have hsg:Lj n=[45]:=by unfold Lj;rw[if_pos hc14]
    refine iQ 2 ?_
    let Z9:=zT [(0,Ia z16),(2,.d (Sv (⟨#[]⟩))),(3,.d (Sv (⟨#[45]⟩))),(12,Ba false),(14,Ba true)] []
    refine iE 52 Z9 [] ?_
    refine Af (Aa rfl (iQ 1 (jB .quo 3 (.int .i64 z16) (.int .i64 86400) 18 ?_)))
    refine And.intro (by omega) ?_
    intro z18 hz18
    have e18:z18=z16 / 86400:=Cu hz18 (by decide) (by omega) (by omega)
    refine eC 186 [Iv z18,Sv (⟨#[68]⟩)] 19 (Ek (l:=[68]) ⟨by omega,by omega⟩ (by decide)) ?_
    have p18:=Cs [68] (n:=z18) ⟨by omega,by omega⟩
    simp only[List.length_cons,List.length_nil] at p18
    refine iQ 1 (jB .rem 3 (.int .i64 z16) (.int .i64 86400) 21 ?_)
    refine And.intro (by omega) ?_
    intro z21 hz21
    have e21:z21=z16 % 86400:=Ef hz21 (by omega)
    refine iQ 2 ?_
    let Z10:=zT [(4,.d (Sv (tx (Av z18 [68])))),(5,Ia z21)] []
    refine iE 52 (zT Z10 Z9) [] ?_
    refine Aa rfl (iQ 1 (jB .quo 3 (.int .i64 z21) (.int .i64 3600) 23 ?_))
    refine And.intro (by omega) ?_
    intro z23 hz23
    have e23:z23=z16 % 86400 / 3600:=by rw[Cu hz23 (by decide) (by omega) (by omega),e21]
    refine eC 186 [Iv z23,Sv (⟨#[72]⟩)] 24 (Ek (l:=[72]) ⟨by omega,by omega⟩ (by decide)) ?_
    have p23:=Cs [72] (n:=z23) ⟨by omega,by omega⟩
    simp only[List.length_cons,List.length_nil] at p23
    refine iQ 1 (jB .quo 3 (.int .i64 z21) (.int .i64 60) 26 ?_)
    refine And.intro (by omega) ?_
    intro z26 hz26
    have e26:z26=z21 / 60:=Cu hz26 (by decide) (by omega) (by omega)
    refine jB .rem 3 (.int .i64 z26) (.int .i64 60) 27 ?_
    refine And.intro (by omega) ?_
    intro z27 hz27
    have e27:z27=z16 % 3600 / 60:=by rw[Ef hz27 (by omega),e26,e21];omega
    refine eC 186 [Iv z27,Sv (⟨#[77]⟩)] 28 (Ek (l:=[77]) ⟨by omega,by omega⟩ (by decide)) ?_
    have p27:=Cs [77] (n:=z27) ⟨by omega,by omega⟩
    simp only[List.length_cons,List.length_nil] at p27
    refine jB .add 9 (.string (tx (Av z23 [72]))) (.string (tx (Av z27 [77]))) 29 ?_
    refine And.intro (Bc (m:=((Av z23 [72])).length) (n:=((Av z27 [77])).length) rfl rfl (by omega)) ?_
    intro s29 hs29
    have hl29:(s29:ByteArray).size=((Av z23 [72])).length+((Av z27 [77])).length:=At hs29 rfl rfl
    refine iQ 1 (jB .rem 3 (.int .i64 z21) (.int .i64 60) 31 ?_)
    refine And.intro (by omega) ?_
    intro z31 hz31
    have e31:z31=z16 % 60:=by rw[Ef hz31 (by omega),e21];omega
    refine eC 186 [Iv z31,Sv (⟨#[83]⟩)] 32 (Ek (l:=[83]) ⟨by omega,by omega⟩ (by decide)) ?_
    have p31:=Cs [83] (n:=z31) ⟨by omega,by omega⟩
    simp only[List.length_cons,List.length_nil] at p31
    refine jB .add 9 (.string s29) (.string (tx (Av z31 [83]))) 33 ?_
    refine And.intro (Bc (m:=(s29:ByteArray).size) (n:=((Av z31 [83])).length) rfl rfl (by omega)) ?_
    intro s33 hs33
    have hl33:(s33:ByteArray).size=(s29:ByteArray).size+((Av z31 [83])).length:=At hs33 rfl rfl
    have e33:s33=tx (Jc z16):=by rw[hs33,hs29,Ar,Ar,e23,e27,e31];rfl
    refine iQ 1 ?_
    let Z11:=zT [(4,.d (Sv (tx (Av z18 [68])))),(6,.d (Sv s33))] []
    refine iE 52 (zT Z11 Z9) [] ?_
    refine Ae (Aj (Aa rfl (iQ 1 (jB .eql 9 (.string (tx (Av z18 [68]))) (.string (⟨#[]⟩)) 36 ?_))))
    intro c36 hc36
    refine iQ 1 ?_
    cases c36
    ·replace hc36:=bf hc36
     refine iQ 4 (iE 52 (zT [(34,Ba false)] (zT Z9 Z11)) [] ?_)
     have k0 : ¬ z16 / 86400=0:=fun h=>hc36 ((El rfl).2 (Gx.2 (by rw[e18];exact h)))
     refine iF (Aa rfl (iQ 1 (jB .neq 9 (.string s33) (.string (⟨#[]⟩)) 43 ?_)))
     intro c43 hc43
     refine iQ 1 (iE 52 (zT [(34,Ba false),(41,Ba c43)] (zT Z9 Z11)) [] ?_)
     cases c43
     ·replace hc43:=bf hc43
      have k1:Jc z16=[]:=(El e33).1 (by simpa using hc43)
      refine iF (Ad (Am (Af (Aa rfl (iQ 1 (jB .add 9 (.string (⟨#[45]⟩)) (.string (⟨#[80]⟩)) 47 ?_))))))
      refine And.intro (Bc (m:=1) (n:=1) rfl rfl (by omega)) ?_
      intro s47 hs47
      have hl47:(s47:ByteArray).size=1+1:=At hs47 rfl rfl
      refine iQ 1 (jB .add 9 (.string s47) (.string (tx (Av z18 [68]))) 49 ?_)
      refine And.intro (Bc (m:=(s47:ByteArray).size) (n:=((Av z18 [68])).length) rfl rfl (by omega)) ?_
      intro s49 hs49
      have hl49:(s49:ByteArray).size=(s47:ByteArray).size+((Av z18 [68])).length:=At hs49 rfl rfl
      refine iQ 1 (jB .add 9 (.string s49) (.string s33) 51 ?_)
      refine And.intro (Bc (m:=(s49:ByteArray).size) (n:=(s33:ByteArray).size) rfl rfl (by omega)) ?_
      intro s51 hs51
      have hl51:(s51:ByteArray).size=(s49:ByteArray).size+(s33:ByteArray).size:=At hs51 rfl rfl
      refine iQ 1 ?_
      let Z12:=zT [(0,Ia z16),(2,.d (Sv s51)),(12,Ba false),(14,Ba true),(34,Ba false),(41,Ba false)] []
      refine iE 52 (zT Z12 Z11) [] ?_
      refine Ab (iR (Sv s51) ?_)
      simp only[hs51,hs49,hs47,e33,Ea,Ar,e18];rw[Gp,if_neg (by omega),if_neg (by omega),hab,if_pos k1,hsg,k1];all_goals simp only[List.append_assoc,List.cons_append,List.nil_append,List.append_nil]
     ·replace hc43:=bt hc43
      have k1 : ¬ Jc z16=[]:=fun h=>hc43 ((El e33).2 h)
      refine iT (Al rfl (iQ 1 (jB .add 9 (.string (⟨#[84]⟩)) (.string s33) 45 ?_)))
      refine And.intro (Bc (m:=1) (n:=(s33:ByteArray).size) rfl rfl (by omega)) ?_
      intro s45 hs45
      have hl45:(s45:ByteArray).size=1+(s33:ByteArray).size:=At hs45 rfl rfl
      refine iQ 1 ?_
      let Z13:=zT [(4,.d (Sv (tx (Av z18 [68])))),(6,.d (Sv s45)),(34,Ba false),(41,Ba true)] []
      refine iE 52 (zT Z13 Z9) [] ?_
      refine Am (Af (Aa rfl (iQ 1 (jB .add 9 (.string (⟨#[45]⟩)) (.string (⟨#[80]⟩)) 47 ?_))))
      refine And.intro (Bc (m:=1) (n:=1) rfl rfl (by omega)) ?_
      intro s47 hs47
      have hl47:(s47:ByteArray).size=1+1:=At hs47 rfl rfl
      refine iQ 1 (jB .add 9 (.string s47) (.string (tx (Av z18 [68]))) 49 ?_)
      refine And.intro (Bc (m:=(s47:ByteArray).size) (n:=((Av z18 [68])).length) rfl rfl (by omega)) ?_
      intro s49 hs49
      have hl49:(s49:ByteArray).size=(s47:ByteArray).size+((Av z18 [68])).length:=At hs49 rfl rfl
      refine iQ 1 (jB .add 9 (.string s49) (.string s45) 51 ?_)
      refine And.intro (Bc (m:=(s49:ByteArray).size) (n:=(s45:ByteArray).size) rfl rfl (by omega)) ?_
      intro s51 hs51
      have hl51:(s51:ByteArray).size=(s49:ByteArray).size+(s45:ByteArray).size:=At hs51 rfl rfl
      refine iQ 1 ?_
      let Z14:=zT [(0,Ia z16),(2,.d (Sv s51)),(12,Ba false),(14,Ba true)] []
      refine iE 52 (zT Z14 Z13) [] ?_
      refine Ab (iR (Sv s51) ?_)
      simp only[hs51,hs49,hs47,hs45,e33,Ea,Ar,e18];rw[Gp,if_neg (by omega),if_neg (by omega),hab,if_neg k1,hsg];all_goals simp only[List.append_assoc,List.cons_append,List.nil_append,List.append_nil]
    ·replace hc36:=bt hc36
     refine iQ 1 (jB .eql 9 (.string s33) (.string (⟨#[]⟩)) 39 ?_)
     have k0:z16 / 86400=0:=by rw[← e18];exact Gx.1 ((El rfl).1 hc36)
     intro c39 hc39
     refine iQ 2 (iE 52 (zT [(34,Ba c39)] (zT Z9 Z11)) [] ?_)
     cases c39
     ·replace hc39:=bf hc39
      have k1 : ¬ Jc z16=[]:=fun h=>hc39 ((El e33).2 h)
      have k2 : ¬ n=0:=fun h=>k1 ((Kz (by omega)).2 (by omega))
      refine iF (Aa rfl (iQ 1 (jB .neq 9 (.string s33) (.string (⟨#[]⟩)) 43 ?_)))
      refine Bj (hc39) ?_
      refine iQ 1 (iE 52 (zT [(34,Ba false),(41,Ba true)] (zT Z9 Z11)) [] ?_)
      refine iT (Al rfl (iQ 1 (jB .add 9 (.string (⟨#[84]⟩)) (.string s33) 45 ?_)))
      refine And.intro (Bc (m:=1) (n:=(s33:ByteArray).size) rfl rfl (by omega)) ?_
      intro s45 hs45
      have hl45:(s45:ByteArray).size=1+(s33:ByteArray).size:=At hs45 rfl rfl
      refine iQ 1 ?_
      let Z15:=zT [(4,.d (Sv (tx (Av z18 [68])))),(6,.d (Sv s45)),(34,Ba false),(41,Ba true)] []
      refine iE 52 (zT Z15 Z9) [] ?_
      refine Am (Af (Aa rfl (iQ 1 (jB .add 9 (.string (⟨#[45]⟩)) (.string (⟨#[80]⟩)) 47 ?_))))
      refine And.intro (Bc (m:=1) (n:=1) rfl rfl (by omega)) ?_
      intro s47 hs47
      have hl47:(s47:ByteArray).size=1+1:=At hs47 rfl rfl
      refine iQ 1 (jB .add 9 (.string s47) (.string (tx (Av z18 [68]))) 49 ?_)
      refine And.intro (Bc (m:=(s47:ByteArray).size) (n:=((Av z18 [68])).length) rfl rfl (by omega)) ?_
      intro s49 hs49
      have hl49:(s49:ByteArray).size=(s47:ByteArray).size+((Av z18 [68])).length:=At hs49 rfl rfl
      refine iQ 1 (jB .add 9 (.string s49) (.string s45) 51 ?_)
      refine And.intro (Bc (m:=(s49:ByteArray).size) (n:=(s45:ByteArray).size) rfl rfl (by omega)) ?_
      intro s51 hs51
      have hl51:(s51:ByteArray).size=(s49:ByteArray).size+(s45:ByteArray).size:=At hs51 rfl rfl
      refine iQ 1 ?_
      let Z16:=zT [(0,Ia z16),(2,.d (Sv s51)),(12,Ba false),(14,Ba true)] []
      refine iE 52 (zT Z16 Z15) [] ?_
      refine Ab (iR (Sv s51) ?_)
      simp only[hs51,hs49,hs47,hs45,e33,Ea,Ar,e18];rw[Gp,if_neg (by omega),if_neg k2,hab,if_neg k1,hsg];all_goals simp only[List.append_assoc,List.cons_append,List.nil_append,List.append_nil]
     ·replace hc39:=bt hc39
      have k1:z16 % 86400=0:=(Kz (by omega)).1 ((El e33).1 hc39)
      refine iT (Aa rfl (iQ 1 ?_))
      let Z17:=zT [(0,Ia z16),(2,.d (Sv (⟨#[80,84,48,83]⟩))),(3,.d (Sv (⟨#[45]⟩))),(12,Ba false),(14,Ba true),(34,Ba true)] []
      refine iE 52 (zT Z17 Z11) [] ?_
      refine Ab (Ai (Ag (iR (Sv (⟨#[80,84,48,83]⟩)) ?_)))
      rw[Gp,if_neg (by omega),if_pos (by omega)];rfl
  ·replace hc11:=bt hc11
   refine iT (Aa rfl (iQ 1 ?_))
   let Z18:=zT [(0,Ia n),(2,.d (Sv (⟨#[]⟩))),(12,Ba true)] []
   refine iE 52 Z18 [] ?_
   refine Ab (Ag (iR (Sv (⟨#[]⟩)) ?_))
   rw[Gp,if_pos (by omega)];rfl
 ·replace hc8:=bt hc8
  refine iQ 3 ?_
  let Z19:=zT [(0,Ia n),(2,.d (Sv (⟨#[]⟩))),(12,Ba true)] []
  refine iE 52 Z19 [] ?_
  refine iT (Aa rfl (iQ 1 (iE 52 Z19 [] ?_)))
  refine Ab (Ag (iR (Sv (⟨#[]⟩)) ?_))
  rw[Gp,if_pos (by omega)];rfl
theorem a02 {n:Int}:HasC Tryz.prog 162 [.v (.int .i64 n)] (fun r=>r=.v (.string (tx (Ev n)))):=by
 refine hO [] Tryz.f162 (fun a w=>Tryz.call162 a w) Tryz.func162 rfl (⟨_,rfl⟩) ?_
 refine Aa rfl (iQ 1 (iE 26 [(0,Ia n),(2,.d (Sv (⟨#[]⟩)))] [] ?_))
 refine Ae (Aa rfl (iQ 1 (jB .lss 3 (.int .i64 n) (.int .i64 (-9007199254740992)) 5 ?_)))
 intro c5 hc5
 refine iQ 1 ?_
 cases c5
 ·replace hc5:=bf hc5
  refine iQ 1 (jB .gtr 3 (.int .i64 n) (.int .i64 9007199254740992) 8 ?_)
  intro c8 hc8
  refine iQ 1 ?_
  let Z1:=zT [(0,Ia n),(2,.d (Sv (⟨#[]⟩))),(9,Ba c8)] []
  refine iE 26 Z1 [] ?_
  cases c8
  ·replace hc8:=bf hc8
   refine iF (Ad (Af (Aa rfl (iQ 1 ?_))))
   let Z2:=zT [(0,Ia n),(2,.d (Sv (⟨#[]⟩))),(3,.d (Sv (⟨#[]⟩))),(9,Ba false)] []
   refine iE 26 Z2 [] ?_
   refine Ae (Aa rfl (iQ 1 (jB .lss 3 (.int .i64 n) (.int .i64 0) 11 ?_)))
   intro c11 hc11
   refine iE 26 (zT [(11,Ba c11)] Z2) [] ?_
   cases c11
   ·replace hc11:=bf hc11
    have hab:Ox n=n:=by unfold Ox;rw[if_neg hc11]
    have hsg:Lj n=[]:=by unfold Lj;rw[if_neg hc11]
    refine iF (Ad (Af (Ae (Aa rfl (iQ 1 (jB .eql 3 (.int .i64 n) (.int .i64 0) 15 ?_))))))
    intro c15 hc15
    refine iE 26 (zT [(11,Ba false),(15,Ba c15)] Z2) [] ?_
    cases c15
    ·replace hc15:=bf hc15
     refine iF (Ad (Af (Aa rfl (iQ 1 (jB .add 9 (.string (⟨#[]⟩)) (.string (⟨#[80]⟩)) 17 ?_)))))
     refine And.intro (Bc (m:=0) (n:=1) rfl rfl (by omega)) ?_
     intro s17 hs17
     have hl17:(s17:ByteArray).size=0+1:=At hs17 rfl rfl
     refine iQ 1 (jB .quo 3 (.int .i64 n) (.int .i64 12) 19 ?_)
     refine And.intro (by omega) ?_
     intro z19 hz19
     have e19:z19=n / 12:=Cu hz19 (by decide) (by omega) (by omega)
     refine eC 186 [Iv z19,Sv (⟨#[89]⟩)] 20 (Ek (l:=[89]) ⟨by omega,by omega⟩ (by decide)) ?_
     have p19:=Cs [89] (n:=z19) ⟨by omega,by omega⟩
     simp only[List.length_cons,List.length_nil] at p19
     refine jB .add 9 (.string s17) (.string (tx (Av z19 [89]))) 21 ?_
     refine And.intro (Bc (m:=(s17:ByteArray).size) (n:=((Av z19 [89])).length) rfl rfl (by omega)) ?_
     intro s21 hs21
     have hl21:(s21:ByteArray).size=(s17:ByteArray).size+((Av z19 [89])).length:=At hs21 rfl rfl
     refine iQ 1 (jB .rem 3 (.int .i64 n) (.int .i64 12) 23 ?_)
     refine And.intro (by omega) ?_
     intro z23 hz23
     have e23:z23=n % 12:=Ef hz23 (by omega)
     refine eC 186 [Iv z23,Sv (⟨#[77]⟩)] 24 (Ek (l:=[77]) ⟨by omega,by omega⟩ (by decide)) ?_
     have p23:=Cs [77] (n:=z23) ⟨by omega,by omega⟩
     simp only[List.length_cons,List.length_nil] at p23
     refine jB .add 9 (.string s21) (.string (tx (Av z23 [77]))) 25 ?_
     refine And.intro (Bc (m:=(s21:ByteArray).size) (n:=((Av z23 [77])).length) rfl rfl (by omega)) ?_
     intro s25 hs25
     have hl25:(s25:ByteArray).size=(s21:ByteArray).size+((Av z23 [77])).length:=At hs25 rfl rfl
     refine iQ 1 ?_
     let Z3:=zT [(0,Ia n),(2,.d (Sv s25)),(9,Ba false),(11,Ba false),(15,Ba false)] []
     refine iE 26 Z3 [] ?_
     refine Ab (iR (Sv s25) ?_)
     simp only[hs25,hs21,hs17,Ea,Ar,e19,e23];rw[Ev,if_neg (by omega),if_neg (by omega),hab,hsg];all_goals simp only[List.append_assoc,List.cons_append,List.nil_append,List.append_nil]
    ·replace hc15:=bt hc15
     refine iT (Aa rfl (iQ 1 ?_))
     let Z4:=zT [(0,Ia n),(2,.d (Sv (⟨#[80,48,77]⟩))),(3,.d (Sv (⟨#[]⟩))),(9,Ba false),(11,Ba false),(15,Ba true)] []
     refine iE 26 Z4 [] ?_
     refine Ab (Ag (iR (Sv (⟨#[80,48,77]⟩)) ?_))
     rw[Ev,if_neg (by omega),if_pos (by omega)];rfl
   ·replace hc11:=bt hc11
    refine iT (Al rfl (iQ 1 (jU .neg (.int .i64 n) 13 ?_)))
    intro z13 hz13
    try replace hz13:=hz13.i64 (by omega)
    have e13:z13 = -n:=by omega
    have hab:Ox n=z13:=by unfold Ox;rw[if_pos hc11,e13]
    have hsg:Lj n=[45]:=by unfold Lj;rw[if_pos hc11]
    refine iQ 2 ?_
    let Z5:=zT [(0,Ia z13),(2,.d (Sv (⟨#[]⟩))),(3,.d (Sv (⟨#[45]⟩))),(9,Ba false),(11,Ba true)] []
    refine iE 26 Z5 [] ?_
    refine Af (Ae (Aa rfl (iQ 1 (jB .eql 3 (.int .i64 z13) (.int .i64 0) 15 ?_))))
    intro c15 hc15
    refine iE 26 (zT [(15,Ba c15)] Z5) [] ?_
    cases c15
    ·replace hc15:=bf hc15
     refine iF (Ad (Af (Aa rfl (iQ 1 (jB .add 9 (.string (⟨#[45]⟩)) (.string (⟨#[80]⟩)) 17 ?_)))))
     refine And.intro (Bc (m:=1) (n:=1) rfl rfl (by omega)) ?_
     intro s17 hs17
     have hl17:(s17:ByteArray).size=1+1:=At hs17 rfl rfl
     refine iQ 1 (jB .quo 3 (.int .i64 z13) (.int .i64 12) 19 ?_)
     refine And.intro (by omega) ?_
     intro z19 hz19
     have e19:z19=z13 / 12:=Cu hz19 (by decide) (by omega) (by omega)
     refine eC 186 [Iv z19,Sv (⟨#[89]⟩)] 20 (Ek (l:=[89]) ⟨by omega,by omega⟩ (by decide)) ?_
     have p19:=Cs [89] (n:=z19) ⟨by omega,by omega⟩
     simp only[List.length_cons,List.length_nil] at p19
     refine jB .add 9 (.string s17) (.string (tx (Av z19 [89]))) 21 ?_
     refine And.intro (Bc (m:=(s17:ByteArray).size) (n:=((Av z19 [89])).length) rfl rfl (by omega)) ?_
     intro s21 hs21
     have hl21:(s21:ByteArray).size=(s17:ByteArray).size+((Av z19 [89])).length:=At hs21 rfl rfl
     refine iQ 1 (jB .rem 3 (.int .i64 z13) (.int .i64 12) 23 ?_)
     refine And.intro (by omega) ?_
     intro z23 hz23
     have e23:z23=z13 % 12:=Ef hz23 (by omega)
     refine eC 186 [Iv z23,Sv (⟨#[77]⟩)] 24 (Ek (l:=[77]) ⟨by omega,by omega⟩ (by decide)) ?_
     have p23:=Cs [77] (n:=z23) ⟨by omega,by omega⟩
     simp only[List.length_cons,List.length_nil] at p23
     refine jB .add 9 (.string s21) (.string (tx (Av z23 [77]))) 25 ?_
     refine And.intro (Bc (m:=(s21:ByteArray).size) (n:=((Av z23 [77])).length) rfl rfl (by omega)) ?_
     intro s25 hs25
     have hl25:(s25:ByteArray).size=(s21:ByteArray).size+((Av z23 [77])).length:=At hs25 rfl rfl
     refine iQ 1 ?_
     let Z6:=zT [(0,Ia z13),(2,.d (Sv s25)),(9,Ba false),(11,Ba true),(15,Ba false)] []
     refine iE 26 Z6 [] ?_
     refine Ab (iR (Sv s25) ?_)
     simp only[hs25,hs21,hs17,Ea,Ar,e19,e23];rw[Ev,if_neg (by omega),if_neg (by omega),hab,hsg];all_goals simp only[List.append_assoc,List.cons_append,List.nil_append,List.append_nil]
    ·replace hc15:=bt hc15
     refine iT (Aa rfl (iQ 1 ?_))
     let Z7:=zT [(0,Ia z13),(2,.d (Sv (⟨#[80,48,77]⟩))),(3,.d (Sv (⟨#[45]⟩))),(9,Ba false),(11,Ba true),(15,Ba true)] []
     refine iE 26 Z7 [] ?_
     refine Ab (Ag (iR (Sv (⟨#[80,48,77]⟩)) ?_))
     rw[Ev,if_neg (by omega),if_pos (by omega)];rfl
  ·replace hc8:=bt hc8
   refine iT (Aa rfl (iQ 1 ?_))
   let Z8:=zT [(0,Ia n),(2,.d (Sv (⟨#[]⟩))),(9,Ba true)] []
   refine iE 26 Z8 [] ?_
   refine Ab (Ag (iR (Sv (⟨#[]⟩)) ?_))
   rw[Ev,if_pos (by omega)];rfl
 ·replace hc5:=bt hc5
  refine iQ 3 ?_
  let Z9:=zT [(0,Ia n),(2,.d (Sv (⟨#[]⟩))),(9,Ba true)] []
  refine iE 26 Z9 [] ?_
  refine iT (Aa rfl (iQ 1 (iE 26 Z9 [] ?_)))
  refine Ab (Ag (iR (Sv (⟨#[]⟩)) ?_))
  rw[Ev,if_pos (by omega)];rfl
end Go.Proofs.YtdkgnmiiibpnnaaGreatDoor
