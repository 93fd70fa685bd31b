/- value.Of: a value out of any plain datum. -/
import Derived.Test.YtdkgnmiiibpnnaaGreatDoorVlX
import Derived.Test.YtdkgnmiiibpnnaaGreatDoorLexU
import Derived.Test.YtdkgnmiiibpnnaaGreatDoorNrW
namespace Go.Proofs.YtdkgnmiiibpnnaaGreatDoor
open Go.RowKit
set_option linter.unusedVariables false
set_option linter.unusedSimpArgs false
set_option maxRecDepth 100000
inductive Dm where
 | mk (k:Int) (t:L8) (is:List Dm) (ns:List L8) (p q:Bool)
mutual
def Dm.cells:Dm→List DV
 | .mk k t is ns p q=>[.v (.int .i64 k),.v (.string (tx t)),.sl is.length (Aq is),.sl ns.length (Bf ns),.v (.bool p),.v (.bool q)]
def Aq:List Dm→List DV
 | []=>[]
 | d::ds=>d.cells ++ Aq ds
end
mutual
def Dm.small:Dm→Prop
 | .mk k t is ns p q=>t.length≤1073741824∧is.length≤1073741824∧ns.length≤1073741824∧(∀ n ∈ ns,n.length≤1073741824)∧Ha is
def Ha:List Dm→Prop
 | []=>True
 | d::ds=>d.small∧Ha ds
end
theorem Sc : ∀ {ds:List Dm},Ha ds ↔ ∀ d ∈ ds,d.small
 | []=>by simp[Ha]
 | d::ds=>by rw[Ha,Sc];simp
theorem Oq (d:Dm):d.cells.length=6:=by cases d;simp[Dm.cells]
theorem Ll : ∀ {ds:List Dm} {k:Nat} {d:Dm},ds[k]? = some d→((Aq ds).drop (k*6)).take 6=d.cells
 | [],k,d,h=>by simp at h
 | e::ds,0,d,h=>by
  have:e=d:=by simpa using h
  subst this
  have:=Oq e
  rw[Aq,Nat.zero_mul,List.drop_zero,List.take_append_of_le_length (by omega),List.take_of_length_le (by omega)]
 | e::ds,k+1,d,h=>by
  have:=Oq e
  rw[Aq,show (k+1)*6=e.cells.length+k*6 by omega,← List.drop_drop,List.drop_left]
  exact Ll (by simpa using h)
abbrev a7w (k:Int) (t:L8) (is:List Dm) (ns:List L8) (p q:Bool):DV:=.agg [.v (.int .i64 k),.v (.string (tx t)),.sl is.length (Aq is),.sl ns.length (Bf ns),.v (.bool p),.v (.bool q)]
set_option maxHeartbeats 3200000 in
theorem b6z {k:Int} {l:L8} (hL:l.length≤1073741824):HasC Tryz.prog 97 [.v (.int .i64 k),.v (.string (tx l))] (fun r => ∃ v,IsV r v∧v.ok):=by
 refine hO [] Tryz.f97 (fun a w=>Tryz.call97 a w) Tryz.func97 rfl (⟨_,.null,IsV.null,Bw⟩) ?_
 refine Aa rfl (iQ 1 (iE 94 [(0,Ia k),(1,.d (Sv (tx l))),(4,.p 4 0)] [(4,[.v (.nilIface)])] ?_))
 refine Ae (Aa rfl (iQ 1 ?_))
 let Z1:=zT [(1,.d (Sv (tx l))),(4,.p 4 0),(17,Ia k)] []
 refine iE 94 Z1 [(4,[.v (.nilIface)])] ?_
 refine Ak (Aa rfl (jB .eql 27 (.int .i64 k) (.int .i64 2) 19 ?_))
 intro c19 hc19
 refine iQ 1 (iE 94 (zT [(18,Ba c19)] Z1) [(4,[.v (.nilIface)])] ?_)
 cases c19
 ·replace hc19:=bf hc19
  refine iF (Aa rfl (jB .eql 27 (.int .i64 k) (.int .i64 3) 30 ?_))
  intro c30 hc30
  refine iQ 1 (iE 94 (zT [(18,Ba false),(29,Ba c30)] Z1) [(4,[.v (.nilIface)])] ?_)
  cases c30
  ·replace hc30:=bf hc30
   refine iF (Aa rfl (jB .eql 27 (.int .i64 k) (.int .i64 4) 40 ?_))
   intro c40 hc40
   refine iQ 1 ?_
   let Z2:=zT [(18,Ba false),(29,Ba false),(39,Ba c40)] []
   refine iE 94 (zT Z2 Z1) [(4,[.v (.nilIface)])] ?_
   cases c40
   ·replace hc40:=bf hc40
    refine iF (Aa rfl (jB .eql 27 (.int .i64 k) (.int .i64 5) 44 ?_))
    intro c44 hc44
    refine iQ 1 ?_
    let Z3:=zT [(18,Ba false),(29,Ba false),(39,Ba false),(43,Ba c44)] []
    refine iE 94 (zT Z3 Z1) [(4,[.v (.nilIface)])] ?_
    cases c44
    ·replace hc44:=bf hc44
     refine iF (Aa rfl (jB .eql 27 (.int .i64 k) (.int .i64 6) 54 ?_))
     intro c54 hc54
     refine iQ 1 ?_
     let Z4:=zT [(18,Ba false),(29,Ba false),(39,Ba false),(43,Ba false),(53,Ba c54)] []
     refine iE 94 (zT Z4 Z1) [(4,[.v (.nilIface)])] ?_
     cases c54
     ·replace hc54:=bf hc54
      refine iF (Aa rfl (jB .eql 27 (.int .i64 k) (.int .i64 7) 64 ?_))
      intro c64 hc64
      refine iQ 1 ?_
      let Z5:=zT [(18,Ba false),(29,Ba false),(39,Ba false),(43,Ba false),(53,Ba false),(63,Ba c64)] []
      refine iE 94 (zT Z5 Z1) [(4,[.v (.nilIface)])] ?_
      cases c64
      ·replace hc64:=bf hc64
       refine iF (Aa rfl (jB .eql 27 (.int .i64 k) (.int .i64 8) 74 ?_))
       intro c74 hc74
       refine iQ 1 ?_
       let Z6:=zT [(18,Ba false),(29,Ba false),(39,Ba false),(43,Ba false),(53,Ba false),(63,Ba false),(73,Ba c74)] []
       refine iE 94 (zT Z6 Z1) [(4,[.v (.nilIface)])] ?_
       cases c74
       ·replace hc74:=bf hc74
        refine iF (Aa rfl (jB .eql 27 (.int .i64 k) (.int .i64 9) 84 ?_))
        intro c84 hc84
        refine iQ 1 ?_
        let Z7:=zT [(18,Ba false),(29,Ba false),(39,Ba false),(43,Ba false),(53,Ba false),(63,Ba false),(73,Ba false),(83,Ba c84)] []
        refine iE 94 (zT Z7 Z1) [(4,[.v (.nilIface)])] ?_
        cases c84
        ·replace hc84:=bf hc84
         refine iF (Ad (Ap (Af (Aa rfl (iQ 2 ?_)))))
         let Z8:=zT [(18,Ba false),(29,Ba false),(39,Ba false),(43,Ba false),(53,Ba false),(63,Ba false),(73,Ba false),(83,Ba false)] []
         refine iE 94 (zT Z8 Z1) [(4,[.v (.nilIface)])] ?_
         refine Ab (iR (.agg [.v (.nilIface)]) ?_)
         exact ⟨_,IsV.null,Bw⟩
        ·replace hc84:=bt hc84
         refine iT (Aa rfl (iQ 1 (jC 130 [Sv (tx l)] 87 (Wv (l:=l) (by omega)) ?_)))
         rintro _ ⟨n,ok,rfl,hd⟩
         refine iQ 5 ?_
         let Z9:=zT [(15,Ia n),(16,Ba ok),(18,Ba false),(29,Ba false),(39,Ba false),(43,Ba false),(53,Ba false),(63,Ba false),(73,Ba false),(83,Ba true)] []
         refine iE 94 (zT Z9 Z1) [(4,[.v (.nilIface)])] ?_
         refine Aa rfl (iQ 1 ?_)
         let Z10:=zT [(15,Ia n),(18,Ba false),(29,Ba false),(39,Ba false),(43,Ba false),(53,Ba false),(63,Ba false),(73,Ba false),(83,Ba true),(90,Ba ok)] []
         refine iE 94 (zT Z10 Z1) [(4,[.v (.nilIface)])] ?_
         cases ok
         ·refine iF (Ad (Ap (Af (Aa rfl (iQ 2 ?_)))))
          let Z11:=zT [(15,Ia n),(18,Ba false),(29,Ba false),(39,Ba false),(43,Ba false),(53,Ba false),(63,Ba false),(73,Ba false),(83,Ba true),(90,Ba false)] []
          refine iE 94 (zT Z11 Z1) [(4,[.v (.nilIface)])] ?_
          refine Ab (iR (.agg [.v (.nilIface)]) ?_)
          exact ⟨_,IsV.null,Bw⟩
         ·refine iT (Aa rfl (iQ 1 (eC 72 [Iv n] 92 (a6a) (iQ 1 ?_))))
          let Z12:=zT [(18,Ba false),(29,Ba false),(39,Ba false),(43,Ba false),(53,Ba false),(63,Ba false),(73,Ba false),(83,Ba true),(90,Ba true)] []
          refine iE 94 (zT Z12 Z1) [(4,[.bx (Hd n).enc])] ?_
          refine Ab (Ai (Ag (iR (.agg [.bx (Hd n).enc]) ?_)))
          exact ⟨_,.inl rfl,a61⟩
       ·replace hc74:=bt hc74
        refine iT (Aa rfl (iQ 1 (jC 129 [Sv (tx l)] 77 (a28 (l:=l) (by omega)) ?_)))
        rintro _ ⟨n,ok,rfl,hd⟩
        refine iQ 5 ?_
        let Z13:=zT [(13,Ia n),(14,Ba ok),(18,Ba false),(29,Ba false),(39,Ba false),(43,Ba false),(53,Ba false),(63,Ba false),(73,Ba true)] []
        refine iE 94 (zT Z13 Z1) [(4,[.v (.nilIface)])] ?_
        refine Aa rfl (iQ 1 ?_)
        let Z14:=zT [(13,Ia n),(18,Ba false),(29,Ba false),(39,Ba false),(43,Ba false),(53,Ba false),(63,Ba false),(73,Ba true),(80,Ba ok)] []
        refine iE 94 (zT Z14 Z1) [(4,[.v (.nilIface)])] ?_
        cases ok
        ·refine iF (Ad (Ap (Af (Aa rfl (iQ 2 ?_)))))
         let Z15:=zT [(13,Ia n),(18,Ba false),(29,Ba false),(39,Ba false),(43,Ba false),(53,Ba false),(63,Ba false),(73,Ba true),(80,Ba false)] []
         refine iE 94 (zT Z15 Z1) [(4,[.v (.nilIface)])] ?_
         refine Ab (iR (.agg [.v (.nilIface)]) ?_)
         exact ⟨_,IsV.null,Bw⟩
        ·refine iT (Aa rfl (iQ 1 (eC 70 [Iv n] 82 (b4a) (iQ 1 ?_))))
         let Z16:=zT [(18,Ba false),(29,Ba false),(39,Ba false),(43,Ba false),(53,Ba false),(63,Ba false),(73,Ba true),(80,Ba true)] []
         refine iE 94 (zT Z16 Z1) [(4,[.bx (Pc n).enc])] ?_
         refine Ab (Ai (Ag (iR (.agg [.bx (Pc n).enc]) ?_)))
         exact ⟨_,.inl rfl,b47⟩
      ·replace hc64:=bt hc64
       refine iT (Aa rfl (iQ 1 (jC 127 [Sv (tx l)] 67 (Ym (l:=l) (by omega)) ?_)))
       rintro _ ⟨y,m,d,s,z,o,ok,rfl,hd⟩
       refine iQ 6 ?_
       let Z17:=zT [(1,.d (Sv (tx l))),(4,.p 4 0),(11,.p 11 0),(12,Ba ok),(17,Ia k),(18,Ba false),(29,Ba false),(39,Ba false),(43,Ba false),(53,Ba false),(63,Ba true)] []
       let Z18:=zH [(4,[.v (.nilIface)]),(11,[Iv y,Iv m,Iv d,Iv s,Bv z,Iv o])] []
       refine iE 94 Z17 Z18 ?_
       refine Aa rfl (iQ 1 ?_)
       let Z19:=zT [(1,.d (Sv (tx l))),(4,.p 4 0),(11,.p 11 0),(17,Ia k),(18,Ba false),(29,Ba false),(39,Ba false),(43,Ba false),(53,Ba false),(63,Ba true),(70,Ba ok)] []
       refine iE 94 Z19 Z18 ?_
       cases ok
       ·refine iF (Ad (Ap (Af (Aa rfl (iQ 2 ?_)))))
        let Z20:=zT [(1,.d (Sv (tx l))),(4,.p 4 0),(11,.p 11 0),(17,Ia k),(18,Ba false),(29,Ba false),(39,Ba false),(43,Ba false),(53,Ba false),(63,Ba true),(70,Ba false)] []
        refine iE 94 Z20 Z18 ?_
        refine Ab (iR (.agg [.v (.nilIface)]) ?_)
        exact ⟨_,IsV.null,Bw⟩
       ·refine iT (Aa rfl (iQ 1 (eC 128 [.agg [Iv y,Iv m,Iv d,Iv s,Bv z,Iv o]] 72 (a6s) (iQ 1 ?_))))
        let Z21:=zT [(1,.d (Sv (tx l))),(4,.p 4 0),(11,.p 11 0),(17,Ia k),(18,Ba false),(29,Ba false),(39,Ba false),(43,Ba false),(53,Ba false),(63,Ba true),(70,Ba true)] []
        let Z22:=zH [(4,[.bx (a14 y m d s z o).enc]),(11,[Iv y,Iv m,Iv d,Iv s,Bv z,Iv o])] []
        refine iE 94 Z21 Z22 ?_
        refine Ab (Ai (Ag (iR (.agg [.bx (a14 y m d s z o).enc]) ?_)))
        exact ⟨_,.inl rfl,b7q⟩
     ·replace hc54:=bt hc54
      refine iT (Aa rfl (iQ 1 (jC 125 [Sv (tx l)] 57 (Rj (l:=l) (by omega)) ?_)))
      rintro _ ⟨s,z,o,ok,rfl,hd⟩
      refine iQ 6 ?_
      let Z23:=zT [(1,.d (Sv (tx l))),(4,.p 4 0),(9,.p 9 0),(10,Ba ok),(17,Ia k),(18,Ba false),(29,Ba false),(39,Ba false),(43,Ba false),(53,Ba true)] []
      let Z24:=zH [(4,[.v (.nilIface)]),(9,[Iv s,Bv z,Iv o])] []
      refine iE 94 Z23 Z24 ?_
      refine Aa rfl (iQ 1 ?_)
      let Z25:=zT [(1,.d (Sv (tx l))),(4,.p 4 0),(9,.p 9 0),(17,Ia k),(18,Ba false),(29,Ba false),(39,Ba false),(43,Ba false),(53,Ba true),(60,Ba ok)] []
      refine iE 94 Z25 Z24 ?_
      cases ok
      ·refine iF (Ad (Ap (Af (Aa rfl (iQ 2 ?_)))))
       let Z26:=zT [(1,.d (Sv (tx l))),(4,.p 4 0),(9,.p 9 0),(17,Ia k),(18,Ba false),(29,Ba false),(39,Ba false),(43,Ba false),(53,Ba true),(60,Ba false)] []
       refine iE 94 Z26 Z24 ?_
       refine Ab (iR (.agg [.v (.nilIface)]) ?_)
       exact ⟨_,IsV.null,Bw⟩
      ·refine iT (Aa rfl (iQ 1 (eC 126 [.agg [Iv s,Bv z,Iv o]] 62 (b4r) (iQ 1 ?_))))
       let Z27:=zT [(1,.d (Sv (tx l))),(4,.p 4 0),(9,.p 9 0),(17,Ia k),(18,Ba false),(29,Ba false),(39,Ba false),(43,Ba false),(53,Ba true),(60,Ba true)] []
       let Z28:=zH [(4,[.bx (Pk s z o).enc]),(9,[Iv s,Bv z,Iv o])] []
       refine iE 94 Z27 Z28 ?_
       refine Ab (Ai (Ag (iR (.agg [.bx (Pk s z o).enc]) ?_)))
       exact ⟨_,.inl rfl,b4z⟩
    ·replace hc44:=bt hc44
     refine iT (Aa rfl (iQ 1 (jC 123 [Sv (tx l)] 47 (Rf (l:=l) (by omega)) ?_)))
     rintro _ ⟨y,m,d,ok,rfl,hd⟩
     refine iQ 6 ?_
     let Z29:=zT [(1,.d (Sv (tx l))),(4,.p 4 0),(7,.p 7 0),(8,Ba ok),(17,Ia k),(18,Ba false),(29,Ba false),(39,Ba false),(43,Ba true)] []
     let Z30:=zH [(4,[.v (.nilIface)]),(7,[Iv y,Iv m,Iv d])] []
     refine iE 94 Z29 Z30 ?_
     refine Aa rfl (iQ 1 ?_)
     let Z31:=zT [(1,.d (Sv (tx l))),(4,.p 4 0),(7,.p 7 0),(17,Ia k),(18,Ba false),(29,Ba false),(39,Ba false),(43,Ba true),(50,Ba ok)] []
     refine iE 94 Z31 Z30 ?_
     cases ok
     ·refine iF (Ad (Ap (Af (Aa rfl (iQ 2 ?_)))))
      let Z32:=zT [(1,.d (Sv (tx l))),(4,.p 4 0),(7,.p 7 0),(17,Ia k),(18,Ba false),(29,Ba false),(39,Ba false),(43,Ba true),(50,Ba false)] []
      refine iE 94 Z32 Z30 ?_
      refine Ab (iR (.agg [.v (.nilIface)]) ?_)
      exact ⟨_,IsV.null,Bw⟩
     ·refine iT (Aa rfl (iQ 1 (eC 124 [.agg [Iv y,Iv m,Iv d]] 52 (b26) (iQ 1 ?_))))
      let Z33:=zT [(1,.d (Sv (tx l))),(4,.p 4 0),(7,.p 7 0),(17,Ia k),(18,Ba false),(29,Ba false),(39,Ba false),(43,Ba true),(50,Ba true)] []
      let Z34:=zH [(4,[.bx (a0i y m d).enc]),(7,[Iv y,Iv m,Iv d])] []
      refine iE 94 Z33 Z34 ?_
      refine Ab (Ai (Ag (iR (.agg [.bx (a0i y m d).enc]) ?_)))
      exact ⟨_,.inl rfl,b63⟩
   ·replace hc40:=bt hc40
    refine iT (Aa rfl (iQ 1 (eC 122 [Sv (tx l)] 42 (b30 (Nat.le_trans hL (by decide))) (iQ 1 ?_))))
    let Z35:=zT [(1,.d (Sv (tx l))),(4,.p 4 0),(17,Ia k),(18,Ba false),(29,Ba false),(39,Ba true)] []
    refine iE 94 Z35 [(4,[.bx (Mv l).enc])] ?_
    refine Ab (Ai (Ag (iR (.agg [.bx (Mv l).enc]) ?_)))
    exact ⟨_,.inl rfl,b29⟩
  ·replace hc30:=bt hc30
   obtain ⟨g,n,e,ok,hT⟩ : ∃ a b c d,Ry l=(a,b,c,d):=⟨_,_,_,_,rfl⟩
   refine iT (Aa rfl (iQ 1 (eC 121 [Sv (tx l)] 33 (a6l (l:=l) rfl hT (Nat.le_trans hL (by decide))) (iQ 6 ?_))))
   let Z36:=zT [(1,.d (Sv (tx l))),(4,.p 4 0),(5,.p 5 0),(6,Ba ok),(17,Ia k),(18,Ba false),(29,Ba true)] []
   let Z37:=zH [(4,[.v (.nilIface)]),(5,[Bv g,Hw n,Lw n,Iv e])] []
   refine iE 94 Z36 Z37 ?_
   refine Aa rfl (iQ 1 ?_)
   let Z38:=zT [(1,.d (Sv (tx l))),(4,.p 4 0),(5,.p 5 0),(17,Ia k),(18,Ba false),(29,Ba true),(36,Ba ok)] []
   refine iE 94 Z38 Z37 ?_
   cases ok
   ·refine iF (Ad (Ap (Af (Aa rfl (iQ 2 ?_)))))
    let Z39:=zT [(1,.d (Sv (tx l))),(4,.p 4 0),(5,.p 5 0),(17,Ia k),(18,Ba false),(29,Ba true),(36,Ba false)] []
    refine iE 94 Z39 Z37 ?_
    refine Ab (iR (.agg [.v (.nilIface)]) ?_)
    exact ⟨_,IsV.null,Bw⟩
   ·refine iT (Aa rfl (iQ 1 (eC 8 [.agg [Bv g,Hw n,Lw n,Iv e]] 38 (Sk (Nat.lt_trans (a6z hT).1 Br)) (iQ 1 ?_))))
    let Z40:=zT [(1,.d (Sv (tx l))),(4,.p 4 0),(5,.p 5 0),(17,Ia k),(18,Ba false),(29,Ba true),(36,Ba true)] []
    let Z41:=zH [(4,[.bx (Jc g n e).enc]),(5,[Bv g,Hw n,Lw n,Iv e])] []
    refine iE 94 Z40 Z41 ?_
    refine Ab (Ai (Ag (iR (.agg [.bx (Jc g n e).enc]) ?_)))
    exact ⟨_,.inl rfl,b73⟩
 ·replace hc19:=bt hc19
  refine iT (Aa rfl (iQ 1 (jB .eql 9 (.string (tx l)) (.string (⟨#[116,114,117,101]⟩)) 21 ?_)))
  intro c21 hc21
  refine iQ 1 ?_
  cases c21
  ·replace hc21:=bf hc21
   refine iQ 1 (jB .eql 9 (.string (tx l)) (.string (⟨#[102,97,108,115,101]⟩)) 24 ?_)
   intro c24 hc24
   refine iQ 1 ?_
   let Z42:=zT [(1,.d (Sv (tx l))),(4,.p 4 0),(17,Ia k),(18,Ba true),(25,Ba c24)] []
   refine iE 94 Z42 [(4,[.v (.nilIface)])] ?_
   cases c24
   ·replace hc24:=bf hc24
    refine iF (Ad (Ap (Af (Aa rfl (iQ 2 ?_)))))
    let Z43:=zT [(1,.d (Sv (tx l))),(4,.p 4 0),(17,Ia k),(18,Ba true),(25,Ba false)] []
    refine iE 94 Z43 [(4,[.v (.nilIface)])] ?_
    refine Ab (iR (.agg [.v (.nilIface)]) ?_)
    exact ⟨_,IsV.null,Bw⟩
   ·replace hc24:=bt hc24
    refine iT (Aa rfl (iQ 1 (jB .eql 9 (.string (tx l)) (.string (⟨#[116,114,117,101]⟩)) 27 ?_)))
    intro c27 hc27
    refine eC 76 [Bv c27] 28 (Pz (p:=c27)) (iQ 1 ?_)
    let Z44:=zT [(1,.d (Sv (tx l))),(4,.p 4 0),(17,Ia k),(18,Ba true),(25,Ba true)] []
    refine iE 94 Z44 [(4,[.bx (Vl.bool c27).enc])] ?_
    refine Ab (Ai (Ag (iR (.agg [.bx (Vl.bool c27).enc]) ?_)))
    exact ⟨_,.inl rfl,a41⟩
  ·replace hc21:=bt hc21
   refine iQ 3 ?_
   let Z45:=zT [(1,.d (Sv (tx l))),(4,.p 4 0),(17,Ia k),(18,Ba true),(25,Ba true)] []
   refine iE 94 Z45 [(4,[.v (.nilIface)])] ?_
   refine iT (Aa rfl (iQ 1 (jB .eql 9 (.string (tx l)) (.string (⟨#[116,114,117,101]⟩)) 27 ?_)))
   intro c27 hc27
   refine eC 76 [Bv c27] 28 (Pz (p:=c27)) (iQ 1 (iE 94 Z45 [(4,[.bx (Vl.bool c27).enc])] ?_))
   refine Ab (Ai (Ag (iR (.agg [.bx (Vl.bool c27).enc]) ?_)))
   exact ⟨_,.inl rfl,a41⟩
theorem b7u {k:Int} {l:L8} (hL:l.length≤1073741824):HasC Tryz.prog 97 [.v (.int .i64 k),.v (.string (tx l))] (fun r => ∃ v,r=VV v∧v.ok):=(b6z hL).isV
def OfQ (v:Vl) (ok:Bool):Prop:=v.ok∧(ok=false→v=.null)
theorem a0j {vs:List Vl} {v:Vl} (h:okL vs) (hv:v.ok):okL (vs ++ [v]):=Xy.2 fun x hx=>by
 rcases List.mem_append.1 hx with h1 | h1
 ·exact Xy.1 h x h1
 ·simp at h1;rw[h1];exact hv
theorem Us {vs:List Vl} {v:Vl}:Av vs ++ [.bx v.enc]=Av (vs ++ [v]):=by simp[Jk]
theorem a89 {vs:List Vl} (h:vs.length=2) : ∃ a b,vs=[a,b]:=by
 match vs,h with
 | [a,b],_=>exact ⟨a,b,rfl⟩
set_option maxHeartbeats 3200000 in
theorem b74 {k:Int} {t:L8} {is:List Dm} {ns:List L8} {p q:Bool} (hs:(Dm.mk k t is ns p q).small) (ih : ∀ (k:Int) (t:L8) (is':List Dm) (ns:List L8) (p q:Bool),Dm.mk k t is' ns p q ∈ is→HasC Tryz.prog 65 [a7w k t is' ns p q] (fun y => ∃ v ok,y=.tup [VV v,.v (.bool ok)]∧OfQ v ok)):HasC Tryz.prog 96 [.agg [.v (.int .i64 k),.v (.string (tx t)),.sl ((is).length) (Aq (is)),.sl ((ns).length) (Bf (ns)),.v (.bool p),.v (.bool q)]] (fun y => ∃ x v ok,y=.tup [x,.v (.bool ok)]∧IsV x v∧OfQ v ok):=by
 refine hO [] Tryz.f96 (fun a w=>Tryz.call96 a w) Tryz.func96 rfl (⟨_,_,.null,false,rfl,IsV.null,Bw,fun _=>rfl⟩) ?_
 rw[Dm.small] at hs
 obtain ⟨hs1,hs2,hs3,hs4,hs5⟩:=hs
 refine Aa rfl (iQ 3 ?_)
 let Z1:=zH [(1,[Iv k,Sv (tx t),.sl ((is).length) (Aq (is)),.sl ((ns).length) (Bf (ns)),Bv p,Bv q])] []
 refine iE 76 [(1,.p 1 0),(2,.p 2 0),(3,Ba false)] (zH [(2,[.v (.nilIface)])] Z1) ?_
 refine Ae (Aa rfl (iQ 2 (jB .neq 9 (.string (tx t)) (.string (⟨#[]⟩)) 12 ?_)))
 intro c12 hc12
 refine iQ 1 ?_
 cases c12
 ·replace hc12:=bf hc12
  refine iQ 2 (jB .neq 27 (.int .i64 k) (.int .i64 11) 16 ?_)
  intro c16 hc16
  refine iQ 1 ?_
  cases c16
  ·replace hc16:=bf hc16
   refine iQ 6 ?_
   let Z2:=zT [(1,.p 1 0),(2,.p 2 0),(3,Ba false),(23,Ba false)] []
   refine iE 76 Z2 (zH [(2,[.v (.nilIface)])] Z1) ?_
   refine iF (Ad (Af (Aa rfl (iQ 1 (iE 76 (zT [(4,.w (.sl 0 []) none)] Z2) (zH [(2,[.v (.nilIface)])] Z1) ?_)))))
   refine Ae (Aa rfl (iQ 4 ?_))
   let Z3:=zT [(4,.w (.sl 0 []) none),(26,.d (.sl ((is).length) (Aq (is)))),(27,Ia ((((is).length:Nat):Int))),(28,Ia 0)] []
   refine iE 76 (zT Z3 Z2) (zH [(2,[.v (.nilIface)])] Z1) ?_
   refine Ak (Bq 76 (fun (vcx:Nat×(List Vl)×Int)=>match vcx with | (j,vs,z)=>[(1,.p 1 0),(2,.p 2 0),(3,Ba false),(4,.w (.sl ((vs).length) (Av (vs))) (some ⟨4,0,39,1⟩)),(23,Ba false),(26,.d (.sl ((is).length) (Aq (is)))),(27,Ia ((((is).length:Nat):Int))),(28,Ia z)]) (fun (vcx:Nat×(List Vl)×Int)=>match vcx with | (j,vs,z)=>[(1,[Iv k,Sv (tx t),.sl ((is).length) (Aq (is)),.sl ((ns).length) (Bf (ns)),Bv p,Bv q]),(2,[.v (.nilIface)])]) (fun (vcx:Nat×(List Vl)×Int)=>match vcx with | (j,vs,z)=>z=j∧j≤is.length∧vs.length=j∧okL vs) (fun (vcx:Nat×(List Vl)×Int)=>match vcx with | (j,vs,z)=>is.length-j) ((0,[],0)) (⟨rfl,Nat.zero_le _,rfl,by rw[okL];trivial⟩) (by kernel_rfl) (by kernel_rfl) ?_)
   rintro ⟨j,vs,z⟩ hinv
   simp only at hinv
   obtain ⟨h1,h2,h3,h4⟩:=hinv
   refine Aa rfl (jB .lss 3 (.int .i64 z) (.int .i64 ((((is).length:Nat):Int))) 29 ?_)
   intro c29 hc29
   let Z4:=zT [(4,.w (.sl ((vs).length) (Av (vs))) (some ⟨4,0,39,1⟩))] []
   let Z5:=zT [(26,.d (.sl ((is).length) (Aq (is)))),(27,Ia ((((is).length:Nat):Int))),(28,Ia z),(29,Ba c29)] []
   let Z6:=zT Z5 (zT Z4 Z2)
   refine iE 76 Z6 (zH [(2,[.v (.nilIface)])] Z1) ?_
   refine Ae ?_
   cases c29
   ·replace hc29:=bf hc29
    refine iF (Be (Ce (Bj (Bd rfl (Af (Aa rfl (iQ 1 ?_)))))))
    let Z7:=zT [(9,.p 9 0),(26,.d (.sl ((is).length) (Aq (is)))),(27,Ia ((((is).length:Nat):Int))),(28,Ia z),(29,Ba false)] []
    let Z8:=zT Z7 (zT Z4 Z2)
    let Z9:=zH [(2,[.v (.nilIface)]),(9,[.v (.nilIface)])] []
    refine iE 76 Z8 (zH Z9 Z1) ?_
    refine Ef 76 (fun (vcx:Vl)=>match vcx with | x=>[(1,.p 1 0),(2,.p 2 0),(3,Ba false),(4,.w (.sl ((vs).length) (Av (vs))) (some ⟨4,0,39,1⟩)),(9,.p 9 0),(23,Ba false),(26,.d (.sl ((is).length) (Aq (is)))),(27,Ia ((((is).length:Nat):Int))),(28,Ia z),(29,Ba false)]) (fun (vcx:Vl)=>match vcx with | x=>[(1,[Iv k,Sv (tx t),.sl ((is).length) (Aq (is)),.sl ((ns).length) (Bf (ns)),Bv p,Bv q]),(2,[.v (.nilIface)]),(9,[.bx (x).enc])]) (fun (vcx:Vl)=>match vcx with | x=>x.ok) ?_ ?_
    ·rintro x hinv
     simp only at hinv
     refine Aa rfl (iQ 2 (jC 17 [.agg [.bx (x).enc]] 74 (Ay (v:=x)) ?_))
     rintro _ ⟨n,rfl,hn⟩
     refine jU .not (.bool n) 75 ?_
     intro c75 hc75
     refine iQ 2 ?_
     let Z10:=zT [(1,.p 1 0),(2,.p 2 0),(3,Ba c75),(23,Ba false)] []
     let Z11:=zT Z10 (zT Z7 Z4)
     refine iE 76 Z11 (zH [(2,[.bx (x).enc]),(9,[.bx (x).enc])] Z1) ?_
     refine Ab (iS (.agg [.bx (x).enc]) (Bv c75) [] ?_)
     exact ⟨_,x,c75,rfl,.inl rfl,hinv,fun h=>(Hy).1 (hn.1 (by cases n;exact absurd (hc75.2 rfl) (by rw[h];simp);rfl))⟩
    intro hmid
    refine Ak (Aa rfl (iQ 2 (jB .eql 27 (.int .i64 k) (.int .i64 10) 48 ?_)))
    intro c48 hc48
    refine iQ 1 (iE 76 (zT [(45,Ba c48)] Z8) (zH Z1 Z9) ?_)
    cases c48
    ·replace hc48:=bf hc48
     refine iF (Aa rfl (iQ 2 (jB .eql 27 (.int .i64 k) (.int .i64 11) 54 ?_)))
     intro c54 hc54
     refine iQ 1 (iE 76 (zT [(45,Ba false),(51,Ba c54)] Z8) (zH Z1 Z9) ?_)
     cases c54
     ·replace hc54:=bf hc54
      refine iF (Aa rfl (iQ 2 (jB .eql 3 (.int .i64 ((((vs).length:Nat):Int))) (.int .i64 2) 62 ?_)))
      intro c62 hc62
      refine iQ 1 ?_
      let Z12:=zT [(45,Ba false),(51,Ba false),(59,Ba c62)] []
      refine iE 76 (zT Z12 Z8) (zH Z1 Z9) ?_
      cases c62
      ·replace hc62:=bf hc62
       refine iF (Ad (Ap (Af (Aa rfl (iQ 2 (eC 17 [.agg [.v (.nilIface)]] 74 (Wo) (jU .not (.bool true) 75 ?_)))))))
       intro c75 hc75
       refine iQ 2 ?_
       let Z13:=zT [(1,.p 1 0),(2,.p 2 0),(3,Ba c75),(23,Ba false),(45,Ba false),(51,Ba false),(59,Ba false)] []
       let Z14:=zT Z13 (zT Z7 Z4)
       refine iE 76 Z14 (zH Z1 Z9) ?_
       refine Ab (iS (.agg [.v (.nilIface)]) (Bv c75) [] ?_)
       exact ⟨_,.null,c75,rfl,IsV.null,Bw,fun _=>rfl⟩
      ·replace hc62:=bt hc62
       obtain ⟨v0,v1,hvs⟩:=a89 (vs:=vs) (by omega)
       refine iT (Am rfl (iQ 1 (Bi (q:=0) (n:=((vs).length)) (cs:=(Av (vs))) (d:=.bx (v0).enc) (dst:=(some 64)) (by kernel_rfl) (by omega) (by rw[hvs];simp[Av]) ?_)))
       refine iQ 2 (Bi (q:=1) (n:=((vs).length)) (cs:=(Av (vs))) (d:=.bx (v1).enc) (dst:=(some 67)) (by kernel_rfl) (by omega) (by rw[hvs];simp[Av]) ?_)
       refine iQ 3 (eC 120 [.agg [.bx (v0).enc],.agg [.bx (v1).enc],.agg [Bv p,Bv q]] 71 (a07) (iQ 1 (iE 76 [(1,.p 1 0),(2,.p 2 0),(3,Ba false),(4,.w (.sl ((vs).length) (Av (vs))) (some ⟨4,0,39,1⟩)),(9,.p 9 0),(23,Ba false),(26,.d (.sl ((is).length) (Aq (is)))),(27,Ia ((((is).length:Nat):Int))),(28,Ia z),(29,Ba false)] [(1,[Iv k,Sv (tx t),.sl ((is).length) (Aq (is)),.sl ((ns).length) (Bf (ns)),Bv p,Bv q]),(2,[.v (.nilIface)]),(9,[.bx (Fz v0 v1 p q).enc])] ?_)))
       refine Ap ?_
       refine Cc hmid (Fz v0 v1 p q) (by rw[hvs] at h4;simp only[okL] at h4;exact a0x h4.1 h4.2.1) (by kernel_rfl)
     ·replace hc54:=bt hc54
      refine iT (Am rfl (iQ 3 (eC 119 [.sl ((ns).length) (Bf (ns)),.sl ((vs).length) (Av (vs))] 58 (Rv hs3 hs4) (iQ 1 (iE 76 [(1,.p 1 0),(2,.p 2 0),(3,Ba false),(4,.w (.sl ((vs).length) (Av (vs))) (some ⟨4,0,39,1⟩)),(9,.p 9 0),(23,Ba false),(26,.d (.sl ((is).length) (Aq (is)))),(27,Ia ((((is).length:Nat):Int))),(28,Ia z),(29,Ba false)] [(1,[Iv k,Sv (tx t),.sl ((is).length) (Aq (is)),.sl ((ns).length) (Bf (ns)),Bv p,Bv q]),(2,[.v (.nilIface)]),(9,[.bx (Qs ns vs).enc])] ?_)))))
      refine Ap ?_
      refine Cc hmid (Qs ns vs) (a9r (by omega) h4) (by kernel_rfl)
    ·replace hc48:=bt hc48
     refine iT (Am rfl (iQ 1 (eC 84 [.sl ((vs).length) (Av (vs))] 50 (Ws (by omega)) (iQ 1 (iE 76 [(1,.p 1 0),(2,.p 2 0),(3,Ba false),(4,.w (.sl ((vs).length) (Av (vs))) (some ⟨4,0,39,1⟩)),(9,.p 9 0),(23,Ba false),(26,.d (.sl ((is).length) (Aq (is)))),(27,Ia ((((is).length:Nat):Int))),(28,Ia z),(29,Ba false)] [(1,[Iv k,Sv (tx t),.sl ((is).length) (Aq (is)),.sl ((ns).length) (Bf (ns)),Bv p,Bv q]),(2,[.v (.nilIface)]),(9,[.bx (Vl.list vs).enc])] ?_)))))
     refine Ap ?_
     refine Cc hmid (Vl.list vs) (by rw[Vl.ok];exact ⟨by omega,h4⟩) (by kernel_rfl)
   ·replace hc29:=bt hc29
    have hj:j<is.length:=by omega
    obtain ⟨⟨k',t',is',ns',p',q'⟩,hm⟩ : ∃ d,is[j]? = some d:=⟨_,List.getElem?_eq_getElem hj⟩
    refine iT (Ad (Af (Ae (Ak (Aa rfl (Ek (q:=z) (n:=((is).length)) (cs:=(Aq (is))) (z:=6) (ds:=[.v (.int .i64 k'),.v (.string (tx t')),.sl ((is').length) (Aq (is')),.sl ((ns').length) (Bf (ns')),.v (.bool p'),.v (.bool q')]) (dst:=(some 30)) (by kernel_rfl) (by omega) (by rw[h1,Int.toNat_natCast];exact (Ll hm).trans (by rw[Dm.cells])) ?_))))))
    refine iQ 3 ?_
    let Z15:=zT [(6,.p 6 0),(26,.d (.sl ((is).length) (Aq (is)))),(27,Ia ((((is).length:Nat):Int))),(28,Ia z),(29,Ba true)] []
    let Z16:=zT Z15 (zT Z4 Z2)
    let Z17:=zH [(6,[Iv k',Sv (tx t'),.sl ((is').length) (Aq (is')),.sl ((ns').length) (Bf (ns')),Bv p',Bv q'])] []
    refine iE 76 Z16 (zH [(2,[.v (.nilIface)])] (zH Z17 Z1)) ?_
    refine Aa rfl (iQ 1 (jC 65 [.agg [Iv k',Sv (tx t'),.sl ((is').length) (Aq (is')),.sl ((ns').length) (Bf (ns')),Bv p',Bv q']] 34 (ih k' t' is' ns' p' q' (List.mem_of_getElem? hm)) ?_))
    rintro _ ⟨v,ok,rfl,hv⟩
    refine iQ 6 (iE 76 (zT [(7,.p 7 0),(8,Ba ok)] Z16) (zH [(2,[.v (.nilIface)]),(7,[.bx (v).enc])] (zH Z17 Z1)) ?_)
    refine Ae (Aa rfl (iQ 1 (jU .not (.bool ok) 38 ?_)))
    intro c38 hc38
    refine iE 76 (zT [(7,.p 7 0),(8,Ba ok),(38,Ba c38)] Z16) (zH [(2,[.v (.nilIface)]),(7,[.bx (v).enc])] (zH Z17 Z1)) ?_
    cases c38
    ·replace hc38:=bf hc38
     refine iF (Ad (Af (Am rfl (iQ 3 (Fo (n:=((vs).length)) (cs:=(Av (vs))) (m:=1) (ds:=[.bx (v).enc]) (N:=((vs ++ [v]).length)) (es:=(Av (vs ++ [v]))) (j:=4) (e:=39) (z:=1) (dst:=(some 43)) (by kernel_rfl) (by first | rfl | omega | (rw[Nat.mul_one];exact Cr _) | (simp[dg];done) | (simp[dg];omega)) (by first | rfl | omega | (rw[Nat.mul_one];exact Cr _) | (simp[dg];done) | (simp[dg];omega)) (rfl) (by omega) (by simp) (Us) ?_)))))
     refine iQ 1 ?_
     let Z18:=zT [(4,.w (.sl ((vs ++ [v]).length) (Av (vs ++ [v]))) (some ⟨4,0,39,1⟩))] []
     let Z19:=zT [(7,.p 7 0),(8,Ba ok),(38,Ba false)] (zT Z18 (zT Z15 Z2))
     refine iE 76 Z19 (zH [(2,[.v (.nilIface)]),(7,[.bx (v).enc])] (zH Z17 Z1)) ?_
     refine Ap (Af (Am rfl (jB .add 3 (.int .i64 z) (.int .i64 1) 44 ?_)))
     intro z44 hz44
     try replace hz44:=hz44.i64 (by omega)
     refine iQ 1 ?_
     let Z20:=zT [(6,.p 6 0),(7,.p 7 0),(8,Ba ok),(26,.d (.sl ((is).length) (Aq (is)))),(27,Ia ((((is).length:Nat):Int))),(28,Ia z44),(29,Ba true),(38,Ba false)] []
     let Z21:=zT Z20 (zT Z18 Z2)
     refine iE 76 Z21 (zH [(2,[.v (.nilIface)]),(7,[.bx (v).enc])] (zH Z17 Z1)) ?_
     refine Bm (j+1,vs ++ [v],z44) (⟨by omega,by omega,by simp;omega,a0j h4 hv.1⟩) (by show is.length-(j+1)<is.length-j;omega) (by kernel_rfl) (by kernel_rfl)
    ·replace hc38:=bt hc38
     refine iT (Aa rfl (iQ 3 (iE 76 (zT [(7,.p 7 0),(8,Ba ok),(38,Ba true)] Z16) (zH [(2,[.v (.nilIface)]),(7,[.bx (v).enc])] (zH Z17 Z1)) ?_)))
     refine Ab (Ag (Ai (Ag (Db (Ai (Ag (iS (.agg [.v (.nilIface)]) (Bv false) [] ?_)))))))
     exact ⟨_,.null,_,rfl,IsV.null,Bw,fun _=>rfl⟩
  ·replace hc16:=bt hc16
   refine iQ 3 (jB .gtr 3 (.int .i64 ((((ns).length:Nat):Int))) (.int .i64 0) 21 ?_)
   intro c21 hc21
   refine iQ 2 ?_
   let Z22:=zT [(1,.p 1 0),(2,.p 2 0),(3,Ba false),(23,Ba c21)] []
   refine iE 76 Z22 (zH [(2,[.v (.nilIface)])] Z1) ?_
   cases c21
   ·replace hc21:=bf hc21
    refine iF (Ad (Af (Aa rfl (iQ 1 ?_))))
    let Z23:=zT [(1,.p 1 0),(2,.p 2 0),(3,Ba false),(4,.w (.sl 0 []) none),(23,Ba false)] []
    refine iE 76 Z23 (zH [(2,[.v (.nilIface)])] Z1) ?_
    refine Ae (Aa rfl (iQ 4 ?_))
    let Z24:=zT [(26,.d (.sl ((is).length) (Aq (is)))),(27,Ia ((((is).length:Nat):Int))),(28,Ia 0)] []
    refine iE 76 (zT Z24 Z23) (zH [(2,[.v (.nilIface)])] Z1) ?_
    refine Ak (Bq 76 (fun (vcx:Nat×(List Vl)×Int)=>match vcx with | (j,vs,z)=>[(1,.p 1 0),(2,.p 2 0),(3,Ba false),(4,.w (.sl ((vs).length) (Av (vs))) (some ⟨4,0,39,1⟩)),(23,Ba false),(26,.d (.sl ((is).length) (Aq (is)))),(27,Ia ((((is).length:Nat):Int))),(28,Ia z)]) (fun (vcx:Nat×(List Vl)×Int)=>match vcx with | (j,vs,z)=>[(1,[Iv k,Sv (tx t),.sl ((is).length) (Aq (is)),.sl ((ns).length) (Bf (ns)),Bv p,Bv q]),(2,[.v (.nilIface)])]) (fun (vcx:Nat×(List Vl)×Int)=>match vcx with | (j,vs,z)=>z=j∧j≤is.length∧vs.length=j∧okL vs) (fun (vcx:Nat×(List Vl)×Int)=>match vcx with | (j,vs,z)=>is.length-j) ((0,[],0)) (⟨rfl,Nat.zero_le _,rfl,by rw[okL];trivial⟩) (by kernel_rfl) (by kernel_rfl) ?_)
    rintro ⟨j,vs,z⟩ hinv
    simp only at hinv
    obtain ⟨h1,h2,h3,h4⟩:=hinv
    refine Aa rfl (jB .lss 3 (.int .i64 z) (.int .i64 ((((is).length:Nat):Int))) 29 ?_)
    intro c29 hc29
    let Z25:=zT [(4,.w (.sl ((vs).length) (Av (vs))) (some ⟨4,0,39,1⟩))] []
    let Z26:=zT [(1,.p 1 0),(2,.p 2 0),(3,Ba false),(23,Ba false),(26,.d (.sl ((is).length) (Aq (is)))),(27,Ia ((((is).length:Nat):Int))),(28,Ia z),(29,Ba c29)] []
    refine iE 76 (zT Z26 Z25) (zH [(2,[.v (.nilIface)])] Z1) ?_
    refine Ae ?_
    cases c29
    ·replace hc29:=bf hc29
     refine iF (Be (Ce (Bj (Bd rfl (Af (Aa rfl (iQ 1 ?_)))))))
     let Z27:=zT [(1,.p 1 0),(2,.p 2 0),(3,Ba false),(9,.p 9 0),(23,Ba false),(26,.d (.sl ((is).length) (Aq (is)))),(27,Ia ((((is).length:Nat):Int))),(28,Ia z),(29,Ba false)] []
     let Z28:=zH [(2,[.v (.nilIface)]),(9,[.v (.nilIface)])] []
     refine iE 76 (zT Z27 Z25) (zH Z28 Z1) ?_
     refine Ef 76 (fun (vcx:Vl)=>match vcx with | x=>[(1,.p 1 0),(2,.p 2 0),(3,Ba false),(4,.w (.sl ((vs).length) (Av (vs))) (some ⟨4,0,39,1⟩)),(9,.p 9 0),(23,Ba false),(26,.d (.sl ((is).length) (Aq (is)))),(27,Ia ((((is).length:Nat):Int))),(28,Ia z),(29,Ba false)]) (fun (vcx:Vl)=>match vcx with | x=>[(1,[Iv k,Sv (tx t),.sl ((is).length) (Aq (is)),.sl ((ns).length) (Bf (ns)),Bv p,Bv q]),(2,[.v (.nilIface)]),(9,[.bx (x).enc])]) (fun (vcx:Vl)=>match vcx with | x=>x.ok) ?_ ?_
     ·rintro x hinv
      simp only at hinv
      refine Aa rfl (iQ 2 (jC 17 [.agg [.bx (x).enc]] 74 (Ay (v:=x)) ?_))
      rintro _ ⟨n,rfl,hn⟩
      refine jU .not (.bool n) 75 ?_
      intro c75 hc75
      refine iQ 2 ?_
      let Z29:=zT [(1,.p 1 0),(2,.p 2 0),(3,Ba c75),(9,.p 9 0),(23,Ba false),(26,.d (.sl ((is).length) (Aq (is)))),(27,Ia ((((is).length:Nat):Int))),(28,Ia z),(29,Ba false)] []
      refine iE 76 (zT Z29 Z25) (zH [(2,[.bx (x).enc]),(9,[.bx (x).enc])] Z1) ?_
      refine Ab (iS (.agg [.bx (x).enc]) (Bv c75) [] ?_)
      exact ⟨_,x,c75,rfl,.inl rfl,hinv,fun h=>(Hy).1 (hn.1 (by cases n;exact absurd (hc75.2 rfl) (by rw[h];simp);rfl))⟩
     intro hmid
     refine Ak (Aa rfl (iQ 2 (jB .eql 27 (.int .i64 k) (.int .i64 10) 48 ?_)))
     intro c48 hc48
     refine iQ 1 (iE 76 (zT [(45,Ba c48)] (zT Z27 Z25)) (zH Z1 Z28) ?_)
     cases c48
     ·replace hc48:=bf hc48
      refine iF (Aa rfl (iQ 2 (jB .eql 27 (.int .i64 k) (.int .i64 11) 54 ?_)))
      intro c54 hc54
      refine iQ 1 (iE 76 (zT [(45,Ba false),(51,Ba c54)] (zT Z27 Z25)) (zH Z1 Z28) ?_)
      cases c54
      ·replace hc54:=bf hc54
       refine iF (Aa rfl (iQ 2 (jB .eql 3 (.int .i64 ((((vs).length:Nat):Int))) (.int .i64 2) 62 ?_)))
       intro c62 hc62
       refine iQ 1 ?_
       let Z30:=zT [(45,Ba false),(51,Ba false),(59,Ba c62)] []
       let Z31:=zT Z30 (zT Z27 Z25)
       refine iE 76 Z31 (zH Z1 Z28) ?_
       cases c62
       ·replace hc62:=bf hc62
        refine iF (Ad (Ap (Af (Aa rfl (iQ 2 (eC 17 [.agg [.v (.nilIface)]] 74 (Wo) (jU .not (.bool true) 75 ?_)))))))
        intro c75 hc75
        refine iQ 2 ?_
        let Z32:=zT [(1,.p 1 0),(2,.p 2 0),(3,Ba c75),(9,.p 9 0),(23,Ba false),(26,.d (.sl ((is).length) (Aq (is)))),(27,Ia ((((is).length:Nat):Int))),(28,Ia z),(29,Ba false),(45,Ba false),(51,Ba false),(59,Ba false)] []
        refine iE 76 (zT Z32 Z25) (zH Z1 Z28) ?_
        refine Ab (iS (.agg [.v (.nilIface)]) (Bv c75) [] ?_)
        exact ⟨_,.null,c75,rfl,IsV.null,Bw,fun _=>rfl⟩
       ·replace hc62:=bt hc62
        obtain ⟨v0,v1,hvs⟩:=a89 (vs:=vs) (by omega)
        refine iT (Am rfl (iQ 1 (Bi (q:=0) (n:=((vs).length)) (cs:=(Av (vs))) (d:=.bx (v0).enc) (dst:=(some 64)) (by kernel_rfl) (by omega) (by rw[hvs];simp[Av]) ?_)))
        refine iQ 2 (Bi (q:=1) (n:=((vs).length)) (cs:=(Av (vs))) (d:=.bx (v1).enc) (dst:=(some 67)) (by kernel_rfl) (by omega) (by rw[hvs];simp[Av]) ?_)
        refine iQ 3 (eC 120 [.agg [.bx (v0).enc],.agg [.bx (v1).enc],.agg [Bv p,Bv q]] 71 (a07) (iQ 1 (iE 76 [(1,.p 1 0),(2,.p 2 0),(3,Ba false),(4,.w (.sl ((vs).length) (Av (vs))) (some ⟨4,0,39,1⟩)),(9,.p 9 0),(23,Ba false),(26,.d (.sl ((is).length) (Aq (is)))),(27,Ia ((((is).length:Nat):Int))),(28,Ia z),(29,Ba false)] [(1,[Iv k,Sv (tx t),.sl ((is).length) (Aq (is)),.sl ((ns).length) (Bf (ns)),Bv p,Bv q]),(2,[.v (.nilIface)]),(9,[.bx (Fz v0 v1 p q).enc])] ?_)))
        refine Ap ?_
        refine Cc hmid (Fz v0 v1 p q) (by rw[hvs] at h4;simp only[okL] at h4;exact a0x h4.1 h4.2.1) (by kernel_rfl)
      ·replace hc54:=bt hc54
       refine iT (Am rfl (iQ 3 (eC 119 [.sl ((ns).length) (Bf (ns)),.sl ((vs).length) (Av (vs))] 58 (Rv hs3 hs4) (iQ 1 (iE 76 [(1,.p 1 0),(2,.p 2 0),(3,Ba false),(4,.w (.sl ((vs).length) (Av (vs))) (some ⟨4,0,39,1⟩)),(9,.p 9 0),(23,Ba false),(26,.d (.sl ((is).length) (Aq (is)))),(27,Ia ((((is).length:Nat):Int))),(28,Ia z),(29,Ba false)] [(1,[Iv k,Sv (tx t),.sl ((is).length) (Aq (is)),.sl ((ns).length) (Bf (ns)),Bv p,Bv q]),(2,[.v (.nilIface)]),(9,[.bx (Qs ns vs).enc])] ?_)))))
       refine Ap ?_
       refine Cc hmid (Qs ns vs) (a9r (by omega) h4) (by kernel_rfl)
     ·replace hc48:=bt hc48
      refine iT (Am rfl (iQ 1 (eC 84 [.sl ((vs).length) (Av (vs))] 50 (Ws (by omega)) (iQ 1 (iE 76 [(1,.p 1 0),(2,.p 2 0),(3,Ba false),(4,.w (.sl ((vs).length) (Av (vs))) (some ⟨4,0,39,1⟩)),(9,.p 9 0),(23,Ba false),(26,.d (.sl ((is).length) (Aq (is)))),(27,Ia ((((is).length:Nat):Int))),(28,Ia z),(29,Ba false)] [(1,[Iv k,Sv (tx t),.sl ((is).length) (Aq (is)),.sl ((ns).length) (Bf (ns)),Bv p,Bv q]),(2,[.v (.nilIface)]),(9,[.bx (Vl.list vs).enc])] ?_)))))
      refine Ap ?_
      refine Cc hmid (Vl.list vs) (by rw[Vl.ok];exact ⟨by omega,h4⟩) (by kernel_rfl)
    ·replace hc29:=bt hc29
     have hj:j<is.length:=by omega
     obtain ⟨⟨k',t',is',ns',p',q'⟩,hm⟩ : ∃ d,is[j]? = some d:=⟨_,List.getElem?_eq_getElem hj⟩
     refine iT (Ad (Af (Ae (Ak (Aa rfl (Ek (q:=z) (n:=((is).length)) (cs:=(Aq (is))) (z:=6) (ds:=[.v (.int .i64 k'),.v (.string (tx t')),.sl ((is').length) (Aq (is')),.sl ((ns').length) (Bf (ns')),.v (.bool p'),.v (.bool q')]) (dst:=(some 30)) (by kernel_rfl) (by omega) (by rw[h1,Int.toNat_natCast];exact (Ll hm).trans (by rw[Dm.cells])) ?_))))))
     refine iQ 3 ?_
     let Z33:=zT [(1,.p 1 0),(2,.p 2 0),(3,Ba false),(6,.p 6 0),(23,Ba false),(26,.d (.sl ((is).length) (Aq (is)))),(27,Ia ((((is).length:Nat):Int))),(28,Ia z),(29,Ba true)] []
     let Z34:=zH [(6,[Iv k',Sv (tx t'),.sl ((is').length) (Aq (is')),.sl ((ns').length) (Bf (ns')),Bv p',Bv q'])] []
     refine iE 76 (zT Z33 Z25) (zH [(2,[.v (.nilIface)])] (zH Z34 Z1)) ?_
     refine Aa rfl (iQ 1 (jC 65 [.agg [Iv k',Sv (tx t'),.sl ((is').length) (Aq (is')),.sl ((ns').length) (Bf (ns')),Bv p',Bv q']] 34 (ih k' t' is' ns' p' q' (List.mem_of_getElem? hm)) ?_))
     rintro _ ⟨v,ok,rfl,hv⟩
     refine iQ 6 (iE 76 (zT [(7,.p 7 0),(8,Ba ok)] (zT Z33 Z25)) (zH [(2,[.v (.nilIface)]),(7,[.bx (v).enc])] (zH Z34 Z1)) ?_)
     refine Ae (Aa rfl (iQ 1 (jU .not (.bool ok) 38 ?_)))
     intro c38 hc38
     refine iE 76 (zT [(7,.p 7 0),(8,Ba ok),(38,Ba c38)] (zT Z33 Z25)) (zH [(2,[.v (.nilIface)]),(7,[.bx (v).enc])] (zH Z34 Z1)) ?_
     cases c38
     ·replace hc38:=bf hc38
      refine iF (Ad (Af (Am rfl (iQ 3 (Fo (n:=((vs).length)) (cs:=(Av (vs))) (m:=1) (ds:=[.bx (v).enc]) (N:=((vs ++ [v]).length)) (es:=(Av (vs ++ [v]))) (j:=4) (e:=39) (z:=1) (dst:=(some 43)) (by kernel_rfl) (by first | rfl | omega | (rw[Nat.mul_one];exact Cr _) | (simp[dg];done) | (simp[dg];omega)) (by first | rfl | omega | (rw[Nat.mul_one];exact Cr _) | (simp[dg];done) | (simp[dg];omega)) (rfl) (by omega) (by simp) (Us) ?_)))))
      refine iQ 1 ?_
      let Z35:=zT [(4,.w (.sl ((vs ++ [v]).length) (Av (vs ++ [v]))) (some ⟨4,0,39,1⟩))] []
      refine iE 76 (zT [(7,.p 7 0),(8,Ba ok),(38,Ba false)] (zT Z35 Z33)) (zH [(2,[.v (.nilIface)]),(7,[.bx (v).enc])] (zH Z34 Z1)) ?_
      refine Ap (Af (Am rfl (jB .add 3 (.int .i64 z) (.int .i64 1) 44 ?_)))
      intro z44 hz44
      try replace hz44:=hz44.i64 (by omega)
      refine iQ 1 ?_
      let Z36:=zT [(1,.p 1 0),(2,.p 2 0),(3,Ba false),(6,.p 6 0),(7,.p 7 0),(8,Ba ok),(23,Ba false),(26,.d (.sl ((is).length) (Aq (is)))),(27,Ia ((((is).length:Nat):Int))),(28,Ia z44),(29,Ba true),(38,Ba false)] []
      refine iE 76 (zT Z36 Z35) (zH [(2,[.v (.nilIface)]),(7,[.bx (v).enc])] (zH Z34 Z1)) ?_
      refine Bm (j+1,vs ++ [v],z44) (⟨by omega,by omega,by simp;omega,a0j h4 hv.1⟩) (by show is.length-(j+1)<is.length-j;omega) (by kernel_rfl) (by kernel_rfl)
     ·replace hc38:=bt hc38
      refine iT (Aa rfl (iQ 3 (iE 76 (zT [(7,.p 7 0),(8,Ba ok),(38,Ba true)] (zT Z33 Z25)) (zH [(2,[.v (.nilIface)]),(7,[.bx (v).enc])] (zH Z34 Z1)) ?_)))
      refine Ab (Ag (Ai (Ag (Db (Ai (Ag (iS (.agg [.v (.nilIface)]) (Bv false) [] ?_)))))))
      exact ⟨_,.null,_,rfl,IsV.null,Bw,fun _=>rfl⟩
   ·replace hc21:=bt hc21
    refine iT (Aa rfl (iQ 3 ?_))
    let Z37:=zT [(1,.p 1 0),(2,.p 2 0),(3,Ba false),(23,Ba true)] []
    refine iE 76 Z37 (zH [(2,[.v (.nilIface)])] Z1) ?_
    refine Ab (Ag (iS (.agg [.v (.nilIface)]) (Bv false) [] ?_))
    exact ⟨_,.null,_,rfl,IsV.null,Bw,fun _=>rfl⟩
 ·replace hc12:=bt hc12
  refine iQ 10 ?_
  let Z38:=zT [(1,.p 1 0),(2,.p 2 0),(3,Ba false),(23,Ba true)] []
  refine iE 76 Z38 (zH [(2,[.v (.nilIface)])] Z1) ?_
  refine iT (Aa rfl (iQ 3 (iE 76 Z38 (zH [(2,[.v (.nilIface)])] Z1) ?_)))
  refine Ab (Ag (iS (.agg [.v (.nilIface)]) (Bv false) [] ?_))
  exact ⟨_,.null,_,rfl,IsV.null,Bw,fun _=>rfl⟩
set_option maxHeartbeats 3200000 in
theorem v_Of {k:Int} {t:L8} {is:List Dm} {ns:List L8} {p q:Bool} (hs:(Dm.mk k t is ns p q).small) (ih : ∀ (k:Int) (t:L8) (is':List Dm) (ns:List L8) (p q:Bool),Dm.mk k t is' ns p q ∈ is→HasC Tryz.prog 65 [a7w k t is' ns p q] (fun y => ∃ v ok,y=.tup [VV v,.v (.bool ok)]∧OfQ v ok)):HasC Tryz.prog 65 [.agg [.v (.int .i64 k),.v (.string (tx t)),.sl ((is).length) (Aq (is)),.sl ((ns).length) (Bf (ns)),.v (.bool p),.v (.bool q)]] (fun y => ∃ x v ok,y=.tup [x,.v (.bool ok)]∧IsV x v∧OfQ v ok):=by
 refine hO [3] Tryz.f65 (fun a w=>Tryz.call65 a w) Tryz.func65 rfl (⟨_,_,.null,false,rfl,IsV.null,Bw,fun _=>rfl⟩) ?_
 have hs':=hs
 rw[Dm.small] at hs'
 obtain ⟨hs1,hs2,hs3,hs4,hs5⟩:=hs'
 refine Aa rfl (iQ 3 ?_)
 let Z1:=zH [(1,[Iv k,Sv (tx t),.sl ((is).length) (Aq (is)),.sl ((ns).length) (Bf (ns)),Bv p,Bv q])] []
 refine iE 53 [(1,.p 1 0),(2,.p 2 0),(3,Ba false)] (zH [(2,[.v (.nilIface)])] Z1) ?_
 refine Ae (Aa rfl (iQ 2 ?_))
 let Z2:=zT [(1,.p 1 0),(2,.p 2 0),(3,Ba false),(6,Ia k)] []
 refine iE 53 Z2 (zH [(2,[.v (.nilIface)])] Z1) ?_
 refine Ak (Aa rfl (jB .eql 27 (.int .i64 k) (.int .i64 1) 8 ?_))
 intro c8 hc8
 refine iQ 1 (iE 53 (zT [(7,Ba c8)] Z2) (zH [(2,[.v (.nilIface)])] Z1) ?_)
 cases c8
 ·replace hc8:=bf hc8
  refine iF (Ae (Aa rfl (jB .eql 27 (.int .i64 k) (.int .i64 10) 26 ?_)))
  intro c26 hc26
  refine iQ 1 (iE 53 (zT [(7,Ba false),(25,Ba c26)] Z2) (zH [(2,[.v (.nilIface)])] Z1) ?_)
  cases c26
  ·replace hc26:=bf hc26
   refine iF (Aa rfl (jB .eql 27 (.int .i64 k) (.int .i64 11) 27 ?_))
   intro c27 hc27
   refine iQ 1 (iE 53 (zT [(7,Ba false),(25,Ba c27)] Z2) (zH [(2,[.v (.nilIface)])] Z1) ?_)
   cases c27
   ·replace hc27:=bf hc27
    refine iF (Am rfl (jB .eql 27 (.int .i64 k) (.int .i64 12) 28 ?_))
    intro c28 hc28
    refine iQ 1 (iE 53 (zT [(7,Ba false),(25,Ba c28)] Z2) (zH [(2,[.v (.nilIface)])] Z1) ?_)
    refine Af ?_
    cases c28
    ·replace hc28:=bf hc28
     refine iF (Ad (Ap (Af (Ae (Aa rfl (iQ 3 (jB .gtr 3 (.int .i64 ((((is).length:Nat):Int))) (.int .i64 0) 36 ?_)))))))
     intro c36 hc36
     refine iQ 1 ?_
     cases c36
     ·replace hc36:=bf hc36
      refine iQ 3 (jB .gtr 3 (.int .i64 ((((ns).length:Nat):Int))) (.int .i64 0) 41 ?_)
      intro c41 hc41
      refine iQ 1 (iE 53 (zT [(7,Ba false),(25,Ba false),(42,Ba c41)] Z2) (zH [(2,[.v (.nilIface)])] Z1) ?_)
      cases c41
      ·replace hc41:=bf hc41
       refine iF (Ad (Af (Aa rfl (iQ 4 (jC 97 [Iv k,Sv (tx t)] 48 (b7u hs1) ?_)))))
       rintro _ ⟨v,rfl,hv⟩
       refine iQ 2 ?_
       let Z3:=zT [(4,.p 4 0),(7,Ba false),(25,Ba false),(42,Ba false)] []
       refine iE 53 (zT Z3 Z2) (zH [(2,[.v (.nilIface)]),(4,[.bx (v).enc])] Z1) ?_
       refine Aa rfl (iQ 2 (jC 17 [.agg [.bx (v).enc]] 51 (Ay (v:=v)) ?_))
       rintro _ ⟨n,rfl,hn⟩
       refine jU .not (.bool n) 52 ?_
       intro c52 hc52
       refine iQ 2 ?_
       let Z4:=zT [(1,.p 1 0),(2,.p 2 0),(3,Ba c52),(6,Ia k)] []
       refine iE 53 (zT Z4 Z3) (zH [(2,[.bx (v).enc]),(4,[.bx (v).enc])] Z1) ?_
       refine Ab (iS (.agg [.bx (v).enc]) (Bv c52) [] ?_)
       exact ⟨_,v,c52,rfl,.inl rfl,hv,fun h=>(Hy).1 (hn.1 (by cases n;exact absurd (hc52.2 rfl) (by rw[h];simp);rfl))⟩
      ·replace hc41:=bt hc41
       refine iT (Aa rfl (iQ 3 ?_))
       let Z5:=zT [(7,Ba false),(25,Ba false),(42,Ba true)] []
       refine iE 53 (zT Z5 Z2) (zH [(2,[.v (.nilIface)])] Z1) ?_
       refine Ab (Ag (iS (.agg [.v (.nilIface)]) (Bv false) [] ?_))
       exact ⟨_,.null,_,rfl,IsV.null,Bw,fun _=>rfl⟩
     ·replace hc36:=bt hc36
      refine iQ 5 ?_
      let Z6:=zT [(7,Ba false),(25,Ba false),(42,Ba true)] []
      refine iE 53 (zT Z6 Z2) (zH [(2,[.v (.nilIface)])] Z1) ?_
      refine iT (Aa rfl (iQ 3 (iE 53 (zT Z2 Z6) (zH [(2,[.v (.nilIface)])] Z1) ?_)))
      refine Ab (Ag (iS (.agg [.v (.nilIface)]) (Bv false) [] ?_))
      exact ⟨_,.null,_,rfl,IsV.null,Bw,fun _=>rfl⟩
    ·replace hc28:=bt hc28
     refine iT (Aa rfl (iQ 1 (jC 96 [.agg [Iv k,Sv (tx t),.sl ((is).length) (Aq (is)),.sl ((ns).length) (Bf (ns)),Bv p,Bv q]] 30 ((b74 hs ih).isVb) ?_)))
     rintro _ ⟨v,ok,rfl,hv⟩
     refine iQ 4 ?_
     let Z7:=zT [(1,.p 1 0),(2,.p 2 0),(3,Ba ok),(6,Ia k),(7,Ba false),(25,Ba true)] []
     refine iE 53 Z7 (zH [(2,[.bx (v).enc])] Z1) ?_
     refine Ab (Ai (Ag (iS (.agg [.bx (v).enc]) (Bv ok) [] ?_)))
     exact ⟨_,v,ok,rfl,.inl rfl,hv⟩
   ·replace hc27:=bt hc27
    refine iT (Ad (Af (iT (Aa rfl (iQ 1 (jC 96 [.agg [Iv k,Sv (tx t),.sl ((is).length) (Aq (is)),.sl ((ns).length) (Bf (ns)),Bv p,Bv q]] 30 ((b74 hs ih).isVb) ?_))))))
    rintro _ ⟨v,ok,rfl,hv⟩
    refine iQ 4 ?_
    let Z8:=zT [(1,.p 1 0),(2,.p 2 0),(3,Ba ok),(6,Ia k),(7,Ba false),(25,Ba true)] []
    refine iE 53 Z8 (zH [(2,[.bx (v).enc])] Z1) ?_
    refine Ab (Ai (Ag (iS (.agg [.bx (v).enc]) (Bv ok) [] ?_)))
    exact ⟨_,v,ok,rfl,.inl rfl,hv⟩
  ·replace hc26:=bt hc26
   refine iT (Ad (Af (iT (Aa rfl (iQ 1 (jC 96 [.agg [Iv k,Sv (tx t),.sl ((is).length) (Aq (is)),.sl ((ns).length) (Bf (ns)),Bv p,Bv q]] 30 ((b74 hs ih).isVb) ?_))))))
   rintro _ ⟨v,ok,rfl,hv⟩
   refine iQ 4 ?_
   let Z9:=zT [(1,.p 1 0),(2,.p 2 0),(3,Ba ok),(6,Ia k),(7,Ba false),(25,Ba true)] []
   refine iE 53 Z9 (zH [(2,[.bx (v).enc])] Z1) ?_
   refine Ab (Ai (Ag (iS (.agg [.bx (v).enc]) (Bv ok) [] ?_)))
   exact ⟨_,v,ok,rfl,.inl rfl,hv⟩
 ·replace hc8:=bt hc8
  refine iT (Rw rfl (by kernel_rfl) ?_)
  refine iQ 3 (jB .eql 9 (.string (tx t)) (.string (⟨#[]⟩)) 12 ?_)
  intro c12 hc12
  refine iQ 1 ?_
  cases c12
  ·replace hc12:=bf hc12
   refine iQ 13 (iE 53 (zT [(7,Ba true)] Z2) (zH [(2,[.v (.nilIface)])] Z1) ?_)
   refine Ab (Ai (Ag (iS (.agg [.v (.nilIface)]) (Bv false) [] ?_)))
   exact ⟨_,.null,_,rfl,IsV.null,Bw,fun _=>rfl⟩
  ·replace hc12:=bt hc12
   refine iQ 3 (jB .eql 3 (.int .i64 ((((is).length:Nat):Int))) (.int .i64 0) 17 ?_)
   intro c17 hc17
   refine iQ 2 ?_
   cases c17
   ·replace hc17:=bf hc17
    refine iQ 7 (iE 53 (zT [(7,Ba true)] Z2) (zH [(2,[.v (.nilIface)])] Z1) ?_)
    refine Ab (Ai (Ag (iS (.agg [.v (.nilIface)]) (Bv false) [] ?_)))
    exact ⟨_,.null,_,rfl,IsV.null,Bw,fun _=>rfl⟩
   ·replace hc17:=bt hc17
    refine iQ 3 (jB .eql 3 (.int .i64 ((((ns).length:Nat):Int))) (.int .i64 0) 23 ?_)
    intro c23 hc23
    refine iQ 3 ?_
    let Z10:=zT [(1,.p 1 0),(2,.p 2 0),(3,Ba c23),(6,Ia k),(7,Ba true)] []
    refine iE 53 Z10 (zH [(2,[.v (.nilIface)])] Z1) ?_
    refine Ab (Ai (Ag (iS (.agg [.v (.nilIface)]) (Bv c23) [] ?_)))
    exact ⟨_,.null,_,rfl,IsV.null,Bw,fun _=>rfl⟩
theorem b5z (k:Int) (t:L8) (is:List Dm) (ns:List L8) (p q:Bool) (hs:(Dm.mk k t is ns p q).small):HasC Tryz.prog 65 [a7w k t is ns p q] (fun y => ∃ v ok,y=.tup [VV v,.v (.bool ok)]∧OfQ v ok) :=
 (v_Of hs fun k' t' is' ns' p' q' hm=>b5z k' t' is' ns' p' q' (by rw[Dm.small] at hs;exact Sc.1 hs.2.2.2.2 _ hm)).isVb
termination_by SizeOf.sizeOf is
decreasing_by
 have:=List.sizeOf_lt_of_mem hm
 simp at this
 omega
end Go.Proofs.YtdkgnmiiibpnnaaGreatDoor
