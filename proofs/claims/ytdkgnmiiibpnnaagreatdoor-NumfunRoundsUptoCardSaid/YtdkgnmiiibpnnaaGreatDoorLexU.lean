/- strings.Split, strings.Cut, strings.Count at a sign of one byte: the kit's contracts, as what reads so. lexical: what is read of a text, of days, times and moments; LexicalReads. lexical: what is read of a text, of times and moments; LexicalReads. -/
import Derived.Test.YtdkgnmiiibpnnaaGreatDoorLayZ
import Derived.Test.YtdkgnmiiibpnnaaGreatDoorIto
import Derived.Lib.SplitLaws
import Derived.Lib.CutLaws
import Derived.Sort.Grow
import Derived.Test.YtdkgnmiiibpnnaaGreatDoorLexW
namespace Go.Proofs.YtdkgnmiiibpnnaaGreatDoor
open Go.Shelf Go.RowKit
set_option linter.unusedVariables false
set_option linter.unusedSimpArgs false
set_option maxRecDepth 100000
theorem Kw.maxLen {w:World} (h:Kw w) : ∃ m,w.cell? ⟨2,0,none⟩=some (.int .i64 m):=by
 rcases h.mx with h | ⟨cs,h1,m,rfl⟩
 ·have h2:(Tryz.prog.globalNamed "internal/bytealg.MaxLen").isSome=true:=by kernel_rfl
  rw[h] at h2
  cases h2
 ·have:=World.var?_cell (show Tryz.prog.globalNamed "internal/bytealg.MaxLen" = some 2 by kernel_rfl) h1 0
  exact ⟨m,by rw[this];rfl⟩
theorem a5f {Im:Nat→Nat→Prop} {W:World} {ds:List DV} {vs:List Value} {us:Array Value} (hb:ds.map DV.base=vs.map some) (hr:DV.relL Im W ds us.toList):us=vs.toArray:=by
 apply Array.ext'
 have hl:=DV.relL_length hr
 have hl2:ds.length=vs.length:=by have:=congrArg List.length hb;simpa using this
 apply List.ext_getElem?
 intro i
 by_cases hi:i<ds.length
 ·obtain ⟨y,hy,hry⟩:=DV.relL_get hr (show ds[i]? = some ds[i] by simp[hi])
  have hbi:(ds.map DV.base)[i]? = (vs.map some)[i]? := by rw[hb]
  simp[hi,show i<vs.length by omega] at hbi
  rw[hy,DV.base_rel hbi hry]
  simp[show i<vs.length by omega]
 ·rw[List.getElem?_eq_none (by omega),List.getElem?_eq_none (by simp;omega)]
def Pf (c:UInt8):List L8→L8
 | []=>[]
 | [p]=>p
 | p::q::r=>p ++ c::Pf c (q::r)
def Bp (ps:List L8):List DV:=ps.map fun p=>.v (.string (tx p))
@[simp] theorem a6w (ps:List L8):(Bp ps).length=ps.length:=by simp[Bp]
theorem Mn {ps:List L8} {i:Nat} {p:L8} (h:ps[i]? = some p):(Bp ps)[((i:Nat):Int).toNat]? = some (.v (.string (tx p))):=by simp[Bp,h]
theorem b1t {s:ByteArray} {c:UInt8} {i:Nat} (h:Lib.indexB s (tx [c])=i):i<s.size∧s.data.toList[i]? = some c:=by
 have h1:Lib.index s.data.toList [c]=(i:Int):=h
 rcases Lib.index_spec s.data.toList [c] with ⟨h2,_⟩ | ⟨j,h2,h3,h4,_⟩
 ·rw[h2] at h1;omega
 ·obtain rfl:j=i:=by omega
  have h5:(s.data.toList.drop j).head?=some c:=by
   unfold Lib.occAt at h4
   cases hd:s.data.toList.drop j with
   | nil=>rw[hd] at h4;cases h4
   | cons a r =>
    rw[hd] at h4
    simp at h4
    rw[h4]
    rfl
  rw[List.head?_drop] at h5
  refine ⟨?_,h5⟩
  have:=(List.getElem?_eq_some_iff.1 h5).1
  simpa using this
theorem b15 {l:L8} {c:UInt8} {i:Nat} (h:l[i]? = some c):l=l.take i ++ c::l.drop (i+1):=by
 obtain ⟨h1,h2⟩:=List.getElem?_eq_some_iff.1 h
 rw[← h2,← List.drop_eq_getElem_cons h1,List.take_append_drop]
theorem a1j (s:ByteArray) (a b:Nat):(s.extract a b).data.toList=(s.data.toList.drop a).take (b-a):=by
 have h:=Bs s.data.toList a b
 rw[← Wk] at h
 rw[h]
 rfl
theorem Qr (c:UInt8) : ∀ (k:Nat) (s:ByteArray),(Lib.splitB (tx [c]) 0 k s)≠[]∧Pf c ((Lib.splitB (tx [c]) 0 k s).map fun b=>b.data.toList)=s.data.toList
 | 0,s=>by simp[Lib.splitB_zero,Pf]
 | k+1,s=>by
  rcases Lib.indexB_cases s (tx [c]) with h | ⟨i,h,_⟩
  ·rw[Lib.splitB_miss _ _ _ _ h]
   simp[Pf]
  ·rw[Lib.splitB_hit _ _ _ _ i h]
   obtain ⟨h1,h2⟩:=b1t h
   obtain ⟨q1,q2⟩:=Qr c k (s.extract (i+(tx [c]).size) s.size)
   refine ⟨by simp,?_⟩
   cases hr:Lib.splitB (tx [c]) 0 k (s.extract (i+(tx [c]).size) s.size) with
   | nil=>exact absurd hr q1
   | cons a r =>
    rw[hr] at q2
    simp only[List.map_cons,Pf] at q2 ⊢
    rw[q2]
    have e1:(s.extract 0 (i+0)).data.toList=s.data.toList.take i:=by rw[a1j];rfl
    have e2:(s.extract (i+(tx [c]).size) s.size).data.toList=s.data.toList.drop (i+1):=by
     rw[a1j,Aj,List.length_singleton]
     exact List.take_of_length_le (by rw[List.length_drop,Array.length_toList];exact Nat.le_refl _)
    rw[e1,e2]
    exact (b15 h2).symm
theorem a52 (W:World) (bs:List ByteArray) (t:TypeId) {i:Nat} (h:i<bs.length):(W.alloc (.cells (bs.map Value.string).toArray t)).cell? ⟨W.heap.size,i,none⟩=some (.string bs[i]):=by
 rw[World.cell?_alloc_new,List.getElem?_toArray,List.getElem?_map,List.getElem?_eq_getElem h]
 rfl
def SpP (c:UInt8) (l:L8) (r:DV):Prop := ∃ ps:List L8,r=.sl ps.length (Bp ps)∧Pf c ps=l∧ps.length≤4294967300
theorem a45 {l:L8} {c:UInt8} (hl:l.length<4294967281):HasC Tryz.prog 143 [.v (.string (tx l)),.v (.string (tx [c]))] (SpP c l):=by
 refine ⟨fun args w=>Tryz.call143 args w,⟨_,[l],rfl,rfl,by rw[List.length_singleton];omega⟩,fun W vs Im hK hIm hr => ?_⟩
 obtain rfl:=a5f (vs:=[.string (tx l),.string (tx [c])]) rfl hr
 obtain ⟨m,hm⟩:=hK.maxLen
 have hs:(tx l).size<4294967281:=by rw[Aj];exact hl
 have h1:1≤(tx [c]).size:=by rw[Aj];exact Nat.le_refl _
 have hlen:=Lib.splitB_all (tx [c]) h1 0 _ (tx l) rfl
 have hcl:=Lib.countB_le (tx [c]) h1 (tx l).size (tx l) (Nat.le_refl _)
 obtain ⟨j1,j2⟩:=Qr c (Lib.countB (tx l) (tx [c])) (tx l)
 refine (Any.strings_Split a5a (by kernel_rfl) (tx l) (tx [c]) m W hs hm h1).mono fun e w' ⟨he,hw⟩ => ?_
 obtain ⟨bs,hbs⟩ : ∃ bs,bs=Lib.splitB (tx [c]) 0 (Lib.countB (tx l) (tx [c])) (tx l):=⟨_,rfl⟩
 rw[← hbs] at hlen j1 j2 hw
 rw[← hlen] at he
 subst hw
 have hB:Below W.heap.size W (W.alloc (.cells (bs.map Value.string).toArray (laysSplit_ren.t 9))):=(Below.refl _ _).alloc (Nat.le_refl _) _
 have hbl:bs.length≤4294967281:=by omega
 refine ⟨_,.sl bs.length (Bp (bs.map fun b=>b.data.toList)),he,⟨bs.map fun b=>b.data.toList,by rw[List.length_map],j2,by rw[List.length_map];omega⟩,?_,hB⟩
 rw[DV.rel]
 refine .inr ⟨_,_,_,rfl,Nat.le_refl _,Nat.le_trans hbl (by decide),DV.relC_mk fun i d hd => ?_⟩
 obtain ⟨hi,he⟩:=List.getElem?_eq_some_iff.1 hd
 have hib:i<bs.length:=by rw[a6w,List.length_map] at hi;exact hi
 refine ⟨.inr ⟨Nat.le_refl _,by rw[World.alloc,Array.size_push];exact Nat.lt_succ_self _⟩,.string bs[i],?_,?_⟩
 ·rw[Nat.zero_add]
  exact a52 W bs _ hib
 ·rw[← he]
  simp only[Bp,List.getElem_map]
  rw[DV.rel,← Wk]
def CutP (c:UInt8) (l:L8) (r:DV):Prop := ∃ (a b:L8) (g:Bool),r=.tup [.v (.string (tx a)),.v (.string (tx b)),.v (.bool g)]∧(g=true→l=a ++ c::b)∧a.length≤l.length∧b.length≤l.length
theorem b71 {l:L8} {c:UInt8} (hl:l.length<4294967281):HasC Tryz.prog 153 [.v (.string (tx l)),.v (.string (tx [c]))] (CutP c l) :=
 (HasC.ofCallsK (vs:=[.string (tx l),.string (tx [c])]) (R:=fun r => ∃ (a b:L8) (g:Bool),r=.tuple #[.string (tx a),.string (tx b),.bool g]∧(g=true→l=a ++ c::b)∧a.length≤l.length∧b.length≤l.length) (fun args w=>Tryz.call153 args w)
  ⟨_,l,[],false,rfl,(fun h=>by cases h),Nat.le_refl _,by simp⟩ rfl fun w hk=>by
   obtain ⟨m,hm⟩:=hk.maxLen
   have hs:(tx l).size<4294967281:=by rw[Aj];exact hl
   refine (Any.strings_Cut b23 (tx l) (tx [c]) m w hs hm).mono fun e w' ⟨he,n,hw⟩=>⟨_,he,⟨(Lib.cut l [c]).1,(Lib.cut l [c]).2.1,(Lib.cut l [c]).2.2,rfl,?_,?_,?_⟩,by rw[hw];exact Rn w n #[]⟩
   ·unfold Lib.cut
    split
    ·rename_i h
     intro _
     have h1:Lib.indexB (tx l) (tx [c])=((Lib.index l [c]).toNat:Int):=by
      show Lib.index l [c]=_
      omega
     exact b15 (b1t h1).2
    ·intro h;cases h
   ·unfold Lib.cut
    split
    ·simp;omega
    ·simp
   ·unfold Lib.cut
    split
    ·simp
    ·simp).mono fun y ⟨r,⟨a,b,g,hr,h1,h2,h3⟩,hy⟩=>⟨a,b,g,by rw[hy,hr];rfl,h1,h2,h3⟩
theorem b3p {l:L8} {c:UInt8} (hl:l.length<4294967281):HasC Tryz.prog 150 [.v (.string (tx l)),.v (.string (tx [c]))] (fun y => ∃ n:Nat,y=.v (.int .i64 (n:Int))∧n≤l.length) :=
 (HasC.ofCallsK (vs:=[.string (tx l),.string (tx [c])]) (R:=fun r => ∃ n:Nat,r=.int .i64 (n:Int)∧n≤l.length) (fun args w=>Tryz.call150 args w) ⟨_,0,rfl,Nat.zero_le _⟩ rfl fun w hk =>
  (Any.strings_Count_one a6m (tx l) c w).mono fun e w' ⟨he,hw⟩=>⟨_,he,⟨Lib.countByte l c,rfl,List.count_le_length⟩,by rw[hw];exact Below.refl _ _⟩).mono fun y ⟨r,⟨n,hr,h⟩,hy⟩=>⟨n,by rw[hy,hr];rfl,h⟩
open Go.RowKit
set_option linter.unusedVariables false
set_option linter.unusedSimpArgs false
set_option maxRecDepth 100000
theorem b56 {ps:List L8} {c:UInt8} {l:L8} (h:Pf c ps=l) (h3:ps.length=3) : ∃ a b d,ps=[a,b,d]∧l=a ++ c::(b ++ c::d):=by
 match ps,h3 with
 | [a,b,d],_=>exact ⟨a,b,d,rfl,h.symm⟩
theorem Yp {lo hi n:Nat} {l:L8} {g:Bool} (h:g=true∧Gl lo hi l=some n∨g=false∧Gl lo hi l=none∧n=0):n<10 ^ hi:=by
 rcases h with ⟨_,h⟩ | ⟨_,_,rfl⟩
 ·unfold Gl at h
  split at h
  ·rename_i hc
   cases h
   exact Fy hc.2.2 hc.2.1
  ·cases h
 ·exact Nat.pow_pos (by decide)
def b1o (l:L8) (r:DV):Prop := ∃ (y m d:Int) (ok:Bool),r=.tup [.agg [.v (.int .i64 y),.v (.int .i64 m),.v (.int .i64 d)],.v (.bool ok)]∧(ok=true∧Io y m d∧l=Vn y m d∨ok=false∧y=0∧m=0∧d=0)
theorem Ei (l:L8):b1o l (.tup [.agg [.v (.int .i64 0),.v (.int .i64 0),.v (.int .i64 0)],.v (.bool false)]):=⟨0,0,0,false,rfl,.inr ⟨rfl,rfl,rfl,rfl⟩⟩
theorem b1v {y m d:Int} {l:L8} (h:tx (Mz y m d)=tx l) (h0:l≠[]):Io y m d∧l=Vn y m d:=by
 have h1:=Rc h
 unfold Mz at h1
 split at h1
 ·rename_i hm
  exact ⟨hm,h1.symm⟩
 ·exact absurd h1.symm h0
theorem Vs {y m d:Int} {l:L8} (h:tx (Mz y m d)=tx l) (h0:l≠[]):b1o l (.tup [.agg [.v (.int .i64 y),.v (.int .i64 m),.v (.int .i64 d)],.v (.bool true)]):=⟨y,m,d,true,rfl,.inl ⟨rfl,b1v h h0⟩⟩
theorem Rf {l:L8} (hL:l.length<4294967281):HasC Tryz.prog 123 [.v (.string (tx l))] (b1o l):=by
 refine hO [] Tryz.f123 (fun a w=>Tryz.call123 a w) Tryz.func123 rfl (⟨_,Ei l⟩) ?_
 refine Aa rfl (iQ 2 ?_)
 let Z1:=zT [(0,.d (Sv (tx l))),(2,.p 2 0),(3,Ba false)] []
 refine iE 67 Z1 [(2,[Iv 0,Iv 0,Iv 0])] ?_
 refine Aa rfl (iQ 1 (eC 141 [Sv (tx l),Sv (⟨#[45]⟩)] 13 (Za) ?_))
 have hul:=(Py l).1
 refine jC 143 [Sv (tx (Bh l).1),Sv (⟨#[45]⟩)] 14 (a45 (c:=45) (by omega)) ?_
 rintro _ ⟨ps,rfl,hj,hpl⟩
 refine iQ 1 (iE 67 (zT [(4,.d (.sl ps.length (Bp ps)))] Z1) [(2,[Iv 0,Iv 0,Iv 0])] ?_)
 refine Ae (Aa rfl (iQ 2 (jB .neq 3 (.int .i64 (((ps.length:Nat):Int))) (.int .i64 3) 17 ?_)))
 intro c17 hc17
 let Z2:=zT [(4,.d (.sl ps.length (Bp ps))),(17,Ba c17)] []
 refine iE 67 (zT Z2 Z1) [(2,[Iv 0,Iv 0,Iv 0])] ?_
 cases c17
 ·replace hc17:=bf hc17
  obtain ⟨p0,p1,p2,hps,hl3⟩:=b56 hj (by omega)
  have h0:l≠[]:=fun e=>by have h9:=congrArg List.length hl3;rw[e] at hul;simp only[List.length_append,List.length_cons,List.length_nil] at h9 hul;rw[e] at h9;omega
  have h00:0<l.length:=List.length_pos_iff.2 h0
  refine iF (Ad (Af (Aa rfl (iQ 1 (Bi (q:=0) (n:=ps.length) (cs:=(Bp ps)) (d:=.v (.string (tx p0))) (dst:=(some 21)) (by kernel_rfl) (by omega) (Mn (i:=0) (by rw[hps];rfl)) ?_)))))
  refine iQ 1 (jC 144 [Sv (tx p0),Iv 4,Iv 9] 23 (Jq (l:=p0) (lo:=4) (hi:=9) (by decide)) ?_)
  rintro _ ⟨y,g1,rfl,h1⟩
  have hy:=Yp h1
  refine iQ 5 ?_
  let Z3:=zT [(4,.d (.sl ps.length (Bp ps))),(5,Ia ((y:Int))),(6,Ba g1),(17,Ba false)] []
  refine iE 67 (zT Z3 Z1) [(2,[Iv 0,Iv 0,Iv 0])] ?_
  refine Aa rfl (iQ 1 (Bi (q:=1) (n:=ps.length) (cs:=(Bp ps)) (d:=.v (.string (tx p1))) (dst:=(some 28)) (by kernel_rfl) (by omega) (Mn (i:=1) (by rw[hps];rfl)) ?_))
  refine iQ 1 (jC 144 [Sv (tx p1),Iv 2,Iv 2] 30 (Jq (l:=p1) (lo:=2) (hi:=2) (by decide)) ?_)
  rintro _ ⟨m,g2,rfl,h2⟩
  refine iQ 5 (iE 67 (zT [(7,Ia ((m:Int))),(8,Ba g2)] (zT Z3 Z1)) [(2,[Iv 0,Iv 0,Iv 0])] ?_)
  refine Aa rfl (iQ 1 (Bi (q:=2) (n:=ps.length) (cs:=(Bp ps)) (d:=.v (.string (tx p2))) (dst:=(some 35)) (by kernel_rfl) (by omega) (Mn (i:=2) (by rw[hps];rfl)) ?_))
  refine iQ 1 (jC 144 [Sv (tx p2),Iv 2,Iv 2] 37 (Jq (l:=p2) (lo:=2) (hi:=2) (by decide)) ?_)
  rintro _ ⟨d,g3,rfl,h3⟩
  refine iQ 5 ?_
  let Z4:=zT [(0,.d (Sv (tx l))),(2,.p 2 0),(3,Ba false),(4,.d (.sl ps.length (Bp ps))),(5,Ia ((y:Int))),(6,Ba g1),(7,Ia ((m:Int))),(8,Ba g2),(9,Ia ((d:Int))),(10,Ba g3),(17,Ba false)] []
  refine iE 67 Z4 [(2,[Iv 0,Iv 0,Iv 0])] ?_
  refine Ae (Aa rfl (iQ 1 (jX 9 (.string (tx l)) (.int .i64 0) 41 ?_)))
  refine And.intro (by rw[Aj];omega) ?_
  intro z41 hz41
  refine jB .eql 5 (.int .u8 z41) (.int .u8 45) 42 ?_
  intro c42 hc42
  refine iE 67 (zT [(42,Ba c42)] Z4) [(2,[Iv 0,Iv 0,Iv 0])] ?_
  cases c42
  ·replace hc42:=bf hc42
   refine iF (Ad (Af (Aa rfl (iQ 6 ?_))))
   let Z5:=zT [(0,.d (Sv (tx l))),(2,.p 2 0),(3,Ba false),(4,.d (.sl ps.length (Bp ps))),(5,Ia ((y:Int))),(6,Ba g1),(8,Ba g2),(10,Ba g3),(11,.p 11 0),(17,Ba false),(42,Ba false)] []
   let Z6:=zH [(11,[Iv ((y:Int)),Iv ((m:Int)),Iv ((d:Int))])] []
   refine iE 67 Z5 (zH [(2,[Iv 0,Iv 0,Iv 0])] Z6) ?_
   refine Ae (Aa rfl (iQ 1 (jU .not (.bool g1) 50 ?_)))
   intro c50 hc50
   refine iQ 1 ?_
   cases c50
   ·replace hc50:=bf hc50
    refine iQ 1 (jU .not (.bool g2) 53 ?_)
    intro c53 hc53
    refine iQ 2 ?_
    cases c53
    ·replace hc53:=bf hc53
     refine iQ 1 (jU .not (.bool g3) 57 ?_)
     intro c57 hc57
     refine iQ 2 ?_
     cases c57
     ·replace hc57:=bf hc57
      refine iQ 1 (eC 145 [.agg [Iv ((y:Int)),Iv ((m:Int)),Iv ((d:Int))]] 61 (Vj) (iQ 1 (jB .neq 9 (.string (tx (Mz (y:Int) (m:Int) (d:Int)))) (.string (tx l)) 63 ?_)))
      intro c63 hc63
      refine iQ 1 ?_
      let Z7:=zT [(0,.d (Sv (tx l))),(2,.p 2 0),(3,Ba false),(4,.d (.sl ps.length (Bp ps))),(5,Ia ((y:Int))),(11,.p 11 0),(17,Ba false),(42,Ba false),(64,Ba c63)] []
      refine iE 67 Z7 (zH [(2,[Iv 0,Iv 0,Iv 0])] Z6) ?_
      cases c63
      ·replace hc63:=bf hc63
       refine iF (Ad (Af (Aa rfl (iQ 3 ?_))))
       let Z8:=zT [(0,.d (Sv (tx l))),(2,.p 2 0),(3,Ba true),(4,.d (.sl ps.length (Bp ps))),(5,Ia ((y:Int))),(11,.p 11 0),(17,Ba false),(42,Ba false),(64,Ba false)] []
       let Z9:=zH [(2,[Iv ((y:Int)),Iv ((m:Int)),Iv ((d:Int))])] []
       refine iE 67 Z8 (zH Z9 Z6) ?_
       refine Ab (iS (.agg [Iv ((y:Int)),Iv ((m:Int)),Iv ((d:Int))]) (Bv true) [] ?_)
       exact Vs (Classical.not_not.1 hc63) h0
      ·replace hc63:=bt hc63
       refine iT (Aa rfl (iQ 3 ?_))
       let Z10:=zT [(0,.d (Sv (tx l))),(2,.p 2 0),(3,Ba false),(4,.d (.sl ps.length (Bp ps))),(5,Ia ((y:Int))),(11,.p 11 0),(17,Ba false),(42,Ba false),(64,Ba true)] []
       refine iE 67 Z10 (zH [(2,[Iv 0,Iv 0,Iv 0])] Z6) ?_
       refine Ab (Ag (iS (.agg [Iv 0,Iv 0,Iv 0]) (Bv false) [] ?_))
       exact Ei l
     ·replace hc57:=bt hc57
      refine iQ 5 ?_
      let Z11:=zT [(0,.d (Sv (tx l))),(2,.p 2 0),(3,Ba false),(4,.d (.sl ps.length (Bp ps))),(5,Ia ((y:Int))),(11,.p 11 0),(17,Ba false),(42,Ba false),(64,Ba true)] []
      refine iE 67 Z11 (zH [(2,[Iv 0,Iv 0,Iv 0])] Z6) ?_
      refine iT (Aa rfl (iQ 3 (iE 67 Z11 (zH [(2,[Iv 0,Iv 0,Iv 0])] Z6) ?_)))
      refine Ab (Ag (iS (.agg [Iv 0,Iv 0,Iv 0]) (Bv false) [] ?_))
      exact Ei l
    ·replace hc53:=bt hc53
     refine iQ 9 ?_
     let Z12:=zT [(0,.d (Sv (tx l))),(2,.p 2 0),(3,Ba false),(4,.d (.sl ps.length (Bp ps))),(5,Ia ((y:Int))),(11,.p 11 0),(17,Ba false),(42,Ba false),(64,Ba true)] []
     refine iE 67 Z12 (zH [(2,[Iv 0,Iv 0,Iv 0])] Z6) ?_
     refine iT (Aa rfl (iQ 3 (iE 67 Z12 (zH [(2,[Iv 0,Iv 0,Iv 0])] Z6) ?_)))
     refine Ab (Ag (iS (.agg [Iv 0,Iv 0,Iv 0]) (Bv false) [] ?_))
     exact Ei l
   ·replace hc50:=bt hc50
    refine iQ 13 ?_
    let Z13:=zT [(0,.d (Sv (tx l))),(2,.p 2 0),(3,Ba false),(4,.d (.sl ps.length (Bp ps))),(5,Ia ((y:Int))),(11,.p 11 0),(17,Ba false),(42,Ba false),(64,Ba true)] []
    refine iE 67 Z13 (zH [(2,[Iv 0,Iv 0,Iv 0])] Z6) ?_
    refine iT (Aa rfl (iQ 3 (iE 67 Z13 (zH [(2,[Iv 0,Iv 0,Iv 0])] Z6) ?_)))
    refine Ab (Ag (iS (.agg [Iv 0,Iv 0,Iv 0]) (Bv false) [] ?_))
    exact Ei l
  ·replace hc42:=bt hc42
   refine iT (Am rfl (iQ 1 (jU .neg (.int .i64 ((y:Int))) 44 ?_)))
   intro z44 hz44
   try replace hz44:=hz44.i64 (by omega)
   refine iQ 1 ?_
   let Z14:=zT [(0,.d (Sv (tx l))),(2,.p 2 0),(3,Ba false),(4,.d (.sl ps.length (Bp ps))),(5,Ia z44),(6,Ba g1),(7,Ia ((m:Int))),(8,Ba g2),(9,Ia ((d:Int))),(10,Ba g3),(17,Ba false),(42,Ba true)] []
   refine iE 67 Z14 [(2,[Iv 0,Iv 0,Iv 0])] ?_
   refine Af (Aa rfl (iQ 6 ?_))
   let Z15:=zT [(0,.d (Sv (tx l))),(2,.p 2 0),(3,Ba false),(4,.d (.sl ps.length (Bp ps))),(5,Ia z44),(6,Ba g1),(8,Ba g2),(10,Ba g3),(11,.p 11 0),(17,Ba false),(42,Ba true)] []
   let Z16:=zH [(11,[Iv z44,Iv ((m:Int)),Iv ((d:Int))])] []
   refine iE 67 Z15 (zH [(2,[Iv 0,Iv 0,Iv 0])] Z16) ?_
   refine Ae (Aa rfl (iQ 1 (jU .not (.bool g1) 50 ?_)))
   intro c50 hc50
   refine iQ 1 ?_
   cases c50
   ·replace hc50:=bf hc50
    refine iQ 1 (jU .not (.bool g2) 53 ?_)
    intro c53 hc53
    refine iQ 2 ?_
    cases c53
    ·replace hc53:=bf hc53
     refine iQ 1 (jU .not (.bool g3) 57 ?_)
     intro c57 hc57
     refine iQ 2 ?_
     cases c57
     ·replace hc57:=bf hc57
      refine iQ 1 (eC 145 [.agg [Iv z44,Iv ((m:Int)),Iv ((d:Int))]] 61 (Vj) (iQ 1 (jB .neq 9 (.string (tx (Mz z44 (m:Int) (d:Int)))) (.string (tx l)) 63 ?_)))
      intro c63 hc63
      refine iQ 1 ?_
      let Z17:=zT [(0,.d (Sv (tx l))),(2,.p 2 0),(3,Ba false),(4,.d (.sl ps.length (Bp ps))),(5,Ia z44),(11,.p 11 0),(17,Ba false),(42,Ba true),(64,Ba c63)] []
      refine iE 67 Z17 (zH [(2,[Iv 0,Iv 0,Iv 0])] Z16) ?_
      cases c63
      ·replace hc63:=bf hc63
       refine iF (Ad (Af (Aa rfl (iQ 3 ?_))))
       let Z18:=zT [(0,.d (Sv (tx l))),(2,.p 2 0),(3,Ba true),(4,.d (.sl ps.length (Bp ps))),(5,Ia z44),(11,.p 11 0),(17,Ba false),(42,Ba true),(64,Ba false)] []
       let Z19:=zH [(2,[Iv z44,Iv ((m:Int)),Iv ((d:Int))])] []
       refine iE 67 Z18 (zH Z19 Z16) ?_
       refine Ab (iS (.agg [Iv z44,Iv ((m:Int)),Iv ((d:Int))]) (Bv true) [] ?_)
       exact Vs (Classical.not_not.1 hc63) h0
      ·replace hc63:=bt hc63
       refine iT (Aa rfl (iQ 3 ?_))
       let Z20:=zT [(0,.d (Sv (tx l))),(2,.p 2 0),(3,Ba false),(4,.d (.sl ps.length (Bp ps))),(5,Ia z44),(11,.p 11 0),(17,Ba false),(42,Ba true),(64,Ba true)] []
       refine iE 67 Z20 (zH [(2,[Iv 0,Iv 0,Iv 0])] Z16) ?_
       refine Ab (Ag (iS (.agg [Iv 0,Iv 0,Iv 0]) (Bv false) [] ?_))
       exact Ei l
     ·replace hc57:=bt hc57
      refine iQ 5 ?_
      let Z21:=zT [(0,.d (Sv (tx l))),(2,.p 2 0),(3,Ba false),(4,.d (.sl ps.length (Bp ps))),(5,Ia z44),(11,.p 11 0),(17,Ba false),(42,Ba true),(64,Ba true)] []
      refine iE 67 Z21 (zH [(2,[Iv 0,Iv 0,Iv 0])] Z16) ?_
      refine iT (Aa rfl (iQ 3 (iE 67 Z21 (zH [(2,[Iv 0,Iv 0,Iv 0])] Z16) ?_)))
      refine Ab (Ag (iS (.agg [Iv 0,Iv 0,Iv 0]) (Bv false) [] ?_))
      exact Ei l
    ·replace hc53:=bt hc53
     refine iQ 9 ?_
     let Z22:=zT [(0,.d (Sv (tx l))),(2,.p 2 0),(3,Ba false),(4,.d (.sl ps.length (Bp ps))),(5,Ia z44),(11,.p 11 0),(17,Ba false),(42,Ba true),(64,Ba true)] []
     refine iE 67 Z22 (zH [(2,[Iv 0,Iv 0,Iv 0])] Z16) ?_
     refine iT (Aa rfl (iQ 3 (iE 67 Z22 (zH [(2,[Iv 0,Iv 0,Iv 0])] Z16) ?_)))
     refine Ab (Ag (iS (.agg [Iv 0,Iv 0,Iv 0]) (Bv false) [] ?_))
     exact Ei l
   ·replace hc50:=bt hc50
    refine iQ 13 ?_
    let Z23:=zT [(0,.d (Sv (tx l))),(2,.p 2 0),(3,Ba false),(4,.d (.sl ps.length (Bp ps))),(5,Ia z44),(11,.p 11 0),(17,Ba false),(42,Ba true),(64,Ba true)] []
    refine iE 67 Z23 (zH [(2,[Iv 0,Iv 0,Iv 0])] Z16) ?_
    refine iT (Aa rfl (iQ 3 (iE 67 Z23 (zH [(2,[Iv 0,Iv 0,Iv 0])] Z16) ?_)))
    refine Ab (Ag (iS (.agg [Iv 0,Iv 0,Iv 0]) (Bv false) [] ?_))
    exact Ei l
 ·replace hc17:=bt hc17
  refine iT (Aa rfl (iQ 3 ?_))
  let Z24:=zT [(0,.d (Sv (tx l))),(2,.p 2 0),(3,Ba false),(4,.d (.sl ps.length (Bp ps))),(17,Ba true)] []
  refine iE 67 Z24 [(2,[Iv 0,Iv 0,Iv 0])] ?_
  refine Ab (Ag (iS (.agg [Iv 0,Iv 0,Iv 0]) (Bv false) [] ?_))
  exact Ei l
def Cz (ns:List Nat):List DV:=ns.map fun (n:Nat)=>DV.v (.int .i64 (n:Int))
@[simp] theorem b8p (ns:List Nat):(Cz ns).length=ns.length:=by simp[Cz]
theorem Ib {ns:List Nat} {i:Nat} {n:Nat} (h:ns[i]? = some n):(Cz ns)[((i:Nat):Int).toNat]? = some (.v (.int .i64 (n:Int))):=by simp[Cz,h]
def AllN (ps:List L8):Prop := ∀ p ∈ ps,Gl 2 2 p=some (nvL p)
def PtP (l:L8) (n:Int) (r:DV):Prop := ∃ (ns:List Nat) (ok:Bool),r=.tup [.sl ns.length (Cz ns),.v (.bool ok)]∧(ok=true → ∃ ps,Pf 58 ps=l∧ns=ps.map nvL∧(ps.length:Int)=n∧AllN ps)∧(ok=false→ns=[])
theorem a2x (l:L8) (n:Int):PtP l n (.tup [.sl 0 [],.v (.bool false)]):=⟨[],false,rfl,(fun h=>by cases h),fun _=>rfl⟩
theorem AllN.lt {ps:List L8} (h:AllN ps) : ∀ n ∈ ps.map nvL,n<100:=by
 intro n hn
 obtain ⟨p,hp,rfl⟩:=List.mem_map.1 hn
 exact Yp (lo:=2) (hi:=2) (l:=p) (g:=true) (.inl ⟨rfl,h p hp⟩)
theorem AllN.take {ps:List L8} {k:Nat} {p:L8} {n:Nat} (h:AllN (ps.take k)) (hp:ps[k]? = some p) (hn:Gl 2 2 p=some n):AllN (ps.take (k+1))∧n=nvL p∧(ps.take (k+1)).map nvL=(ps.take k).map nvL ++ [n]:=by
 obtain ⟨hk,e⟩:=List.getElem?_eq_some_iff.1 hp
 have hv:n=nvL p:=by
  unfold Gl at hn
  split at hn
  ·cases hn;rfl
  ·cases hn
 rw[List.take_succ_eq_append_getElem hk,e]
 refine ⟨fun q hq => ?_,hv,by simp[hv]⟩
 rcases List.mem_append.1 hq with hq | hq
 ·exact h q hq
 ·simp at hq
  subst hq
  rw[hn,hv]
theorem a54 {ns:List Nat} {n:Nat}:Cz ns ++ [.v (.int .i64 (n:Int))]=Cz (ns ++ [n]):=by simp[Cz]
set_option maxHeartbeats 800000 in
theorem b49 {l:L8} {n:Int} (hL:l.length<4294967281):HasC Tryz.prog 147 [.v (.string (tx l)),.v (.int .i64 n)] (PtP l n):=by
 refine hO [] Tryz.f147 (fun a w=>Tryz.call147 a w) Tryz.func147 rfl (⟨_,a2x l n⟩) ?_
 refine Aa rfl (iQ 2 ?_)
 let Z1:=zT [(0,.d (Sv (tx l))),(1,Ia n),(4,.w (.sl 0 []) none),(5,Ba false)] []
 refine iE 37 Z1 [] ?_
 refine Aa rfl (iQ 1 (jC 143 [Sv (tx l),Sv (⟨#[58]⟩)] 13 (a45 (c:=58) (by omega)) ?_))
 rintro _ ⟨ps,rfl,hj,hpl⟩
 refine iQ 1 ?_
 let Z2:=zT [(1,Ia n),(4,.w (.sl 0 []) none),(5,Ba false),(6,.d (.sl ps.length (Bp ps)))] []
 refine iE 37 Z2 [] ?_
 refine Ae (Aa rfl (iQ 3 (jB .neq 3 (.int .i64 (((ps.length:Nat):Int))) (.int .i64 n) 17 ?_)))
 intro c17 hc17
 let Z3:=zT [(4,.w (.sl 0 []) none),(5,Ba false),(6,.d (.sl ps.length (Bp ps))),(17,Ba c17)] []
 refine iE 37 Z3 [] ?_
 cases c17
 ·replace hc17:=bf hc17
  refine iF (Ad (Af (Aa rfl (iQ 1 ?_))))
  let Z4:=zT [(4,.w (.sl 0 []) none),(5,Ba false),(6,.d (.sl ps.length (Bp ps))),(7,.w (.sl 0 []) none),(17,Ba false)] []
  refine iE 37 Z4 [] ?_
  refine Ae (Aa rfl (iQ 3 ?_))
  let Z5:=zT [(18,.d (.sl ps.length (Bp ps))),(19,Ia (((ps.length:Nat):Int))),(20,Ia 0)] []
  refine iE 37 (zT Z5 Z4) [] ?_
  refine Ak (Bq 37 (fun (vcx:Nat)=>match vcx with | k=>[(4,.w (.sl 0 []) none),(5,Ba false),(6,.d (.sl ps.length (Bp ps))),(7,.w (.sl (((ps.take k).map nvL).length) (Cz ((ps.take k).map nvL))) (some ⟨7,0,3,1⟩)),(17,Ba false),(18,.d (.sl ps.length (Bp ps))),(19,Ia (((ps.length:Nat):Int))),(20,Ia ((k:Int)))]) (fun (vcx:Nat)=>match vcx with | k=>[]) (fun (vcx:Nat)=>match vcx with | k=>k≤ps.length∧AllN (ps.take k)) (fun (vcx:Nat)=>match vcx with | k=>ps.length-k) 0 (⟨Nat.zero_le _,fun p hp=>by simp at hp⟩) (by kernel_rfl) (by kernel_rfl) ?_)
  rintro k hinv
  simp only at hinv
  obtain ⟨h1,h2⟩:=hinv
  refine Aa rfl (jB .lss 3 (.int .i64 ((k:Int))) (.int .i64 (((ps.length:Nat):Int))) 21 ?_)
  intro c21 hc21
  let Z6:=zT [(7,.w (.sl (((ps.take k).map nvL).length) (Cz ((ps.take k).map nvL))) (some ⟨7,0,3,1⟩))] []
  let Z7:=zT [(4,.w (.sl 0 []) none),(5,Ba false),(6,.d (.sl ps.length (Bp ps))),(17,Ba false),(18,.d (.sl ps.length (Bp ps))),(19,Ia (((ps.length:Nat):Int))),(20,Ia ((k:Int))),(21,Ba c21)] []
  refine iE 37 (zT Z7 Z6) [] ?_
  refine Ae ?_
  cases c21
  ·replace hc21:=bf hc21
   have hk:k=ps.length:=by omega
   refine iF (Be (Ce (Bj (Bd rfl (Af (Aa rfl (iQ 3 ?_)))))))
   let Z8:=zT [(4,.w (.sl (((ps.take k).map nvL).length) (Cz ((ps.take k).map nvL))) (some ⟨7,0,3,1⟩))] []
   let Z9:=zT [(5,Ba true),(6,.d (.sl ps.length (Bp ps))),(17,Ba false),(18,.d (.sl ps.length (Bp ps))),(19,Ia (((ps.length:Nat):Int))),(20,Ia ((k:Int))),(21,Ba false)] []
   let Z10:=zT Z9 (zT Z8 Z6)
   refine iE 37 Z10 [] ?_
   refine Ab (iS (.sl (((ps.take k).map nvL).length) (Cz ((ps.take k).map nvL))) (Bv true) [] ?_)
   subst hk;rw[List.take_length] at h2 ⊢;exact ⟨_,true,rfl,fun _=>⟨ps,hj,rfl,by omega,h2⟩,fun h=>by cases h⟩
  ·replace hc21:=bt hc21
   have hlt:k<ps.length:=by omega
   obtain ⟨p,hp⟩ : ∃ p,ps[k]? = some p:=⟨_,List.getElem?_eq_getElem hlt⟩
   refine iT (Ad (Af (Ae (Ak (Aa rfl (Bi (q:=((k:Int))) (n:=ps.length) (cs:=(Bp ps)) (d:=.v (.string (tx p))) (dst:=(some 22)) (by kernel_rfl) (by omega) (Mn hp) ?_))))))
   refine iQ 2 ?_
   let Z11:=zT [(7,.w (.sl (((ps.take k).map nvL).length) (Cz ((ps.take k).map nvL))) (some ⟨7,0,3,1⟩))] []
   let Z12:=zT [(4,.w (.sl 0 []) none),(5,Ba false),(6,.d (.sl ps.length (Bp ps))),(9,.d (Sv (tx p))),(17,Ba false),(18,.d (.sl ps.length (Bp ps))),(19,Ia (((ps.length:Nat):Int))),(20,Ia ((k:Int))),(21,Ba true)] []
   refine iE 37 (zT Z12 Z11) [] ?_
   refine Aa rfl (iQ 1 (jC 144 [Sv (tx p),Iv 2,Iv 2] 26 (Jq (l:=p) (lo:=2) (hi:=2) (by decide)) ?_))
   rintro _ ⟨z,g,rfl,hz⟩
   refine iQ 5 (iE 37 (zT [(10,Ia ((z:Int))),(11,Ba g)] (zT Z12 Z11)) [] ?_)
   refine Ae (Aa rfl (iQ 1 (jU .not (.bool g) 30 ?_)))
   intro c30 hc30
   let Z13:=zT [(10,Ia ((z:Int))),(11,Ba g),(30,Ba c30)] []
   let Z14:=zT Z13 (zT Z12 Z11)
   refine iE 37 Z14 [] ?_
   cases c30
   ·replace hc30:=bf hc30
    have hz1:Gl 2 2 p=some z:=Zx hz hc30
    obtain ⟨q1,q2,q3⟩:=h2.take hp hz1
    refine iF (Ad (Af (Am rfl (iQ 3 (Fo (n:=(((ps.take k).map nvL).length)) (cs:=(Cz ((ps.take k).map nvL))) (m:=1) (ds:=[.v (.int .i64 ((z:Int)))]) (N:=(((ps.take (k+1)).map nvL).length)) (es:=(Cz ((ps.take (k+1)).map nvL))) (j:=7) (e:=3) (z:=1) (dst:=(some 34)) (by kernel_rfl) (by first | rfl | omega | (rw[Nat.mul_one];exact Cr _) | (simp[dg];done) | (simp[dg];omega)) (by first | rfl | omega | (rw[Nat.mul_one];exact Cr _) | (simp[dg];done) | (simp[dg];omega)) (rfl) (by simp;omega) (by simp[hlt];omega) (by rw[q3];exact a54) ?_)))))
    refine iQ 1 ?_
    let Z15:=zT [(7,.w (.sl (((ps.take (k+1)).map nvL).length) (Cz ((ps.take (k+1)).map nvL))) (some ⟨7,0,3,1⟩))] []
    let Z16:=zT [(10,Ia ((z:Int))),(11,Ba g),(30,Ba false)] []
    let Z17:=zT Z16 (zT Z15 Z12)
    refine iE 37 Z17 [] ?_
    refine Ap (Af (Am rfl (jB .add 3 (.int .i64 ((k:Int))) (.int .i64 1) 35 ?_)))
    intro z35 hz35
    try replace hz35:=hz35.i64 (by omega)
    refine iQ 1 ?_
    let Z18:=zT [(4,.w (.sl 0 []) none),(5,Ba false),(6,.d (.sl ps.length (Bp ps))),(9,.d (Sv (tx p))),(17,Ba false),(18,.d (.sl ps.length (Bp ps))),(19,Ia (((ps.length:Nat):Int))),(20,Ia z35),(21,Ba true)] []
    let Z19:=zT Z18 (zT Z15 Z16)
    refine iE 37 Z19 [] ?_
    obtain rfl:z35=((k+1:Nat):Int):=by omega
    refine Bm (k+1) (⟨by omega,q1⟩) (by show ps.length-(k+1)<ps.length-k;omega) (by kernel_rfl) (by kernel_rfl)
   ·replace hc30:=bt hc30
    refine iT (Aa rfl (iQ 2 ?_))
    let Z20:=zT [(10,Ia ((z:Int))),(11,Ba g),(30,Ba true)] []
    let Z21:=zT Z20 (zT Z12 Z11)
    refine iE 37 Z21 [] ?_
    refine Ab (Ag (Ai (Ag (Db (Ai (Ag (iS (.sl 0 []) (Bv false) [] ?_)))))))
    exact a2x l n
 ·replace hc17:=bt hc17
  refine iT (Aa rfl (iQ 2 ?_))
  let Z22:=zT [(4,.w (.sl 0 []) none),(5,Ba false),(6,.d (.sl ps.length (Bp ps))),(17,Ba true)] []
  refine iE 37 Z22 [] ?_
  refine Ab (Ag (iS (.sl 0 []) (Bv false) [] ?_))
  exact a2x l n
theorem Zy {l:L8} {s:ByteArray} {n:Int} (hs:s=tx l) (hL:l.length<4294967281):HasC Tryz.prog 147 [.v (.string s),.v (.int .i64 n)] (PtP l n):=by subst hs;exact b49 hL
open Go.RowKit
set_option linter.unusedVariables false
set_option linter.unusedSimpArgs false
set_option maxRecDepth 100000
theorem On {p:L8} (h:Gl 2 2 p=some (nvL p)):Bt (nvL p:Int) 2=p∧nvL p<100:=by
 have hlt:nvL p<100:=Yp (lo:=2) (hi:=2) (l:=p) (g:=true) (.inl ⟨rfl,h⟩)
 refine ⟨?_,hlt⟩
 unfold Gl at h
 split at h
 ·rename_i hc
  match p,hc with
  | [x,y],hc =>
   simp only[List.all_cons,List.all_nil,Bool.and_true,Bool.and_eq_true] at hc
   have h1:=Cy.1 hc.2.2.1
   have h2:=Cy.1 hc.2.2.2
   have hv:nvL [x,y]=(x.toNat-48)*10+(y.toNat-48):=by simp[nvL,nvA]
   rw[b4m (by omega) (by omega) (by decide),Int.toNat_natCast]
   simp only[dwL,List.nil_append,List.singleton_append,List.cons_append]
   have a1:UInt8.ofNat (48+nvL [x,y] / 10 % 10)=x:=UInt8.toNat_inj.1 (by rw[UInt8.toNat_ofNat'];omega)
   have a2:UInt8.ofNat (48+nvL [x,y] % 10)=y:=UInt8.toNat_inj.1 (by rw[UInt8.toNat_ofNat'];omega)
   rw[a1,a2]
  | [],hc=>simp at hc
  | [x],hc=>simp at hc
  | x::y::z::r,hc=>simp at hc
 ·cases h
def b1p (l:L8) (r:DV):Prop := ∃ (s:Int) (z:Bool) (o:Int) (ok:Bool),r=.tup [.agg [.v (.int .i64 s),.v (.bool z),.v (.int .i64 o)],.v (.bool ok)]∧(ok=true∧Gv s z o∧l=Jg s z o∨ok=false∧s=0∧z=false∧o=0)
theorem Cv (l:L8):b1p l (.tup [.agg [.v (.int .i64 0),.v (.bool false),.v (.int .i64 0)],.v (.bool false)]):=⟨0,false,0,false,rfl,.inr ⟨rfl,rfl,rfl,rfl⟩⟩
theorem Ks {s o:Int} {z:Bool} {l:L8} (h:tx (He s z o)=tx l) (h0:l≠[]):b1p l (.tup [.agg [.v (.int .i64 s),.v (.bool z),.v (.int .i64 o)],.v (.bool true)]):=by
 have h1:=Rc h
 unfold He at h1
 split at h1
 ·rename_i hm
  exact ⟨s,z,o,true,rfl,.inl ⟨rfl,hm,h1.symm⟩⟩
 ·exact absurd h1.symm h0
def OfP (h m s:Nat) (r:DV):Prop := ∃ (x:Int) (ok:Bool),r=.tup [.agg [.v (.int .i64 x),.v (.bool false),.v (.int .i64 0)],.v (.bool ok)]∧(ok=true∧(h≤23∧m≤59∧s≤59∧x=3600*(h:Int)+60*(m:Int)+(s:Int))∨ok=false∧x=0)
theorem c_Of {h m s:Nat} (h1:h<100) (h2:m<100) (h3:s<100):HasC Tryz.prog 148 [.v (.int .i64 ((h:Int))),.v (.int .i64 ((m:Int))),.v (.int .i64 ((s:Int)))] (OfP h m s):=by
 refine hO [] Tryz.f148 (fun a w=>Tryz.call148 a w) Tryz.func148 rfl (by by_cases k:h≤23∧m≤59∧s≤59;exact ⟨_,_,true,rfl,.inl ⟨rfl,k.1,k.2.1,k.2.2,rfl⟩⟩;exact ⟨_,0,false,rfl,.inr ⟨rfl,rfl⟩⟩) ?_
 refine Aa rfl (iQ 2 ?_)
 let Z1:=zT [(0,Ia ((h:Int))),(1,Ia ((m:Int))),(2,Ia ((s:Int))),(6,.p 6 0),(7,Ba false)] []
 refine iE 39 Z1 [(6,[Iv 0,Bv false,Iv 0])] ?_
 refine Ae (Aa rfl (iQ 1 (jB .lss 3 (.int .i64 ((h:Int))) (.int .i64 0) 9 ?_)))
 intro c9 hc9
 refine iQ 1 ?_
 cases c9
 ·replace hc9:=bf hc9
  refine iQ 1 (jB .gtr 3 (.int .i64 ((h:Int))) (.int .i64 23) 12 ?_)
  intro c12 hc12
  refine iQ 2 ?_
  cases c12
  ·replace hc12:=bf hc12
   refine iQ 1 (jB .lss 3 (.int .i64 ((m:Int))) (.int .i64 0) 16 ?_)
   intro c16 hc16
   refine iQ 2 ?_
   cases c16
   ·replace hc16:=bf hc16
    refine iQ 1 (jB .gtr 3 (.int .i64 ((m:Int))) (.int .i64 59) 20 ?_)
    intro c20 hc20
    refine iQ 2 ?_
    cases c20
    ·replace hc20:=bf hc20
     refine iQ 1 (jB .lss 3 (.int .i64 ((s:Int))) (.int .i64 0) 24 ?_)
     intro c24 hc24
     refine iQ 2 ?_
     cases c24
     ·replace hc24:=bf hc24
      refine iQ 1 (jB .gtr 3 (.int .i64 ((s:Int))) (.int .i64 59) 28 ?_)
      intro c28 hc28
      refine iQ 1 (iE 39 (zT [(29,Ba c28)] Z1) [(6,[Iv 0,Bv false,Iv 0])] ?_)
      cases c28
      ·replace hc28:=bf hc28
       refine iF (Ad (Af (Aa rfl (iQ 1 (jB .mul 3 (.int .i64 3600) (.int .i64 ((h:Int))) 32 ?_)))))
       intro z32 hz32
       try replace hz32:=hz32.i64 (by omega)
       refine iQ 1 (jB .mul 3 (.int .i64 60) (.int .i64 ((m:Int))) 34 ?_)
       intro z34 hz34
       try replace hz34:=hz34.i64 (by omega)
       refine jB .add 3 (.int .i64 z32) (.int .i64 z34) 35 ?_
       intro z35 hz35
       try replace hz35:=hz35.i64 (by omega)
       refine iQ 1 (jB .add 3 (.int .i64 z35) (.int .i64 ((s:Int))) 37 ?_)
       intro z37 hz37
       try replace hz37:=hz37.i64 (by omega)
       refine iQ 3 ?_
       let Z2:=zT [(0,Ia ((h:Int))),(1,Ia ((m:Int))),(2,Ia ((s:Int))),(6,.p 6 0),(7,Ba true),(29,Ba false)] []
       refine iE 39 Z2 [(6,[Iv z37,Bv false,Iv 0])] ?_
       refine Ab (iS (.agg [Iv z37,Bv false,Iv 0]) (Bv true) [] ?_)
       exact ⟨_,true,rfl,.inl ⟨rfl,by omega,by omega,by omega,by omega⟩⟩
      ·replace hc28:=bt hc28
       refine iT (Aa rfl (iQ 3 (iE 39 (zT [(29,Ba true)] Z1) [(6,[Iv 0,Bv false,Iv 0])] ?_)))
       refine Ab (Ag (iS (.agg [Iv 0,Bv false,Iv 0]) (Bv false) [] ?_))
       exact ⟨0,false,rfl,.inr ⟨rfl,rfl⟩⟩
     ·replace hc24:=bt hc24
      refine iQ 3 (iE 39 (zT [(29,Ba true)] Z1) [(6,[Iv 0,Bv false,Iv 0])] ?_)
      refine iT (Aa rfl (iQ 3 (iE 39 (zT [(29,Ba true)] Z1) [(6,[Iv 0,Bv false,Iv 0])] ?_)))
      refine Ab (Ag (iS (.agg [Iv 0,Bv false,Iv 0]) (Bv false) [] ?_))
      exact ⟨0,false,rfl,.inr ⟨rfl,rfl⟩⟩
    ·replace hc20:=bt hc20
     refine iQ 7 (iE 39 (zT [(29,Ba true)] Z1) [(6,[Iv 0,Bv false,Iv 0])] ?_)
     refine iT (Aa rfl (iQ 3 (iE 39 (zT [(29,Ba true)] Z1) [(6,[Iv 0,Bv false,Iv 0])] ?_)))
     refine Ab (Ag (iS (.agg [Iv 0,Bv false,Iv 0]) (Bv false) [] ?_))
     exact ⟨0,false,rfl,.inr ⟨rfl,rfl⟩⟩
   ·replace hc16:=bt hc16
    refine iQ 11 (iE 39 (zT [(29,Ba true)] Z1) [(6,[Iv 0,Bv false,Iv 0])] ?_)
    refine iT (Aa rfl (iQ 3 (iE 39 (zT [(29,Ba true)] Z1) [(6,[Iv 0,Bv false,Iv 0])] ?_)))
    refine Ab (Ag (iS (.agg [Iv 0,Bv false,Iv 0]) (Bv false) [] ?_))
    exact ⟨0,false,rfl,.inr ⟨rfl,rfl⟩⟩
  ·replace hc12:=bt hc12
   refine iQ 15 (iE 39 (zT [(29,Ba true)] Z1) [(6,[Iv 0,Bv false,Iv 0])] ?_)
   refine iT (Aa rfl (iQ 3 (iE 39 (zT [(29,Ba true)] Z1) [(6,[Iv 0,Bv false,Iv 0])] ?_)))
   refine Ab (Ag (iS (.agg [Iv 0,Bv false,Iv 0]) (Bv false) [] ?_))
   exact ⟨0,false,rfl,.inr ⟨rfl,rfl⟩⟩
 ·replace hc9:=bt hc9
  refine iQ 19 (iE 39 (zT [(29,Ba true)] Z1) [(6,[Iv 0,Bv false,Iv 0])] ?_)
  refine iT (Aa rfl (iQ 3 (iE 39 (zT [(29,Ba true)] Z1) [(6,[Iv 0,Bv false,Iv 0])] ?_)))
  refine Ab (Ag (iS (.agg [Iv 0,Bv false,Iv 0]) (Bv false) [] ?_))
  exact ⟨0,false,rfl,.inr ⟨rfl,rfl⟩⟩
def AtP (s o:Int) (r:DV):Prop := ∃ (s':Int) (z':Bool) (o':Int) (ok:Bool),r=.tup [.agg [.v (.int .i64 s'),.v (.bool z'),.v (.int .i64 o')],.v (.bool ok)]∧(ok=true∧(Gv s true o∧s'=s∧z'=true∧o'=o)∨ok=false∧s'=0∧z'=false∧o'=0)
theorem b1b {s o0 o:Int} {z:Bool}:HasC Tryz.prog 149 [.agg [.v (.int .i64 s),.v (.bool z),.v (.int .i64 o0)],.v (.int .i64 o)] (AtP s o):=by
 refine hO [] Tryz.f149 (fun a w=>Tryz.call149 a w) Tryz.func149 rfl (by by_cases k:Gv s true o;exact ⟨_,s,true,o,true,rfl,.inl ⟨rfl,k,rfl,rfl,rfl⟩⟩;exact ⟨_,0,false,0,false,rfl,.inr ⟨rfl,rfl,rfl,rfl⟩⟩) ?_
 refine Aa rfl (iQ 3 ?_)
 let Z1:=zT [(1,Ia o),(2,.p 2 0),(4,.p 4 0),(5,Ba false)] []
 let Z2:=zH [(2,[Iv s,Bv z,Iv o0]),(4,[Iv 0,Bv false,Iv 0])] []
 refine iE 14 Z1 Z2 ?_
 refine Aa rfl (iQ 5 ?_)
 let Z3:=zH [(2,[Iv s,Bv true,Iv o]),(4,[Iv 0,Bv false,Iv 0])] []
 refine iE 14 [(2,.p 2 0),(4,.p 4 0),(5,Ba false)] Z3 ?_
 refine Ae (Aa rfl (iQ 1 (jC 152 [.agg [Iv s,Bv true,Iv o]] 10 (Wm (s:=s) (z:=true) (o:=o)) ?_)))
 rintro _ ⟨b,rfl,hb⟩
 refine jU .not (.bool b) 11 ?_
 intro c11 hc11
 let Z4:=zT [(2,.p 2 0),(4,.p 4 0),(5,Ba false),(11,Ba c11)] []
 refine iE 14 Z4 Z3 ?_
 cases c11
 ·replace hc11:=bf hc11
  refine iF (Ad (Af (Aa rfl (iQ 3 ?_))))
  let Z5:=zT [(2,.p 2 0),(4,.p 4 0),(5,Ba true),(11,Ba false)] []
  let Z6:=zH [(2,[Iv s,Bv true,Iv o]),(4,[Iv s,Bv true,Iv o])] []
  refine iE 14 Z5 Z6 ?_
  refine Ab (iS (.agg [Iv s,Bv true,Iv o]) (Bv true) [] ?_)
  exact ⟨s,true,o,true,rfl,.inl ⟨rfl,hb.1 (by simpa using hc11),rfl,rfl,rfl⟩⟩
 ·replace hc11:=bt hc11
  refine iT (Aa rfl (iQ 3 ?_))
  let Z7:=zT [(2,.p 2 0),(4,.p 4 0),(5,Ba false),(11,Ba true)] []
  refine iE 14 Z7 Z3 ?_
  refine Ab (Ag (iS (.agg [Iv 0,Bv false,Iv 0]) (Bv false) [] ?_))
  exact ⟨0,false,0,false,rfl,.inr ⟨rfl,rfl,rfl,rfl⟩⟩
theorem hms {l a b d:L8} {ps:List L8} {x:Int} (hl:l.take 8=a ++ 58::(b ++ 58::d)) (hp:ps=[a,b,d]) (hN:AllN ps) (h:nvL a≤23∧nvL b≤59∧nvL d≤59∧x=3600*(nvL a:Int)+60*(nvL b:Int)+(nvL d:Int)) :
  0≤x∧x<86400 ∧ ∀ z o,Jg x z o=l.take 8 ++ La z o:=by
 have ha:=On (hN a (by rw[hp];simp))
 have hb:=On (hN b (by rw[hp];simp))
 have hd:=On (hN d (by rw[hp];simp))
 refine ⟨by omega,by omega,fun z o => ?_⟩
 rw[Jg,show x / 3600=(nvL a:Int) by omega,show x % 3600 / 60=(nvL b:Int) by omega,show x % 60=(nvL d:Int) by omega,ha.1,hb.1,hd.1,hl]
 simp
theorem a9g {l:L8} {s:ByteArray} (hs:s=tx l) (hl:l.length<4294967281):HasC Tryz.prog 150 [.v (.string s),.v (.string ⟨#[58]⟩)] (fun y => ∃ n:Nat,y=.v (.int .i64 (n:Int))∧n≤l.length):=by subst hs;exact b3p (c:=58) hl
theorem b08 {l:L8} {s:ByteArray} {r:L8} (hs:s=tx l):s=tx r↔l=r:=by rw[hs,Ti]
theorem a9w {l:L8} {s t:ByteArray} (ht:t=tx l) (hs:s=t.extract 1 t.size):s=tx (l.drop 1):=by subst ht;exact Qh hs
set_option maxHeartbeats 1600000 in
theorem Rj {l:L8} (hL:l.length<4294967281):HasC Tryz.prog 125 [.v (.string (tx l))] (b1p l):=by
 refine hO [] Tryz.f125 (fun a w=>Tryz.call125 a w) Tryz.func125 rfl (⟨_,Cv l⟩) ?_
 refine Aa rfl (iQ 2 ?_)
 let Z1:=zT [(0,.d (Sv (tx l))),(2,.p 2 0),(3,Ba false)] []
 refine iE 108 Z1 [(2,[Iv 0,Bv false,Iv 0])] ?_
 refine Ae (Aa rfl (iQ 1 (jL .len [9] [.string (tx l)] 11 ?_)))
 intro n11 hn11
 have e11:n11=l.length:=by rw[hn11];exact Aj l
 refine jB .lss 3 (.int .i64 ((n11:Nat))) (.int .i64 8) 12 ?_
 intro c12 hc12
 refine iE 108 (zT [(12,Ba c12)] Z1) [(2,[Iv 0,Bv false,Iv 0])] ?_
 cases c12
 ·replace hc12:=bf hc12
  have h0:l≠[]:=fun e=>by rw[e] at e11;simp at e11;omega
  refine iF (Ad (Af (Aa rfl (iQ 1 (iY 9 (tx l) (0) (8) (some 16) ?_)))))
  refine And.intro (by rw[Aj];omega) ?_
  intro s16 hs16
  have e16:s16=tx (l.take 8):=by rw[hs16,Bs];simp
  refine jC 147 [Sv s16,Iv 3] 17 (Zy (n:=3) e16 (by rw[List.length_take];omega)) ?_
  rintro _ ⟨ns,g,rfl,hg,hg2⟩
  refine iQ 5 ?_
  let Z2:=zT [(4,.d (.sl ((ns).length) (Cz (ns)))),(5,Ba g),(12,Ba false)] []
  refine iE 108 (zT Z2 Z1) [(2,[Iv 0,Bv false,Iv 0])] ?_
  refine Ae (Aa rfl (iQ 1 (jU .not (.bool g) 21 ?_)))
  intro c21 hc21
  refine iE 108 (zT [(21,Ba c21)] (zT Z2 Z1)) [(2,[Iv 0,Bv false,Iv 0])] ?_
  cases c21
  ·replace hc21:=bf hc21
   obtain ⟨ps,j1,j2,j3,j4⟩:=hg (by simpa using hc21)
   obtain ⟨p0,p1,p2,hps,h8⟩:=b56 j1 (by omega)
   have n0:ns[0]? = some (nvL p0):=by rw[j2,hps];rfl
   have n1:ns[1]? = some (nvL p1):=by rw[j2,hps];rfl
   have n2:ns[2]? = some (nvL p2):=by rw[j2,hps];rfl
   have nl:ns.length=3:=by rw[j2,hps];rfl
   have w0:=(On (j4 p0 (by rw[hps];simp))).2
   have w1:=(On (j4 p1 (by rw[hps];simp))).2
   have w2:=(On (j4 p2 (by rw[hps];simp))).2
   refine iF (Ad (Af (Aa rfl (iQ 1 (Bi (q:=0) (n:=((ns).length)) (cs:=(Cz (ns))) (d:=.v (.int .i64 ((nvL p0:Int)))) (dst:=(some 25)) (by kernel_rfl) (by omega) (Ib (i:=0) n0) ?_)))))
   refine iQ 2 (Bi (q:=1) (n:=((ns).length)) (cs:=(Cz (ns))) (d:=.v (.int .i64 ((nvL p1:Int)))) (dst:=(some 28)) (by kernel_rfl) (by omega) (Ib (i:=1) n1) ?_)
   refine iQ 2 (Bi (q:=2) (n:=((ns).length)) (cs:=(Cz (ns))) (d:=.v (.int .i64 ((nvL p2:Int)))) (dst:=(some 31)) (by kernel_rfl) (by omega) (Ib (i:=2) n2) ?_)
   refine iQ 1 (jC 148 [Iv ((nvL p0:Int)),Iv ((nvL p1:Int)),Iv ((nvL p2:Int))] 33 (c_Of w0 w1 w2) ?_)
   rintro _ ⟨x,g2,rfl,hx⟩
   refine iQ 6 ?_
   let Z3:=zT [(5,Ba g2),(6,.p 6 0),(12,Ba false),(21,Ba false)] []
   let Z4:=zH [(2,[Iv 0,Bv false,Iv 0]),(6,[Iv x,Bv false,Iv 0])] []
   refine iE 108 (zT Z3 Z1) Z4 ?_
   refine Aa rfl (iQ 1 (iY 9 (tx l) (8) (((tx l:ByteArray).size:Int)) (some 37) ?_))
   refine And.intro (by rw[Aj];omega) ?_
   intro s37 hs37
   have e37:s37=tx (l.drop 8):=Qh hs37
   refine iQ 1 (iE 108 (zT [(7,.d (Sv s37))] (zT Z3 Z1)) Z4 ?_)
   refine Ae (Ak (Aa rfl (iQ 1 (jU .not (.bool g2) 40 ?_))))
   intro c40 hc40
   refine iQ 1 (iE 108 (zT [(7,.d (Sv s37)),(38,Ba c40)] (zT Z3 Z1)) Z4 ?_)
   cases c40
   ·replace hc40:=bf hc40
    obtain ⟨x0,x1,hT⟩:=hms h8 hps j4 (Zx hx hc40)
    refine iF (Aa rfl (iQ 1 (jB .eql 9 (.string s37) (.string (⟨#[]⟩)) 44 ?_)))
    intro c44 hc44
    refine iQ 1 ?_
    let Z5:=zT [(7,.d (Sv s37)),(38,Ba false),(42,Ba c44)] []
    let Z6:=zT Z5 (zT Z3 Z1)
    refine iE 108 Z6 Z4 ?_
    cases c44
    ·replace hc44:=bf hc44
     have hd:l.drop 8≠[]:=fun e=>hc44 ((b08 (r:=[]) e37).2 e)
     have hdl:8<l.length:=by have:=List.length_pos_iff.2 hd;rw[List.length_drop] at this;omega
     have hdd:(l.drop 8).length=l.length-8:=List.length_drop
     refine iF (Aa rfl (iQ 1 (jB .eql 9 (.string s37) (.string (⟨#[90]⟩)) 48 ?_)))
     intro c48 hc48
     refine iQ 1 ?_
     let Z7:=zT [(7,.d (Sv s37)),(38,Ba false),(42,Ba false),(46,Ba c48)] []
     let Z8:=zT Z7 (zT Z3 Z1)
     refine iE 108 Z8 Z4 ?_
     cases c48
     ·replace hc48:=bf hc48
      refine iF (Ad (Ap (Af (Aa rfl (iQ 1 (iY 9 (s37) (1) (((s37:ByteArray).size:Int)) (some 55) ?_))))))
      refine And.intro (by rw[e37,Aj];omega) ?_
      intro s55 hs55
      have e55:s55=tx ((l.drop 8).drop 1):=a9w e37 hs55
      refine iQ 1 (jC 150 [Sv s37,Sv (⟨#[58]⟩)] 57 (a9g e37 (by omega)) ?_)
      rintro _ ⟨kc,rfl,hkc⟩
      refine jB .add 3 (.int .i64 ((kc:Int))) (.int .i64 1) 58 ?_
      intro z58 hz58
      try replace hz58:=hz58.i64 (by omega)
      refine jC 147 [Sv s55,Iv z58] 59 (Zy (n:=z58) e55 (by rw[List.length_drop];omega)) ?_
      rintro _ ⟨ns2,g4,rfl,hg4,hg5⟩
      refine iQ 5 ?_
      let Z9:=zT [(5,Ba g4),(6,.p 6 0),(7,.d (Sv s37)),(8,.d (.sl ((ns2).length) (Cz (ns2)))),(12,Ba false),(21,Ba false),(38,Ba false),(42,Ba false),(46,Ba false)] []
      refine iE 108 (zT Z9 Z1) Z4 ?_
      refine Ae (Aa rfl (iQ 1 (jU .not (.bool g4) 63 ?_)))
      intro c63 hc63
      refine iQ 1 ?_
      cases c63
      ·replace hc63:=bf hc63
       refine iQ 2 (jB .lss 3 (.int .i64 ((((ns2).length:Nat):Int))) (.int .i64 2) 67 ?_)
       obtain ⟨ps2,i1,i2,i3,i4⟩:=hg4 (by simpa using hc63)
       have hlt2:=i4.lt
       rw[← i2] at hlt2
       intro c67 hc67
       refine iQ 1 (iE 108 (zT [(68,Ba c67)] (zT Z9 Z1)) Z4 ?_)
       cases c67
       ·replace hc67:=bf hc67
        obtain ⟨q0,hq0⟩ : ∃ q,ns2[0]? = some q:=⟨_,List.getElem?_eq_getElem (by omega)⟩
        obtain ⟨q1,hq1⟩ : ∃ q,ns2[1]? = some q:=⟨_,List.getElem?_eq_getElem (by omega)⟩
        have b0:=hlt2 _ (List.mem_of_getElem? hq0)
        have b1:=hlt2 _ (List.mem_of_getElem? hq1)
        refine iF (Ad (Af (Aa rfl (iQ 1 (Bi (q:=0) (n:=((ns2).length)) (cs:=(Cz (ns2))) (d:=.v (.int .i64 ((q0:Int)))) (dst:=(some 71)) (by kernel_rfl) (by omega) (Ib (i:=0) hq0) ?_)))))
        refine iQ 1 (jB .mul 3 (.int .i64 3600) (.int .i64 ((q0:Int))) 73 ?_)
        intro z73 hz73
        try replace hz73:=hz73.i64 (by omega)
        refine iQ 1 (Bi (q:=1) (n:=((ns2).length)) (cs:=(Cz (ns2))) (d:=.v (.int .i64 ((q1:Int)))) (dst:=(some 75)) (by kernel_rfl) (by omega) (Ib (i:=1) hq1) ?_)
        refine iQ 1 (jB .mul 3 (.int .i64 60) (.int .i64 ((q1:Int))) 77 ?_)
        intro z77 hz77
        try replace hz77:=hz77.i64 (by omega)
        refine jB .add 3 (.int .i64 z73) (.int .i64 z77) 78 ?_
        intro z78 hz78
        try replace hz78:=hz78.i64 (by omega)
        refine iQ 1 (iE 108 (zT [(9,Ia z78),(68,Ba false)] (zT Z9 Z1)) Z4 ?_)
        refine Ae (Aa rfl (iQ 2 (jB .gtr 3 (.int .i64 ((((ns2).length:Nat):Int))) (.int .i64 2) 81 ?_)))
        intro c81 hc81
        refine iE 108 (zT [(9,Ia z78),(68,Ba false),(81,Ba c81)] (zT Z9 Z1)) Z4 ?_
        cases c81
        ·replace hc81:=bf hc81
         refine iF (Ad (Af (Ae (Aa rfl (iQ 1 (jX 9 (.string s37) (.int .i64 0) 88 ?_))))))
         refine And.intro (by rw[e37,Aj];omega) ?_
         intro z88 hz88
         refine jB .eql 5 (.int .u8 z88) (.int .u8 45) 89 ?_
         intro c89 hc89
         let Z10:=zT [(9,Ia z78),(68,Ba false),(81,Ba false),(89,Ba c89)] []
         let Z11:=zT Z10 (zT Z9 Z1)
         refine iE 108 Z11 Z4 ?_
         cases c89
         ·replace hc89:=bf hc89
          refine iF (Ad (Af (Aa rfl (iQ 2 (jC 149 [.agg [Iv x,Bv false,Iv 0],Iv z78] 95 (b1b (s:=x) (z:=false) (o0:=0) (o:=z78)) ?_)))))
          rintro _ ⟨x4,z4,o4,g5,rfl,h5⟩
          refine iQ 5 ?_
          let Z12:=zT [(5,Ba g5),(6,.p 6 0),(7,.d (Sv s37)),(8,.d (.sl ((ns2).length) (Cz (ns2)))),(9,Ia z78),(12,Ba false),(21,Ba false),(38,Ba false),(42,Ba false),(46,Ba false),(68,Ba false),(81,Ba false),(89,Ba false)] []
          let Z13:=zH [(2,[Iv 0,Bv false,Iv 0]),(6,[Iv x4,Bv z4,Iv o4])] []
          refine iE 108 (zT Z12 Z1) Z13 ?_
          refine Ae (Aa rfl (iQ 1 (jU .not (.bool g5) 99 ?_)))
          intro c99 hc99
          refine iQ 1 ?_
          cases c99
          ·replace hc99:=bf hc99
           refine iQ 1 (eC 151 [.agg [Iv x4,Bv z4,Iv o4]] 102 (Kk) (iQ 1 (jB .neq 9 (.string (tx (He x4 z4 o4))) (.string (tx l)) 104 ?_)))
           intro c104 hc104
           refine iQ 1 (iE 108 (zT [(105,Ba c104)] (zT Z12 Z1)) Z13 ?_)
           cases c104
           ·replace hc104:=bf hc104
            refine iF (Ad (Af (Aa rfl (iQ 3 ?_))))
            let Z14:=zT [(0,.d (Sv (tx l))),(2,.p 2 0),(3,Ba true),(105,Ba false)] []
            let Z15:=zH [(2,[Iv x4,Bv z4,Iv o4]),(6,[Iv x4,Bv z4,Iv o4])] []
            refine iE 108 (zT Z14 Z12) Z15 ?_
            refine Ab (iS (.agg [Iv x4,Bv z4,Iv o4]) (Bv true) [] ?_)
            exact Ks (Classical.not_not.1 hc104) h0
           ·replace hc104:=bt hc104
            refine iT (Aa rfl (iQ 3 (iE 108 (zT [(105,Ba true)] (zT Z12 Z1)) Z13 ?_)))
            refine Ab (Ag (iS (.agg [Iv 0,Bv false,Iv 0]) (Bv false) [] ?_))
            exact Cv l
          ·replace hc99:=bt hc99
           refine iQ 5 (iE 108 (zT [(105,Ba true)] (zT Z12 Z1)) Z13 ?_)
           refine iT (Aa rfl (iQ 3 (iE 108 (zT [(105,Ba true)] (zT Z12 Z1)) Z13 ?_)))
           refine Ab (Ag (iS (.agg [Iv 0,Bv false,Iv 0]) (Bv false) [] ?_))
           exact Cv l
         ·replace hc89:=bt hc89
          refine iT (Am rfl (iQ 1 (jU .neg (.int .i64 z78) 91 ?_)))
          intro z91 hz91
          try replace hz91:=hz91.i64 (by omega)
          refine iQ 1 ?_
          let Z16:=zT [(9,Ia z91),(68,Ba false),(81,Ba false),(89,Ba true)] []
          let Z17:=zT Z16 (zT Z9 Z1)
          refine iE 108 Z17 Z4 ?_
          refine Af (Aa rfl (iQ 2 (jC 149 [.agg [Iv x,Bv false,Iv 0],Iv z91] 95 (b1b (s:=x) (z:=false) (o0:=0) (o:=z91)) ?_)))
          rintro _ ⟨x4,z4,o4,g5,rfl,h5⟩
          refine iQ 5 ?_
          let Z18:=zT [(5,Ba g5),(6,.p 6 0),(7,.d (Sv s37)),(8,.d (.sl ((ns2).length) (Cz (ns2)))),(12,Ba false),(21,Ba false),(38,Ba false),(42,Ba false),(46,Ba false)] []
          let Z19:=zT Z18 (zT Z16 Z1)
          let Z20:=zH [(2,[Iv 0,Bv false,Iv 0]),(6,[Iv x4,Bv z4,Iv o4])] []
          refine iE 108 Z19 Z20 ?_
          refine Ae (Aa rfl (iQ 1 (jU .not (.bool g5) 99 ?_)))
          intro c99 hc99
          refine iQ 1 ?_
          cases c99
          ·replace hc99:=bf hc99
           refine iQ 1 (eC 151 [.agg [Iv x4,Bv z4,Iv o4]] 102 (Kk) (iQ 1 (jB .neq 9 (.string (tx (He x4 z4 o4))) (.string (tx l)) 104 ?_)))
           intro c104 hc104
           refine iQ 1 (iE 108 (zT [(105,Ba c104)] Z19) Z20 ?_)
           cases c104
           ·replace hc104:=bf hc104
            refine iF (Ad (Af (Aa rfl (iQ 3 ?_))))
            let Z21:=zT [(0,.d (Sv (tx l))),(2,.p 2 0),(3,Ba true),(105,Ba false)] []
            let Z22:=zT Z21 (zT Z18 Z16)
            let Z23:=zH [(2,[Iv x4,Bv z4,Iv o4]),(6,[Iv x4,Bv z4,Iv o4])] []
            refine iE 108 Z22 Z23 ?_
            refine Ab (iS (.agg [Iv x4,Bv z4,Iv o4]) (Bv true) [] ?_)
            exact Ks (Classical.not_not.1 hc104) h0
           ·replace hc104:=bt hc104
            refine iT (Aa rfl (iQ 3 (iE 108 (zT [(105,Ba true)] Z19) Z20 ?_)))
            refine Ab (Ag (iS (.agg [Iv 0,Bv false,Iv 0]) (Bv false) [] ?_))
            exact Cv l
          ·replace hc99:=bt hc99
           refine iQ 5 (iE 108 (zT [(105,Ba true)] Z19) Z20 ?_)
           refine iT (Aa rfl (iQ 3 (iE 108 (zT [(105,Ba true)] Z19) Z20 ?_)))
           refine Ab (Ag (iS (.agg [Iv 0,Bv false,Iv 0]) (Bv false) [] ?_))
           exact Cv l
        ·replace hc81:=bt hc81
         obtain ⟨q2,hq2⟩ : ∃ q,ns2[2]? = some q:=⟨_,List.getElem?_eq_getElem (by omega)⟩
         have b2:=hlt2 _ (List.mem_of_getElem? hq2)
         refine iT (Am rfl (iQ 2 (Bi (q:=2) (n:=((ns2).length)) (cs:=(Cz (ns2))) (d:=.v (.int .i64 ((q2:Int)))) (dst:=(some 84)) (by kernel_rfl) (by omega) (Ib (i:=2) hq2) ?_)))
         refine iQ 1 (jB .add 3 (.int .i64 z78) (.int .i64 ((q2:Int))) 86 ?_)
         intro z86 hz86
         try replace hz86:=hz86.i64 (by omega)
         refine iQ 1 (iE 108 (zT [(9,Ia z86),(68,Ba false),(81,Ba true)] (zT Z9 Z1)) Z4 ?_)
         refine Af (Ae (Aa rfl (iQ 1 (jX 9 (.string s37) (.int .i64 0) 88 ?_))))
         refine And.intro (by rw[e37,Aj];omega) ?_
         intro z88 hz88
         refine jB .eql 5 (.int .u8 z88) (.int .u8 45) 89 ?_
         intro c89 hc89
         let Z24:=zT [(9,Ia z86),(68,Ba false),(81,Ba true),(89,Ba c89)] []
         let Z25:=zT Z24 (zT Z9 Z1)
         refine iE 108 Z25 Z4 ?_
         cases c89
         ·replace hc89:=bf hc89
          refine iF (Ad (Af (Aa rfl (iQ 2 (jC 149 [.agg [Iv x,Bv false,Iv 0],Iv z86] 95 (b1b (s:=x) (z:=false) (o0:=0) (o:=z86)) ?_)))))
          rintro _ ⟨x4,z4,o4,g5,rfl,h5⟩
          refine iQ 5 ?_
          let Z26:=zT [(5,Ba g5),(6,.p 6 0),(7,.d (Sv s37)),(8,.d (.sl ((ns2).length) (Cz (ns2)))),(9,Ia z86),(12,Ba false),(21,Ba false),(38,Ba false),(42,Ba false),(46,Ba false),(68,Ba false),(81,Ba true),(89,Ba false)] []
          let Z27:=zH [(2,[Iv 0,Bv false,Iv 0]),(6,[Iv x4,Bv z4,Iv o4])] []
          refine iE 108 (zT Z26 Z1) Z27 ?_
          refine Ae (Aa rfl (iQ 1 (jU .not (.bool g5) 99 ?_)))
          intro c99 hc99
          refine iQ 1 ?_
          cases c99
          ·replace hc99:=bf hc99
           refine iQ 1 (eC 151 [.agg [Iv x4,Bv z4,Iv o4]] 102 (Kk) (iQ 1 (jB .neq 9 (.string (tx (He x4 z4 o4))) (.string (tx l)) 104 ?_)))
           intro c104 hc104
           refine iQ 1 (iE 108 (zT [(105,Ba c104)] (zT Z26 Z1)) Z27 ?_)
           cases c104
           ·replace hc104:=bf hc104
            refine iF (Ad (Af (Aa rfl (iQ 3 ?_))))
            let Z28:=zT [(0,.d (Sv (tx l))),(2,.p 2 0),(3,Ba true),(105,Ba false)] []
            let Z29:=zH [(2,[Iv x4,Bv z4,Iv o4]),(6,[Iv x4,Bv z4,Iv o4])] []
            refine iE 108 (zT Z28 Z26) Z29 ?_
            refine Ab (iS (.agg [Iv x4,Bv z4,Iv o4]) (Bv true) [] ?_)
            exact Ks (Classical.not_not.1 hc104) h0
           ·replace hc104:=bt hc104
            refine iT (Aa rfl (iQ 3 (iE 108 (zT [(105,Ba true)] (zT Z26 Z1)) Z27 ?_)))
            refine Ab (Ag (iS (.agg [Iv 0,Bv false,Iv 0]) (Bv false) [] ?_))
            exact Cv l
          ·replace hc99:=bt hc99
           refine iQ 5 (iE 108 (zT [(105,Ba true)] (zT Z26 Z1)) Z27 ?_)
           refine iT (Aa rfl (iQ 3 (iE 108 (zT [(105,Ba true)] (zT Z26 Z1)) Z27 ?_)))
           refine Ab (Ag (iS (.agg [Iv 0,Bv false,Iv 0]) (Bv false) [] ?_))
           exact Cv l
         ·replace hc89:=bt hc89
          refine iT (Am rfl (iQ 1 (jU .neg (.int .i64 z86) 91 ?_)))
          intro z91 hz91
          try replace hz91:=hz91.i64 (by omega)
          refine iQ 1 ?_
          let Z30:=zT [(9,Ia z91),(68,Ba false),(81,Ba true),(89,Ba true)] []
          let Z31:=zT Z30 (zT Z9 Z1)
          refine iE 108 Z31 Z4 ?_
          refine Af (Aa rfl (iQ 2 (jC 149 [.agg [Iv x,Bv false,Iv 0],Iv z91] 95 (b1b (s:=x) (z:=false) (o0:=0) (o:=z91)) ?_)))
          rintro _ ⟨x4,z4,o4,g5,rfl,h5⟩
          refine iQ 5 ?_
          let Z32:=zT [(5,Ba g5),(6,.p 6 0),(7,.d (Sv s37)),(8,.d (.sl ((ns2).length) (Cz (ns2)))),(12,Ba false),(21,Ba false),(38,Ba false),(42,Ba false),(46,Ba false)] []
          let Z33:=zT Z32 (zT Z30 Z1)
          let Z34:=zH [(2,[Iv 0,Bv false,Iv 0]),(6,[Iv x4,Bv z4,Iv o4])] []
          refine iE 108 Z33 Z34 ?_
          refine Ae (Aa rfl (iQ 1 (jU .not (.bool g5) 99 ?_)))
          intro c99 hc99
          refine iQ 1 ?_
          cases c99
          ·replace hc99:=bf hc99
           refine iQ 1 (eC 151 [.agg [Iv x4,Bv z4,Iv o4]] 102 (Kk) (iQ 1 (jB .neq 9 (.string (tx (He x4 z4 o4))) (.string (tx l)) 104 ?_)))
           intro c104 hc104
           refine iQ 1 (iE 108 (zT [(105,Ba c104)] Z33) Z34 ?_)
           cases c104
           ·replace hc104:=bf hc104
            refine iF (Ad (Af (Aa rfl (iQ 3 ?_))))
            let Z35:=zT [(0,.d (Sv (tx l))),(2,.p 2 0),(3,Ba true),(105,Ba false)] []
            let Z36:=zT Z35 (zT Z32 Z30)
            let Z37:=zH [(2,[Iv x4,Bv z4,Iv o4]),(6,[Iv x4,Bv z4,Iv o4])] []
            refine iE 108 Z36 Z37 ?_
            refine Ab (iS (.agg [Iv x4,Bv z4,Iv o4]) (Bv true) [] ?_)
            exact Ks (Classical.not_not.1 hc104) h0
           ·replace hc104:=bt hc104
            refine iT (Aa rfl (iQ 3 (iE 108 (zT [(105,Ba true)] Z33) Z34 ?_)))
            refine Ab (Ag (iS (.agg [Iv 0,Bv false,Iv 0]) (Bv false) [] ?_))
            exact Cv l
          ·replace hc99:=bt hc99
           refine iQ 5 (iE 108 (zT [(105,Ba true)] Z33) Z34 ?_)
           refine iT (Aa rfl (iQ 3 (iE 108 (zT [(105,Ba true)] Z33) Z34 ?_)))
           refine Ab (Ag (iS (.agg [Iv 0,Bv false,Iv 0]) (Bv false) [] ?_))
           exact Cv l
       ·replace hc67:=bt hc67
        refine iT (Aa rfl (iQ 3 (iE 108 (zT [(68,Ba true)] (zT Z9 Z1)) Z4 ?_)))
        refine Ab (Ag (iS (.agg [Iv 0,Bv false,Iv 0]) (Bv false) [] ?_))
        exact Cv l
      ·replace hc63:=bt hc63
       refine iQ 4 (iE 108 (zT [(68,Ba true)] (zT Z9 Z1)) Z4 ?_)
       refine iT (Aa rfl (iQ 3 (iE 108 (zT [(68,Ba true)] (zT Z9 Z1)) Z4 ?_)))
       refine Ab (Ag (iS (.agg [Iv 0,Bv false,Iv 0]) (Bv false) [] ?_))
       exact Cv l
     ·replace hc48:=bt hc48
      have hz:l.drop 8=[90]:=(b08 (r:=[90]) e37).1 hc48
      refine iT (Aa rfl (iQ 1 (jC 149 [.agg [Iv x,Bv false,Iv 0],Iv 0] 50 (b1b (s:=x) (z:=false) (o0:=0) (o:=0)) ?_)))
      rintro _ ⟨x',z',o',g3,rfl,h3⟩
      refine iQ 4 ?_
      let Z38:=zT [(0,.d (Sv (tx l))),(2,.p 2 0),(3,Ba g3),(7,.d (Sv s37)),(38,Ba false),(42,Ba false),(46,Ba true)] []
      let Z39:=zH [(2,[Iv x',Bv z',Iv o']),(6,[Iv x,Bv false,Iv 0])] []
      refine iE 108 (zT Z38 Z3) Z39 ?_
      refine Ab (Ai (Ag (iS (.agg [Iv x',Bv z',Iv o']) (Bv g3) [] ?_)))
      refine ⟨x',z',o',g3,rfl,?_⟩;rcases h3 with ⟨q1,q2,q3,q4,q5⟩ | h3;exact .inl ⟨q1,by rw[q3,q4,q5];exact q2,by rw[q3,q4,q5,hT,show La true 0=[90] from rfl,← hz,List.take_append_drop]⟩;exact .inr h3
    ·replace hc44:=bt hc44
     have hd:l.drop 8=[]:=(b08 (r:=[]) e37).1 hc44
     refine iT (Aa rfl (iQ 3 ?_))
     let Z40:=zT [(0,.d (Sv (tx l))),(2,.p 2 0),(3,Ba true),(7,.d (Sv s37)),(38,Ba false),(42,Ba true)] []
     let Z41:=zH [(2,[Iv x,Bv false,Iv 0]),(6,[Iv x,Bv false,Iv 0])] []
     refine iE 108 (zT Z40 Z3) Z41 ?_
     refine Ab (Ai (Ag (iS (.agg [Iv x,Bv false,Iv 0]) (Bv true) [] ?_)))
     exact ⟨x,false,0,true,rfl,.inl ⟨rfl,by unfold Gv;simp;omega,by rw[hT,show La false 0=[] from rfl,← hd,List.take_append_drop]⟩⟩
   ·replace hc40:=bt hc40
    refine iT (Aa rfl (iQ 3 (iE 108 (zT [(7,.d (Sv s37)),(38,Ba true)] (zT Z3 Z1)) Z4 ?_)))
    refine Ab (Ai (Ag (iS (.agg [Iv 0,Bv false,Iv 0]) (Bv false) [] ?_)))
    exact Cv l
  ·replace hc21:=bt hc21
   refine iT (Aa rfl (iQ 3 (iE 108 (zT [(21,Ba true)] (zT Z2 Z1)) [(2,[Iv 0,Bv false,Iv 0])] ?_)))
   refine Ab (Ag (iS (.agg [Iv 0,Bv false,Iv 0]) (Bv false) [] ?_))
   exact Cv l
 ·replace hc12:=bt hc12
  refine iT (Aa rfl (iQ 3 (iE 108 (zT [(12,Ba true)] Z1) [(2,[Iv 0,Bv false,Iv 0])] ?_)))
  refine Ab (Ag (iS (.agg [Iv 0,Bv false,Iv 0]) (Bv false) [] ?_))
  exact Cv l
def c0h (l:L8) (r:DV):Prop := ∃ (y m d s:Int) (z:Bool) (o:Int) (ok:Bool),r=.tup [.agg [.v (.int .i64 y),.v (.int .i64 m),.v (.int .i64 d),.v (.int .i64 s),.v (.bool z),.v (.int .i64 o)],.v (.bool ok)] ∧
 (ok=true∧(Io y m d∧Gv s z o∧l=Vn y m d ++ [84] ++ Jg s z o)∨ok=false∧y=0∧m=0∧d=0∧s=0∧z=false∧o=0)
theorem Qa (l:L8):c0h l (.tup [.agg [.v (.int .i64 0),.v (.int .i64 0),.v (.int .i64 0),.v (.int .i64 0),.v (.bool false),.v (.int .i64 0)],.v (.bool false)]):=⟨0,0,0,0,false,0,false,rfl,.inr ⟨rfl,rfl,rfl,rfl,rfl,rfl,rfl⟩⟩
theorem Ym {l:L8} (hL:l.length<4294967281):HasC Tryz.prog 127 [.v (.string (tx l))] (c0h l):=by
 refine hO [] Tryz.f127 (fun a w=>Tryz.call127 a w) Tryz.func127 rfl (⟨_,Qa l⟩) ?_
 refine Aa rfl (iQ 2 ?_)
 let Z1:=zT [(0,.d (Sv (tx l))),(2,.p 2 0),(3,Ba false)] []
 let Z2:=zH [(2,[Iv 0,Iv 0,Iv 0,Iv 0,Bv false,Iv 0])] []
 refine iE 41 Z1 Z2 ?_
 refine Aa rfl (iQ 1 (jC 153 [Sv (tx l),Sv (⟨#[84]⟩)] 13 (b71 (c:=84) hL) ?_))
 rintro _ ⟨a,e,g,rfl,h1,h2,h3⟩
 refine iQ 7 ?_
 let Z3:=zT [(2,.p 2 0),(3,Ba false),(4,.d (Sv (tx a))),(5,.d (Sv (tx e))),(6,Ba g)] []
 refine iE 41 Z3 Z2 ?_
 refine Aa rfl (iQ 1 (jC 123 [Sv (tx a)] 19 (Rf (l:=a) (by omega)) ?_))
 rintro _ ⟨y,m,d,g1,rfl,hd⟩
 refine iQ 6 ?_
 let Z4:=zT [(2,.p 2 0),(3,Ba false),(5,.d (Sv (tx e))),(6,Ba g),(7,.p 7 0),(8,Ba g1)] []
 refine iE 41 Z4 (zH [(7,[Iv y,Iv m,Iv d])] Z2) ?_
 refine Aa rfl (iQ 1 (jC 125 [Sv (tx e)] 24 (Rj (l:=e) (by omega)) ?_))
 rintro _ ⟨s,z,o,g2,rfl,ht⟩
 refine iQ 6 ?_
 let Z5:=zT [(2,.p 2 0),(3,Ba false),(6,Ba g),(7,.p 7 0),(8,Ba g1),(9,.p 9 0),(10,Ba g2)] []
 let Z6:=zH [(7,[Iv y,Iv m,Iv d]),(9,[Iv s,Bv z,Iv o])] []
 refine iE 41 Z5 (zH Z6 Z2) ?_
 refine Ae (Aa rfl (iQ 1 (jU .not (.bool g) 28 ?_)))
 intro c28 hc28
 refine iQ 1 ?_
 cases c28
 ·replace hc28:=bf hc28
  refine iQ 1 (jU .not (.bool g1) 31 ?_)
  intro c31 hc31
  refine iQ 2 ?_
  cases c31
  ·replace hc31:=bf hc31
   refine iQ 1 (jU .not (.bool g2) 35 ?_)
   intro c35 hc35
   refine iQ 1 ?_
   let Z7:=zT [(2,.p 2 0),(3,Ba false),(7,.p 7 0),(9,.p 9 0),(36,Ba c35)] []
   refine iE 41 Z7 (zH Z6 Z2) ?_
   cases c35
   ·replace hc35:=bf hc35
    have d1:=Zx hd hc31
    have t1:=Zx ht hc35
    refine iF (Ad (Af (Aa rfl (iQ 5 ?_))))
    let Z8:=zT [(2,.p 2 0),(3,Ba true),(7,.p 7 0),(9,.p 9 0),(36,Ba false)] []
    refine iE 41 Z8 (zH [(2,[Iv y,Iv m,Iv d,Iv s,Bv z,Iv o])] Z6) ?_
    refine Ab (iS (.agg [Iv y,Iv m,Iv d,Iv s,Bv z,Iv o]) (Bv true) [] ?_)
    exact ⟨y,m,d,s,z,o,true,rfl,.inl ⟨rfl,d1.1,t1.1,by rw[h1 (by simpa using hc28),← d1.2,← t1.2];simp⟩⟩
   ·replace hc35:=bt hc35
    refine iT (Aa rfl (iQ 3 ?_))
    let Z9:=zT [(2,.p 2 0),(3,Ba false),(7,.p 7 0),(9,.p 9 0),(36,Ba true)] []
    refine iE 41 Z9 (zH Z6 Z2) ?_
    refine Ab (Ag (iS (.agg [Iv 0,Iv 0,Iv 0,Iv 0,Bv false,Iv 0]) (Bv false) [] ?_))
    exact Qa l
  ·replace hc31:=bt hc31
   refine iQ 3 ?_
   let Z10:=zT [(2,.p 2 0),(3,Ba false),(7,.p 7 0),(9,.p 9 0),(36,Ba true)] []
   refine iE 41 Z10 (zH Z6 Z2) ?_
   refine iT (Aa rfl (iQ 3 (iE 41 Z10 (zH Z6 Z2) ?_)))
   refine Ab (Ag (iS (.agg [Iv 0,Iv 0,Iv 0,Iv 0,Bv false,Iv 0]) (Bv false) [] ?_))
   exact Qa l
 ·replace hc28:=bt hc28
  refine iQ 7 ?_
  let Z11:=zT [(2,.p 2 0),(3,Ba false),(7,.p 7 0),(9,.p 9 0),(36,Ba true)] []
  refine iE 41 Z11 (zH Z6 Z2) ?_
  refine iT (Aa rfl (iQ 3 (iE 41 Z11 (zH Z6 Z2) ?_)))
  refine Ab (Ag (iS (.agg [Iv 0,Iv 0,Iv 0,Iv 0,Bv false,Iv 0]) (Bv false) [] ?_))
  exact Qa l
end Go.Proofs.YtdkgnmiiibpnnaaGreatDoor
