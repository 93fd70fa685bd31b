/- Rows of numbers in memory that are sorted: numbers as four cells; what is known of the world while they are sorted. slices.SortStableFunc of a row of numbers of fewer than 20, by dec.Cmp: the row holds them sorted. slices.SortStableFunc of a row of fewer than 20 numbers. -/
import Derived.Test.YtdkgnmiiibpnnaaGreatDoorDecY
import Derived.Shelf.SlSortFuncK.SWK
import Derived.Shelf.SlicesQ.Reverse
import Derived.Deep.QuietTactic
import Derived.Deep.LoopGhost
import Derived.Sort.LotA
namespace Go.Proofs.YtdkgnmiiibpnnaaGreatDoor
open Go.RowKit Go.Sort
set_option linter.unusedVariables false
def D3:Type:={x:Bool×Nat×Int // May x.1 x.2.1 x.2.2}
instance:Inhabited D3:=⟨⟨(false,0,0),by decide,by decide,by decide,fun h=>by cases h⟩⟩
abbrev D3.g (x:D3):Bool:=x.1.1
abbrev D3.n (x:D3):Nat:=x.1.2.1
abbrev D3.e (x:D3):Int:=x.1.2.2
def Mf (x:D3):List Value:=[.bool x.g,.int .u64 (hiW x.n),.int .u64 (loW x.n),.int .i64 x.e]
theorem b00 (x:D3):(Mf x).length=4:=rfl
def cfD (x y:D3):Int:=Ju x.g x.n x.e y.g y.n y.e
def ltQ (x y:D3):Bool:=decide (cfD x y<0)
structure SW (W0:World) (blk:Nat) (d:Array D3) (w:World):Prop where
 below:Below W0.heap.size W0 w
 row:HoldsK Mf 4 w blk 0 d
 le:W0.heap.size≤blk
 lt:blk<w.heap.size
section
variable {W0 w w':World} {blk:Nat} {d:Array D3}
theorem SW.drew (h:SW W0 blk d w):SW W0 blk d w.drew:=⟨h.below.drew,h.row,h.le,h.lt⟩
theorem SW.next (h:SW W0 blk d w) (hb:Below w.heap.size w w'):SW W0 blk d w' :=
 ⟨h.below.trans (hb.mono h.below.size),fun j hj=>by
  obtain ⟨h1,h2⟩:=h.row j hj
  exact ⟨(World.cell?_of_block (a:=⟨blk,0+j,none⟩) (hb.block blk h.lt)).trans h1,(World.frozen?_of_block (a:=⟨blk,0+j,none⟩) (hb.block blk h.lt)).trans h2⟩,h.le,Nat.lt_of_lt_of_le h.lt hb.size⟩
theorem Gw {B:Nat} {a:World} {b:Nat} (hb:B≤b) : ∀ (vs:List Value) (o:Nat) (w:World),Below B a w→Below B a (w.setCells b o vs)
 | [],_,_,h=>h
 | v::vs,o,w,h=>by
  rw[World.setCells]
  exact Gw hb vs _ _ (h.setCell hb v)
theorem Gv {b:Nat} : ∀ (vs:List Value) (o:Nat) (w:World),(w.setCells b o vs).heap.size=w.heap.size
 | [],_,_=>rfl
 | v::vs,o,w=>by rw[World.setCells,Gv vs];simp[World.setCell]
theorem SW.swap (h:SW W0 blk d w) {i j:Nat} (hi:i<d.size) (hj:j<d.size):SW W0 blk (swp d i j) ((w.setCells blk (0+i*4) (Mf d[j]!)).setCells blk (0+j*4) (Mf d[i]!)) :=
 ⟨Gw h.le _ _ _ (Gw h.le _ _ _ h.below),(((SWK.start h.row).swap b00 h.lt i j hi hj).holds h.lt h.row (by rw[size_swp])),h.le,by rw[Gv,Gv];exact h.lt⟩
structure At4 (w:World) (blk a:Nat) (g:Bool) (h l e:Int):Prop where
 c0:w.cell? ⟨blk,a,none⟩=some (.bool g)
 c1:w.cell? ⟨blk,a+1,none⟩=some (.int .u64 h)
 c2:w.cell? ⟨blk,a+2,none⟩=some (.int .u64 l)
 c3:w.cell? ⟨blk,a+3,none⟩=some (.int .i64 e)
 f0:w.frozen? ⟨blk,a,none⟩=false
 f1:w.frozen? ⟨blk,a+1,none⟩=false
 f2:w.frozen? ⟨blk,a+2,none⟩=false
 f3:w.frozen? ⟨blk,a+3,none⟩=false
theorem SW.at (h:SW W0 blk d w) {i:Nat} (hi:i<d.size) {x:D3} (hx:d[i]! = x):At4 w blk (i*4) x.g (hiW x.n) (loW x.n) x.e:=by
 subst hx
 have k:=fun c hc=>h.row.cell (i:=i) (c:=c) hi hc
 simp only[Nat.zero_add] at k
 exact ⟨(k 0 (by omega)).1,(k 1 (by omega)).1,(k 2 (by omega)).1,(k 3 (by omega)).1,(k 0 (by omega)).2,(k 1 (by omega)).2,(k 2 (by omega)).2,(k 3 (by omega)).2⟩
theorem SW.swap8 (h:SW W0 blk d w) {i j:Nat} (hi:i<d.size) (hj:j<d.size) {x y:D3} (hx:d[i]! = x) (hy:d[j]! = y) :
  SW W0 blk (swp d i j) ((((((((w.setCell ⟨blk,i*4,none⟩ (.bool y.g)).setCell ⟨blk,i*4+1,none⟩ (.int .u64 (hiW y.n))).setCell ⟨blk,i*4+2,none⟩ (.int .u64 (loW y.n))).setCell ⟨blk,i*4+3,none⟩ (.int .i64 y.e)).setCell ⟨blk,j*4,none⟩ (.bool x.g)).setCell ⟨blk,j*4+1,none⟩ (.int .u64 (hiW x.n))).setCell ⟨blk,j*4+2,none⟩ (.int .u64 (loW x.n))).setCell ⟨blk,j*4+3,none⟩ (.int .i64 x.e)):=by
 subst hx hy
 have:=h.swap hi hj
 simpa only[Mf,World.setCells,Nat.zero_add,Nat.add_assoc] using this
end
open Go.RowKit Go.Sort
set_option linter.unusedVariables false
set_option linter.unusedSimpArgs false
theorem a0o {Im:Nat→Nat→Prop} {W:World} (x:D3):(Co x.g x.n x.e).rel Im W (.agg (Mf x).toArray):=by
 unfold Co
 rw[DV.rel]
 exact ⟨_,rfl,b1j (Mf x)⟩
theorem a6h {W0 w:World} (hK:Kw W0) (x y:D3) {blk:Nat} {d:Array D3} (h:SW W0 blk d w) :
  Calls Tryz.prog 83 #[.agg (Mf x).toArray,.agg (Mf y).toArray] w fun e w'=>e=.returned (.int .i64 (cfD x y))∧SW W0 blk d w':=by
 obtain ⟨x1,x2,x3,_⟩:=x.2
 obtain ⟨y1,y2,y3,_⟩:=y.2
 have c:=Rt (s1:=x.g) (A:=x.n) (e1:=x.e) (s2:=y.g) (B:=y.n) (e2:=y.e) x1 y1 (by show -10000000000000000≤x.1.2.2;omega) (by show x.1.2.2≤10000000000000000;omega) (by show -10000000000000000≤y.1.2.2;omega) (by show y.1.2.2≤10000000000000000;omega)
 refine (c.2.2 w #[.agg (Mf x).toArray,.agg (Mf y).toArray] (fun _ _=>False) (hK.below h.below) (fun _ _ h=>h.elim) ?_).mono ?_
 ·rw[DV.relL]
  refine ⟨_,_,rfl,a0o x,?_⟩
  rw[DV.relL]
  exact ⟨_,_,rfl,a0o y,by rw[DV.relL]⟩
 ·rintro e w' ⟨r,y',rfl,rfl,h3,h4⟩
  rw[DV.rel] at h3
  subst h3
  exact ⟨rfl,h.next h4⟩
structure SWp (W0:World) (blk:Nat) (d:Array D3) where
 w:World
 h:SW W0 blk d w
theorem Bi (b:Nat) {x y:Nat} (h:x≠y) (w:World) (v:Value):(w.setCell ⟨b,x,none⟩ v).cell? ⟨b,y,none⟩=w.cell? ⟨b,y,none⟩:=World.cell?_setCell_other w ⟨b,x,none⟩ ⟨b,y,none⟩ v (fun e=>h (by injection e))
theorem Vw {id:Nat} {Q:Exit→Act→World→Prop} {a:Act} {w W0:World} {blk:Nat} {d:Array D3} {l:List Oper} (hB:Region.lexB .any l.toArray=true) (hw:SW W0 blk d w)
  (h:wpQuiet Tryz.prog l.toArray (fun w' => ∃ p:SWp W0 blk d,w'=p.w) (fun a' => ∀ w',(∃ p:SWp W0 blk d,w'=p.w)→Q .normal a' w') l a):(Code.region id l.toArray true).wp Tryz.prog Q a w :=
 wp_region_quiet (C:=fun w' => ∃ p:SWp W0 blk d,w'=p.w) mixed hB ⟨⟨_,hw.drew⟩,rfl⟩ (by simpa using h)
set_option maxHeartbeats 4000000 in
set_option maxRecDepth 1000000 in
theorem Qa {W0 w:World} (hK:Kw W0) {blk cap a b:Nat} {d:Array D3} (h:SW W0 blk d w) (hab:a≤b) (hb:b≤d.size) (hsz:d.size<1000000) :
  Calls Tryz.prog 135 #[.slice (some ⟨blk,0,none⟩) d.size cap,.int .i64 a,.int .i64 b,.func (.func 83) #[] #[]] w fun e w'=>e=.returned (.tuple #[])∧SW W0 blk (insertionSort ltQ d a b) w':=by
 have HS:Hid (SW W0 blk d w):=h
 have HK:Hid (Kw W0):=hK
 clear h hK
 go_enter Tryz.func135,Tryz.ntmps135
 go_wp2
 go_loopg [8] (b-a) (fun g1 vi wr => ∃ (i:Nat) (dk:Array D3),vi=.int .i64 i∧a<i∧i≤b+1∧b+1-i≤g1+1∧dk.size=d.size∧Hid (SW W0 blk dk wr)∧Hid (insOuter ltQ a b i dk=insOuter ltQ a b (a+1) d))
 case atStart=>exact ⟨a+1,d,by go_num,by omega,by omega,by omega,rfl,HS,rfl⟩
 case round =>
  obtain ⟨i,dk,rfl,hai,hib,hg1,hsk,HW,HO⟩:=hrel
  by_cases hlt:i<b
  ·have hltz:(i:Int)<(b:Int):=by omega
   go_wp2
   go_loopg [9] i (fun g2 vj wr2 => ∃ (j:Nat) (dj:Array D3),vj=.int .i64 j∧a≤j∧j≤i∧j≤g2∧dj.size=d.size∧Hid (SW W0 blk dj wr2)∧Hid (insInner ltQ a j dj=insInner ltQ a i dk))
   case atStart=>exact ⟨i,dk,rfl,by omega,Nat.le_refl _,Nat.le_refl _,hsk,HW,rfl⟩
   case round =>
    obtain ⟨j,dj,rfl,haj,hji,hg2,hsj,HV,HI⟩:=hrel
    have out:(j≤a∨ltQ dj[j]! dj[j-1]! = false)→Hid (insOuter ltQ a b (i+1) dj=insOuter ltQ a b (a+1) d):=fun hs=>by
     show _=_
     rw[← HO.out,insOuter_go _ _ _ _ _ hlt,← HI.out,insInner_stop _ _ _ _ hs]
    have OUT:Aside _:=out
    clear out
    by_cases hja:a<j
    ·have hjaz:(a:Int)<(j:Int):=by omega
     obtain ⟨jp,rfl⟩ : ∃ jp,j=jp+1:=⟨j-1,by omega⟩
     obtain ⟨xj,hxj⟩ : ∃ x,dj[jp+1]! = x:=⟨_,rfl⟩
     obtain ⟨xp,hxp⟩ : ∃ x,dj[jp]! = x:=⟨_,rfl⟩
     have HX:Hid (dj[jp+1]! = xj∧dj[jp]! = xp):=⟨hxj,hxp⟩
     have hwp:IntKind.i64.wrap (jp:Int)=(jp:Int):=by rw[IntKind.wrap_i64];omega
     have jz:(jp:Int)+1<(d.size:Int):=by omega
     have jz1:(jp:Int)<(d.size:Int):=by omega
     have hjaz':(a:Int)<(jp:Int)+1:=by omega
     have p0:(0:Int)≤(jp:Int)+1:=by omega
     have e0:((jp:Int)+1).toNat=jp+1:=by omega
     have hcg : ∀ p:SWp W0 blk dj,Calls Tryz.prog 83 #[.agg (Mf xj).toArray,.agg (Mf xp).toArray] p.w fun e w'=>e=.returned (.int .i64 (cfD xj xp)) ∧ ∃ q:SWp W0 blk dj,w'=q.w:=fun p =>
      (a6h HK.out xj xp p.h).mono fun e w' h=>⟨h.1,⟨w',h.2⟩,rfl⟩
     have aj : ∀ p:SWp W0 blk dj,At4 p.w blk ((jp+1)*4) xj.g (hiW xj.n) (loW xj.n) xj.e:=fun p=>p.h.at (by omega) hxj
     have ap : ∀ p:SWp W0 blk dj,At4 p.w blk (jp*4) xp.g (hiW xp.n) (loW xp.n) xp.e:=fun p=>p.h.at (by omega) hxp
     have SWP : ∀ w2:World,SW W0 blk dj w2→SW W0 blk (swp dj (jp+1) jp) _:=fun w2 h=>h.swap8 (by omega) (by omega) hxj hxp
     simp only[Mf] at hcg
     obtain ⟨gj,hgj⟩ : ∃ g,g=xj.g:=⟨_,rfl⟩
     obtain ⟨uj,huj⟩ : ∃ g,g=hiW xj.n:=⟨_,rfl⟩
     obtain ⟨vj,hvj⟩ : ∃ g,g=loW xj.n:=⟨_,rfl⟩
     obtain ⟨ej,hej⟩ : ∃ g,g=xj.e:=⟨_,rfl⟩
     obtain ⟨gp,hgp⟩ : ∃ g,g=xp.g:=⟨_,rfl⟩
     obtain ⟨up,hup⟩ : ∃ g,g=hiW xp.n:=⟨_,rfl⟩
     obtain ⟨vp,hvp⟩ : ∃ g,g=loW xp.n:=⟨_,rfl⟩
     obtain ⟨ep,hep⟩ : ∃ g,g=xp.e:=⟨_,rfl⟩
     rw[← hgj,← huj,← hvj,← hej] at aj hcg SWP
     rw[← hgp,← hup,← hvp,← hep] at ap hcg SWP
     obtain ⟨cv,hcv⟩ : ∃ c,c=cfD xj xp:=⟨_,rfl⟩
     rw[← hcv] at hcg
     have HCV:Hid (cv=cfD xj xp):=hcv
     clear hgj huj hvj hej hgp hup hvp hep hxj hxp hcv
     have HCG:Aside _:=hcg
     have AJ:Aside _:=aj
     have AP:Aside _:=ap
     have HSWP:Aside _:=SWP
     clear hcg aj ap SWP
     by_cases hlv:cv<0
     ·go_wp2_with fail
      refine Vw (by kernel_rfl) HV.out ?_
      have hne:Nonempty (SWp W0 blk dj):=⟨⟨_,HV.out⟩⟩
      have j0:=fun p=>(AJ.out p).c0
      have j1:=fun p=>(AJ.out p).c1
      have j2:=fun p=>(AJ.out p).c2
      have j3:=fun p=>(AJ.out p).c3
      have p0':=fun p=>(AP.out p).c0
      have p1:=fun p=>(AP.out p).c1
      have p2:=fun p=>(AP.out p).c2
      have p3:=fun p=>(AP.out p).c3
      repeat (quiet_step (exact HCG.out _))
      refine wpQuiet_nil ?_
      intro w2 hw'
      obtain ⟨q2,hq2⟩:=hw'
      have hw2:SW W0 blk dj w2:=hq2 ▸ q2.h
      have HV2:Hid (SW W0 blk dj w2):=hw2
      obtain ⟨d0,d1,d2,d3,g0,g1',g2',g3⟩:=AJ.out ⟨_,hw2.drew⟩
      obtain ⟨d4,d5,d6,d7,g4,g5,g6,g7⟩:=AP.out ⟨_,hw2.drew⟩
      obtain ⟨m0,m1,m2,m3,n0,n1,n2,n3⟩:=AJ.out ⟨_,hw2⟩
      obtain ⟨m4,m5,m6,m7,n4,n5,n6,n7⟩:=AP.out ⟨_,hw2⟩
      simp only at m0 m1 m2 m3 m4 m5 m6 m7 n0 n1 n2 n3 n4 n5 n6 n7
      simp only at d0 d1 d2 d3 d4 d5 d6 d7 g0 g1' g2' g3 g4 g5 g6 g7
      have k01:=Bi blk (x:=(jp+1)*4) (y:=(jp+1)*4+1) (by omega)
      have k02:=Bi blk (x:=(jp+1)*4) (y:=(jp+1)*4+2) (by omega)
      have k12:=Bi blk (x:=(jp+1)*4+1) (y:=(jp+1)*4+2) (by omega)
      have k03:=Bi blk (x:=(jp+1)*4) (y:=(jp+1)*4+3) (by omega)
      have k13:=Bi blk (x:=(jp+1)*4+1) (y:=(jp+1)*4+3) (by omega)
      have k23:=Bi blk (x:=(jp+1)*4+2) (y:=(jp+1)*4+3) (by omega)
      have k04:=Bi blk (x:=(jp+1)*4) (y:=jp*4) (by omega)
      have k14:=Bi blk (x:=(jp+1)*4+1) (y:=jp*4) (by omega)
      have k24:=Bi blk (x:=(jp+1)*4+2) (y:=jp*4) (by omega)
      have k34:=Bi blk (x:=(jp+1)*4+3) (y:=jp*4) (by omega)
      have k05:=Bi blk (x:=(jp+1)*4) (y:=jp*4+1) (by omega)
      have k15:=Bi blk (x:=(jp+1)*4+1) (y:=jp*4+1) (by omega)
      have k25:=Bi blk (x:=(jp+1)*4+2) (y:=jp*4+1) (by omega)
      have k35:=Bi blk (x:=(jp+1)*4+3) (y:=jp*4+1) (by omega)
      have k45:=Bi blk (x:=jp*4) (y:=jp*4+1) (by omega)
      have k06:=Bi blk (x:=(jp+1)*4) (y:=jp*4+2) (by omega)
      have k16:=Bi blk (x:=(jp+1)*4+1) (y:=jp*4+2) (by omega)
      have k26:=Bi blk (x:=(jp+1)*4+2) (y:=jp*4+2) (by omega)
      have k36:=Bi blk (x:=(jp+1)*4+3) (y:=jp*4+2) (by omega)
      have k46:=Bi blk (x:=jp*4) (y:=jp*4+2) (by omega)
      have k56:=Bi blk (x:=jp*4+1) (y:=jp*4+2) (by omega)
      have k07:=Bi blk (x:=(jp+1)*4) (y:=jp*4+3) (by omega)
      have k17:=Bi blk (x:=(jp+1)*4+1) (y:=jp*4+3) (by omega)
      have k27:=Bi blk (x:=(jp+1)*4+2) (y:=jp*4+3) (by omega)
      have k37:=Bi blk (x:=(jp+1)*4+3) (y:=jp*4+3) (by omega)
      have k47:=Bi blk (x:=jp*4) (y:=jp*4+3) (by omega)
      have k57:=Bi blk (x:=jp*4+1) (y:=jp*4+3) (by omega)
      have k67:=Bi blk (x:=jp*4+2) (y:=jp*4+3) (by omega)
      clear hw2 hne j0 j1 j2 j3 p0' p1 p2 p3 hq2 q2
      go_wp2_with fail
      go_big_region
      all_goals go_wp2
      go_roundg jp
      case measure=>omega
      case rel =>
       refine ⟨jp,swp dj (jp+1) jp,by first | rfl | go_num | (congr 1;omega),by omega,by omega,Nat.le_refl _,by rw[size_swp];exact hsj,(show Hid _ from (HSWP.out _ HV2.out).drew),(show Hid _ from ?_)⟩
       show _=_
       have:=insInner_go ltQ a (jp+1) dj hja (by simp only[Nat.add_sub_cancel];rw[HX.out.1,HX.out.2];exact decide_eq_true (HCV.out ▸ hlv))
       simp only[Nat.add_sub_cancel] at this
       rw[← HI.out,this]
     ·go_wp2_with fail
      refine Vw (by kernel_rfl) HV.out ?_
      have hne:Nonempty (SWp W0 blk dj):=⟨⟨_,HV.out⟩⟩
      have j0:=fun p=>(AJ.out p).c0
      have j1:=fun p=>(AJ.out p).c1
      have j2:=fun p=>(AJ.out p).c2
      have j3:=fun p=>(AJ.out p).c3
      have p0':=fun p=>(AP.out p).c0
      have p1:=fun p=>(AP.out p).c1
      have p2:=fun p=>(AP.out p).c2
      have p3:=fun p=>(AP.out p).c3
      repeat (quiet_step (exact HCG.out _))
      refine wpQuiet_nil ?_
      intro w2 hw'
      obtain ⟨q2,hq2⟩:=hw'
      have HV2:Hid (SW W0 blk dj w2):=hq2 ▸ q2.h
      clear hne j0 j1 j2 j3 p0' p1 p2 p3 hq2 q2
      go_wp2
      go_roundg (b-(i+1))
      case measure=>omega
      case rel=>exact ⟨i+1,dj,by go_num,by omega,by omega,by omega,hsj,HV2,OUT.out (Or.inr (by simp only[Nat.add_sub_cancel];rw[HX.out.1,HX.out.2];exact decide_eq_false (by rw[← HCV.out];omega)))⟩
    ·have hjaz:decide ((j:Int)>(a:Int))=false:=decide_eq_false (by omega)
     have hjaz' : ¬ (a:Int)<(j:Int):=by omega
     go_wp2_with fail
     go_big_region
     all_goals go_wp2
     go_roundg (b-(i+1))
     case measure=>omega
     case rel=>exact ⟨i+1,dj,by go_num,by omega,by omega,by omega,hsj,(show Hid _ from HV.out.drew),OUT.out (Or.inl (by omega))⟩
  ·have hltz : ¬ (i:Int)<(b:Int):=by omega
   go_wp2
   go_end0
   exact ⟨rfl,by unfold insertionSort;rw[← HO.out,insOuter_stop _ _ _ _ _ hlt];exact HW.out⟩
open Go.RowKit Go.Sort
set_option linter.unusedVariables false
set_option linter.unusedSimpArgs false
set_option maxHeartbeats 4000000 in
set_option maxRecDepth 1000000 in
theorem Xa {W0 w:World} (hK:Kw W0) {blk cap n:Nat} {d:Array D3} (h:SW W0 blk d w) (hn:n=d.size) (hsz:d.size<20) :
  Calls Tryz.prog 113 #[.slice (some ⟨blk,0,none⟩) d.size cap,.int .i64 n,.func (.func 83) #[] #[]] w fun e w'=>e=.returned (.tuple #[])∧SW W0 blk (insertionSort ltQ d 0 d.size) w':=by
 have HS:Hid (SW W0 blk d w):=h
 have HK:Hid (Kw W0):=hK
 have HN:Hid (n=d.size):=hn
 have hn20:(n:Int)<20:=by omega
 have hn20' : ¬ (20:Int)≤(n:Int):=by omega
 clear h hK hn
 go_enter Tryz.func113,Tryz.ntmps113
 go_wp2
 go_loopg [7,8] 0 (fun g1 v7 v8 wr=>v7=.int .i64 0∧v8=.int .i64 20∧Hid (SW W0 blk d wr))
 case atStart=>exact ⟨rfl,rfl,HS⟩
 case round =>
  obtain ⟨rfl,rfl,HW⟩:=hrel
  go_wp2_with fail
  refine (Qa (a:=0) (b:=n) HK.out (by first | exact HW.out | exact HW.out.drew) (Nat.zero_le _) (Nat.le_of_eq HN.out) (by omega)).mono ?_
  rintro e w1 ⟨rfl,hw1⟩
  have HW1:Hid (SW W0 blk (insertionSort ltQ d 0 n) w1):=hw1
  clear hw1
  go_wp2
  go_loopg [6] 0 (fun g1 v6 wr=>v6=.int .i64 20∧Hid (SW W0 blk (insertionSort ltQ d 0 n) wr))
  case atStart=>exact ⟨rfl,HW1⟩
  case round =>
   obtain ⟨rfl,HW2⟩:=hrel
   go_wp2
   go_end0
   exact ⟨rfl,HN.out ▸ HW2.out⟩
set_option maxHeartbeats 4000000 in
set_option maxRecDepth 1000000 in
theorem Ra {W0 w:World} (hK:Kw W0) {blk cap:Nat} {d:Array D3} (h:SW W0 blk d w) (hsz:d.size<20) :
  Calls Tryz.prog 82 #[.slice (some ⟨blk,0,none⟩) d.size cap,.func (.func 83) #[] #[]] w fun e w'=>e=.returned (.tuple #[])∧SW W0 blk (insertionSort ltQ d 0 d.size) w':=by
 have HS:Hid (SW W0 blk d w):=h
 have HK:Hid (Kw W0):=hK
 clear h hK
 go_enter Tryz.func82,Tryz.ntmps82
 go_wp2_with fail
 refine (Xa (n:=d.size) HK.out (by first | exact HS.out | exact HS.out.drew) rfl hsz).mono ?_
 rintro e w1 ⟨rfl,hw1⟩
 have HW1:Hid (SW W0 blk (insertionSort ltQ d 0 d.size) w1):=hw1
 clear hw1
 go_wp2
 go_end0
 exact ⟨rfl,HW1.out⟩
end Go.Proofs.YtdkgnmiiibpnnaaGreatDoor
