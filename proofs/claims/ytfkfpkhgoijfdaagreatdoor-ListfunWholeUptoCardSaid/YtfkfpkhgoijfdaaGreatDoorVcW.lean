/- Two steps of the abstract machine that stand in no order may be exchanged; so a region's text order serves for every order that its edges allow. -/
import Derived.Test.YtfkfpkhgoijfdaaGreatDoorVcT
namespace Go.Proofs.YtfkfpkhgoijfdaaGreatDoor
open Go.RowKit
set_option linter.unusedVariables false
set_option linter.unusedSimpArgs false
def Op.cls:Op→Nat
 | .load _ _=>1
 | .store _ _ _=>3
 | .call ⟨.value (.func _),_,_⟩=>2
 | .call ⟨.builtin .append,_,_⟩=>4
 | _=>0
def Iq (x y:Op):Bool :=
 decide (Op.cls x=0∨Op.cls y=0∨(Op.cls x=4∧Op.cls y≠4)∨(Op.cls x≠4∧Op.cls y=4)∨(Op.cls x=1∧Op.cls y=1)∨(Op.cls x=1∧Op.cls y=2)∨(Op.cls x=2∧Op.cls y=1))
def Kc:Op→Option Nat
 | .load _ (.tmp a)=>some a
 | .store _ (.tmp b) _=>some b
 | _=>none
def SepC (f:Nat→Option AV) (x y:Op):Prop :=
 ((Nat.beq (Op.cls x) 1&&Nat.beq (Op.cls y) 3)||(Nat.beq (Op.cls x) 3&&Nat.beq (Op.cls y) 1))=true ∧
 ∃ a b,Kc x=some a∧Kc y=some b ∧ ∀ n k m l,f a=some (.p n k)→f b=some (.p m l)→n≠m
def may (f:Nat→Option AV) (x y:Op):Prop:=Iq x y=true∨SepC f x y
section
variable {P:Program} {ty:TypeId→Option TI}
theorem Cp {s s':AS} {x:Operand} (h:s'.opd x=s.opd x):s'.dv x=s.dv x:=by unfold AS.dv;rw[h]
theorem Gx {s s':AS} {x:Operand} (h:s'.opd x=s.opd x):s'.base x=s.base x:=by unfold AS.base;rw[Cp h]
theorem Uo {s s':AS} : ∀ {xs:List Operand},(∀ x ∈ xs,s'.opd x=s.opd x)→s'.dvs xs=s.dvs xs
 | [],_=>rfl
 | x::xs,h=>by
  unfold AS.dvs
  rw[Cp (h x (by simp)),Uo fun y hy=>h y (by simp[hy])]
theorem Kd {s s':AS} : ∀ {xs:List (Nat×Operand)},(∀ x ∈ xs,s'.opd x.2=s.opd x.2)→s'.parts xs=s.parts xs
 | [],_=>rfl
 | (i,x)::xs,h=>by
  unfold AS.parts
  rw[Cp (h (i,x) (by simp)),Kd fun y hy=>h y (by simp[hy])]
theorem Zg {s s':AS} {o:Oper} (h : ∀ x ∈ o.op.operands,s'.opd x=s.opd x):Mk P o s'=Mk P o s:=by
 funext v
 unfold Mk
 have e : ∀ r:Operand→Value,(∀ x ∈ o.op.operands,s'.base x=some (r x))=(∀ x ∈ o.op.operands,s.base x=some (r x)):=by
  intro r
  apply propext
  constructor
  ·intro k x hx;rw[← Gx (h x hx)];exact k x hx
  ·intro k x hx;rw[Gx (h x hx)];exact k x hx
 simp only[e]
theorem Po {s s':AS} {x:Option Operand} {k:Nat} (h : ∀ y,x=some y→s'.opd y=s.opd y):s'.bound x k=s.bound x k:=by
 cases x with
 | none=>rfl
 | some x=>simp only[AS.bound];rw[Gx (h x rfl)]
theorem a1r {s s':AS} (op:Op) (h : ∀ x ∈ op.operands,s'.opd x=s.opd x) (hh : ∀ x n k,x ∈ op.operands→s.opd x=some (.p n k)→Op.cls op=1→s'.h n=s.h n):Eb ty s' op=Eb ty s op:=by
 cases op<;>simp only[Op.operands] at h<;>simp only[Eb]
 case move x=>exact h x (by simp)
 case assign x=>exact h x (by simp)
 case pick c a b=>rw[Cp (h c (by simp)),h a (by simp),h b (by simp)]
 case extract x i=>rw[Cp (h x (by simp))]
 case field t x f=>rw[Cp (h x (by simp))]
 case makeInterface t x=>rw[Cp (h x (by simp))]
 case typeAssert x t u b =>
  cases b<;>simp only[Cp (h x (by simp))]
 case build t ps =>
  rw[Kd (s:=s) (s':=s') (xs:=ps.toList) (fun x hx=>h x.2 (by simp;exact ⟨x.1,by simpa using hx⟩))]
 case load t x =>
  rw[h x (by simp)]
  split
  ·rename_i n k i h1 h2
   rw[Lj (hh x n k (by simp[Op.operands]) h1 rfl)]
  ·rfl
  ·rfl
 case fieldAddr t x f=>rw[h x (by simp)]
 case indexAddr t x i =>
  have e1:=h x (by simp)
  have e2:=h i (by simp)
  rw[e1,Gx e2,Cp e1]
 case index t x i =>
  have e1:=h x (by simp)
  have e2:=h i (by simp)
  rw[Cp e1,Gx e2]
 case slice t x lo hi mx =>
  cases mx with
  | some m=>rfl
  | none =>
   simp only
   have e1 : ∀ k,s'.bound lo k=s.bound lo k:=fun k=>Po fun y hy=>h y (by subst hy;simp)
   have e2 : ∀ k,s'.bound hi k=s.bound hi k:=fun k=>Po fun y hy=>h y (by subst hy;simp)
   simp only[Cp (h x (by simp)),h x (by simp),e1,e2]
 case call c =>
  obtain ⟨callee,args,tys⟩:=c
  cases callee with
  | builtin b =>
   cases b<;>try rfl
   simp only
   split
   ·rename_i x t e1 e2
    rw[Cp (h x (by simp only[Call.operands];simp[Array.mem_def,e1]))]
   ·rfl
  | _=>rfl
theorem Hv {s s':AS} (o:Oper) (h : ∀ x ∈ o.op.operands,s'.opd x=s.opd x) (hh : ∀ x n k,x ∈ o.op.operands→s.opd x=some (.p n k)→(Op.cls o.op=1∨Op.cls o.op=3)→s'.h n=s.h n) (hr:Op.cls o.op=4→s'.r=s.r):act P ty o s'=act P ty o s:=by
 have hx:=a1r (ty:=ty) o.op h (fun x n k a b c=>hh x n k a b (.inl c))
 have hb:=Zg (P:=P) h
 have hq:Pj P ty o s'=Pj P ty o s:=by unfold Pj;rw[hb,hx]
 unfold act
 rw[hq]
 obtain ⟨dst,op,type,pos,after,guard⟩:=o
 simp only at h hh hr ⊢
 split
 ·rfl
 ·rename_i t x
  rw[Cp (h x (by simp[Op.operands]))]
 ·rename_i t a x
  rw[Cp (h x (by simp[Op.operands])),h a (by simp[Op.operands])]
  split
  ·rename_i n k d i h1 h2 h3
   rw[Lj (hh a n k (by simp[Op.operands]) h1 (.inr rfl))]
  ·rfl
 ·rename_i f args tys
  rw[Uo (s:=s) (s':=s') (xs:=args.toList) fun x hx=>h x (by simp[Op.operands,Call.operands];exact .inr (by simpa using hx))]
 ·rename_i t n ps
  unfold bsl
  rw[Kd (s:=s) (s':=s') (xs:=ps.toList) (fun x hx=>h x.2 (by simp[Op.operands];exact ⟨x.1,by simpa using hx⟩))]
 ·rename_i args tys
  have hr:=hr rfl
  have hm : ∀ x ∈ args.toList,s'.opd x=s.opd x:=fun x hx=>h x (by simp[Op.operands,Call.operands];simpa using hx)
  revert hm
  generalize args.toList=l
  intro hm
  unfold Nn
  split
  ·rename_i x y t t2 _
   rw[hm x (by simp),Cp (hm y (by simp))]
   have e:AppOk s'=AppOk s:=by
    funext i n m cs ds e d k
    apply propext
    constructor<;>rintro ⟨h1,h2,h3,h4,h5,h6,h7,h8,h9⟩<;>refine ⟨h1,h2,h3,h4,h5,h6,h7,?_,h9⟩<;>cases k<;>simp only[Tk.live] at h8 ⊢ <;> first | exact h8 | (rw[hr] at h8;exact h8) | (rw[hr];exact h8)
   rw[e]
  ·rfl
 ·rfl
theorem a24 {s:AS} {d:Option Nat} {a:AV} {x:Operand} (h : ∀ k,d=some k→x ≠ .tmp k):(s.put d a).opd x=s.opd x:=by
 cases d with
 | none=>rfl
 | some d =>
  cases x with
  | tmp t =>
   have:t≠d:=fun e=>h d rfl (by rw[e])
   simp[AS.put,AS.opd,Bc _ _ this]
  | _=>rfl
theorem a45 {s:AS} {n:Nat} {cs:List DV} {x:Operand} (h:x ≠ .tmp n):(s.fresh n cs).opd x=s.opd x:=by
 cases x with
 | tmp t =>
  have:t≠n:=fun e=>h (by rw[e])
  simp[AS.fresh,AS.opd,Bc _ _ this]
 | _=>rfl
theorem b1l {s:AS} {d:Option Nat} {j e z:Nat} {a:DV} {x:Operand} (h : ∀ k,d=some k→x ≠ .tmp k):(s.app d j a e z).opd x=s.opd x:=by
 cases d with
 | none=>cases x<;>rfl
 | some d =>
  cases x with
  | tmp t =>
   have:t≠d:=fun e=>h d rfl (by rw[e])
   simp[AS.app,AS.opd,Bc _ _ this]
  | _=>rfl
theorem b0p {ops:Array Oper} {o:Oper} {d:Option Nat} (h : ∀ k,d=some k→k ∉ o.looksAt ops) : ∀ x ∈ o.op.operands,∀ k,d=some k→x ≠ .tmp k:=by
 intro x hx k hk e
 refine h k hk ?_
 subst e
 exact List.mem_append_left _ (List.mem_filterMap.2 ⟨.tmp k,by simpa using hx,rfl⟩)
theorem Xw {s:AS} (hw:s.WF) {x:Operand} {n k:Nat} (h:s.opd x=some (.p n k)):s.u n=true:=by
 cases x with
 | tmp t=>exact hw.p t n k h
 | const v=>simp[AS.opd] at h;unfold AV.ofC at h;split at h<;>cases h
 | global g=>simp[AS.opd] at h
 | func f=>simp[AS.opd] at h
theorem a2y {s:AS} (hw:s.WF) {x:Operand} {d:DV} {q:Tk} (h:s.opd x=some (.w d (some q))):q.v≤s.r q.j:=by
 cases x with
 | tmp t=>exact hw.w t d q h
 | const v=>simp[AS.opd] at h;unfold AV.ofC at h;split at h<;>cases h
 | global g=>simp[AS.opd] at h
 | func f=>simp[AS.opd] at h
theorem Gv {o:Oper} {s:AS} {n:Nat} {cs:List DV} (h:act P ty o s=some (.sto n cs)) :
  ∃ t a x k,o.op=.store t a x∧s.opd a=some (.p n k) ∧ ∃ d i ds,s.dv x=some d∧ty t=some i∧s.cellsAt n=some ds∧d.cells.length=i.size∧k+i.size≤ds.length∧Bs d.cells=true∧cs=Ei ds k d.cells:=by
 unfold act at h
 split at h
 ·split at h<;>simp at h
 ·split at h
  ·simp only[Bool.cond_eq_ite] at h
   split at h<;>simp at h
  ·simp at h
 ·rename_i t a x hop
  split at h
  ·rename_i m k d i h1 h2 h3
   split at h
   ·rename_i ds h4
    simp only[Bool.cond_eq_ite] at h
    split at h
    ·rename_i hk
     simp at h
     obtain ⟨rfl,rfl⟩:=h
     simp only[Bool.and_eq_true] at hk
     exact ⟨t,a,x,k,hop,h1,d,i,ds,h2,h3,h4,Nat.eq_of_beq_eq_true hk.1.1,Nat.le_of_ble_eq_true hk.1.2,hk.2,rfl⟩
    ·simp at h
   ·simp at h
  ·simp at h
 ·split at h<;>simp at h
 ·split at h<;>simp at h
 ·obtain ⟨_,_,_,_,e⟩:=Kj ty h
  cases e
 ·unfold Pj at h
  split at h
  ·simp at h
  ·split at h<;>simp at h
theorem Lx {o:Oper} {s:AS} {j e z:Nat} {x:DV} (h:act P ty o s=some (.app j x e z)) : ∃ args tys,o.op=.call ⟨.builtin .append,args,tys⟩∧Nn ty s o.dst args.toList tys.toList=some (.app j x e z):=by
 unfold act at h
 split at h
 ·split at h<;>simp at h
 ·split at h
  ·simp only[Bool.cond_eq_ite] at h
   split at h<;>simp at h
  ·simp at h
 ·split at h
  ·split at h
   ·simp only[Bool.cond_eq_ite] at h
    split at h<;>simp at h
   ·simp at h
  ·simp at h
 ·split at h<;>simp at h
 ·split at h<;>simp at h
 ·rename_i args tys hop
  exact ⟨args,tys,hop,h⟩
 ·unfold Pj at h
  split at h
  ·simp at h
  ·split at h<;>simp at h
theorem Cj {ops:Array Oper} {o:Oper} {s:AS} {c:Ac} (h:Gm P ty ops o s=some c):act P ty o s=some c∨c=.set (.d (.v undef)):=by
 unfold Gm at h
 split at h
 ·exact .inl h
 ·split at h
  ·split at h
   ·split at h
    ·exact .inl h
    ·simp at h;exact .inr h.symm
   ·simp at h;exact .inr h.symm
   ·simp at h
  ·simp at h
theorem a6v {ops:Array Oper} {x y:Oper} {s:AS} {c:Ac} {r:DV} (hw:s.WF) (hp:may s.t x.op y.op) (h1 : ∀ d,x.dst=some d→d ∉ y.looksAt ops) (hc:Gm P ty ops x s=some c) (hs:Ma x s c) :
  act P ty y (upd x r s c)=act P ty y s:=by
 have hl:=b0p h1
 cases c with
 | set a=>exact Hv y (fun z hz=>a24 (hl z hz)) (fun z n k _ _ _=>by cases h:x.dst<;>simp[upd,AS.put,h]) fun _=>by cases h:x.dst<;>simp[upd,AS.put,h]
 | call f ds=>exact Hv y (fun z hz=>a24 (hl z hz)) (fun z n k _ _ _=>by cases h:x.dst<;>simp[upd,AS.put,h]) fun _=>by cases h:x.dst<;>simp[upd,AS.put,h]
 | app j a e z =>
  refine Hv y (fun z hz=>b1l (hl z hz)) (fun z n k _ _ _=>by cases h:x.dst<;>simp[upd,AS.app,h]) fun h4 => ?_
  exfalso
  obtain ⟨args,tys,hop,_⟩:=Lx ((Cj hc).resolve_right (by simp))
  have h4':Op.cls x.op=4:=by rw[hop];rfl
  rcases hp with hp | hp
  ·unfold Iq at hp
   rw[h4,h4'] at hp
   simp at hp
  ·have hp:=hp.1
   rw[h4,h4'] at hp
   simp at hp
 | new cs =>
  obtain ⟨m,hm,hu,hn⟩:=hs
  simp only[upd,hm]
  refine Hv y (fun z hz=>a45 (hl z hz m hm)) (fun z n k hz hk _ => ?_) fun _=>rfl
  have:=Xw hw hk
  have:n≠m:=fun e=>by rw[e,hu] at this;cases this
  simp[AS.fresh,Bc _ _ this]
 | sto n cs =>
  refine Hv y (fun z hz=>by cases z<;>rfl) (fun z m k hz hk hcls => ?_) fun _=>rfl
  rcases Cj hc with hc | hc
  ·obtain ⟨t,a,z',k',hop,hb,_⟩:=Gv hc
   have h3:Op.cls x.op=3:=by rw[hop];rfl
   have hmn:m≠n:=by
    rcases hp with hp | hp
    ·exfalso
     unfold Iq at hp
     rw[h3] at hp
     rcases hcls with e | e<;>rw[e] at hp<;>simp at hp
    ·obtain ⟨hp1,ta,tz,ea,eb,hne⟩:=hp
     rw[h3] at hp1
     simp only[Bool.and_eq_true,Bool.or_eq_true] at hp1
     have hy1:Op.cls y.op=1:=by
      rcases hp1 with h | h
      ·exact absurd (Nat.eq_of_beq_eq_true h.1) (by decide)
      ·exact Nat.eq_of_beq_eq_true h.2
     rw[hop] at ea
     cases a with
     | tmp ta' =>
      simp only[Kc,Option.some.injEq] at ea
      subst ea
      have e1:s.t ta'=some (.p n k'):=hb
      cases hy:y.op with
      | load ty' zz =>
       have hzz:z=zz:=by rw[hy] at hz;simpa [Op.operands] using hz
       subst hzz
       cases z with
       | tmp tz' =>
        rw[hy] at eb
        simp only[Kc,Option.some.injEq] at eb
        subst eb
        have e2:s.t tz'=some (.p m k):=hk
        exact fun e=>hne n k' m k e1 e2 e.symm
       | _=>rw[hy] at eb;simp[Kc] at eb
      | _=>rw[hy] at hy1;first | (simp[Op.cls] at hy1;done) | (unfold Op.cls at hy1;split at hy1<;>simp_all)
     | _=>simp[Kc] at ea
   show (ins s.h n _) m=s.h m
   exact Bc _ _ hmn
  ·cases hc
theorem Xc {ops:Array Oper} {x y:Oper} {s:AS} {c:Ac} {r:DV} (hw:s.WF) (hp:may s.t x.op y.op) (h1 : ∀ d,x.dst=some d→d ∉ y.looksAt ops) (hc:Gm P ty ops x s=some c) (hs:Ma x s c) :
  Gm P ty ops y (upd x r s c)=Gm P ty ops y s:=by
 have key:act P ty y (upd x r s c)=act P ty y s:=a6v hw hp h1 hc hs
 have kt : ∀ g ∈ y.looksAt ops,(upd x r s c).t g=s.t g:=by
  intro g hg
  have hne : ∀ k,x.dst=some k→g≠k:=fun k hk e=>h1 k hk (e ▸ hg)
  cases c with
  | set a=>cases h:x.dst with
   | none=>simp[upd,AS.put,h]
   | some d=>simp[upd,AS.put,h,Bc _ _ (hne d h)]
  | call f ds=>cases h:x.dst with
   | none=>simp[upd,AS.put,h]
   | some d=>simp[upd,AS.put,h,Bc _ _ (hne d h)]
  | app j a e z=>cases h:x.dst with
   | none=>simp[upd,AS.app,h]
   | some d=>simp[upd,AS.app,h,Bc _ _ (hne d h)]
  | new cs=>cases h:x.dst with
   | none=>simp[upd,h]
   | some d=>simp[upd,AS.fresh,h,Bc _ _ (hne d h)]
  | sto n cs=>rfl
 unfold Gm
 rw[key]
 cases hg:y.guard with
 | none=>rfl
 | some gw =>
  obtain ⟨j,want⟩:=gw
  simp only
  cases hb:(ops[j]?).bind (·.dst) with
  | none=>rfl
  | some g =>
   simp only
   rw[kt g (List.mem_append_right _ (by simp[hg,hb]))]
theorem AS.ext' {s s':AS} (h1:s.n=s'.n) (h2:s.t=s'.t) (h3:s.h=s'.h) (h4:s.u=s'.u) (h5:s.r=s'.r):s=s':=by
 cases s;cases s';simp_all
theorem Qj {s:AS} {d e:Option Nat} {a b:AV} (h : ∀ k,d=some k→e≠some k):(s.put d a).put e b=(s.put e b).put d a:=by
 cases d with
 | none=>rfl
 | some d =>
  cases e with
  | none=>rfl
  | some e =>
   have:e≠d:=fun k=>h d rfl (by rw[k])
   simp[AS.put,Hx _ _ _ this]
theorem Qq {s:AS} {d e:Option Nat} {a:AV} {j k z:Nat} {x:DV} (h : ∀ k,d=some k→e≠some k):(s.put d a).app e j x k z=(s.app e j x k z).put d a:=by
 cases d with
 | none=>rfl
 | some d =>
  cases e with
  | none=>rfl
  | some e =>
   have:e≠d:=fun k=>h d rfl (by rw[k])
   simp[AS.put,AS.app,Hx _ _ _ this]
theorem Us {s:AS} {n:Nat} {e:Option Nat} {cs:List DV} {j k z:Nat} {x:DV} (h:e≠some n):(s.fresh n cs).app e j x k z=(s.app e j x k z).fresh n cs:=by
 cases e with
 | none=>rfl
 | some e =>
  have:e≠n:=fun k=>h (by rw[k])
  simp[AS.fresh,AS.app,Hx _ _ _ this]
theorem Zp {s:AS} {n:Nat} {e:Option Nat} {cs:List DV} {j k z:Nat} {x:DV}:(s.setH n cs).app e j x k z=(s.app e j x k z).setH n cs:=by
 cases e<;>rfl
theorem Kr {s:AS} {d:Option Nat} {n:Nat} {a:AV} {cs:List DV} (h : ∀ k,d=some k→n≠k):(s.put d a).fresh n cs=(s.fresh n cs).put d a:=by
 cases d with
 | none=>rfl
 | some d =>
  have:n≠d:=h d rfl
  simp[AS.put,AS.fresh,Hx _ _ _ this]
theorem Ny {s:AS} {d:Option Nat} {n:Nat} {a:AV} {cs:List DV}:(s.put d a).setH n cs=(s.setH n cs).put d a:=by
 cases d<;>rfl
theorem a0a {s:AS} {n m:Nat} {cs ds:List DV} (h:n≠m):(s.fresh n cs).fresh m ds=(s.fresh m ds).fresh n cs:=by
 simp[AS.fresh,Hx _ _ _ (Ne.symm h)]
theorem St {s:AS} {n m:Nat} {cs ds:List DV} (h:n≠m):(s.fresh n cs).setH m ds=(s.setH m ds).fresh n cs:=by
 simp[AS.fresh,AS.setH,Hx _ _ _ (Ne.symm h)]
theorem a27 {o:Oper} {s:AS} {n:Nat} {cs:List DV} (hw:s.WF) (h:act P ty o s=some (.sto n cs)):s.u n=true:=by
 obtain ⟨t,a,x,k,hop,ha,_⟩:=Gv h
 exact Xw hw ha
theorem Yl {ops:Array Oper} {x y:Oper} {s:AS} {c e:Ac} {r q:DV} (hw:s.WF) (hd : ∀ k,x.dst=some k→y.dst≠some k) (hc:Gm P ty ops x s=some c) (he:Gm P ty ops y s=some e) (hs:Ma x s c) (hs':Ma y s e) (hne : ¬ ((∃ n cs,c=.sto n cs) ∧ ∃ n cs,e=.sto n cs)) (hna : ¬ ((∃ j a f z,c=.app j a f z) ∧ ∃ j a f z,e=.app j a f z)) :
  upd y q (upd x r s c) e=upd x r (upd y q s e) c:=by
 have hd' : ∀ k,y.dst=some k→x.dst≠some k:=fun k h1 h2=>hd k h2 h1
 have ne : ∀ {n cs m ds},c=.sto n cs→e=.new ds→y.dst=some m→n≠m:=by
  intro n cs m ds h1 h2 h3 h4
  subst h1;subst h2
  have:=a27 hw ((Cj hc).resolve_right (by simp))
  obtain ⟨m',hm,hu,_⟩:=hs'
  rw[h3] at hm;cases hm
  rw[h4,hu] at this;cases this
 have ne' : ∀ {n cs m ds},e=.sto n cs→c=.new ds→x.dst=some m→n≠m:=by
  intro n cs m ds h1 h2 h3 h4
  subst h1;subst h2
  have:=a27 hw ((Cj he).resolve_right (by simp))
  obtain ⟨m',hm,hu,_⟩:=hs
  rw[h3] at hm;cases hm
  rw[h4,hu] at this;cases this
 cases c<;>cases e
 case set.set=>exact Qj hd
 case set.call=>exact Qj hd
 case call.set=>exact Qj hd
 case call.call=>exact Qj hd
 case set.new =>
  obtain ⟨m,hm,_,_⟩:=hs'
  simp only[upd,hm]
  exact Kr fun k hk h=>hd k hk (by rw[hm,h])
 case call.new =>
  obtain ⟨m,hm,_,_⟩:=hs'
  simp only[upd,hm]
  exact Kr fun k hk h=>hd k hk (by rw[hm,h])
 case new.set =>
  obtain ⟨m,hm,_,_⟩:=hs
  simp only[upd,hm]
  exact (Kr fun k hk h=>hd' k hk (by rw[hm,h])).symm
 case new.call =>
  obtain ⟨m,hm,_,_⟩:=hs
  simp only[upd,hm]
  exact (Kr fun k hk h=>hd' k hk (by rw[hm,h])).symm
 case set.sto=>exact Ny
 case call.sto=>exact Ny
 case sto.set=>exact Ny.symm
 case sto.call=>exact Ny.symm
 case new.new =>
  obtain ⟨m,hm,_,_⟩:=hs
  obtain ⟨m',hm',_,_⟩:=hs'
  simp only[upd,hm,hm']
  exact a0a fun h=>hd m hm (by rw[hm',h])
 case new.sto cs n ds =>
  obtain ⟨m,hm,_,_⟩:=hs
  simp only[upd,hm]
  exact St fun h=>ne' rfl rfl hm h.symm
 case sto.new n cs ds =>
  obtain ⟨m,hm,_,_⟩:=hs'
  simp only[upd,hm]
  exact (St fun h=>ne rfl rfl hm h.symm).symm
 case sto.sto n cs m ds=>exact absurd ⟨⟨_,_,rfl⟩,_,_,rfl⟩ hne
 case app.app=>exact absurd ⟨⟨_,_,_,_,rfl⟩,_,_,_,_,rfl⟩ hna
 case set.app=>exact Qq hd
 case call.app=>exact Qq hd
 case app.set=>exact (Qq hd').symm
 case app.call=>exact (Qq hd').symm
 case new.app =>
  obtain ⟨m,hm,_,_⟩:=hs
  simp only[upd,hm]
  exact Us (hd m hm)
 case app.new =>
  obtain ⟨m,hm,_,_⟩:=hs'
  simp only[upd,hm]
  exact (Us (hd' m hm)).symm
 case sto.app=>exact Zp
 case app.sto=>exact Zp.symm
theorem a67 {s:AS} {op:Op} {n k:Nat} (h:Eb ty s op=some (.p n k)) : ∃ x j,s.opd x=some (.p n j):=by
 cases op
 case call c =>
  obtain ⟨callee,args,tys⟩:=c
  cases callee with
  | builtin b=>cases b<;>simp only[Eb] at h<;>(repeat' split at h)<;>cases h
  | _=>simp only[Eb] at h;cases h
 case slice t x lo hi mx =>
  cases mx<;>simp only[Eb] at h<;>(repeat' split at h)<;>cases h
 all_goals simp only[Eb] at h
 case move x=>exact ⟨x,k,h⟩
 case assign x=>exact ⟨x,k,h⟩
 case pick c a b=>split at h<;>first | exact ⟨_,_,h⟩ | simp at h
 case fieldAddr t x f =>
  split at h
  ·rename_i m j fs _ _ _ _ h1 h2
   split at h
   ·split at h
    ·simp only[Bool.cond_eq_ite] at h
     split at h
     ·simp at h
     ·simp at h;rw[← h.1];exact ⟨x,j,h1⟩
    ·simp at h
   ·simp at h
  ·split at h
   ·split at h
    ·simp only[Bool.cond_eq_ite] at h
     split at h<;>simp at h
    ·simp at h
   ·simp at h
  ·simp at h
 case indexAddr t x i =>
  split at h
  ·rename_i h1 h2 h3
   split at h
   ·simp only[Bool.cond_eq_ite] at h
    split at h
    ·simp at h;rw[← h.1];exact ⟨x,_,h1⟩
    ·cases h
   ·cases h
  ·split at h
   ·split at h<;>cases h
   ·cases h
  ·cases h
 all_goals (repeat' split at h)<;>cases h
theorem a9i {s:AS} {op:Op} {d:DV} {q:Tk} (h:Eb ty s op=some (.w d (some q))) : ∃ x,s.opd x=some (.w d (some q)):=by
 cases op
 case call c =>
  obtain ⟨callee,args,tys⟩:=c
  cases callee with
  | builtin b=>cases b<;>simp only[Eb] at h<;>(repeat' split at h)<;>cases h
  | _=>simp only[Eb] at h;cases h
 case slice t x lo hi mx =>
  cases mx<;>simp only[Eb] at h<;>(repeat' split at h)<;>cases h
 all_goals simp only[Eb] at h
 case move x=>exact ⟨x,h⟩
 case assign x=>exact ⟨x,h⟩
 case pick c a b=>split at h<;>first | exact ⟨_,h⟩ | simp at h
 all_goals (repeat' split at h)<;>first | (cases h;done) | (simp only[Bool.cond_eq_ite] at h;split at h<;>cases h)
theorem b2d {o:Oper} {s:AS} {a:AV} (h:act P ty o s=some (.set a)):Eb ty s o.op=some a∨(∃ d,a=.w d none) ∨ ∃ v,a=.d (.v v):=by
 unfold act at h
 split at h
 ·split at h<;>cases h
 ·split at h
  ·simp only[Bool.cond_eq_ite] at h;split at h<;>cases h
  ·cases h
 ·split at h
  ·split at h
   ·simp only[Bool.cond_eq_ite] at h;split at h<;>cases h
   ·cases h
  ·cases h
 ·split at h<;>cases h
 ·split at h
  ·rename_i x hx
   simp at h;subst h
   exact .inr (.inl (b3m ty hx))
  ·cases h
 ·obtain ⟨_,_,_,_,e⟩:=Kj ty h
  cases e
 ·unfold Pj at h
  split at h
  ·rename_i x hx
   simp at h;subst h
   exact .inl hx
  ·split at h
   ·simp at h;exact .inr (.inr ⟨_,h.symm⟩)
   ·simp at h
theorem Pa {s:AS} (hw:s.WF) (d:Option Nat) (a:AV) (ha : ∀ n k,a=.p n k→s.u n=true) (hb : ∀ x q,a=.w x (some q)→q.v≤s.r q.j):(s.put d a).WF:=by
 cases d with
 | none=>exact hw
 | some d =>
  refine ⟨fun k n j hk => ?_,fun k x q hk => ?_⟩
  ·by_cases hkd:k=d
   ·subst hkd;simp[AS.put,Ay] at hk;exact ha n j hk
   ·simp[AS.put,Bc _ _ hkd] at hk;exact hw.p k n j hk
  ·by_cases hkd:k=d
   ·subst hkd;simp[AS.put,Ay] at hk;exact hb x q hk
   ·simp[AS.put,Bc _ _ hkd] at hk;exact hw.w k x q hk
theorem a96 {s:AS} (hw:s.WF) (d:Option Nat) (j:Nat) (a:DV) (e z:Nat):(s.app d j a e z).WF:=by
 have up : ∀ (q:Tk),q.v≤s.r q.j→q.v≤ins s.r j (Nat.succ (s.r j)) q.j:=fun q h=>by
  by_cases hq:q.j=j
  ·rw[hq,Ay];rw[hq] at h;omega
  ·rw[Bc _ _ hq];exact h
 cases d with
 | none=>exact ⟨hw.p,fun k x q hk=>up q (hw.w k x q hk)⟩
 | some d =>
  refine ⟨fun k n j hk => ?_,fun k x q hk => ?_⟩
  ·by_cases hkd:k=d
   ·subst hkd;simp[AS.app,Ay] at hk
   ·simp[AS.app,Bc _ _ hkd] at hk;exact hw.p k n j hk
  ·by_cases hkd:k=d
   ·subst hkd
    simp[AS.app,Ay] at hk
    obtain ⟨_,rfl⟩:=hk
    simp[AS.app,Ay]
   ·simp[AS.app,Bc _ _ hkd] at hk;exact up q (hw.w k x q hk)
theorem a6g {ops:Array Oper} {o:Oper} {s:AS} {c:Ac} {r:DV} (hw:s.WF) (hc:Gm P ty ops o s=some c) (hs:Ma o s c):(upd o r s c).WF:=by
 cases c with
 | set a =>
  rcases Cj hc with h | h
  ·rcases b2d h with h | ⟨d,rfl⟩ | ⟨v,rfl⟩
   ·refine Pa hw _ _ (fun n k e => ?_) fun x q e => ?_
    ·subst e
     obtain ⟨x,j,hx⟩:=a67 h
     exact Xw hw hx
    ·subst e
     obtain ⟨y,hy⟩:=a9i h
     exact a2y hw hy
   ·exact Pa hw _ _ (fun n k e=>by cases e) fun x q e=>by cases e
   ·exact Pa hw _ _ (fun n k e=>by cases e) fun x q e=>by cases e
  ·simp at h
   subst h
   exact Pa hw _ _ (fun n k e=>by cases e) fun x q e=>by cases e
 | call f ds=>exact Pa hw _ _ (fun n k e=>by cases e) fun x q e=>by cases e
 | app j a e z=>exact a96 hw _ _ _ _ _
 | new cs =>
  obtain ⟨m,hm,_,_⟩:=hs
  simp only[upd,hm]
  refine ⟨fun k n j hk => ?_,fun k x q hk => ?_⟩
  ·by_cases hkd:k=m
   ·subst hkd;simp[AS.fresh,Ay] at hk ⊢;rw[← hk.1,Ay]
   ·simp[AS.fresh,Bc _ _ hkd] at hk ⊢
    have:=hw.p k n j hk
    by_cases hnm:n=m
    ·subst hnm;rw[Ay]
    ·rw[Bc _ _ hnm];exact this
  ·by_cases hkd:k=m
   ·subst hkd;simp[AS.fresh,Ay] at hk
   ·simp[AS.fresh,Bc _ _ hkd] at hk
    exact hw.w k x q hk
 | sto n cs=>exact ⟨hw.p,hw.w⟩
theorem T.wf {ops:Array Oper} {o:Oper} {Q:AS→Prop} {s:AS} (hw:s.WF) (h:T P ty ops o Q s):T P ty ops o (fun s'=>s'.WF∧Q s') s:=by
 obtain ⟨c,h1,h2,R,h3,h4⟩:=h
 exact ⟨c,h1,h2,R,h3,fun y hy=>⟨a6g hw h1 h2,h4 y hy⟩⟩
theorem a79 {x y:Oper} {s:AS} {c e:Ac} {r:DV} (hd : ∀ k,x.dst=some k→y.dst≠some k) (hs:Ma x s c) (h:Ma y (upd x r s c) e):Ma y s e:=by
 have hn:(upd x r s c).n=s.n:=by
  cases c<;>simp only[upd]
  case set=>cases x.dst<;>rfl
  case call=>cases x.dst<;>rfl
  case app=>cases x.dst<;>rfl
  case new=>cases x.dst<;>rfl
  case sto=>rfl
 cases e with
 | new cs =>
  obtain ⟨m,hm,hu,hl⟩:=h
  refine ⟨m,hm,?_,hn ▸ hl⟩
  cases c<;>simp only[upd] at hu
  case set a=>cases hx:x.dst<;>simpa [hx,AS.put] using hu
  case call f ds=>cases hx:x.dst<;>simpa [hx,AS.put] using hu
  case app=>cases hx:x.dst<;>simpa [hx,AS.app] using hu
  case new ds =>
   obtain ⟨k,hk,_,_⟩:=hs
   simp only[hk,AS.fresh] at hu
   rwa[Bc _ _ (fun e=>hd k hk (by rw[hm,e]))] at hu
  case sto=>exact hu
 | set a=>exact fun d hd=>hn ▸ h d hd
 | call f ds=>exact fun d hd=>hn ▸ h d hd
 | app j a f z=>exact fun d hd=>hn ▸ h d hd
 | sto n cs=>exact h
theorem a4z {x y:Oper} {s:AS} {c e:Ac} {r:DV} (hd : ∀ k,x.dst=some k→y.dst≠some k) (hs:Ma x s c) (h:Ma y s e):Ma y (upd x r s c) e:=by
 have hn:(upd x r s c).n=s.n:=by
  cases c<;>simp only[upd]
  case set=>cases x.dst<;>rfl
  case call=>cases x.dst<;>rfl
  case app=>cases x.dst<;>rfl
  case new=>cases x.dst<;>rfl
  case sto=>rfl
 cases e with
 | new cs =>
  obtain ⟨m,hm,hu,hl⟩:=h
  refine ⟨m,hm,?_,hn ▸ hl⟩
  cases c<;>simp only[upd]
  case set a=>cases hx:x.dst<;>simpa [hx,AS.put] using hu
  case call f ds=>cases hx:x.dst<;>simpa [hx,AS.put] using hu
  case app=>cases hx:x.dst<;>simpa [hx,AS.app] using hu
  case new ds =>
   obtain ⟨k,hk,_,_⟩:=hs
   simp only[hk,AS.fresh]
   rwa[Bc _ _ (fun e=>hd k hk (by rw[hm,e]))]
  case sto=>exact hu
 | set a=>exact fun d hd=>by rw[hn];exact h d hd
 | call f ds=>exact fun d hd=>by rw[hn];exact h d hd
 | app j a f z=>exact fun d hd=>by rw[hn];exact h d hd
 | sto n cs=>exact h
theorem a0b (x y:Op) (h:Iq x y=true):Iq y x=true:=by
 unfold Iq at *
 simp only[decide_eq_true_eq] at *
 omega
theorem a8u {f:Nat→Option AV} {x y:Op} (h:may f x y):may f y x:=by
 rcases h with h | h
 ·exact .inl (a0b _ _ h)
 ·obtain ⟨h1,a,b,ha,hb,hne⟩:=h
  refine .inr ⟨?_,b,a,hb,ha,fun n k m l e1 e2 e=>hne m l n k e2 e1 e.symm⟩
  simp only[Bool.and_eq_true,Bool.or_eq_true] at *
  rcases h1 with h | h
  ·exact .inr ⟨h.2,h.1⟩
  ·exact .inl ⟨h.2,h.1⟩
theorem Vz {f:Nat→Option AV} {x y:Op} (h:may f x y) : ¬ (Op.cls x=3∧Op.cls y=3) ∧ ¬ (Op.cls x=2∧Op.cls y=2) ∧ ¬ (Op.cls x=4∧Op.cls y=4):=by
 rcases h with h | h
 ·unfold Iq at h
  simp only[decide_eq_true_eq] at h
  omega
 ·have h:=h.1
  simp only[Bool.and_eq_true,Bool.or_eq_true] at h
  rcases h with h | h
  ·have:=Nat.eq_of_beq_eq_true h.1
   have:=Nat.eq_of_beq_eq_true h.2
   omega
  ·have:=Nat.eq_of_beq_eq_true h.1
   have:=Nat.eq_of_beq_eq_true h.2
   omega
theorem Uu {o:Oper} {s:AS} {c:Ac} (h : ∀ f ds,c ≠ .call f ds) (r q:DV):upd o r s c=upd o q s c:=by
 cases c<;>first | rfl | exact absurd rfl (h _ _)
theorem Va {ops:Array Oper} {o:Oper} {s:AS} {f:FuncId} {ds:List DV} (h:Gm P ty ops o s=some (.call f ds)):Op.cls o.op=2:=by
 rcases Cj h with h | h
 ·unfold act at h
  split at h
  ·split at h<;>simp at h
  ·split at h
   ·simp only[Bool.cond_eq_ite] at h;split at h<;>simp at h
   ·simp at h
  ·split at h
   ·split at h
    ·simp only[Bool.cond_eq_ite] at h;split at h<;>simp at h
    ·simp at h
   ·simp at h
  ·rename_i f args tys hop
   rw[hop];rfl
  ·split at h<;>simp at h
  ·obtain ⟨_,_,_,_,e⟩:=Kj ty h
   cases e
  ·unfold Pj at h
   split at h
   ·simp at h
   ·split at h<;>simp at h
 ·cases h
theorem b6f {ops:Array Oper} {x y:Oper} {Q:AS→Prop} {s:AS} (hw:s.WF) (hp:may s.t x.op y.op) (ha:x.apart ops y=true)
  (h:T P ty ops x (T P ty ops y Q) s):T P ty ops y (T P ty ops x Q) s:=by
 obtain ⟨a1,a2,a3⟩:=Oper.apart_spec ha
 have a2' : ∀ d,y.dst=some d→x.dst≠some d:=fun d h1 h2=>a2 d h2 h1
 obtain ⟨c,hc,hs,R,hR,H⟩:=h
 obtain ⟨r0,hr0⟩:=hR.ex
 obtain ⟨e,he,hse,R',hR',H'⟩:=H r0 hr0
 rw[Xc hw hp a1 hc hs] at he
 have hse':=a79 a2 hs hse
 have hne : ¬ ((∃ n cs,c=.sto n cs) ∧ ∃ n cs,e=.sto n cs):=by
  rintro ⟨⟨n,cs,rfl⟩,m,ds,rfl⟩
  have k1:Op.cls x.op=3:=by
   obtain ⟨t,a,z,k,hop,_⟩:=Gv ((Cj hc).resolve_right (by simp))
   rw[hop];rfl
  have k2:Op.cls y.op=3:=by
   obtain ⟨t,a,z,k,hop,_⟩:=Gv ((Cj he).resolve_right (by simp))
   rw[hop];rfl
  exact (Vz hp).1 ⟨k1,k2⟩
 have hna : ¬ ((∃ j a f z,c=.app j a f z) ∧ ∃ j a f z,e=.app j a f z):=by
  rintro ⟨⟨j,a,f,z,rfl⟩,j',a',f',z',rfl⟩
  have k1:Op.cls x.op=4:=by
   obtain ⟨_,_,hop,_⟩:=Lx ((Cj hc).resolve_right (by simp))
   rw[hop];rfl
  have k2:Op.cls y.op=4:=by
   obtain ⟨_,_,hop,_⟩:=Lx ((Cj he).resolve_right (by simp))
   rw[hop];rfl
  exact (Vz hp).2.2 ⟨k1,k2⟩
 refine ⟨e,he,hse',?_⟩
 have hcx : ∀ q,Gm P ty ops x (upd y q s e)=some c:=fun q=>by rw[Xc hw (a8u hp) a3 he hse'];exact hc
 have hsx : ∀ q,Ma x (upd y q s e) c:=fun q=>a4z a2' hse' hs
 by_cases hcall : ∃ f ds,c=.call f ds
 ·
  have hye : ∀ f ds,e ≠ .call f ds:=by
   intro f ds h2
   subst h2
   obtain ⟨f',ds',rfl⟩:=hcall
   have k1:=Va hc
   have k2:=Va he
   exact (Vz hp).2.1 ⟨k1,k2⟩
  refine ⟨fun q=>True,?_,fun q _=>⟨c,hcx q,hsx q,R,hR,fun r hr => ?_⟩⟩
  ·cases e<;>first | exact ⟨.v undef,trivial⟩ | exact absurd rfl (hye _ _)
  ·obtain ⟨e',he',hse'',R'',hR'',H''⟩:=H r hr
   rw[Xc hw hp a1 hc hs,he] at he'
   cases he'
   obtain ⟨q',hq'⟩:=hR''.ex
   have:=H'' q' hq'
   rw[Uu hye q' q,Yl hw a2 hc he hs hse' hne hna] at this
   exact this
 ·have hxc : ∀ f ds,c ≠ .call f ds:=fun f ds e=>hcall ⟨f,ds,e⟩
  refine ⟨R',hR',fun q hq=>⟨c,hcx q,hsx q,fun _=>True,?_,fun r _ => ?_⟩⟩
  ·cases c<;>first | exact ⟨.v undef,trivial⟩ | exact absurd rfl (hxc _ _)
  ·have:=H' q hq
   rw[Yl hw a2 hc he hs hse' hne hna] at this
   rw[Uu hxc r r0]
   exact this
end
end Go.Proofs.YtfkfpkhgoijfdaaGreatDoor
