/- What is to be shown of a function's text, reckoned out of the text ('vc'); and that it serves. -/
import Derived.Test.YtfkfpkhgoijfdaaGreatDoorVcB
import Derived.Laws.Cover3
namespace Go.Proofs.YtfkfpkhgoijfdaaGreatDoor
open Go.RowKit
set_option linter.unusedVariables false
set_option linter.unusedSimpArgs false
inductive Ex where
 | normal
 | exit (id:Nat)
 | ret
def Ex.up:Ex→Exit
 | .normal=>.normal
 | .exit i=>.exit i
 | .ret=>.ret
structure Bx (p:Prop):Prop where
 h:p
structure CallP (f:FuncId) (ds:List DV) (K:DV→Prop):Prop where
 h : ∃ post,HasC Tryz.prog f ds post ∧ ∀ y,post y→K y
theorem CallP.of {f:FuncId} {ds:List DV} {K:DV→Prop} {post:DV→Prop} (h:HasC Tryz.prog f ds post) (k : ∀ y,post y→K y):CallP f ds K:=⟨⟨post,h,k⟩⟩
def Gd {α:Type}:List (Nat×α)→Nat→Option α
 | [],_=>none
 | (j,x)::r,k=>bif Nat.beq k j then some x else Gd r k
def has {α:Type}:List (Nat×α)→Nat→Bool
 | [],_=>false
 | (j,_)::r,k=>bif Nat.beq k j then true else has r k
def mkS (n:Nat) (t:List (Nat×AV)) (h:List (Nat×List DV)):AS:={ n:=n,t:=Gd t,h:=Gd h,u:=has h,r:=fun _=>0 }
def Fx (h:List (Nat×List DV)):List (Nat×AV)→Bool
 | []=>true
 | (_,.p n _)::r=>has h n&&Fx h r
 | (_,.w _ (some q))::r=>Nat.beq q.v 0&&Fx h r
 | _::r=>Fx h r
def Rd (s:AS):Option AV→AV→Option AV
 | some (.w a (some q)),.w _ (some _)=>bif Nat.beq q.v (s.r q.j) then some (.w a (some ⟨q.j,0,q.e,q.z⟩)) else none
 | some (.w (.sl 0 cs) none),.w _ (some q)=>some (.w (.sl 0 cs) (some q))
 | some (.w _ none),.w _ (some _)=>none
 | some (.w a _),.d _=>some (.d a)
 | y,_=>y
def LeT (s:AS):List (Nat×AV)→Prop
 | []=>True
 | (k,x)::r=>Rd s (s.t k) x=some x∧LeT s r
def LeH (s:AS):List (Nat×List DV)→Prop
 | []=>True
 | (k,x)::r=>s.h k=some x∧LeH s r
structure Le (s:AS) (n:Nat) (t:List (Nat×AV)) (h:List (Nat×List DV)):Prop where
 hn:s.n=n
 ht:LeT s t
 hb:LeH s h
 hp:Fx h t=true
def a0e {α:Type} (Q:Ex→AS→Prop) (n:Nat) (t:α→List (Nat×AV)) (h:α→List (Nat×List DV)) (J:α→Prop) (m:α→Nat) (x:α):Ex→AS→Prop
 | .normal,s' => ∃ y,J y∧m y<m x∧Le s' n (t y) (h y)
 | .exit i,s'=>Q (.exit i) s'
 | .ret,s'=>Q .ret s'
def Wk (K:AS→Prop) (Q:Ex→AS→Prop):Ex→AS→Prop
 | .normal,s=>K s
 | .exit i,s=>Q (.exit i) s
 | .ret,s=>Q .ret s
def Lz (id:Nat) (Q:Ex→AS→Prop):Ex→AS→Prop
 | .normal,s=>Q .normal s
 | .exit i,s=>match Nat.beq i id with
  | true=>Q .normal s
  | false=>Q (.exit i) s
 | .ret,s=>Q .ret s
structure LoopP (B:(Ex→AS→Prop)→AS→Prop) (Q:Ex→AS→Prop) (s:AS):Prop where
 h : ∃ (α:Type) (n:Nat) (t:α→List (Nat×AV)) (h:α→List (Nat×List DV)) (J:α→Prop) (m:α→Nat),(∃ x,J x∧Le s n (t x) (h x)) ∧
  ∀ x,J x→B (a0e Q n t h J m x) (mkS n (t x) (h x))
structure WkP (K:AS→Prop) (s:AS):Prop where
 h : ∃ n t h,Le s n t h∧K (mkS n t h)
structure AppP (ty:TypeId→Option TI) (s:AS) (d:Option Nat) (args:List Operand) (tys:List TypeId) (K:AS→Prop):Prop where
 h : ∃ j x e z,Nn ty s d args tys=some (.app j x e z)∧K (s.app d j x e z)
structure RetP (post:DV→Prop) (y:DV):Prop where
 h:post y
def Ee (o:Oper) (s:AS):Bool :=
 match o.dst with
 | none=>true
 | some d=>Nat.blt d s.n
def AS.bases (s:AS):List Operand→Option (List Value)
 | []=>some []
 | x::xs=>match s.base x,s.bases xs with
  | some d,some ds=>some (d::ds)
  | _,_=>none
def a1q (n:Nat) (cs:List DV):Option AV→Option AV
 | some (.p m o)=>match Nat.beq m n with
  | true=>some (.rc (cs.drop o))
  | false=>some (.p m o)
 | x=>x
def AS.frz (s:AS) (n:Nat) (cs:List DV):AS:={ n:=s.n,t:=fun j=>a1q n cs (s.t j),h:=fun k=>bif Nat.beq k n then none else s.h k,u:=s.u,r:=s.r }
def Wy:List Nat→AS→Option AS
 | [],s=>some s
 | n::l,s=>match s.cellsAt n with
  | some cs=>Wy l (s.frz n cs)
  | none=>none
structure FzP (K:AS→Prop) (s:AS):Prop where
 h : ∃ l s',Wy l s=some s'∧K s'
section
variable (ty:TypeId→Option TI)
def Hp (o:Oper) (s:AS) (K:Value→Prop):Prop :=
 match o.op with
 | .binOp op t x y _=>match s.base x,s.base y with
  | some a,some b=>Yc ty op t a b K
  | _,_=>False
 | .unOp op _ x=>match s.base x with
  | some a=>a5p op a K
  | none=>False
 | .convert src dst x=>match s.base x with
  | some a=>Pi ty src dst a K
  | none=>False
 | .call ⟨.builtin b,args,tys⟩=>match s.bases args.toList with
  | some vs=>Yo ty b tys.toList vs K
  | none=>False
 | .index t x i=>match s.base x,s.base i with
  | some a,some b=>Zd ty t a b K
  | _,_=>False
 | .slice t x lo hi none=>match s.base x with
  | some (.string b)=>match s.bound lo 0,s.bound hi b.size with
   | some l,some u=>Zh ty t b l u K
   | _,_=>False
  | _=>False
 | _=>False
def Gj (o:Oper) (s:AS) (K:AS→Prop):Prop :=
 match o.op with
 | .alloc t=>match ty t,o.dst with
  | some i,some n=>match !s.u n&&Nat.blt n s.n with
   | true=>K (s.fresh n i.zero)
   | false=>False
  | _,_=>False
 | .box t x=>match s.dv x,o.dst with
  | some d,some n=>match !s.u n&&Nat.blt n s.n&&Bs d.cells with
   | true=>K (s.fresh n d.cells)
   | false=>False
  | _,_=>False
 | .store t a x=>match s.opd a,s.dv x,ty t,o.dst with
  | some (.p n k),some d,some i,none=>match s.cellsAt n with
   | some cs=>match Nat.beq d.cells.length i.size&&Nat.ble (k+i.size) cs.length&&Bs d.cells with
    | true=>K (s.setH n (Ei cs k d.cells))
    | false=>False
   | none=>False
  | _,_,_,_=>False
 | .call ⟨.value (.func f),args,_⟩=>match s.dvs args.toList,Ee o s with
  | some ds,true=>CallP f ds fun y=>K (s.put o.dst (.d y))
  | _,_=>False
 | .buildSlice t n ps=>match bsl ty s t n ps.toList,Ee o s with
  | some x,true=>K (s.put o.dst x)
  | _,_=>False
 | .call ⟨.builtin .append,args,tys⟩=>match Ee o s with
  | true=>AppP ty s o.dst args.toList tys.toList K
  | false=>False
 | _=>match Ee o s with
  | true=>match Eb ty s o.op with
   | some x=>K (s.put o.dst x)
   | none=>Hp ty o s fun v=>K (s.put o.dst (.d (.v v)))
  | false=>False
def Lr (o:Oper) (s:AS) (K:AS→Prop):Prop :=
 match Ee o s with
 | true=>K (s.put o.dst (.d (.v undef)))
 | false=>False
def Mr (ops:Array Oper) (o:Oper) (s:AS) (K:AS→Prop):Prop :=
 match o.guard with
 | none=>Gj ty o s K
 | some (j,want)=>match (ops[j]?).bind (·.dst) with
  | some g=>match s.t g with
   | some (.d (.v (.bool b)))=>match want with
    | true=>match b with
     | true=>Gj ty o s K
     | false=>Lr o s K
    | false=>match b with
     | true=>Lr o s K
     | false=>Gj ty o s K
   | some (.d (.v _))=>Lr o s K
   | _=>False
  | none=>False
structure NextIs (b:ByteArray) (p c:Int) (w:Nat):Prop where
 c:((Utf8.decode b p.toNat).1:Int)=c
 w:(Utf8.decode b p.toNat).2=w
structure NextP (b:ByteArray) (p:Int) (K:DV→Int→Prop):Prop where
 h0:0≤p
 more:p<(b.size:Int) → ∀ (c q:Int) (w:Nat),NextIs b p c w→q=p+w→K (.tup [.v (.bool true),.v (.int .i64 p),.v (.int .i32 c)]) q
 stop : ¬ p<(b.size:Int)→K (.tup [.v (.bool false)]) p
def Ri (ns:List Int):ByteArray:=⟨(ns.map fun n=>UInt8.ofNat n.toNat).toArray⟩
structure BytesP (n:Nat) (cs:List DV) (K:ByteArray→Prop):Prop where
 ex : ∃ ns:List Int,cs=ns.map (fun z=>.v (.int .u8 z))∧n=ns.length∧K (Ri ns)
structure SlArrP (m z:Nat) (l:Int) (cs:List DV) (K:Nat→List DV→Prop):Prop where
 hl:0≤l∧l≤(m:Int)
 hc:cs.length=m*z
 hi:Jl cs=false
 k:K ((m:Int)-l).toNat ((cs.drop (l.toNat*z)).take (((m:Int)-l).toNat*z))
structure NilP (n:Nat) (K:Bool→Prop):Prop where
 yes:n=0→K true
 no:K false
def Pe (o:Oper) (s:AS) (K:AS→Prop):Prop :=
 match o.guard,o.op,o.dst with
 | none,.range t x,some n=>match s.dv x,ty t with
  | some (.v (.string b)),some ⟨.str,_,_,_,_⟩=>match !s.u n&&Nat.blt n s.n with
   | true=>K (s.fresh n [.tup [.v (.string b),.v (.int .i64 0)]])
   | false=>False
  | _,_=>False
 | none,.next x true,some d=>match s.opd x with
  | some (.p n 0)=>match s.h n with
   | some [.tup [.v (.string b),.v (.int .i64 p)]]=>match Nat.blt d s.n with
    | true=>NextP b p fun y q=>K ((s.setH n [.tup [.v (.string b),.v (.int .i64 q)]]).put (some d) (.d y))
    | false=>False
   | _=>False
  | _=>False
 | none,.convert src dst x,some d=>match s.dv x,ty src,ty dst with
  | some (.sl n cs),some ⟨.slice e,_,_,_,_⟩,some ⟨.str,_,_,_,_⟩=>match ty e,Nat.blt d s.n with
   | some ⟨.int .u8,_,_,_,_⟩,true=>BytesP n cs fun b=>K (s.put (some d) (.d (.v (.string b))))
   | _,_=>False
  | _,_,_=>False
 | none,.slice t x (some lo) none none,some d=>match s.opd x,ty t,Nat.blt d s.n with
  | some (.p n 0),some ⟨.arr m e,_,_,_,_⟩,true=>match s.h n,ty e,s.bound (some lo) 0,Nat.ble m 16777216 with
   | some cs,some ei,some l,true=>SlArrP m ei.size l cs fun q ds=>K ((s.dropH n).put (some d) (.d (.sl q ds)))
   | _,_,_,_=>False
  | _,_,_=>False
 | none,.binOp .eql t x (.const (.slice none 0 0)) _,some d=>match s.dv x,ty t,Nat.blt d s.n with
  | some (.sl n cs),some ⟨.slice _,_,_,_,_⟩,true=>NilP n fun b=>K (s.put (some d) (.d (.v (.bool b))))
  | _,_,_=>False
 | _,_,_=>False
def Gc (ops:Array Oper) (o:Oper) (s:AS) (K:AS→Prop):Prop :=
 match Py ty o.op with
 | true=>Pe ty o s K
 | false=>Mr ty ops o s K
def De (ops:Array Oper):List Oper→(AS→Prop)→AS→Prop
 | [],K,s=>K s
 | o::r,K,s=>Gc ty ops o s fun s'=>Bx (De ops r K s')
def inL:List Nat→Nat→Bool
 | [],_=>false
 | j::r,k=>bif Nat.beq k j then true else inL r k
def vc (ex:List Nat):Code→(Ex→AS→Prop)→AS→Prop
 | .skip,Q,s=>Q .normal s
 | .seq a b,Q,s=>vc ex a (Wk (fun s'=>Bx (vc ex b Q s')) Q) s
 | .cond c x y,Q,s=>match s.dv c with
  | some (.v (.bool b))=>match b with
   | true=>vc ex x Q s
   | false=>vc ex y Q s
  | _=>False
 | .region id ops _,Q,s=>FzP (fun s=>match inL ex id with
  | false=>De ty ops ops.toList (WkP (Q .normal)) s
  | true=>match Dp ty s.t ops with
   | true=>De ty ops ops.toList (WkP (Q .normal)) s
   | false=>False) s
 | .block id c,Q,s=>vc ex c (Lz id Q) s
 | .loop c,Q,s=>LoopP (fun Q' s'=>vc ex c Q' s') Q s
 | .exit id,Q,s=>Q (.exit id) s
 | .label _,Q,s=>Q .normal s
 | .ret,Q,s=>Q .ret s
 | _,_,_=>False
end
def Fo (ty:TypeId→Option TI) (ex:List Nat):Code→Bool
 | .seq a b=>Fo ty ex a&&Fo ty ex b
 | .cond _ a b=>Fo ty ex a&&Fo ty ex b
 | .block _ a=>Fo ty ex a
 | .loop a=>Fo ty ex a
 | .region id ops d=>match d with
  | true=>inL ex id||Ug ty ops
  | false=>true
 | _=>true
section
variable {P:Program} {ty:TypeId→Option TI} {W0:World} {I0:Nat→Nat→Prop} {g:Gh} {s:AS} {a:Act} {w:World}
theorem Vj {s:AS} : ∀ {xs:List Operand} {vs:List Value},s.bases xs=some vs→(∀ x ∈ xs,∃ v,s.base x=some v)∧xs.map (fun x=>(s.base x).getD undef)=vs
 | [],vs,h=>by simp[AS.bases] at h;subst h;exact ⟨by simp,rfl⟩
 | x::xs,vs,h=>by
  unfold AS.bases at h
  split at h
  ·rename_i d ds h1 h2
   simp at h
   subst h
   obtain ⟨k1,k2⟩:=Vj h2
   exact ⟨fun y hy=>by rcases List.mem_cons.1 hy with rfl | hy;exact ⟨_,h1⟩;exact k1 y hy,by simp[h1,k2]⟩
  ·cases h
theorem Ga {o:Oper} {v:Value} (h1 : ∀ x ∈ o.op.operands,∃ v,s.base x=some v) (h2 : ∀ cs b,o.op ≠ .select cs b) (h3 : ∀ W,(execOp (fun x=>(s.base x).getD undef) o).run P W=.ok (.value v) W):Mk P o s v :=
 ⟨_,fun x hx=>by obtain ⟨v,hv⟩:=h1 x hx;rw[hv];rfl,h2,h3⟩
theorem Vb {s:AS} {x:Option Operand} {k:Nat} {l:Int} (h:s.bound x k=some l):(((x.map fun y=>(s.base y).getD undef)=none∧l=(k:Int)) ∨ ∃ kk,(x.map fun y=>(s.base y).getD undef)=some (.int kk l)) ∧ ∀ z,x=some z → ∃ v,s.base z=some v:=by
 cases x with
 | none =>
  simp only[AS.bound,Option.some.injEq] at h
  exact ⟨.inl ⟨rfl,h.symm⟩,fun z e=>by cases e⟩
 | some y =>
  have h':(match s.base y with | some (.int _ i)=>some i | _=>none)=some l:=h
  cases hb:s.base y with
  | none=>rw[hb] at h';cases h'
  | some v =>
   rw[hb] at h'
   cases v<;>simp only at h'<;>first | (cases h';done) | skip
   rename_i kk i
   simp only[Option.some.injEq] at h'
   subst h'
   exact ⟨.inr ⟨kk,by simp[hb]⟩,fun z e=>by cases e;exact ⟨_,hb⟩⟩
theorem a13 (hty:Cy P ty) {o:Oper} {K:Value→Prop} (h:Hp ty o s K) : ∃ v,Mk P o s v∧K v:=by
 obtain ⟨dst,op,type,pos,after,guard⟩:=o
 unfold Hp at h
 simp only at h
 split at h
 ·rename_i bop t x y t'
  split at h
  ·rename_i a b h1 h2
   obtain ⟨v,k1,k2⟩:=a47 (P:=P) hty (x:=x) (y:=y) h
   refine ⟨v,Ga (fun z hz => ?_) (fun cs b=>by simp) (fun W => ?_),k2⟩
   ·simp[Op.operands] at hz
    rcases hz with rfl | rfl
    ·exact ⟨_,h1⟩
    ·exact ⟨_,h2⟩
   ·unfold execOp
    simp only[h1,h2,Option.getD_some]
    have:=k1 W
    simp only[Sem.run_bind] at this ⊢
    rw[this]
    rfl
  ·cases h
 ·rename_i uop t x
  split at h
  ·rename_i a h1
   obtain ⟨v,k1,k2⟩:=a8a (P:=P) h
   refine ⟨v,Ga (fun z hz => ?_) (fun cs b=>by simp) (fun W => ?_),k2⟩
   ·simp[Op.operands] at hz;subst hz;exact ⟨_,h1⟩
   ·unfold execOp
    simp[h1,k1]
  ·cases h
 ·rename_i src dt x
  split at h
  ·rename_i a h1
   obtain ⟨v,k1,k2⟩:=a1m (P:=P) hty h
   refine ⟨v,Ga (fun z hz => ?_) (fun cs b=>by simp) (fun W => ?_),k2⟩
   ·simp[Op.operands] at hz;subst hz;exact ⟨_,h1⟩
   ·unfold execOp
    simp[h1,k1]
  ·cases h
 ·rename_i b args tys
  split at h
  ·rename_i vs h1
   obtain ⟨m1,m2⟩:=Vj h1
   have hmem : ∀ z ∈ (Op.call ⟨.builtin b,args,tys⟩).operands,∃ v,s.base z=some v:=fun z hz=>m1 z (by simpa [Op.operands,Call.operands] using hz)
   have hmap:args.map (fun x=>(s.base x).getD undef)=vs.toArray:=by
    apply Array.ext'
    simpa using m2
   unfold Yo at h
   split at h
   ·rename_i x
    split at h
    ·rename_i t htys
     split at h
     ·rename_i h2
      have h3:=(hty _ _ h2).2.1
      simp only[TD.ok] at h3
      refine ⟨.int .i64 x.size,Ga hmem (fun cs b=>by simp) (fun W => ?_),h _ rfl⟩
      unfold execOp
      have ht:tys=#[t]:=Array.ext' (by simpa using htys)
      simp[resolve,invoke,hmap,builtin,Builtin.len_,ht,run_underlying h3,goInt]
     ·cases h
    ·cases h
   ·rename_i k x r
    obtain ⟨v,k1,k2⟩:=Ku (P:=P) h
    refine ⟨v,Ga hmem (fun cs b=>by simp) (fun W => ?_),k2⟩
    unfold execOp
    have:=k1 W
    simp only[Bool.false_eq_true,if_false] at this
    simp[resolve,invoke,hmap,builtin,Builtin.min_,this]
   ·rename_i k x r
    obtain ⟨v,k1,k2⟩:=Ku (P:=P) h
    refine ⟨v,Ga hmem (fun cs b=>by simp) (fun W => ?_),k2⟩
    unfold execOp
    have:=k1 W
    simp only[if_true] at this
    simp[resolve,invoke,hmap,builtin,Builtin.max_,this]
   ·cases h
  ·cases h
 ·rename_i t x ix
  split at h
  ·rename_i a b h1 h2
   obtain ⟨v,k1,k2⟩:=a2a (P:=P) hty h
   refine ⟨v,Ga (fun z hz => ?_) (fun cs b=>by simp) (fun W => ?_),k2⟩
   ·simp[Op.operands] at hz
    rcases hz with rfl | rfl
    ·exact ⟨_,h1⟩
    ·exact ⟨_,h2⟩
   ·unfold execOp
    simp[h1,h2,k1]
  ·cases h
 ·rename_i t x lo hi
  split at h
  ·rename_i b h1
   split at h
   ·rename_i l u h2 h3
    obtain ⟨e1,m1⟩:=Vb h2
    obtain ⟨e2,m2⟩:=Vb h3
    obtain ⟨v,k1,k2⟩:=a4n (P:=P) hty h e1 e2
    refine ⟨v,Ga (fun z hz => ?_) (fun cs b=>by simp) (fun W => ?_),k2⟩
    ·simp[Op.operands] at hz
     rcases hz with hz | hz | hz
     ·subst hz;exact ⟨_,h1⟩
     ·exact m1 z hz
     ·exact m2 z hz
    ·unfold execOp
     simp only[h1,Option.getD_some]
     have:=k1 W
     simp only[Option.map_none,Sem.run_bind]
     rw[this]
     rfl
   ·cases h
  ·cases h
 ·cases h
theorem a1z {o:Oper} {v v':Value} (h:Mk P o s v) (h':Mk P o s v'):v=v':=by
 obtain ⟨r,h1,h2,h3⟩:=h
 obtain ⟨r',k1,_,k3⟩:=h'
 have e:execOp r o=execOp r' o:=execOp_congr o h2 fun x hx=>by
  have:=(h1 x hx).symm.trans (k1 x hx)
  exact Option.some.inj this
 have a:=h3 default
 rw[e,k3 default] at a
 simp at a
 exact a.symm
theorem Fr {o:Oper} (h:Ee o s=true) : ∀ d,o.dst=some d→d<s.n:=by
 intro d hd
 unfold Ee at h
 rw[hd] at h
 simpa [Nat.blt_eq] using h
theorem Yn (hP:P=Tryz.prog) (hty:Cy P ty) {o:Oper} {K:AS→Prop} (h:Gj ty o s K) : ∃ c,act P ty o s=some c∧Ma o s c ∧ ∃ R,Res P c R ∧ ∀ y,R y→K (upd o y s c):=by
 have triv : ∀ {c:Ac},(∀ f ds,c ≠ .call f ds)→Res P c (fun _=>True):=by
  intro c hc
  cases c<;>first | exact ⟨.v undef,trivial⟩ | exact absurd rfl (hc _ _)
 unfold Gj at h
 split at h
 ·rename_i t hop
  split at h
  ·rename_i i n h1 h2
   split at h
   ·rename_i hb
    simp only[Bool.and_eq_true,Bool.not_eq_true'] at hb
    refine ⟨.new i.zero,by unfold act;simp[hop,h1],⟨n,h2,hb.1,by simpa [Nat.blt_eq] using hb.2⟩,_,triv (by simp),fun y _=>by simpa [upd,h2] using h⟩
   ·cases h
  ·cases h
 ·rename_i t x hop
  split at h
  ·rename_i d n h1 h2
   split at h
   ·rename_i hb
    simp only[Bool.and_eq_true,Bool.not_eq_true'] at hb
    refine ⟨.new d.cells,by unfold act;simp[hop,h1,hb.2],⟨n,h2,hb.1.1,by simpa [Nat.blt_eq] using hb.1.2⟩,_,triv (by simp),fun y _=>by simpa [upd,h2] using h⟩
   ·cases h
  ·cases h
 ·rename_i t b x hop
  split at h
  ·rename_i n k d i h1 h2 h3 h4
   split at h
   ·rename_i cs h5
    split at h
    ·rename_i hb
     refine ⟨.sto n (Ei cs k d.cells),by unfold act;simp only[hop,h1,h2,h3,h5,hb,cond_true],h4,_,triv (by simp),fun y _=>h⟩
    ·cases h
   ·cases h
  ·cases h
 ·rename_i f args tys hop
  split at h
  ·rename_i ds h1 h2
   obtain ⟨post,k1,k2⟩:=h.h
   refine ⟨.call f ds,by unfold act;simp[hop,h1],Fr h2,post,by rw[hP];exact k1,fun y hy=>k2 y hy⟩
  ·cases h
 ·rename_i t n ps hop
  split at h
  ·rename_i x h1 h2
   exact ⟨.set x,by unfold act;simp only[hop,h1],Fr h2,_,triv (by simp),fun y _=>h⟩
  ·cases h
 ·rename_i args tys hop
  split at h
  ·rename_i h2
   obtain ⟨j,x,e,z,h1,h3⟩:=h.h
   exact ⟨.app j x e z,by unfold act;simp only[hop,h1],Fr h2,_,triv (by simp),fun y _=>h3⟩
  ·cases h
 ·rename_i hn1 hn2 hn3 hn4 hn5 hn6
  have hact:act P ty o s=Pj P ty o s:=by
   unfold act
   split
   ·rename_i t hop;exact absurd hop (hn1 t)
   ·rename_i t x hop;exact absurd hop (hn2 t x)
   ·rename_i t b x hop;exact absurd hop (hn3 t b x)
   ·rename_i f args tys hop;exact absurd hop (hn4 f args tys)
   ·rename_i t n ps hop;exact absurd hop (hn5 t n ps)
   ·rename_i args tys hop;exact absurd hop (hn6 args tys)
   ·rfl
  split at h
  ·rename_i hd
   split at h
   ·rename_i x hx
    exact ⟨.set x,by rw[hact];unfold Pj;rw[hx],Fr hd,_,triv (by simp),fun y _=>h⟩
   ·rename_i hx
    obtain ⟨v,k1,k2⟩:=a13 (P:=P) hty h
    have hex : ∃ v,Mk P o s v:=⟨v,k1⟩
    refine ⟨.set (.d (.v v)),?_,Fr hd,_,triv (by simp),fun y _=>k2⟩
    rw[hact]
    unfold Pj
    rw[hx]
    simp only
    rw[dif_pos hex,a1z hex.choose_spec k1]
  ·cases h
theorem Ld (hP:P=Tryz.prog) (hty:Cy P ty) {ops:Array Oper} {o:Oper} {K:AS→Prop} (h:Mr ty ops o s K):T P ty ops o K s:=by
 have skip:Lr o s K→Gm P ty ops o s=some (.set (.d (.v undef)))→T P ty ops o K s:=by
  intro h1 h2
  unfold Lr at h1
  split at h1
  ·rename_i hd
   exact ⟨_,h2,Fr hd,fun _=>True,⟨.v undef,trivial⟩,fun y _=>h1⟩
  ·cases h1
 have go:Gj ty o s K→Gm P ty ops o s=act P ty o s→T P ty ops o K s:=by
  intro h1 h2
  obtain ⟨c,k1,k2⟩:=Yn hP hty h1
  exact ⟨c,h2.trans k1,k2⟩
 unfold Mr at h
 split at h
 ·rename_i hg
  exact go h (by unfold Gm;rw[hg])
 ·rename_i j want hg
  split at h
  ·rename_i t ht
   split at h
   ·rename_i b hb
    cases want<;>cases b<;>simp only at h
    ·exact go h (by unfold Gm;rw[hg];simp only[ht,hb,if_true])
    ·exact skip h (by unfold Gm;rw[hg];simp only[ht,hb];rfl)
    ·exact skip h (by unfold Gm;rw[hg];simp only[ht,hb];rfl)
    ·exact go h (by unfold Gm;rw[hg];simp only[ht,hb,if_true])
   ·rename_i x hx hb
    refine skip h ?_
    unfold Gm
    rw[hg]
    simp only[ht,hb]
   ·cases h
  ·cases h
theorem a4x (w:World) {t:TypeId} (b:ByteArray) (h:P.underlying t=some .string):(Instr.range t (.string b)).run P w=.ok (.pointer (some ⟨w.heap.size,0,none⟩)) (w.alloc (.stringIter b 0)):=by
 simp[Instr.range,run_underlying h]
theorem a98 (w:World) (k:Nat) (b:ByteArray) (pos:Nat) (t:TypeId) (hk:w.heap[k]? = some (.stringIter b pos)) (h:pos<b.size) :
  (Instr.next (.pointer (some ⟨k,0,none⟩)) true t).run P w=.ok (.tuple #[.bool true,.int .i64 pos,.int .i32 (Utf8.decode b pos).1]) { w with heap:=w.heap.setIfInBounds k (.stringIter b (pos+(Utf8.decode b pos).2)) }:=by
 simp only[Instr.next,getObj,setObj,Sem.run_bind,Sem.run,hk,Result.andThen,h,if_true]
 simp[goInt]
theorem Wa (w:World) (k:Nat) (b:ByteArray) (pos:Nat) (t:TypeId) (hk:w.heap[k]? = some (.stringIter b pos)) (h : ¬ pos<b.size) :
  (Instr.next (.pointer (some ⟨k,0,none⟩)) true t).run P w=.ok (.tuple #[.bool false]) w:=by
 simp[Instr.next,getObj,Sem.run,hk,h]
theorem a89 (hty:Cy P ty) {W0:World} {I0:Nat→Nat→Prop} {g:Gh} {a:Act} {w:World} (R:RelG W0 I0 g s a w) {ops:Array Oper} {i:Nat} {o:Oper} (ho:ops[i]? = some o) {Q:AS→Prop} (h:Pe ty o s Q) {K:Act→World→Prop} {Qx:Exit→Act→World→Prop}
    (hK : ∀ s' g' a' w',Q s'→RelG W0 I0 g' s' a' w'→K a' w'):wpOp P ops Qx i K a w:=by
  unfold wpOp
  rw[ho]
  simp only
  obtain ⟨dst,op,type,pos,after,guard⟩:=o
  unfold Pe at h
  split at h
  · rename_i t x n e1 e2 e3
    simp only at e1 e2 e3
    subst e1 e2 e3
    rw[if_pos (by simp[Region.wanted])]
    split at h
    · rename_i b _ _ _ _ h1 h2
      split at h
      · rename_i hb
        simp only[Bool.and_eq_true,Bool.not_eq_true'] at hb
        have hs:=R.dv h1
        rw[DV.rel] at hs
        refine .inl (Cc (v:=.pointer (some ⟨w.heap.size,0,none⟩)) (w':=w.alloc (.stringIter b 0)) ?_ (hK _ ⟨ins g.r n w.heap.size,g.Im,g.v,g.m⟩ _ _ h ?_))
        · unfold execOp
          have hu:P.underlying t=some .string:=(hty t _ h2).2.1
          have:=a4x (P:=P) w b hu
          simp only[hs]
          simp only[Sem.run_bind,this]
          rfl
        · exact R.freshO hb.1 (by simpa [Nat.blt_eq] using hb.2) (.inr ⟨b,0,rfl,rfl⟩)
      · cases h
    · cases h
  · rename_i x d e1 e2 e3
    simp only at e1 e2 e3
    subst e1 e2 e3
    rw[if_pos (by simp[Region.wanted])]
    split at h
    · rename_i n h1
      split at h
      · rename_i b p h2
        split at h
        · rename_i hd
          have hd:d<s.n:=by simpa [Nat.blt_eq] using hd
          have hp:=R.opd h1
          simp only[AV.rel] at hp
          obtain ⟨_,_,ob,h4,hob⟩:=R.blk n _ h2
          obtain rfl:ob=.stringIter b p.toNat:=by
            rcases hob with ⟨h0,_⟩ | ⟨s',p',h5,h6⟩
            · simp[Ts] at h0
            · simp only[Ts,Option.some.injEq,Prod.mk.injEq] at h5
              rw[h6,← h5.1,← h5.2]
          have hp0:((p.toNat:Nat):Int)=p:=Int.toNat_of_nonneg h.h0
          have hlt:=lt_of_block h4
          have put : ∀ (s':AS) (a':Act) (w':World) (y:DV) (v:Value),RelG W0 I0 g s' a' w'→d<s'.n→y.rel g.Im w' v→RelG W0 I0 g (s'.put (some d) (.d y)) (a'.put (some d) v) w':=fun s' a' w' y v R' hd' hy =>
            R'.put (fun k e=>by cases e;exact hd') hy (fun n k e=>by cases e) fun z q e=>by cases e
          have bs : ∀ (xs:List Value) (Im:Nat→Nat→Prop) (W:World),(DV.tup (xs.map .v)).rel Im W (.tuple xs.toArray):=fun xs Im W=>by
            rw[DV.rel]
            refine ⟨xs.toArray,rfl,DV.relL_mk (by simp) fun i d y hd hy => ?_⟩
            simp only[List.getElem?_toArray,Array.getElem?_toList,List.getElem?_map] at hd hy
            simp[hy] at hd
            subst hd
            rw[DV.rel]
          by_cases hlt2:p<(b.size:Int)
          · have k:=h.more hlt2 _ _ _ ⟨rfl,rfl⟩ rfl
            refine .inl (Cc (v:=.tuple #[.bool true,.int .i64 (p.toNat:Nat),.int .i32 (Utf8.decode b p.toNat).1]) (w':={ w with heap:=w.heap.setIfInBounds (g.r n) (.stringIter b (p.toNat+(Utf8.decode b p.toNat).2)) }) ?_ (hK _ g _ _ k ?_))
            · unfold execOp
              have:=a98 (P:=P) w (g.r n) b p.toNat type h4 (by omega)
              simp only[hp]
              simp only[Sem.run_bind,this]
              rfl
            · have R2:=R.setO (n:=n) (cs:=[.tup [.v (.string b),.v (.int .i64 (p+(Utf8.decode b p.toNat).2))]]) (ob:=.stringIter b (p.toNat+(Utf8.decode b p.toNat).2)) (w':={ w with heap:=w.heap.setIfInBounds (g.r n) (.stringIter b (p.toNat+(Utf8.decode b p.toNat).2)) }) h2 (fun b' hb'=>by simp[Ne.symm hb']) (by simp) (by simp[hlt]) rfl rfl rfl (.inr ⟨b,p.toNat+(Utf8.decode b p.toNat).2,by simp only[Ts];congr 2;omega,rfl⟩)
              rw[hp0]
              exact put _ _ _ _ _ R2 hd (bs [.bool true,.int .i64 p,.int .i32 (Utf8.decode b p.toNat).1] _ _)
          · have k:=h.stop hlt2
            refine .inl (Cc (v:=.tuple #[.bool false]) (w':=w) ?_ (hK _ g _ _ k ?_))
            · unfold execOp
              have:=Wa (P:=P) w (g.r n) b p.toNat type h4 (by omega)
              simp only[hp]
              simp only[Sem.run_bind,this]
              rfl
            · have R2:=R.setO (n:=n) (cs:=[.tup [.v (.string b),.v (.int .i64 p)]]) (ob:=.stringIter b p.toNat) (w':=w) h2 (fun b' hb'=>rfl) rfl h4 rfl rfl rfl (.inr ⟨b,p.toNat,rfl,rfl⟩)
              exact put _ _ _ _ _ R2 hd (bs [.bool false] _ _)
        · cases h
      · cases h
    · cases h
  · rename_i src dt x d e1 e2 e3
    simp only at e1 e2 e3
    subst e1 e2 e3
    rw[if_pos (by simp[Region.wanted])]
    split at h
    · rename_i n cs e _ _ _ _ _ _ _ _ h1 h2 h3
      split at h
      · rename_i _ _ _ _ h4 hd
        have hd:d<s.n:=by simpa [Nat.blt_eq] using hd
        obtain ⟨ns,rfl,rfl,k⟩:=h.ex
        have hu1:P.underlying src=some (.slice e):=(hty src _ h2).2.1
        have hu2:P.underlying dt=some .string:=(hty dt _ h3).2.1
        have hu3:P.underlying e=some (.int .u8):=(hty e _ h4).2.1
        have hr:=R.dv h1
        refine .inl (Cc (v:=.string (Ri ns)) (w':=w) ?_ (hK _ g _ _ k (R.put (fun k e=>by cases e;exact hd) (by show DV.rel _ _ _ _;rw[DV.rel]) (fun n k e=>by cases e) fun z q e=>by cases e)))
        have hrun:(convert src dt (a.eval x)).run P w=.ok (.string (Ri ns)) w:=by
          have hfold : ∀ (l:List Int) (r:ByteArray),l.foldl (fun r n=>r.push (UInt8.ofNat n.toNat)) r=⟨r.data ++ (l.map fun n=>UInt8.ofNat n.toNat).toArray⟩:=by
            intro l
            induction l with
            | nil=>intro r;simp
            | cons x l ih=>intro r;rw[List.foldl_cons,ih];simp[ByteArray.push]
          rw[DV.rel] at hr
          rcases hr with ⟨A,e1,e2,e3⟩ | ⟨b,o',cap,e1,_,_,hc⟩
          · rw[e1,run_convert_bytes_string w src dt e A 0 0 hu1 hu3 hu2]
            have:ns=[]:=List.length_eq_zero_iff.1 e2
            subst this
            cases A<;>rfl
          · rw[e1,run_convert_bytes_string w src dt e _ _ _ hu1 hu3 hu2]
            rw[run_bytesToString w ⟨b,o',none⟩ ns.length cap ns ?_,hfold]
            · rw[show ByteArray.empty.data=#[] from rfl,Array.empty_append];rfl
            · have hrun:=run_loadCells (P:=P) w ⟨b,o',none⟩ ns.length (fun j=>.int .u8 (ns.getD j 0)) fun j hj=>by
                have hg:(ns.map fun z=>DV.v (.int .u8 z))[j]? = some (.v (.int .u8 (ns.getD j 0))):=by simp[hj]
                obtain ⟨_,u,hu,hru⟩:=DV.relC_get hc hg
                rw[DV.rel] at hru
                rw[Dy]
                rw[← hru]
                exact hu
              rw[hrun]
              congr 2
              apply List.ext_getElem?
              intro j
              by_cases hj:j<ns.length
              · simp[hj]
              · simp[hj]
        unfold execOp
        simp only[Sem.run_bind,hrun]
        rfl
      · cases h
    · cases h
  · rename_i t x lo d e1 e2 e3
    simp only at e1 e2 e3
    subst e1 e2 e3
    rw[if_pos (by simp[Region.wanted])]
    split at h
    · rename_i n m e _ _ _ _ h1 h2 hd
      have hd:d<s.n:=by simpa [Nat.blt_eq] using hd
      split at h
      · rename_i cs ei l h3 h4 h5 hm
        have hm:=Nat.le_of_ble_eq_true hm
        obtain ⟨hl,hcl,hi,k⟩:=h
        have hp:=R.opd h1
        simp only[AV.rel] at hp
        obtain ⟨_,_,ob,k4,hob⟩:=R.blk n cs h3
        obtain ⟨vs,T,rfl,k5⟩:=hob.cells (Ez hi)
        have hu1:P.underlying t=some (.array m e):=(hty t _ h2).2.1
        obtain ⟨lo,hlo0⟩ : ∃ q,q=some lo:=⟨_,rfl⟩
        rw[← hlo0] at h5 ⊢
        have hlo:lo.map a.eval=none∧l=0 ∨ ∃ kk,lo.map a.eval=some (.int kk l):=by
          cases lo with
          | none=>simp[AS.bound] at h5;exact .inl ⟨rfl,h5.symm⟩
          | some b =>
            right
            simp only[AS.bound] at h5
            split at h5
            · rename_i kk i' hb'
              simp at h5
              subst h5
              exact ⟨kk,by simp[R.base hb']⟩
            · cases h5
        have hbd:(Instr.sliceBounds false m m (lo.map a.eval) none none).run P w=.ok (l.toNat,m,m) w:=by
          rcases hlo with ⟨e,rfl⟩ | ⟨kk,e⟩
          · rw[e];simp[Instr.sliceBounds]
          · rw[e]
            have r1:=run_sliceBound (P:=P) w kk l m .sliceB hl.1 hl.2
            simp[Instr.sliceBounds,r1]
        have hrun:(Instr.sliceAt t (a.eval x) (lo.map a.eval) none none).run P w=.ok (.slice (some (if m=l.toNat then ⟨g.r n,0,none⟩ else (⟨g.r n,0,none⟩:Addr).add (l.toNat*ei.size))) (m-l.toNat) (m-l.toNat)) w:=by
          rw[hp]
          simp[Instr.sliceAt,run_underlying hu1,Instr.sureAddr,hbd,Bn hty h4]
        have R2:=R.dropH h3
        refine .inl (Cc (v:=.slice (some (if m=l.toNat then ⟨g.r n,0,none⟩ else (⟨g.r n,0,none⟩:Addr).add (l.toNat*ei.size))) (m-l.toNat) (m-l.toNat)) (w':=w) ?_ (hK _ _ _ _ k (R2.put (fun k e=>by cases e;exact hd) ?_ (fun n k e=>by cases e) fun z q e=>by cases e)))
        · unfold execOp
          simp only[Sem.run_bind]
          rw[show (none:Option Operand).map a.eval=none from rfl,hrun]
          rfl
        · have e1:((m:Int)-l).toNat=m-l.toNat:=by omega
          show DV.rel _ _ _ _
          rw[DV.rel,e1]
          right
          have hall : ∀ (j:Nat) (d':DV),cs[j]? = some d' → ∃ u,w.cell? ⟨g.r n,j,none⟩=some u∧d'.rel (fun b o=>g.Im b o∨b=g.r n) w u:=fun j d' hj=>by
            obtain ⟨u,hu,hru⟩:=Mi k4 k5 j d' hj
            rw[Nat.zero_add] at hu
            exact ⟨u,hu,DV.rel_mono (fun _ _ h=>.inl h) (fun _ _ _=>rfl) _ _ hru⟩
          by_cases hml:m=l.toNat
          · refine ⟨g.r n,0,m-l.toNat,by rw[if_pos hml],Nat.le_refl _,by simp only[maxLen];omega,?_⟩
            rw[show m-l.toNat=0 by omega]
            simp[DV.relC]
          · refine ⟨g.r n,l.toNat*ei.size,m-l.toNat,by rw[if_neg hml,Dy,Nat.zero_add],Nat.le_refl _,by simp only[maxLen];omega,?_⟩
            refine DV.relC_mk fun j d' hj => ?_
            simp only[List.getElem?_take,List.getElem?_drop] at hj
            split at hj
            · exact ⟨.inr rfl,hall _ _ hj⟩
            · cases hj
      · cases h
    · cases h
  · rename_i t x t2 d e1 e2 e3
    simp only at e1 e2 e3
    subst e1 e2 e3
    rw[if_pos (by simp[Region.wanted])]
    split at h
    · rename_i n cs e _ _ _ _ h1 h2 hd
      have hd:d<s.n:=by simpa [Nat.blt_eq] using hd
      have hu:P.underlying t=some (.slice e):=(hty t _ h2).2.1
      have hr:=R.dv h1
      have bv : ∀ c,DV.rel g.Im w (.v (.bool c)) (.bool c):=fun c=>by rw[DV.rel]
      have hrun : ∀ (A:Option Addr) (l c:Nat),(binOp .eql t (.slice A l c) (.slice none 0 0)).run P w=.ok (.bool A.isNone) w:=fun A l c=>by
        simp only[binOp]
        simp[run_equal_slice_nil w t e A l c hu]
      have hgd : ∀ (A:Option Addr) (l c:Nat),(eqGuard .eql t x (.const (.slice none 0 0)) (.slice A l c) (.slice none 0 0)).run P w=.ok () w:=fun A l c=>by simp[eqGuard]
      have hc0:a.eval (.const (.slice none 0 0))=.slice none 0 0:=rfl
      rw[DV.rel] at hr
      rcases hr with ⟨A,e1,e2,e3⟩ | ⟨b,o',cap,e1,_,_,hc⟩
      · cases A with
       | some A =>
        refine .inl (Cc (v:=.bool false) (w':=w) ?_ (hK _ g _ _ h.no (R.put (fun k e=>by cases e;exact hd) (bv false) (fun n k e=>by cases e) fun z q e=>by cases e)))
        unfold execOp
        simp only[Sem.run_bind,e1,hc0,hgd,Result.andThen_ok,hrun]
        rfl
       | none =>
        refine .inl (Cc (v:=.bool true) (w':=w) ?_ (hK _ g _ _ (h.yes e2) (R.put (fun k e=>by cases e;exact hd) (bv true) (fun n k e=>by cases e) fun z q e=>by cases e)))
        unfold execOp
        simp only[Sem.run_bind,e1,hc0,hgd,Result.andThen_ok,hrun]
        rfl
      · refine .inl (Cc (v:=.bool false) (w':=w) ?_ (hK _ g _ _ h.no (R.put (fun k e=>by cases e;exact hd) (bv false) (fun n k e=>by cases e) fun z q e=>by cases e)))
        unfold execOp
        simp only[Sem.run_bind,e1,hc0,hgd,Result.andThen_ok,hrun]
        rfl
    · cases h
  · cases h
theorem Uh (hP:P=Tryz.prog) (hty:Cy P ty) {W0:World} {I0:Nat→Nat→Prop} {ops:Array Oper} {K:AS→Prop} {Qx:Exit→Act→World→Prop} (hQ : ∀ s g a w,K s→RelG W0 I0 g s a w→Qx .normal a w) : ∀ (r:List Oper) (k:Nat) (s:AS) (g:Gh) (a:Act) (w:World),ops.toList.drop k=r→De ty ops r K s→RelG W0 I0 g s a w→wpOps P ops Qx (List.range' k r.length) a w
 | [],k,s,g,a,w,h,hv,R=>hQ s g a w hv R
 | o::r,k,s,g,a,w,h,hv,R=>by
  have ho:ops[k]? = some o:=by
   have:(ops.toList.drop k)[0]? = some o:=by rw[h];rfl
   rw[List.getElem?_drop] at this
   simpa using this
  have hr:ops.toList.drop (k+1)=r:=by rw[← List.drop_drop,h];rfl
  show wpOps P ops Qx (k::List.range' (k+1) r.length) a w
  rw[wpOps_cons]
  have go : ∀ s' g' a' w',Bx (De ty ops r K s')→RelG W0 I0 g' s' a' w'→wpOps P ops Qx (List.range' (k+1) r.length) a' w':=fun s' g' a' w' hs' R'=>Uh hP hty hQ r (k+1) s' g' a' w' hr hs'.h R'
  unfold De Gc at hv
  split at hv
  ·exact a89 hty R ho hv go
  ·exact Wg hty R ho (Ld hP hty hv) go
theorem Pr (hP:P=Tryz.prog) (hty:Cy P ty) {ops:Array Oper} (hno:b2c ty ops=true) {K:AS→Prop} : ∀ (r:List Oper) (k:Nat) (s:AS),ops.toList.drop k=r→De ty ops r K s→TL P ty ops K (List.range' k r.length) s
 | [],k,s,h,hv=>hv
 | o::r,k,s,h,hv=>by
  have ho:ops[k]? = some o:=by
   have:(ops.toList.drop k)[0]? = some o:=by rw[h];rfl
   rw[List.getElem?_drop] at this
   simpa using this
  have hr:ops.toList.drop (k+1)=r:=by rw[← List.drop_drop,h];rfl
  have hi:Py ty o.op=false:=by
   have:=Array.all_eq_true_iff_forall_mem.1 hno o (Array.mem_of_getElem? ho)
   simpa using this
  unfold De Gc at hv
  rw[hi] at hv
  exact ⟨o,ho,(Ld hP hty hv).mono fun s' hs'=>Pr hP hty hno r (k+1) s' hr hs'.h⟩
theorem Re {α:Type} : ∀ {l:List (Nat×α)} {k:Nat},Gd l k≠none→has l k=true
 | [],k,h=>absurd rfl h
 | (j,x)::r,k,h=>by
  unfold Gd at h
  unfold has
  cases hb:Nat.beq k j with
  | true=>rfl
  | false=>rw[hb] at h;exact Re h
theorem a0u : ∀ {t:List (Nat×AV)},LeT s t → ∀ k x,Gd t k=some x→Rd s (s.t k) x=some x
 | [],h,k,x,hk=>by cases hk
 | (j,y)::r,h,k,x,hk=>by
  unfold Gd at hk
  cases hb:Nat.beq k j with
  | true =>
   rw[hb] at hk
   simp at hk
   subst hk
   rw[Nat.eq_of_beq_eq_true hb]
   exact h.1
  | false=>rw[hb] at hk;exact a0u h.2 k x hk
theorem Rh : ∀ {t:List (Nat×List DV)},LeH s t → ∀ k x,Gd t k=some x→s.h k=some x
 | [],h,k,x,hk=>by cases hk
 | (j,y)::r,h,k,x,hk=>by
  unfold Gd at hk
  cases hb:Nat.beq k j with
  | true =>
   rw[hb] at hk
   simp at hk
   subst hk
   rw[Nat.eq_of_beq_eq_true hb]
   exact h.1
  | false=>rw[hb] at hk;exact Rh h.2 k x hk
theorem Ly {h:List (Nat×List DV)} : ∀ {t:List (Nat×AV)},Fx h t=true → ∀ k n o,Gd t k=some (.p n o)→has h n=true
 | [],hp,k,n,o,hk=>by cases hk
 | (j,y)::r,hp,k,n,o,hk=>by
  unfold Gd at hk
  cases hb:Nat.beq k j with
  | true =>
   rw[hb] at hk
   simp at hk
   subst hk
   simp only[Fx,Bool.and_eq_true] at hp
   exact hp.1
  | false =>
   rw[hb] at hk
   refine Ly ?_ k n o hk
   cases y with
   | p m q=>simp only[Fx,Bool.and_eq_true] at hp;exact hp.2
   | d x=>exact hp
   | rc x=>exact hp
   | w x q=>cases q with
    | none=>exact hp
    | some q=>simp only[Fx,Bool.and_eq_true] at hp;exact hp.2
theorem Uc {h:List (Nat×List DV)} : ∀ {t:List (Nat×AV)},Fx h t=true → ∀ k x q,Gd t k=some (.w x (some q))→q.v=0
 | [],hp,k,x,q,hk=>by cases hk
 | (j,y)::r,hp,k,x,q,hk=>by
  unfold Gd at hk
  cases hb:Nat.beq k j with
  | true =>
   rw[hb] at hk
   simp at hk
   subst hk
   simp only[Fx,Bool.and_eq_true] at hp
   exact Nat.eq_of_beq_eq_true hp.1
  | false =>
   rw[hb] at hk
   refine Uc (h:=h) ?_ k x q hk
   cases y with
   | p m q=>simp only[Fx,Bool.and_eq_true] at hp;exact hp.2
   | d x=>exact hp
   | rc x=>exact hp
   | w x q=>cases q with
    | none=>exact hp
    | some q=>simp only[Fx,Bool.and_eq_true] at hp;exact hp.2
theorem a62 {g:Gh} {w:World} (hv:g.v=s.r) {o:Option AV} {x:AV} {y:Value} (h:Rd s o x=some x) (hr : ∀ z,o=some z→z.rel g w y):x.rel ⟨g.r,g.Im,fun _=>0,g.m⟩ w y:=by
 have keep : ∀ z:AV,(∀ a q,z ≠ .w a (some q))→z.rel g w y→z.rel ⟨g.r,g.Im,fun _=>0,g.m⟩ w y:=fun z hz h=>by
  cases z with
  | d x=>exact h
  | p n o=>exact h
  | rc cs=>exact h
  | w a q=>cases q with
   | none=>exact h
   | some q=>exact absurd rfl (hz a q)
 unfold Rd at h
 split at h
 ·rename_i a q a' q'
  simp only[Bool.cond_eq_ite] at h
  split at h
  ·rename_i hb
   simp at h
   obtain ⟨rfl,rfl⟩:=h
   have h1:=hr _ rfl
   refine ⟨h1.1,fun _=>h1.2 ?_⟩
   rw[hv]
   exact (Nat.eq_of_beq_eq_true hb).symm
  ·cases h
 ·rename_i cs a' q
  simp at h
  subst h
  have h1:=hr _ rfl
  refine ⟨h1.1,fun _=>.inl ?_⟩
  obtain ⟨A,k,hk⟩:=h1.2
  have h2:=h1.1
  rw[DV.rel] at h2
  rcases h2 with ⟨A',h2,_,_⟩ | ⟨b,o,cap,h2,_⟩
  ·exact ⟨A',h2⟩
  ·rw[hk] at h2
   cases h2
   exact ⟨_,hk⟩
 ·cases h
 ·rename_i a q a'
  simp at h
  subst h
  have h1:=hr _ rfl
  cases q with
  | none=>exact h1.1
  | some q=>exact h1.1
 ·rename_i n1 n2 n3 n4
  subst h
  refine keep x (fun a q e => ?_) (hr _ rfl)
  subst e
  exact n1 a q a q rfl rfl
theorem RelG.le (R:RelG W0 I0 g s a w) {n:Nat} {t:List (Nat×AV)} {h:List (Nat×List DV)} (hl:Le s n t h) : ∃ g',RelG W0 I0 g' (mkS n t h) a w:=by
 obtain ⟨l1,l2,l3,l4⟩:=hl
 have hh : ∀ m,(mkS n t h).h m≠none→s.h m≠none:=fun m hm=>by
  cases hx:Gd h m with
  | none=>exact absurd hx hm
  | some x=>rw[Rh l3 m x hx];simp
 refine ⟨⟨g.r,g.Im,fun _=>0,g.m⟩,R.defers,R.size.trans l1,fun k x hk => ?_,fun m cs hm=>R.blk m cs (Rh l3 m cs hm),fun m m' hm hm'=>R.inj m m' (hh m hm) (hh m' hm'),
  ⟨fun k m o hk=>Ly l4 k m o hk,fun k x q hk=>Nat.le_of_eq (Uc l4 k x q hk)⟩,fun m hm=>Re hm,R.im,R.imle,R.below,rfl,fun j q hj hq => ?_,R.rinj,R.kw,fun j q hj hq=>⟨(R.own j q hj hq).1,fun m hm=>(R.own j q hj hq).2 m (hh m hm),(R.own j q hj hq).3⟩⟩
 ·have hc:=a0u l2 k x hk
  cases ho:s.t k with
  | none =>
   rw[ho] at hc
   simp[Rd] at hc
  | some z =>
   obtain ⟨y,h1,h2⟩:=R.tmp k z ho
   exact ⟨y,h1,a62 R.ver hc fun z' e=>by rw[ho] at e;cases e;exact h2⟩
 ·obtain ⟨h1,h2,h3,h4,h5⟩:=R.room j q hj hq
  exact ⟨h1,h2,fun m hm=>h3 m (hh m hm),h4,h5⟩
theorem Iz {p:Nat→Prop} (h : ∃ n,p n) : ∃ n,p n ∧ ∀ m,p m→n≤m:=by
 obtain ⟨n,hn⟩:=h
 induction n using Nat.strongRecOn with
 | _ n ih =>
  by_cases hx : ∃ m,m<n∧p m
  ·obtain ⟨m,h1,h2⟩:=hx
   exact ih m h1 h2
  ·exact ⟨n,hn,fun m hm=>by
    rcases Nat.lt_or_ge m n with h | h
    ·exact absurd ⟨m,h,hm⟩ hx
    ·exact h⟩
theorem RelG.frz {g:Gh} {s:AS} {a:Act} {w:World} {W0:World} {I0:Nat→Nat→Prop} (R:RelG W0 I0 g s a w) {n:Nat} {cs:List DV} (hn:s.cellsAt n=some cs) : ∃ g',RelG W0 I0 g' (s.frz n cs) a w:=by
 obtain ⟨hn1,hit⟩:=Gl hn
 obtain ⟨_,_,ob,k3,k4⟩:=R.blk n cs hn1
 obtain ⟨vs,T,rfl,k5⟩:=k4.cells (Ez hit)
 have R1:=R.dropH hn1
 have tp : ∀ k m o,(s.frz n cs).t k=some (.p m o)→s.t k=some (.p m o):=fun k m o hk=>by
  have hk':a1q n cs (s.t k)=some (.p m o):=hk
  unfold a1q at hk'
  split at hk'
  ·rename_i m' o' h1
   split at hk'
   ·cases hk'
   ·rw[h1];exact hk'
  ·exact hk'
 have tw : ∀ k x q,(s.frz n cs).t k=some (.w x q)→s.t k=some (.w x q):=fun k x q hk=>by
  have hk':a1q n cs (s.t k)=some (.w x q):=hk
  unfold a1q at hk'
  split at hk'
  ·split at hk'
   ·cases hk'
   ·cases hk'
  ·exact hk'
 refine ⟨⟨g.r,fun b o=>g.Im b o∨b=g.r n,g.v,g.m⟩,R1.defers,R1.size,fun k x hk => ?_,R1.blk,R1.inj,⟨fun k m o hk=>R.wf.p k m o (tp k m o hk),fun k x q hk=>R.wf.w k x q (tw k x _ hk)⟩,R1.live,R1.im,R1.imle,R1.below,R1.ver,
  fun j q hj hq=>⟨(R1.room j q hj hq).hW,(R1.room j q hj hq).hi,(R1.room j q hj hq).hh,(R1.room j q hj hq).hc,(R1.room j q hj hq).hr⟩,R1.rinj,R1.kw,fun j q hj hq=>⟨(R1.own j q hj hq).1,(R1.own j q hj hq).2,(R1.own j q hj hq).3⟩⟩
 have hk':a1q n cs (s.t k)=some x:=hk
 clear hk
 unfold a1q at hk'
 split at hk'
 ·rename_i m o hm
  split at hk'
  ·rename_i hb
   have hmn:=Nat.eq_of_beq_eq_true hb
   subst hmn
   cases hk'
   obtain ⟨y,h1,h2⟩:=R1.tmp k (.p m o) hm
   refine ⟨y,h1,?_⟩
   simp only[AV.rel] at h2 ⊢
   refine ⟨g.r m,o,h2,DV.relC_mk fun i d hd => ?_⟩
   rw[List.getElem?_drop] at hd
   obtain ⟨u,hu,hru⟩:=Mi k3 k5 (o+i) d hd
   rw[Nat.zero_add] at hu
   exact ⟨.inr rfl,u,hu,DV.rel_mono (fun _ _ h=>.inl h) (fun _ _ _=>rfl) _ _ hru⟩
  ·cases hk'
   exact R1.tmp k _ hm
 ·exact R1.tmp k x hk'
theorem Zz {a:Act} {w:World} {W0:World} {I0:Nat→Nat→Prop} : ∀ {l:List Nat} {s s':AS} {g:Gh},Wy l s=some s'→RelG W0 I0 g s a w → ∃ g',RelG W0 I0 g' s' a w
 | [],s,s',g,h,R=>by cases h;exact ⟨g,R⟩
 | n::l,s,s',g,h,R=>by
  unfold Wy at h
  split at h
  ·rename_i cs hc
   obtain ⟨g1,R1⟩:=R.frz hc
   exact Zz h R1
  ·cases h
theorem Rs {ex:List Nat} (hP:P=Tryz.prog) (hty:Cy P ty) (hm:P.follows .mixedOrders=true) : ∀ (c:Code) (Q:Ex→AS→Prop) (Qx:Exit→Act→World→Prop) (s:AS) (g:Gh) (a:Act) (w:World),Fo ty ex c=true→vc ty ex c Q s→RelG W0 I0 g s a w →
  (∀ e s g a w,Q e s→RelG W0 I0 g s a w→Qx e.up a w)→c.wp P Qx a w:=by
 intro c
 induction c with
 | skip=>intro Q Qx s g a w _ h R hq;exact wp_skip (hq .normal s g a w h R)
 | label l=>intro Q Qx s g a w _ h R hq;exact wp_label (hq .normal s g a w h R)
 | exit i=>intro Q Qx s g a w _ h R hq;exact wp_exit (hq (.exit i) s g a w h R)
 | ret=>intro Q Qx s g a w _ h R hq;exact wp_ret (hq .ret s g a w h R)
 | seq x y ihx ihy =>
  intro Q Qx s g a w hok h R hq
  simp only[Fo,Bool.and_eq_true] at hok
  refine wp_seq (ihx _ _ s g a w hok.1 h R fun e s' g' a' w' h' R' => ?_)
  cases e with
  | normal=>exact ihy _ _ s' g' a' w' hok.2 h'.h R' hq
  | exit i=>exact hq (.exit i) s' g' a' w' h' R'
  | ret=>exact hq .ret s' g' a' w' h' R'
 | cond c x y ihx ihy =>
  intro Q Qx s g a w hok h R hq
  simp only[Fo,Bool.and_eq_true] at hok
  unfold vc at h
  split at h
  ·rename_i b hb
   have hv:=R.dv hb
   rw[DV.rel] at hv
   cases b with
   | true=>exact wp_cond_true hv (ihx _ _ s g a w hok.1 h R hq)
   | false=>exact wp_cond_false hv (ihy _ _ s g a w hok.2 h R hq)
  ·cases h
 | region id ops draw =>
  intro Q Qx s g a w hok h R hq
  unfold vc at h
  obtain ⟨l,s',hl,h⟩:=h.h
  obtain ⟨g,R⟩:=Zz hl R
  clear hl
  have h2:(draw=true→Dp ty s'.t ops=true)∧De ty ops ops.toList (WkP (Q .normal)) s':=by
   cases hin:inL ex id with
   | false =>
    rw[hin] at h
    refine ⟨fun hd => ?_,h⟩
    subst hd
    unfold Fo at hok
    rw[hin] at hok
    exact Tq (by simpa using hok)
   | true =>
    rw[hin] at h
    simp only at h
    cases hr:Dp ty s'.t ops with
    | true=>rw[hr] at h;exact ⟨fun _=>rfl,h⟩
    | false=>rw[hr] at h;cases h
  have hnx : ∀ s' g' a' w',WkP (Q .normal) s'→RelG W0 I0 g' s' a' w'→Qx .normal a' w':=fun s' g' a' w' h' R'=>by
   obtain ⟨n,t,hh,k1,k2⟩:=h'.h
   obtain ⟨g'',R''⟩:=R'.le k1
   exact hq .normal _ g'' a' w' k2 R''
  cases draw with
  | false =>
   have:=Uh hP hty (ops:=ops) hnx ops.toList 0 s' g a w rfl h2.2 R
   rw[← List.range_eq_range'] at this
   exact wp_region (by simpa using this)
  | true =>
   refine Xy (Q:=WkP (Q .normal)) hty hm hnx h2.1 ?_ R
   have:=Pr hP hty (ops:=ops) (To (h2.1 rfl)) ops.toList 0 s' rfl h2.2
   rw[← List.range_eq_range'] at this
   simpa using this
 | block id c ih =>
  intro Q Qx s g a w hok h R hq
  refine wp_block (ih _ _ s g a w hok h R fun e s' g' a' w' h' R' => ?_)
  cases e with
  | normal=>exact hq .normal s' g' a' w' h' R'
  | ret=>exact hq .ret s' g' a' w' h' R'
  | exit i =>
   simp only[Ex.up,Exit.inBlock]
   simp only[Lz] at h'
   by_cases e:i=id
   ·subst e
    rw[if_pos rfl]
    have:Nat.beq i i=true:=by simp
    rw[this] at h'
    exact hq .normal s' g' a' w' h' R'
   ·rw[if_neg e]
    have:Nat.beq i id=false:=by
     cases hb:Nat.beq i id
     ·rfl
     ·exact absurd (Nat.eq_of_beq_eq_true hb) e
    rw[this] at h'
    exact hq (.exit i) s' g' a' w' h' R'
 | loop c ih =>
  intro Q Qx s g a w hok h R hq
  obtain ⟨α,n,t,hh,J,m,⟨x0,hj0,hl0⟩,H⟩:=h.h
  have key : ∀ k x g a w,J x→m x=k→RelG W0 I0 g (mkS n (t x) (hh x)) a w→(Code.loop c).wp P Qx a w:=by
   intro k0 x0 g0 a0 w0 hj hk0 R0
   refine wp_loop (fun a w => ∃ x g,J x∧RelG W0 I0 g (mkS n (t x) (hh x)) a w) (fun a w=>open Classical in if h : ∃ k,∃ x g,J x∧m x=k∧RelG W0 I0 g (mkS n (t x) (hh x)) a w then (Iz h).choose else 0) ⟨x0,g0,hj,R0⟩ ?_
   intro a w hI
   have hex : ∃ k,∃ x g,J x∧m x=k∧RelG W0 I0 g (mkS n (t x) (hh x)) a w:=by
    obtain ⟨x,g,h1,h2⟩:=hI
    exact ⟨m x,x,g,h1,rfl,h2⟩
   obtain ⟨x,g,h1,h2,h3⟩:=(Iz hex).choose_spec.1
   refine ih _ _ _ g a w hok (H x h1) h3 fun e s' g' a' w' h' R' => ?_
   cases e with
   | normal =>
    obtain ⟨y,k1,k2,k3⟩:=h'
    obtain ⟨g'',R''⟩:=R'.le k3
    have hex' : ∃ k,∃ x g,J x∧m x=k∧RelG W0 I0 g (mkS n (t x) (hh x)) a' w':=⟨m y,y,g'',k1,rfl,R''⟩
    refine ⟨⟨y,g'',k1,R''⟩,?_⟩
    simp only[dif_pos hex,dif_pos hex']
    have:=(Iz hex').choose_spec.2 _ ⟨y,g'',k1,rfl,R''⟩
    omega
   | exit i=>exact hq (.exit i) s' g' a' w' h' R'
   | ret=>exact hq .ret s' g' a' w' h' R'
  obtain ⟨g0,R0⟩:=R.le hl0
  exact key _ x0 g0 a w hj0 rfl R0
 | goto l=>intro Q Qx s g a w _ h;cases h
 | scope c ih=>intro Q Qx s g a w _ h;cases h
 | refuse y=>intro Q Qx s g a w _ h;cases h
 | rangeFunc f ps x y ihx ihy=>intro Q Qx s g a w _ h;cases h
def a0l:Nat→List DV→List (Nat×AV)
 | _,[]=>[]
 | k,d::ds=>(k,.d d)::a0l (k+1) ds
theorem Kv : ∀ {ds:List DV} {k j:Nat} {x:AV},Gd (a0l k ds) j=some x→k≤j ∧ ∃ d,ds[j-k]? = some d∧x=.d d
 | [],k,j,x,h=>by cases h
 | d::ds,k,j,x,h=>by
  unfold a0l Gd at h
  cases hb:Nat.beq j k with
  | true =>
   rw[hb] at h
   simp at h
   subst h
   rw[Nat.eq_of_beq_eq_true hb]
   exact ⟨Nat.le_refl _,d,by simp,rfl⟩
  | false =>
   rw[hb] at h
   obtain ⟨h1,e,h2,h3⟩:=Kv h
   refine ⟨by omega,e,?_,h3⟩
   have:j-k=(j-(k+1))+1:=by omega
   rw[this]
   simpa using h2
def Xj (ty:TypeId→Option TI) (s:AS):ResultVar→Option DV
 | .tmp t=>match s.t t with
  | some (.d d)=>some d
  | some (.w d _)=>some d
  | _=>none
 | .cell t T=>match s.t t,ty T with
  | some (.p n k),some i=>match s.cellsAt n with
   | some cs=>Jb i cs k
   | none=>none
  | _,_=>none
def Gg (ty:TypeId→Option TI) (s:AS):List ResultVar→Option (List DV)
 | []=>some []
 | r::rs=>match Xj ty s r,Gg ty s rs with
  | some d,some ds=>some (d::ds)
  | _,_=>none
def Qd (ty:TypeId→Option TI) (rs:List ResultVar) (post:DV→Prop):Ex→AS→Prop
 | .exit _,_=>False
 | _,s=>match Gg ty s rs with
  | some [d]=>RetP post d
  | some ds=>RetP post (.tup ds)
  | none=>False
theorem Xi (hty:Cy P ty) (R:RelG W0 I0 g s a w) {r:ResultVar} {d:DV} (h:Xj ty s r=some d) :
  ∃ y,(match r with | .tmp t=>pure (a.tmps.getD t undef) | .cell b t=>do loadVar t (← asAddr (a.tmps.getD b undef)):Sem Value).run P w=.ok y w∧d.rel g.Im w y:=by
 cases r with
 | tmp t =>
  simp only[Xj] at h
  split at h
  ·rename_i e he
   simp at h
   subst h
   obtain ⟨y,h1,h2⟩:=R.tmp t _ he
   exact ⟨y,by simp[h1],h2⟩
  ·rename_i e q he
   simp at h
   subst h
   obtain ⟨y,h1,h2⟩:=R.tmp t _ he
   exact ⟨y,by simp[h1],by cases q with | none=>exact h2.1 | some q=>exact h2.1⟩
  ·cases h
 | cell b t =>
  simp only[Xj] at h
  split at h
  ·rename_i n k i h1 h2
   split at h
   ·rename_i cs hcs
    obtain ⟨y,h3,h4⟩:=R.tmp b _ h1
    have h4:y=.pointer (some ⟨g.r n,k,none⟩):=h4
    obtain ⟨hcs,hno⟩:=Gl hcs
    obtain ⟨_,_,ob,h5,hob⟩:=R.blk n cs hcs
    obtain ⟨vs,T,rfl,h6⟩:=hob.cells (Ez hno)
    obtain ⟨z,hz,hr⟩:=Ho (P:=P) hty h2 (o:=0) (Mi h5 h6) h
    rw[Nat.zero_add] at hz
    refine ⟨z,?_,hr⟩
    simp[h3,h4,asAddr,hz]
   ·cases h
  ·cases h
theorem Np (hty:Cy P ty) (R:RelG W0 I0 g s a w) : ∀ {rs:List ResultVar} {ds:List DV},Gg ty s rs=some ds →
  ∃ ys,(rs.mapM fun (r:ResultVar)=>(match r with | .tmp t=>pure (a.tmps.getD t undef) | .cell b t=>do loadVar t (← asAddr (a.tmps.getD b undef)):Sem Value)).run P w=.ok ys w∧DV.relL g.Im w ds ys
 | [],ds,h=>by simp[Gg] at h;subst h;exact ⟨[],by simp,by rw[DV.relL]⟩
 | r::rs,ds,h=>by
  unfold Gg at h
  split at h
  ·rename_i d ds' h1 h2
   simp at h
   subst h
   obtain ⟨y,k1,k2⟩:=Xi hty R h1
   obtain ⟨ys,k3,k4⟩:=Np hty R h2
   refine ⟨y::ys,?_,by rw[DV.relL];exact ⟨y,ys,rfl,k2,k4⟩⟩
   rw[List.mapM_cons]
   simp only[Sem.run_bind,k1,Result.andThen_ok,k3,Sem.run_pure]
  ·cases h
theorem RelG.enter {W:World} {vs:Array Value} {Im:Nat→Nat→Prop} {ds:List DV} {n:Nat} (hKw:Kw W) (hIm : ∀ g o,Im g o→g<W.heap.size) (hr:DV.relL Im W ds vs.toList) (hn:ds.length≤n) :
  RelG W Im ⟨fun _=>0,Im,fun _=>0,fun _=>none⟩ (mkS n (a0l 0 ds) []) { tmps:=vs ++ Array.replicate (n-vs.size) undef,defers:=[] } W:=by
 have hlen:=DV.relL_length hr
 refine ⟨rfl,?_,fun k x hk => ?_,fun n cs h => ?_,fun n m h => ?_,⟨fun k n o h => ?_,fun k x q h => ?_⟩,fun n h => ?_,hIm,fun b o h=>.inl h,Below.refl _ _,rfl,(fun j q h=>by cases h),(fun j j' q q' h=>by cases h),hKw,(fun j q h=>by cases h)⟩
 ·have:vs.size=ds.length:=by rw[← hlen];simp
  simp[mkS];omega
 ·obtain ⟨_,d,h1,rfl⟩:=Kv hk
  obtain ⟨y,h2,h3⟩:=DV.relL_get hr h1
  refine ⟨y,?_,h3⟩
  rw[Nat.sub_zero] at h2
  have:k<vs.size:=by
   have:=(List.getElem?_eq_some_iff.1 h2).1
   simpa using this
  rw[Array.getElem?_append_left this]
  simpa using h2
 ·cases h
 ·exact absurd rfl h
 ·obtain ⟨_,d,_,h2⟩:=Kv h
  cases h2
 ·obtain ⟨_,d,_,h2⟩:=Kv h
  cases h2
 ·exact absurd rfl h
theorem Nf (hty:Cy Tryz.prog ty) {W:World} {Im:Nat→Nat→Prop} {fn:Func} {post:DV→Prop} {e:Ex} (R:RelG W Im g s a w) (hq:Qd ty fn.results.toList post e s) (he : ∀ i,e ≠ .exit i) :
  a.defers=[] ∧ ∃ v,(results fn a.tmps).run Tryz.prog w=.ok v w ∧ ∃ r y,Ending.returned v=.returned r∧post y∧DV.rel (fun b o=>Im b o∨(W.heap.size≤b∧b<w.heap.size)) w y r∧Below W.heap.size W w:=by
 have done : ∀ {ds':List DV},Gg ty s fn.results.toList=some ds'→(match ds' with | [d]=>RetP post d | ds'=>RetP post (.tup ds'))→a.defers=[] ∧ ∃ v,(results fn a.tmps).run Tryz.prog w=.ok v w ∧ ∃ r y,Ending.returned v=.returned r∧post y∧DV.rel (fun b o=>Im b o∨(W.heap.size≤b∧b<w.heap.size)) w y r∧Below W.heap.size W w:=by
  intro ds' h1 h2
  obtain ⟨ys,k1,k2⟩:=Np hty R h1
  have kl:=DV.relL_length k2
  have hres:(results fn a.tmps).run Tryz.prog w=.ok (if h:ys.toArray.size=1 then ys.toArray[0] else .tuple ys.toArray) w:=by
   unfold results
   rw[Array.mapM_eq_mapM_toList]
   simp only[Sem.run_bind,Sem.run_map]
   have k1':=k1
   erw [k1']
   rfl
  refine ⟨R.defers,_,hres,?_⟩
  have im : ∀ b o,g.Im b o→Im b o∨(W.heap.size≤b∧b<w.heap.size):=fun b o h=>(R.imle b o h).imp id fun h'=>⟨h',R.im b o h⟩
  have hc0 : ∀ b o,g.Im b o→w.cell? ⟨b,o,none⟩=w.cell? ⟨b,o,none⟩:=fun _ _ _=>rfl
  match ds',ys,k2,kl,h2 with
  | [d],[y],k2,kl,h2 =>
   refine ⟨_,d,rfl,h2.h,?_,R.below⟩
   rw[DV.relL] at k2
   obtain ⟨u,us,he,h3,_⟩:=k2
   cases he
   exact DV.rel_mono im hc0 _ _ h3
  | [],[],k2,kl,h2 =>
   refine ⟨_,.tup [],rfl,h2.h,?_,R.below⟩
   rw[DV.rel]
   exact ⟨#[],rfl,by rw[DV.relL]⟩
  | d::d'::ds',y::y'::ys,k2,kl,h2 =>
   refine ⟨_,.tup (d::d'::ds'),rfl,h2.h,?_,R.below⟩
   rw[DV.rel]
   refine ⟨(y::y'::ys).toArray,by simp,DV.relL_mono im hc0 _ _ (by simpa using k2)⟩
  | [],_::_,_,kl,_=>simp at kl
  | _::_,[],_,kl,_=>simp at kl
  | [_],_::_::_,_,kl,_=>simp at kl
  | _::_::_,[_],_,kl,_=>simp at kl
 have fin:(match Gg ty s fn.results.toList with | some [d]=>RetP post d | some ds=>RetP post (.tup ds) | none=>False)→a.defers=[] ∧ ∃ v,(results fn a.tmps).run Tryz.prog w=.ok v w ∧ ∃ r y,Ending.returned v=.returned r∧post y∧DV.rel (fun b o=>Im b o∨(W.heap.size≤b∧b<w.heap.size)) w y r∧Below W.heap.size W w:=by
  intro h
  cases hra:Gg ty s fn.results.toList with
  | none=>rw[hra] at h;cases h
  | some ds' =>
   rw[hra] at h
   refine done hra ?_
   match ds',h with
   | [],h=>exact h
   | [d],h=>exact h
   | d::e::r,h=>exact h
 cases e with
 | normal=>exact fin hq
 | ret=>exact fin hq
 | exit i=>exact absurd rfl (he i)
theorem HasC.of (ex:List Nat) {f:FuncId} {fn:Func} {c:Code} {ds:List DV} {post:DV→Prop} (hty:Cy Tryz.prog ty) (hm:Tryz.prog.follows .mixedOrders=true) (hent:Jd Tryz.prog f) (hf:Tryz.prog.funcs[f]? = some fn) (hb:fn.body=some c) (hok:Fo ty ex c=true)
  (hn:ds.length≤fn.ntmps) (hex : ∃ y,post y) (hv:Bx (vc ty ex c (Qd ty fn.results.toList post) (mkS fn.ntmps (a0l 0 ds) []))):HasC Tryz.prog f ds post:=by
 refine ⟨hent,hex,fun W vs Im hKw hIm hr=>calls_of_wp hf hb ?_⟩
 refine Rs rfl hty hm c _ _ _ _ _ _ hok hv.h (RelG.enter hKw hIm hr hn) fun e s g a w hq R => ?_
 cases e with
 | normal=>exact Nf hty R hq (fun i h=>by cases h)
 | ret=>exact Nf hty R hq (fun i h=>by cases h)
 | exit i=>cases hq
def Aw (P:Program) (ty:TypeId→Option TI) (t:TypeId) (i:TI):Prop:=(∃ info z,P.info? t=some info∧info.size=i.size∧info.zero=some z∧z.cells.toList.map DV.cellC=i.zero∧info.bytes=i.bytes∧(i.d.isAgg=true → ∃ xs,z=.agg xs)∧(i.d.isAgg=false→z.cells=#[z]))∧TD.ok P t i.d∧(∀ fs,i.d=.struct fs → ∀ p ∈ fs,(ty p.2).isSome=true) ∧
 (i.eq=true→P.stoodInHeld t=false∧P.eqGuardType P.depth t=false ∧ ∀ fields,P.underlying t=some (.struct fields) → ∀ f ∈ fields,f.name ≠ "_")
theorem Ka {α:Type} : ∀ {l:List (Nat×α)} {k:Nat} {x:α},Gd l k=some x→(k,x) ∈ l
 | [],k,x,h=>by cases h
 | (j,y)::r,k,x,h=>by
  unfold Gd at h
  cases hb:Nat.beq k j with
  | true =>
   rw[hb] at h
   simp at h
   rw[← h,Nat.eq_of_beq_eq_true hb]
   simp
  | false=>rw[hb] at h;exact List.mem_cons_of_mem _ (Ka h)
theorem b2z {l:List (Nat×TI)} (h : ∀ p ∈ l,Aw P (Gd l) p.1 p.2):Cy P (Gd l):=fun t i ht=>h (t,i) (Ka ht)
end
end Go.Proofs.YtfkfpkhgoijfdaaGreatDoor
