/- Steps through a function's text: one law a step; what each asks is reckoned by the kernel. -/
import Derived.Test.YtfkfpkhgoijfdaaGreatDoorVcTy
namespace Go.Proofs.YtfkfpkhgoijfdaaGreatDoor
open Go.RowKit
set_option linter.unusedVariables false
set_option linter.unusedSimpArgs false
theorem mixed:Tryz.prog.follows .mixedOrders=true:=by kernel_rfl
abbrev vcI (ops:Array Oper) (i:Nat) (K:AS→Prop) (s:AS):Prop:=Bx (De tyT ops (ops.toList.drop i) K s)
abbrev VC (ex:List Nat) (c:Code) (Q:Ex→AS→Prop) (s:AS):Prop:=Bx (vc tyT ex c Q s)
def gOk (ops:Array Oper) (o:Oper) (s:AS):Option Bool :=
 match Py tyT o.op with
 | true=>none
 | false =>
 match o.guard with
 | none=>some true
 | some (j,want)=>match (ops[j]?).bind (·.dst) with
  | some g=>match s.t g with
   | some (.d (.v (.bool true)))=>some want
   | some (.d (.v (.bool false)))=>some !want
   | some (.d (.v (.tuple _)))=>some false
   | _=>none
  | none=>none
def b5t (o:Oper) (s:AS):Option AS :=
 match o.op with
 | .alloc t=>match tyT t,o.dst with
  | some i,some n=>match !s.u n&&Nat.blt n s.n with
   | true=>some (s.fresh n i.zero)
   | false=>none
  | _,_=>none
 | .box t x=>match s.dv x,o.dst with
  | some d,some n=>match !s.u n&&Nat.blt n s.n&&Bs d.cells with
   | true=>some (s.fresh n d.cells)
   | false=>none
  | _,_=>none
 | .store t a x=>match s.opd a,s.dv x,tyT t,o.dst with
  | some (.p n k),some d,some i,none=>match s.cellsAt n with
   | some cs=>match Nat.beq d.cells.length i.size&&Nat.ble (k+i.size) cs.length&&Bs d.cells with
    | true=>some (s.setH n (Ei cs k d.cells))
    | false=>none
   | none=>none
  | _,_,_,_=>none
 | .call ⟨.value (.func f),args,_⟩=>none
 | .buildSlice t n ps=>match bsl tyT s t n ps.toList,Ee o s with
  | some x,true=>some (s.put o.dst x)
  | _,_=>none
 | .call ⟨.builtin .append,_,_⟩=>none
 | _=>match Ee o s with
  | true=>match Eb tyT s o.op with
   | some x=>some (s.put o.dst x)
   | none=>none
  | false=>none
def b3u (ops:Array Oper) (o:Oper) (s:AS):Option AS :=
 match gOk ops o s with
 | some true=>b5t o s
 | some false=>match Ee o s with
  | true=>some (s.put o.dst (.d (.v undef)))
  | false=>none
 | none=>none
def Xv (ops:Array Oper):Nat→Nat→AS→Option AS
 | 0,_,s=>some s
 | m+1,i,s=>match ops[i]? with
  | some o=>match b3u ops o s with
   | some s'=>Xv ops m (i+1) s'
   | none=>none
  | none=>none
def Xp (ops:Array Oper) (i:Nat) (s:AS):Option (FuncId×List DV×Option Nat) :=
 match ops[i]? with
 | some o=>match gOk ops o s,o.op with
  | some true,.call ⟨.value (.func f),args,_⟩=>match s.dvs args.toList,Ee o s with
   | some ds,true=>some (f,ds,o.dst)
   | _,_=>none
  | _,_=>none
 | none=>none
def a8x (ops:Array Oper) (i:Nat) (s:AS):Option (BinOp×TypeId×Value×Value×Option Nat) :=
 match ops[i]? with
 | some o=>match gOk ops o s,o.op with
  | some true,.binOp op t x y _=>match s.base x,s.base y,Ee o s with
   | some a,some b,true=>some (op,t,a,b,o.dst)
   | _,_,_=>none
  | _,_=>none
 | none=>none
def b36 (ops:Array Oper) (i:Nat) (s:AS):Option (TypeId×Value×Value×Option Nat) :=
 match ops[i]? with
 | some o=>match gOk ops o s,o.op with
  | some true,.index t x y=>match s.base x,s.base y,Ee o s with
   | some a,some b,true=>match s.dv x with
    | some (.v _)=>some (t,a,b,o.dst)
    | _=>none
   | _,_,_=>none
  | _,_=>none
 | none=>none
def b5j (ops:Array Oper) (i:Nat) (s:AS):Option (TypeId×ByteArray×Int×Int×Option Nat) :=
 match ops[i]? with
 | some o=>match gOk ops o s,o.op with
  | some true,.slice t x lo hi none=>match s.base x,Ee o s with
   | some (.string b),true=>match s.dv x,tyT t with
    | some (.v _),some ⟨.str,_,_,_,_⟩=>match s.bound lo 0,s.bound hi b.size with
     | some l,some u=>some (t,b,l,u,o.dst)
     | _,_=>none
    | _,_=>none
   | _,_=>none
  | _,_=>none
 | none=>none
def b2y (ops:Array Oper) (i:Nat) (s:AS):Option (UnOp×Value×Option Nat) :=
 match ops[i]? with
 | some o=>match gOk ops o s,o.op with
  | some true,.unOp op _ x=>match s.base x,Ee o s with
   | some a,true=>some (op,a,o.dst)
   | _,_=>none
  | _,_=>none
 | none=>none
def Wu (ops:Array Oper) (i:Nat) (s:AS):Option (TypeId×TypeId×Value×Option Nat) :=
 match ops[i]? with
 | some o=>match gOk ops o s,o.op with
  | some true,.convert a b x=>match s.base x,Ee o s with
   | some v,true=>some (a,b,v,o.dst)
   | _,_=>none
  | _,_=>none
 | none=>none
def a7k (ops:Array Oper) (i:Nat) (s:AS):Option (Builtin×List TypeId×List Value×Option Nat) :=
 match ops[i]? with
 | some o=>match gOk ops o s,o.op with
  | some true,.call ⟨.builtin b,args,tys⟩=>match s.bases args.toList,Ee o s with
   | some vs,true=>match Eb tyT s o.op with
    | none=>some (b,tys.toList,vs,o.dst)
    | some _=>none
   | _,_=>none
  | _,_=>none
 | none=>none
def b41 (ops:Array Oper) (i:Nat) (s:AS):Option (ByteArray×Nat) :=
 match ops[i]? with
 | some o=>match o.guard,o.op,o.dst with
  | none,.range t x,some n=>match s.dv x,tyT t,!s.u n&&Nat.blt n s.n with
   | some (.v (.string b)),some ⟨.str,_,_,_,_⟩,true=>some (b,n)
   | _,_,_=>none
  | _,_,_=>none
 | none=>none
def b5y (ops:Array Oper) (i:Nat) (s:AS):Option (Nat×ByteArray×Int×Nat) :=
 match ops[i]? with
 | some o=>match o.guard,o.op,o.dst with
  | none,.next x true,some d=>match s.opd x,Nat.blt d s.n with
   | some (.p n 0),true=>match s.h n with
    | some [.tup [.v (.string b),.v (.int .i64 p)]]=>some (n,b,p,d)
    | _=>none
   | _,_=>none
  | _,_,_=>none
 | none=>none
def b7y (ops:Array Oper) (i:Nat) (s:AS):Option (Nat×List DV×Nat) :=
 match ops[i]? with
 | some o=>match o.guard,o.op,o.dst with
  | none,.convert src dst x,some d=>match s.dv x,tyT src,tyT dst with
   | some (.sl n cs),some ⟨.slice e,_,_,_,_⟩,some ⟨.str,_,_,_,_⟩=>match tyT e,Nat.blt d s.n with
    | some ⟨.int .u8,_,_,_,_⟩,true=>some (n,cs,d)
    | _,_=>none
   | _,_,_=>none
  | _,_,_=>none
 | none=>none
def b8u (ops:Array Oper) (i:Nat) (s:AS):Option (Nat×Nat×Nat×Int×List DV×Nat) :=
 match ops[i]? with
 | some o=>match o.guard,o.op,o.dst with
  | none,.slice t x (some lo) none none,some d=>match s.opd x,tyT t,Nat.blt d s.n with
   | some (.p n 0),some ⟨.arr m e,_,_,_,_⟩,true=>match s.h n,tyT e,s.bound (some lo) 0,Nat.ble m 16777216 with
    | some cs,some ei,some l,true=>some (n,m,ei.size,l,cs,d)
    | _,_,_,_=>none
   | _,_,_=>none
  | _,_,_=>none
 | none=>none
def b7l (ops:Array Oper) (i:Nat) (s:AS):Option (Nat×Nat×Int×Nat×Nat×Option Nat) :=
 match ops[i]? with
 | some o=>match gOk ops o s,o.op with
  | some true,.indexAddr t x ix=>match s.opd x,s.base ix,tyT t,Ee o s with
   | some (.p n k),some (.int _ q),some ⟨.arr m e,_,_,_,_⟩,true=>match tyT e with
    | some ei=>match Nat.beq ei.size 0 with
     | true=>none
     | false=>some (n,k,q,m,ei.size,o.dst)
    | none=>none
   | _,_,_,_=>none
  | _,_=>none
 | none=>none
def b7m (ops:Array Oper) (i:Nat) (s:AS):Option (Nat×Nat×DV×Nat×List DV) :=
 match ops[i]? with
 | some o=>match gOk ops o s,o.op with
  | some true,.store t b x=>match s.opd b,s.dv x,tyT t,o.dst with
   | some (.p n k),some d,some j,none=>match s.h n with
    | some cs=>some (n,k,d,j.size,cs)
    | none=>none
   | _,_,_,_=>none
  | _,_=>none
 | none=>none
theorem Cr {ops:Array Oper} {i:Nat} {o:Oper} (h:ops[i]? = some o):ops.toList.drop i=o::ops.toList.drop (i+1):=by
 have hlt:i<ops.toList.length:=by
  have:=(Array.getElem?_eq_some_iff.1 h).1
  simpa using this
 rw[List.drop_eq_getElem_cons hlt]
 congr 1
 obtain ⟨h1,h2⟩:=Array.getElem?_eq_some_iff.1 h
 simpa using h2
theorem Dk {ops:Array Oper} {o:Oper} {s:AS} {K:AS→Prop} (h:gOk ops o s=some true) (k:Gj tyT o s K):Gc tyT ops o s K:=by
 unfold gOk at h
 unfold Gc
 cases hi:Py tyT o.op with
 | true=>rw[hi] at h;cases h
 | false =>
 rw[hi] at h
 simp only at h ⊢
 unfold Mr
 cases hg:o.guard with
 | none=>exact k
 | some gw =>
  obtain ⟨j,want⟩:=gw
  rw[hg] at h
  simp only at h ⊢
  cases hb:(ops[j]?).bind (·.dst) with
  | none=>rw[hb] at h;cases h
  | some g =>
   rw[hb] at h
   simp only at h ⊢
   split at h
   ·rename_i ht
    rw[ht]
    simp at h
    subst h
    exact k
   ·rename_i ht
    rw[ht]
    simp at h
    subst h
    exact k
   ·cases h
   ·cases h
theorem a81 {ops:Array Oper} {o:Oper} {s:AS} {K:AS→Prop} (h:gOk ops o s=some false) (k:Lr o s K):Gc tyT ops o s K:=by
 unfold gOk at h
 unfold Gc
 cases hi:Py tyT o.op with
 | true=>rw[hi] at h;cases h
 | false =>
 rw[hi] at h
 simp only at h ⊢
 unfold Mr
 cases hg:o.guard with
 | none=>rw[hg] at h;cases h
 | some gw =>
  obtain ⟨j,want⟩:=gw
  rw[hg] at h
  simp only at h ⊢
  cases hb:(ops[j]?).bind (·.dst) with
  | none=>rw[hb] at h;cases h
  | some g =>
   rw[hb] at h
   simp only at h ⊢
   split at h
   ·rename_i ht
    rw[ht]
    simp at h
    subst h
    exact k
   ·rename_i ht
    rw[ht]
    simp at h
    subst h
    exact k
   ·rename_i ht
    rw[ht]
    exact k
   ·cases h
theorem a4e {o:Oper} {s s':AS} {K:AS→Prop} (h:b5t o s=some s') (k:K s'):Gj tyT o s K:=by
 unfold b5t at h
 unfold Gj
 split at h
 ·rename_i t hop
  split at h
  ·rename_i i n h1 h2
   split at h
   ·rename_i hb
    simp at h;subst h
    simp only[hop,h1,h2,hb];exact k
   ·cases h
  ·cases h
 ·rename_i t x hop
  split at h
  ·rename_i d n h1 h2
   split at h
   ·rename_i hb
    simp at h;subst h
    simp only[hop,h1,h2,hb];exact k
   ·cases h
  ·cases h
 ·rename_i t b x hop
  split at h
  ·rename_i n k' d i h1 h2 h3 h4
   split at h
   ·rename_i cs h5
    split at h
    ·rename_i hb
     simp at h;subst h
     simp only[hop,h1,h2,h3,h4,h5,hb];exact k
    ·cases h
   ·cases h
  ·cases h
 ·cases h
 ·rename_i t n ps hop
  split at h
  ·rename_i x h1 h2
   simp at h;subst h
   simp only[hop,h1,h2];exact k
  ·cases h
 ·cases h
 ·rename_i hn1 hn2 hn3 hn4 hn5 hn6
  split at h
  ·rename_i hd
   split at h
   ·rename_i x hx
    simp at h;subst h
    split
    ·rename_i t hop;exact absurd hop (hn1 t)
    ·rename_i t x hop;exact absurd hop (hn2 t x)
    ·rename_i t b x hop;exact absurd hop (hn3 t b x)
    ·rename_i f args tys hop;exact absurd hop (hn4 f args tys)
    ·rename_i t n ps hop;exact absurd hop (hn5 t n ps)
    ·rename_i args tys hop;exact absurd hop (hn6 args tys)
    ·rw[hd]
     simp only
     rw[hx]
     exact k
   ·cases h
  ·cases h
theorem Un {ops:Array Oper} {K:AS→Prop} : ∀ {m i:Nat} {s s':AS},Xv ops m i s=some s'→vcI ops (i+m) K s'→vcI ops i K s
 | 0,i,s,s',h,k=>by simp[Xv] at h;subst h;exact k
 | m+1,i,s,s',h,k=>by
  unfold Xv at h
  split at h
  ·rename_i o ho
   split at h
   ·rename_i s1 hs
    have k':vcI ops (i+1) K s1:=Un h (by rw[Nat.add_assoc,Nat.add_comm 1 m];exact k)
    refine ⟨?_⟩
    rw[Cr ho,De]
    unfold b3u at hs
    split at hs
    ·rename_i hg
     exact Dk hg (a4e hs k')
    ·rename_i hg
     split at hs
     ·rename_i hd
      simp at hs;subst hs
      exact a81 hg (by unfold Lr;rw[hd];exact k')
     ·cases hs
    ·cases hs
   ·cases h
  ·cases h
theorem b77 {ops:Array Oper} {i:Nat} {K:AS→Prop} {s:AS} (m:Nat) (h:(Xv ops m i s).isSome=true) (k:vcI ops (i+m) K ((Xv ops m i s).getD s)):vcI ops i K s:=by
 cases hq:Xv ops m i s with
 | none=>rw[hq] at h;cases h
 | some s'=>rw[hq] at k;exact Un hq k
theorem b4o {ops:Array Oper} {i:Nat} {K:AS→Prop} {s:AS} {n d:Nat} {cs:List DV} {b:ByteArray} (ns:List Int) (h:b7y ops i s=some (n,cs,d)) (h1:cs=ns.map fun z=>.v (.int .u8 z)) (h2:n=ns.length) (hb:Ri ns=b) (k:vcI ops (i+1) K (s.put (some d) (.d (.v (.string b))))):vcI ops i K s:=by
 subst hb
 unfold b7y at h
 split at h
 ·rename_i o ho
  split at h
  ·rename_i src dst x d' g1 g2 g3
   split at h
   ·rename_i n' cs' e _ _ _ _ _ _ _ _ g4 g5 g6
    split at h
    ·rename_i _ _ _ _ g7 g8
     simp at h
     obtain ⟨rfl,rfl,rfl⟩:=h
     refine ⟨?_⟩
     rw[Cr ho,De]
     unfold Gc
     have hi:Py tyT o.op=true:=by rw[g2];simp only[Py,g5]
     rw[hi]
     show Pe tyT o s _
     unfold Pe
     rw[g1,g2,g3]
     simp only[g4,g5,g6,g7]
     rw[g8]
     exact ⟨⟨ns,h1,h2,k⟩⟩
    ·cases h
   ·cases h
  ·cases h
 ·cases h
theorem b57 {ops:Array Oper} {i:Nat} {K:AS→Prop} {s:AS} {n m z d q:Nat} {l:Int} {cs ds:List DV} (h:b8u ops i s=some (n,m,z,l,cs,d)) (hl:0≤l∧l≤(m:Int)) (hc:cs.length=m*z) (hi:Jl cs=false) (hq:((m:Int)-l).toNat=q) (hd:(cs.drop (l.toNat*z)).take (q*z)=ds)
  (k:vcI ops (i+1) K ((s.dropH n).put (some d) (.d (.sl q ds)))):vcI ops i K s:=by
 subst hq hd
 unfold b8u at h
 split at h
 ·rename_i o ho
  split at h
  ·rename_i t x lo d' g1 g2 g3
   split at h
   ·rename_i n' m' e _ _ _ _ g4 g5 g6
    split at h
    ·rename_i cs' ei l' g7 g8 g9 g10
     simp at h
     obtain ⟨rfl,rfl,rfl,rfl,rfl,rfl⟩:=h
     refine ⟨?_⟩
     rw[Cr ho,De]
     unfold Gc
     have hi:Py tyT o.op=true:=by rw[g2];simp only[Py,g5]
     rw[hi]
     show Pe tyT o s _
     unfold Pe
     rw[g1,g2,g3]
     simp only[g4,g5,g6,g7,g8,g9,g10]
     exact ⟨hl,hc,by assumption,k⟩
    ·cases h
   ·cases h
  ·cases h
 ·cases h
def b51 (ops:Array Oper) (i:Nat) (s:AS):Option (Nat×Nat) :=
 match ops[i]? with
 | some o=>match o.guard,o.op,o.dst with
  | none,.binOp .eql t x (.const (.slice none 0 0)) _,some d=>match s.dv x,tyT t,Nat.blt d s.n with
   | some (.sl n _),some ⟨.slice _,_,_,_,_⟩,true=>some (n,d)
   | _,_,_=>none
  | _,_,_=>none
 | none=>none
theorem b6k {ops:Array Oper} {i:Nat} {K:AS→Prop} {s:AS} {n d:Nat} (h:b51 ops i s=some (n,d)) (k1:n=0→vcI ops (i+1) K (s.put (some d) (.d (.v (.bool true))))) (k2:vcI ops (i+1) K (s.put (some d) (.d (.v (.bool false))))):vcI ops i K s:=by
 unfold b51 at h
 split at h
 ·rename_i o ho
  split at h
  ·rename_i t x t2 d' g1 g2 g3
   split at h
   ·rename_i n' cs e _ _ _ _ g4 g5 g6
    simp at h
    obtain ⟨rfl,rfl⟩:=h
    refine ⟨?_⟩
    rw[Cr ho,De]
    unfold Gc
    have hi:Py tyT o.op=true:=by rw[g2];simp only[Py,g5]
    rw[hi]
    show Pe tyT o s _
    unfold Pe
    rw[g1,g2,g3]
    simp only[g4,g5,g6]
    exact ⟨k1,k2⟩
   ·cases h
  ·cases h
 ·cases h
theorem b6a {ops:Array Oper} {i:Nat} {K:AS→Prop} {s:AS} {b:ByteArray} {n:Nat} (h:b41 ops i s=some (b,n)) (k:vcI ops (i+1) K (s.fresh n [.tup [.v (.string b),.v (.int .i64 0)]])):vcI ops i K s:=by
 unfold b41 at h
 split at h
 ·rename_i o ho
  split at h
  ·rename_i t x n' h1 h2 h3
   split at h
   ·rename_i b' _ _ _ _ h4 h5 h6
    simp at h
    obtain ⟨rfl,rfl⟩:=h
    refine ⟨?_⟩
    rw[Cr ho,De]
    unfold Gc
    rw[h2]
    show Pe tyT o s _
    unfold Pe
    rw[h1,h2,h3]
    simp only[h4,h5]
    rw[h6]
    exact k
   ·cases h
  ·cases h
 ·cases h
theorem b5b {ops:Array Oper} {i:Nat} {K:AS→Prop} {s:AS} {n d:Nat} {b:ByteArray} {p:Int} (h:b5y ops i s=some (n,b,p,d)) (k:NextP b p fun y q=>vcI ops (i+1) K ((s.setH n [.tup [.v (.string b),.v (.int .i64 q)]]).put (some d) (.d y))):vcI ops i K s:=by
 unfold b5y at h
 split at h
 ·rename_i o ho
  split at h
  ·rename_i x d' h1 h2 h3
   split at h
   ·rename_i n' h4 h5
    split at h
    ·rename_i b' p' h6
     simp at h
     obtain ⟨rfl,rfl,rfl,rfl⟩:=h
     refine ⟨?_⟩
     rw[Cr ho,De]
     unfold Gc
     rw[h2]
     show Pe tyT o s _
     unfold Pe
     rw[h1,h2,h3]
     simp only[h4,h6]
     rw[h5]
     exact k
    ·cases h
   ·cases h
  ·cases h
 ·cases h
theorem Yf {ops:Array Oper} {i:Nat} {K:AS→Prop} {s:AS} {f:FuncId} {ds:List DV} {dst:Option Nat} {post:DV→Prop} (h:Xp ops i s=some (f,ds,dst)) (c:HasC Tryz.prog f ds post)
  (k : ∀ y,post y→vcI ops (i+1) K (s.put dst (.d y))):vcI ops i K s:=by
 unfold Xp at h
 split at h
 ·rename_i o ho
  split at h
  ·rename_i f' args tys hg hop
   split at h
   ·rename_i ds' h1 h2
    simp at h
    obtain ⟨rfl,rfl,rfl⟩:=h
    refine ⟨?_⟩
    rw[Cr ho,De]
    refine Dk hg ?_
    unfold Gj
    rw[hop]
    simp only[h1,h2]
    exact CallP.of c k
   ·cases h
  ·cases h
 ·cases h
theorem Ie {o:Oper} {s:AS} {K:AS→Prop} (hd:Ee o s=true) (hx:Eb tyT s o.op=none) (hn : ∀ t,o.op ≠ .alloc t) (hn2 : ∀ t x,o.op ≠ .box t x) (hn3 : ∀ t b x,o.op ≠ .store t b x) (hn4 : ∀ f args tys,o.op ≠ .call ⟨.value (.func f),args,tys⟩)
  (hn5 : ∀ t n ps,o.op ≠ .buildSlice t n ps) (hn6 : ∀ args tys,o.op ≠ .call ⟨.builtin .append,args,tys⟩)
  (k:Hp tyT o s fun v=>K (s.put o.dst (.d (.v v)))):Gj tyT o s K:=by
 unfold Gj
 split
 ·rename_i t hop;exact absurd hop (hn t)
 ·rename_i t x hop;exact absurd hop (hn2 t x)
 ·rename_i t b x hop;exact absurd hop (hn3 t b x)
 ·rename_i f args tys hop;exact absurd hop (hn4 f args tys)
 ·rename_i t n ps hop;exact absurd hop (hn5 t n ps)
 ·rename_i args tys hop;exact absurd hop (hn6 args tys)
 ·rw[hd]
  simp only
  rw[hx]
  exact k
theorem b22 {ops:Array Oper} {i:Nat} {K:AS→Prop} {s:AS} {op:BinOp} {t:TypeId} {a b:Value} {dst:Option Nat} (h:a8x ops i s=some (op,t,a,b,dst)) (k:Yc tyT op t a b fun v=>vcI ops (i+1) K (s.put dst (.d (.v v)))):vcI ops i K s:=by
 unfold a8x at h
 split at h
 ·rename_i o ho
  split at h
  ·rename_i op' t' x y ty' hg hop
   split at h
   ·rename_i a' b' h1 h2 h3
    simp at h
    obtain ⟨rfl,rfl,rfl,rfl,rfl⟩:=h
    refine ⟨?_⟩
    rw[Cr ho,De]
    refine Dk hg (Ie h3 (by rw[hop];rfl) (by rw[hop];simp) (by rw[hop];simp) (by rw[hop];simp) (by rw[hop];simp) (by rw[hop];simp) (by rw[hop];simp) ?_)
    unfold Hp
    rw[hop]
    simp only[h1,h2]
    exact k
   ·cases h
  ·cases h
 ·cases h
theorem b5l {ops:Array Oper} {i:Nat} {K:AS→Prop} {s:AS} {t:TypeId} {a b:Value} {dst:Option Nat} (h:b36 ops i s=some (t,a,b,dst)) (k:Zd tyT t a b fun v=>vcI ops (i+1) K (s.put dst (.d (.v v)))):vcI ops i K s:=by
 unfold b36 at h
 split at h
 ·rename_i o ho
  split at h
  ·rename_i t' x y hg hop
   split at h
   ·rename_i a' b' h1 h2 h3
    split at h
    case h_2=>cases h
    rename_i vv h6
    simp at h
    obtain ⟨rfl,rfl,rfl,rfl⟩:=h
    refine ⟨?_⟩
    rw[Cr ho,De]
    refine Dk hg (Ie h3 (by rw[hop];simp only[Eb,h6]) (by rw[hop];simp) (by rw[hop];simp) (by rw[hop];simp) (by rw[hop];simp) (by rw[hop];simp) (by rw[hop];simp) ?_)
    unfold Hp
    rw[hop]
    simp only[h1,h2]
    exact k
   ·cases h
  ·cases h
 ·cases h
theorem b4d {ops:Array Oper} {i:Nat} {K:AS→Prop} {s:AS} {t:TypeId} {b:ByteArray} {l u:Int} {dst:Option Nat} (h:b5j ops i s=some (t,b,l,u,dst)) (k:Zh tyT t b l u fun v=>vcI ops (i+1) K (s.put dst (.d (.v v)))):vcI ops i K s:=by
 unfold b5j at h
 split at h
 ·rename_i o ho
  split at h
  ·rename_i t' x lo hi hg hop
   split at h
   ·rename_i b' h1 h3
    split at h
    ·rename_i vv _ _ _ _ h6 h7
     split at h
     ·rename_i l' u' h4 h5
      simp at h
      obtain ⟨rfl,rfl,rfl,rfl,rfl⟩:=h
      refine ⟨?_⟩
      rw[Cr ho,De]
      refine Dk hg (Ie h3 (by rw[hop];simp only[Eb,h6,h7]) (by rw[hop];simp) (by rw[hop];simp) (by rw[hop];simp) (by rw[hop];simp) (by rw[hop];simp) (by rw[hop];simp) ?_)
      unfold Hp
      rw[hop]
      simp only[h1,h4,h5]
      exact k
     ·cases h
    ·cases h
   ·cases h
  ·cases h
 ·cases h
theorem b0j {ops:Array Oper} {i:Nat} {K:AS→Prop} {s:AS} {op:UnOp} {a:Value} {dst:Option Nat} (h:b2y ops i s=some (op,a,dst)) (k:a5p op a fun v=>vcI ops (i+1) K (s.put dst (.d (.v v)))):vcI ops i K s:=by
 unfold b2y at h
 split at h
 ·rename_i o ho
  split at h
  ·rename_i op' t' x hg hop
   split at h
   ·rename_i a' h1 h3
    simp at h
    obtain ⟨rfl,rfl,rfl⟩:=h
    refine ⟨?_⟩
    rw[Cr ho,De]
    refine Dk hg (Ie h3 (by rw[hop];rfl) (by rw[hop];simp) (by rw[hop];simp) (by rw[hop];simp) (by rw[hop];simp) (by rw[hop];simp) (by rw[hop];simp) ?_)
    unfold Hp
    rw[hop]
    simp only[h1]
    exact k
   ·cases h
  ·cases h
 ·cases h
theorem a0h {ops:Array Oper} {i:Nat} {K:AS→Prop} {s:AS} {t t':TypeId} {a:Value} {dst:Option Nat} (h:Wu ops i s=some (t,t',a,dst)) (k:Pi tyT t t' a fun v=>vcI ops (i+1) K (s.put dst (.d (.v v)))):vcI ops i K s:=by
 unfold Wu at h
 split at h
 ·rename_i o ho
  split at h
  ·rename_i t1 t2 x hg hop
   split at h
   ·rename_i a' h1 h3
    simp at h
    obtain ⟨rfl,rfl,rfl,rfl⟩:=h
    refine ⟨?_⟩
    rw[Cr ho,De]
    refine Dk hg (Ie h3 (by rw[hop];rfl) (by rw[hop];simp) (by rw[hop];simp) (by rw[hop];simp) (by rw[hop];simp) (by rw[hop];simp) (by rw[hop];simp) ?_)
    unfold Hp
    rw[hop]
    simp only[h1]
    exact k
   ·cases h
  ·cases h
 ·cases h
theorem b1r {ops:Array Oper} {i:Nat} {K:AS→Prop} {s:AS} {b:Builtin} {tys:List TypeId} {vs:List Value} {dst:Option Nat} (h:a7k ops i s=some (b,tys,vs,dst)) (k:Yo tyT b tys vs fun v=>vcI ops (i+1) K (s.put dst (.d (.v v)))):vcI ops i K s:=by
 unfold a7k at h
 split at h
 ·rename_i o ho
  split at h
  ·rename_i b' args tys' hg hop
   split at h
   ·rename_i vs' h1 h3
    split at h
    ·rename_i hx
     simp at h
     obtain ⟨rfl,rfl,rfl,rfl⟩:=h
     refine ⟨?_⟩
     rw[Cr ho,De]
     refine Dk hg (Ie h3 hx (by rw[hop];simp) (by rw[hop];simp) (by rw[hop];simp) (by rw[hop];simp) (by rw[hop];simp) (fun args' tys'' e => ?_) ?_)
     ·rw[hop] at e
      cases e
      simp[Yo] at k
     ·unfold Hp
      rw[hop]
      simp only[h1]
      exact k
    ·cases h
   ·cases h
  ·cases h
 ·cases h
def a7o (ops:Array Oper) (i:Nat) (s:AS):Option (Int×Nat×List DV×Nat×Option Nat) :=
 match ops[i]? with
 | some o=>match gOk ops o s,o.op with
  | some true,.indexAddr t x ix=>match s.dv x,s.base ix,tyT t,Ee o s with
   | some (.sl n cs),some (.int _ q),some ⟨.slice e,_,_,_,_⟩,true=>match tyT e with
    | some ei=>some (q,n,cs,ei.size,o.dst)
    | none=>none
   | _,_,_,_=>none
  | _,_=>none
 | none=>none
theorem a9x {ty:TypeId→Option TI} {s:AS} {t e:TypeId} {x ix:Operand} {a1 a2 a3 a4} {n:Nat} {cs:List DV} {ei:TI} {kk:IntKind} {q:Int} (h1:ty t=some ⟨.slice e,a1,a2,a3,a4⟩) (h2:s.base ix=some (.int kk q)) (h3:s.dv x=some (.sl n cs)) (h4:ty e=some ei) (hq:0≤q∧q<(n:Int)) :
  Eb ty s (.indexAddr t x ix)=some (.rc ((cs.drop (q.toNat*ei.size)).take ei.size)):=by
 simp only[Eb,h1,h2,h3,h4]
 cases s.opd x with
 | none=>exact if_pos hq
 | some v=>cases v<;>exact if_pos hq
theorem Od {o:Oper} {s:AS} {K:AS→Prop} {x:AV} (hd:Ee o s=true) (hx:Eb tyT s o.op=some x) (hn : ∀ t,o.op ≠ .alloc t) (hn2 : ∀ t x,o.op ≠ .box t x) (hn3 : ∀ t b x,o.op ≠ .store t b x) (hn4 : ∀ f args tys,o.op ≠ .call ⟨.value (.func f),args,tys⟩)
  (hn5 : ∀ t n ps,o.op ≠ .buildSlice t n ps) (hn6 : ∀ args tys,o.op ≠ .call ⟨.builtin .append,args,tys⟩) (k:K (s.put o.dst x)):Gj tyT o s K:=by
 unfold Gj
 split
 ·rename_i t hop;exact absurd hop (hn t)
 ·rename_i t x hop;exact absurd hop (hn2 t x)
 ·rename_i t b x hop;exact absurd hop (hn3 t b x)
 ·rename_i f args tys hop;exact absurd hop (hn4 f args tys)
 ·rename_i t n ps hop;exact absurd hop (hn5 t n ps)
 ·rename_i args tys hop;exact absurd hop (hn6 args tys)
 ·rw[hd]
  simp only
  rw[hx]
  exact k
theorem Eh {ops:Array Oper} {i:Nat} {K:AS→Prop} {s:AS} {q:Int} {n z:Nat} {cs ds:List DV} {dst:Option Nat} (h:a7o ops i s=some (q,n,cs,z,dst)) (hq:0≤q∧q<(n:Int)) (hd:(cs.drop (q.toNat*z)).take z=ds) (k:vcI ops (i+1) K (s.put dst (.rc ds))):vcI ops i K s:=by
 unfold a7o at h
 split at h
 ·rename_i o ho
  split at h
  ·rename_i t x ix hg hop
   split at h
   ·rename_i n' cs' kk q' e _ _ _ _ h1 h2 h3 h4
    split at h
    ·rename_i ei h5
     simp at h
     obtain ⟨rfl,rfl,rfl,rfl,rfl⟩:=h
     refine ⟨?_⟩
     rw[Cr ho,De]
     refine Dk hg (Od h4 (by rw[hop];exact a9x h3 h2 h1 h5 hq) (by rw[hop];simp) (by rw[hop];simp) (by rw[hop];simp) (by rw[hop];simp) (by rw[hop];simp) (by rw[hop];simp) ?_)
     rw[hd]
     exact k
    ·cases h
   ·cases h
  ·cases h
 ·cases h
theorem Bl {ops:Array Oper} {i:Nat} {K:AS→Prop} {s:AS} {q:Int} {n:Nat} {cs:List DV} {d:DV} {dst:Option Nat} (h:a7o ops i s=some (q,n,cs,1,dst)) (hq:0≤q∧q<(n:Int)) (hd:cs[q.toNat]? = some d) (k:vcI ops (i+1) K (s.put dst (.rc [d]))):vcI ops i K s :=
 Eh h hq (by
  obtain ⟨h1,h2⟩:=List.getElem?_eq_some_iff.1 hd
  rw[Nat.mul_one,List.drop_eq_getElem_cons h1,h2]
  rfl) k
theorem b52 {ops:Array Oper} {i:Nat} {K:AS→Prop} {s:AS} {n k m z:Nat} {q:Int} {dst:Option Nat} (h:b7l ops i s=some (n,k,q,m,z,dst)) (hq:0≤q∧q<(m:Int)) (kk:vcI ops (i+1) K (s.put dst (.p n (k+q.toNat*z)))):vcI ops i K s:=by
 unfold b7l at h
 split at h
 ·rename_i o ho
  split at h
  ·rename_i t x ix hg hop
   split at h
   ·rename_i n' k' _ q' m' e _ _ _ _ h1 h2 h3 h4
    split at h
    ·rename_i ei h5
     split at h
     ·cases h
     ·rename_i h6
      simp at h
      obtain ⟨rfl,rfl,rfl,rfl,rfl,rfl⟩:=h
      refine ⟨?_⟩
      rw[Cr ho,De]
      obtain ⟨qn,rfl⟩:=Int.eq_ofNat_of_zero_le hq.1
      have hlt:Nat.blt qn m'=true:=by rw[Nat.blt_eq];omega
      refine Dk hg (Od h4 (x:=.p n' (k'+qn*ei.size)) (by
       rw[hop]
       show Eb tyT s (.indexAddr t x ix)=_
       have h2':s.base ix=some (.int _ (.ofNat qn)):=h2
       simp only[Eb,h1,h2',h3,h5,hlt,h6,Bool.not_false,Bool.and_self,cond_true]) (by rw[hop];simp) (by rw[hop];simp) (by rw[hop];simp) (by rw[hop];simp) (by rw[hop];simp) (by rw[hop];simp) ?_)
      exact kk
    ·cases h
   ·cases h
  ·cases h
 ·cases h
theorem b4g {ops:Array Oper} {i:Nat} {K:AS→Prop} {s:AS} {n k z:Nat} {d:DV} {cs ds:List DV} (h:b7m ops i s=some (n,k,d,z,cs)) (hz:d.cells.length=z) (ho:Bs d.cells=true) (hi:Jl cs=false) (hk:k+z≤cs.length) (hd:Ei cs k d.cells=ds) (kk:vcI ops (i+1) K (s.setH n ds)):vcI ops i K s:=by
 subst hd
 unfold b7m at h
 split at h
 ·rename_i o hop'
  split at h
  ·rename_i t b x hg hop
   split at h
   ·rename_i n' k' d' j h1 h2 h3 h4
    split at h
    ·rename_i cs' h5
     simp at h
     obtain ⟨rfl,rfl,rfl,rfl,rfl⟩:=h
     refine ⟨?_⟩
     rw[Cr hop',De]
     refine Dk hg ?_
     unfold Gj
     rw[hop]
     simp only[h1,h2,h3,h4]
     have hc:s.cellsAt n'=some cs':=by unfold AS.cellsAt;rw[h5];simp only;rw[hi]
     rw[hc]
     simp only
     rw[show (Nat.beq d'.cells.length j.size&&Nat.ble (k'+j.size) cs'.length&&Bs d'.cells)=true from by rw[ho,hz];simp[Nat.ble_eq,hk]]
     exact kk
    ·cases h
   ·cases h
  ·cases h
 ·cases h
def b7p (ops:Array Oper) (i:Nat) (s:AS):Option (Int×Int×Nat×List DV×Nat×Option Nat) :=
 match ops[i]? with
 | some o=>match gOk ops o s,o.op with
  | some true,.slice t x lo hi none=>match s.dv x,tyT t,Ee o s with
   | some (.sl n cs),some ⟨.slice e,_,_,_,_⟩,true=>match tyT e,s.bound lo 0,s.bound hi n with
    | some ei,some l,some u=>some (l,u,n,cs,ei.size,o.dst)
    | _,_,_=>none
   | _,_,_=>none
  | _,_=>none
 | none=>none
theorem a2c {ops:Array Oper} {i:Nat} {K:AS→Prop} {s:AS} {l u:Int} {n z m:Nat} {cs ds:List DV} {dst:Option Nat} (h:b7p ops i s=some (l,u,n,cs,z,dst)) (hb:0≤l∧l≤u∧u≤(n:Int)) (hm:(u-l).toNat=m) (hd:(cs.drop (l.toNat*z)).take (m*z)=ds)
  (k:vcI ops (i+1) K (s.put dst (.d (.sl m ds)))):vcI ops i K s:=by
 unfold b7p at h
 split at h
 ·rename_i o ho
  split at h
  ·rename_i t x lo hi hg hop
   split at h
   ·rename_i n' cs' e _ _ _ _ h1 h2 h3
    split at h
    ·rename_i ei l' u' h4 h5 h6
     simp at h
     obtain ⟨rfl,rfl,rfl,rfl,rfl,rfl⟩:=h
     refine ⟨?_⟩
     rw[Cr ho,De]
     subst hm hd
     refine Dk hg (Od h3 (x:=.d (.sl (u'-l').toNat ((cs'.drop (l'.toNat*ei.size)).take ((u'-l').toNat*ei.size)))) (by rw[hop];simp only[Eb,h1,h2,h4,h5,h6];rw[if_pos hb]) (by rw[hop];simp) (by rw[hop];simp) (by rw[hop];simp) (by rw[hop];simp) (by rw[hop];simp) (by rw[hop];simp) k)
    ·cases h
   ·cases h
  ·cases h
 ·cases h
def a6w (s:AS) (e z:Nat) (d:Option Nat):Option Tk→Bool
 | some q=>Nat.beq (s.r q.j) q.v&&Nat.beq q.e e&&Nat.beq q.z z
 | none=>d.isSome
def b8m (n m:Nat):Option Tk→Bool
 | some _=>true
 | none=>Nat.beq n 0||Nat.blt 0 m
def b8l (ops:Array Oper) (i:Nat) (s:AS):Option (Nat×List DV×Nat×List DV×Nat×Nat×Nat×Option Nat) :=
 match ops[i]? with
 | some o=>match gOk ops o s,o.op with
  | some true,.call ⟨.builtin .append,args,tys⟩=>match args.toList,tys.toList,Ee o s with
   | [x,y],[t,t2],true=>match s.opd x,s.dv y,tyT t,tyT t2 with
    | some (.w (.sl n cs) k),some (.sl m ds),some ⟨.slice e,_,_,_,_⟩,some ⟨.slice _,_,_,_,_⟩=>match tyT e with
     | some ei=>match a6w s e ei.size o.dst k&&Nat.blt 0 ei.size&&Nat.beq ei.zero.length ei.size&&Nat.ble ei.bytes 100&&b8m n m k with
      | true=>some (n,cs,m,ds,Pc o.dst k,e,ei.size,o.dst)
      | false=>none
     | none=>none
    | _,_,_,_=>none
   | _,_,_=>none
  | _,_=>none
 | none=>none
theorem Dg {ops:Array Oper} {i:Nat} {K:AS→Prop} {s:AS} {n m N j e z:Nat} {cs ds es:List DV} {dst:Option Nat} (h:b8l ops i s=some (n,cs,m,ds,j,e,z,dst)) (h1:cs.length=n*z) (h2:ds.length=m*z) (h3:Bs ds=true) (h4:n+m≤1000000000000) (hN:n+m=N) (hes:cs ++ ds=es)
  (k:vcI ops (i+1) K (s.app dst j (.sl N es) e z)):vcI ops i K s:=by
 unfold b8l at h
 split at h
 ·rename_i o ho
  split at h
  ·rename_i args tys hg hop
   split at h
   ·rename_i x y t t2 ha ht hd
    split at h
    ·rename_i n' cs' q m' ds' e' _ _ _ _ e2 _ _ _ _ k1 k2 k3 k4
     split at h
     ·rename_i ei k5
      split at h
      ·rename_i hb
       simp at h
       obtain ⟨rfl,rfl,rfl,rfl,rfl,rfl,rfl,rfl⟩:=h
       simp only[Bool.and_eq_true] at hb
       have b5:q=none→m'=0→n'=0:=fun e1 e2=>by
        have:=hb.2
        subst e1 e2
        simpa [b8m] using this
       have hb:=hb.1
       have b2:0<ei.size:=by simpa [Nat.blt_eq] using hb.1.1.2
       have b3:=Nat.eq_of_beq_eq_true hb.1.2
       have b4:=Nat.le_of_ble_eq_true hb.2
       have hl:Tk.live s e' ei.size o.dst q:=by
        have:=hb.1.1.1
        cases q with
        | none =>
         simp only[a6w] at this
         simp only[Tk.live]
         intro h;rw[h] at this;cases this
        | some q =>
         simp only[a6w,Bool.and_eq_true] at this
         exact ⟨Nat.eq_of_beq_eq_true this.1.1,Nat.eq_of_beq_eq_true this.1.2,Nat.eq_of_beq_eq_true this.2⟩
       have hok:AppOk s ei n' m' cs' ds' e' o.dst q:=⟨h1,h2,h3,by simp only[maxLen];omega,by
        have:(n'+m')*ei.bytes≤1000000000000*100:=Nat.mul_le_mul h4 b4
        omega,b2,b3,hl,b5⟩
       subst hN hes
       refine ⟨?_⟩
       rw[Cr ho,De]
       refine Dk hg ?_
       unfold Gj
       rw[hop]
       simp only[hd]
       refine ⟨⟨_,_,_,_,?_,k⟩⟩
       unfold Nn
       simp only[ha,ht,k1,k2,k3,k4,k5]
       rw[if_pos hok]
      ·cases h
     ·cases h
    ·cases h
   ·cases h
  ·cases h
 ·cases h
theorem a7j {s:AS} : ∀ {t:List (Nat×AV)},t.map (fun p=>Rd s (s.t p.1) p.2)=t.map (fun p=>some p.2)→LeT s t
 | [],_=>trivial
 | (k,x)::r,h=>by
  simp only[List.map_cons,List.cons.injEq] at h
  exact ⟨h.1,a7j h.2⟩
theorem a7i {s:AS} : ∀ {t:List (Nat×List DV)},t.map (fun p=>s.h p.1)=t.map (fun p=>some p.2)→LeH s t
 | [],_=>trivial
 | (k,x)::r,h=>by
  simp only[List.map_cons,List.cons.injEq] at h
  exact ⟨h.1,a7i h.2⟩
theorem a9j {s:AS} {n:Nat} {t:List (Nat×AV)} {h:List (Nat×List DV)} (h1:(s.n,t.map (fun p=>Rd s (s.t p.1) p.2),h.map (fun p=>s.h p.1))=(n,t.map (fun p=>some p.2),h.map (fun p=>some p.2))) (h2:Fx h t=true):Le s n t h:=by
 simp only[Prod.mk.injEq] at h1
 exact ⟨h1.1,a7j h1.2.1,a7i h1.2.2,h2⟩
def zT (a b:List (Nat×AV)):List (Nat×AV):=a ++ b
def zH (a b:List (Nat×List DV)):List (Nat×List DV):=a ++ b
theorem b05 {ops:Array Oper} {i:Nat} {K:AS→Prop} {s:AS} (n:Nat) (t:List (Nat×AV)) (h:List (Nat×List DV)) (hi:Nat.ble ops.size i=true)
  (h1:(s.n,t.map (fun p=>Rd s (s.t p.1) p.2),h.map (fun p=>s.h p.1))=(n,t.map (fun p=>some p.2),h.map (fun p=>some p.2))) (h2:Fx h t=true) (k:K (mkS n t h)):vcI ops i (WkP K) s:=by
 refine ⟨?_⟩
 rw[List.drop_eq_nil_iff.2 (by simpa using Nat.le_of_ble_eq_true hi)]
 exact ⟨⟨n,t,h,a9j h1 h2,k⟩⟩
theorem hO (ex:List Nat) (fn:Func) {f:FuncId} {c:Code} {ds:List DV} {post:DV→Prop} (hent:Jd Tryz.prog f) (hf:Tryz.prog.funcs[f]? = some fn) (hb:fn.body=some c) (hex : ∃ y,post y)
  (hv:Bx (vc tyT ex c (Qd tyT fn.results.toList post) (mkS fn.ntmps (a0l 0 ds) []))) (hok:Fo tyT ex c=true:=by kernel_rfl) (hn:Nat.ble ds.length fn.ntmps=true:=by kernel_rfl):HasC Tryz.prog f ds post :=
 HasC.of ex Oi mixed hent hf hb hok (Nat.le_of_ble_eq_true hn) hex hv
section
variable {ex:List Nat} {Q:Ex→AS→Prop} {s:AS}
theorem Af {x y:Code} (k:VC ex x (Wk (fun s'=>VC ex y Q s') Q) s):VC ex (.seq x y) Q s:=⟨k.h⟩
theorem b2a {id:Nat} {ops:Array Oper} {d:Bool} (l:List Nat) (h:inL ex id=false) (hf:(Wy l s).isSome=true) (k:vcI ops 0 (WkP (Q .normal)) ((Wy l s).getD s)):VC ex (.region id ops d) Q s:=by
 refine ⟨?_⟩
 unfold vc
 obtain ⟨s',hs⟩:=Option.isSome_iff_exists.1 hf
 rw[hs] at k
 refine ⟨⟨l,s',hs,?_⟩⟩
 rw[h]
 exact k.h
theorem a9h {id:Nat} {ops:Array Oper} {d:Bool} (l:List Nat) (h:inL ex id=true) (hf:(Wy l s).isSome=true) (h2:Dp tyT ((Wy l s).getD s).t ops=true) (k:vcI ops 0 (WkP (Q .normal)) ((Wy l s).getD s)):VC ex (.region id ops d) Q s:=by
 refine ⟨?_⟩
 unfold vc
 obtain ⟨s',hs⟩:=Option.isSome_iff_exists.1 hf
 rw[hs] at k h2
 refine ⟨⟨l,s',hs,?_⟩⟩
 rw[h]
 simp only
 rw[show Dp tyT s'.t ops=true from h2]
 exact k.h
theorem Aq {id:Nat} {ops:Array Oper} {d:Bool} (h:inL ex id=false) (k:vcI ops 0 (WkP (Q .normal)) s):VC ex (.region id ops d) Q s:=b2a [] h rfl k
theorem b2k {id:Nat} {ops:Array Oper} {d:Bool} (h:inL ex id=true) (h2:Dp tyT s.t ops=true) (k:vcI ops 0 (WkP (Q .normal)) s):VC ex (.region id ops d) Q s:=a9h [] h rfl h2 k
theorem Aa {id:Nat} {ops:Array Oper} {d:Bool} {y:Code} (h:inL ex id=false) (k:vcI ops 0 (WkP fun s'=>VC ex y Q s') s):VC ex (.seq (.region id ops d) y) Q s:=⟨(Aq (d:=d) (Q:=Wk (fun s'=>VC ex y Q s') Q) h k).h⟩
theorem b0c {id:Nat} {ops:Array Oper} {d:Bool} {y:Code} (h:inL ex id=true) (h2:Dp tyT s.t ops=true) (k:vcI ops 0 (WkP fun s'=>VC ex y Q s') s):VC ex (.seq (.region id ops d) y) Q s:=⟨(b2k (d:=d) (Q:=Wk (fun s'=>VC ex y Q s') Q) h h2 k).h⟩
theorem a95 {c:Operand} {x y:Code} (h:s.dv c=some (.v (.bool true))) (k:VC ex x Q s):VC ex (.cond c x y) Q s:=by
 refine ⟨?_⟩
 unfold vc
 rw[h]
 exact k.h
theorem a7x {c:Operand} {x y:Code} (h:s.dv c=some (.v (.bool false))) (k:VC ex y Q s):VC ex (.cond c x y) Q s:=by
 refine ⟨?_⟩
 unfold vc
 rw[h]
 exact k.h
theorem Ae (k:Q .normal s):VC ex .skip Q s:=⟨k⟩
theorem Bj {i:Nat} (k:Q (.exit i) s):VC ex (.exit i) Q s:=⟨k⟩
theorem Ab (k:Q .ret s):VC ex .ret Q s:=⟨k⟩
theorem Al {id:Nat} {c:Code} (k:VC ex c (Lz id Q) s):VC ex (.block id c) Q s:=⟨k.h⟩
theorem Ag {K:AS→Prop} (k:K s):Wk K Q .normal s:=k
theorem Ck {K:AS→Prop} {i:Nat} (k:Q (.exit i) s):Wk K Q (.exit i) s:=k
theorem Ai {K:AS→Prop} (k:Q .ret s):Wk K Q .ret s:=k
theorem Ar {id:Nat} (k:Q .normal s):Lz id Q .normal s:=k
theorem Aj {id:Nat} (k:Q .ret s):Lz id Q .ret s:=k
theorem Bk {id i:Nat} (h:Nat.beq i id=true) (k:Q .normal s):Lz id Q (.exit i) s:=by
 unfold Lz
 simp only
 rw[h]
 exact k
theorem Bq {c:Code} {α:Type} (n:Nat) (t:α→List (Nat×AV)) (h:α→List (Nat×List DV)) (J:α→Prop) (m:α→Nat) (x:α) (hj:J x)
  (h1:(s.n,(t x).map (fun p=>Rd s (s.t p.1) p.2),(h x).map (fun p=>s.h p.1))=(n,(t x).map (fun p=>some p.2),(h x).map (fun p=>some p.2))) (h2:Fx (h x) (t x)=true)
  (k : ∀ x,J x→VC ex c (a0e Q n t h J m x) (mkS n (t x) (h x))):VC ex (.loop c) Q s:=by
 refine ⟨?_⟩
 unfold vc
 exact ⟨⟨α,n,t,h,J,m,⟨x,hj,a9j h1 h2⟩,fun x hx=>(k x hx).h⟩⟩
theorem Bw {α:Type} {n:Nat} {t:α→List (Nat×AV)} {h:α→List (Nat×List DV)} {J:α→Prop} {m:α→Nat} {x:α} (y:α) (hj:J y) (hm:m y<m x)
  (h1:(s.n,(t y).map (fun p=>Rd s (s.t p.1) p.2),(h y).map (fun p=>s.h p.1))=(n,(t y).map (fun p=>some p.2),(h y).map (fun p=>some p.2))) (h2:Fx (h y) (t y)=true):a0e Q n t h J m x .normal s :=
 ⟨y,hj,hm,a9j h1 h2⟩
theorem Bt {α:Type} {n:Nat} {t:α→List (Nat×AV)} {h:α→List (Nat×List DV)} {J:α→Prop} {m:α→Nat} {x:α} {i:Nat} (k:Q (.exit i) s):a0e Q n t h J m x (.exit i) s:=k
theorem Fb {α:Type} {n:Nat} {t:α→List (Nat×AV)} {h:α→List (Nat×List DV)} {J:α→Prop} {m:α→Nat} {x:α} (k:Q .ret s):a0e Q n t h J m x .ret s:=k
theorem b7z {rs:List ResultVar} {post:DV→Prop} {d:DV} (h:Gg tyT s rs=some [d]) (k:post d):Qd tyT rs post .ret s:=by
 unfold Qd
 simp only
 rw[h]
 exact ⟨k⟩
theorem b7x {rs:List ResultVar} {post:DV→Prop} {d e:DV} {ds:List DV} (h:Gg tyT s rs=some (d::e::ds)) (k:post (.tup (d::e::ds))):Qd tyT rs post .ret s:=by
 unfold Qd
 simp only
 rw[h]
 exact ⟨k⟩
end
theorem IntIs.i64 {e z:Int} (h:IntIs .i64 e z) (hb : -9223372036854775808≤e∧e≤9223372036854775807):z=e:=h.trans (IntWalk.i64_in e hb)
theorem IntIs.u64 {e z:Int} (h:IntIs .u64 e z) (hb:0≤e∧e≤18446744073709551615):z=e:=h.trans (IntWalk.u64_in e hb)
theorem IntIs.u8 {e z:Int} (h:IntIs .u8 e z) (hb:0≤e∧e≤255):z=e:=h.trans (IntWalk.u8_in e hb)
theorem IntIs.i32 {e z:Int} (h:IntIs .i32 e z) (hb : -2147483648≤e∧e≤2147483647):z=e:=h.trans (IntWalk.i32_in e hb)
theorem IntIs.u32 {e z:Int} (h:IntIs .u32 e z) (hb:0≤e∧e≤4294967295):z=e:=h.trans (IntWalk.u32_in e hb)
def DV.ofV:Value→DV
 | .tuple xs=>.tup (xs.toList.map fun x=>match x with
  | .agg cs=>.agg (cs.toList.map .v)
  | x=>.v x)
 | .agg cs=>.agg (cs.toList.map .v)
 | x=>.v x
theorem Yh {Im:Nat→Nat→Prop} {W:World} (x:Value):(DV.v x).rel Im W x:=by rw[DV.rel]
theorem b33 {Im:Nat→Nat→Prop} {W:World} (xs:List Value):DV.relL Im W (xs.map .v) xs:=DV.relL_mk (by simp) fun i d y hd hy=>by
 simp[hy] at hd
 subst hd
 exact Yh y
theorem a3a {Im:Nat→Nat→Prop} {W:World} (x:Value):(DV.ofV x).rel Im W x:=by
 have agg : ∀ cs:Array Value,(DV.agg (cs.toList.map .v)).rel Im W (.agg cs):=fun cs=>by rw[DV.rel];exact ⟨cs,rfl,b33 _⟩
 unfold DV.ofV
 split
 ·rename_i xs
  rw[DV.rel]
  refine ⟨xs,rfl,DV.relL_mk (by simp) fun i d y hd hy => ?_⟩
  simp only[List.getElem?_map,hy,Option.map_some,Option.some.injEq] at hd
  subst hd
  split
  ·exact agg _
  ·exact Yh _
 ·exact agg _
 ·exact Yh _
theorem HasC.ofCalls {f:FuncId} {ds:List DV} {vs:List Value} {R:Value→Prop} (hent:Jd Tryz.prog f) (hb:ds.map DV.base=vs.map some) (h : ∀ w,Calls Tryz.prog f vs.toArray w fun e w' => ∃ r,e=.returned r∧R r∧Below w.heap.size w w'):HasC Tryz.prog f ds (fun y => ∃ r,R r∧y=DV.ofV r):=by
 refine ⟨hent,?_,fun W us Im _ hIm hr => ?_⟩
 ·obtain ⟨e,w',fr,⟨r,_,hr,_⟩,_⟩:=h default []
  exact ⟨_,r,hr,rfl⟩
 ·have hu:us=vs.toArray:=by
   apply Array.ext'
   have hl:=DV.relL_length hr
   have hl2:ds.length=vs.length:=by have:=congrArg List.length hb;simpa using this
   apply List.ext_getElem?
   intro i
   by_cases hi:i<ds.length
   ·obtain ⟨y,hy,hry⟩:=DV.relL_get hr (show ds[i]? = some ds[i] by simp[hi])
    have hbi:(ds.map DV.base)[i]? = (vs.map some)[i]? := by rw[hb]
    simp[hi,show i<vs.length by omega] at hbi
    rw[hy,DV.base_rel hbi hry]
    simp[show i<vs.length by omega]
   ·rw[List.getElem?_eq_none (by omega),List.getElem?_eq_none (by simp;omega)]
  subst hu
  exact (h W).mono fun e W' ⟨r,he,hR,hb⟩=>⟨r,_,he,⟨r,hR,rfl⟩,a3a r,hb⟩
theorem Au {r a b:ByteArray} {m n:Nat} (h:r=a ++ b) (ha:a.size=m) (hb:b.size=n):r.size=m+n:=by rw[h,ByteArray.size_append,ha,hb]
theorem Bf {a b:ByteArray} {m n k:Nat} (ha:a.size=m) (hb:b.size=n) (h:m+n≤k):a.size+b.size≤k:=by rw[ha,hb];exact h
theorem Dj {r b:ByteArray} {l u:Int} (h:r=b.extract l.toNat u.toNat) (hr:0≤l∧l≤u∧u≤(b.size:Int)):(r.size:Int)=u-l:=by rw[h,ByteArray.size_extract];omega
theorem HasC.ofCallsK {f:FuncId} {ds:List DV} {vs:List Value} {R:Value→Prop} (hent:Jd Tryz.prog f) (hex : ∃ r,R r) (hb:ds.map DV.base=vs.map some) (h : ∀ w,Kw w→Calls Tryz.prog f vs.toArray w fun e w' => ∃ r,e=.returned r∧R r∧Below w.heap.size w w'):HasC Tryz.prog f ds (fun y => ∃ r,R r∧y=DV.ofV r):=by
 refine ⟨hent,?_,fun W us Im hKw hIm hr => ?_⟩
 ·obtain ⟨r,hr⟩:=hex
  exact ⟨_,r,hr,rfl⟩
 ·have hu:us=vs.toArray:=by
   apply Array.ext'
   have hl:=DV.relL_length hr
   have hl2:ds.length=vs.length:=by have:=congrArg List.length hb;simpa using this
   apply List.ext_getElem?
   intro i
   by_cases hi:i<ds.length
   ·obtain ⟨y,hy,hry⟩:=DV.relL_get hr (show ds[i]? = some ds[i] by simp[hi])
    have hbi:(ds.map DV.base)[i]? = (vs.map some)[i]? := by rw[hb]
    simp[hi,show i<vs.length by omega] at hbi
    rw[hy,DV.base_rel hbi hry]
    simp[show i<vs.length by omega]
   ·rw[List.getElem?_eq_none (by omega),List.getElem?_eq_none (by simp;omega)]
  subst hu
  exact (h W hKw).mono fun e W' ⟨r,he,hR,hb⟩=>⟨r,_,he,⟨r,hR,rfl⟩,a3a r,hb⟩
section
variable {ex:List Nat} {Q:Ex→AS→Prop} {s:AS} {ops:Array Oper} {i:Nat} {K:AS→Prop}
theorem iQ (m:Nat) (k:vcI ops (i+m) K ((Xv ops m i s).getD s)) (h:(Xv ops m i s).isSome=true:=by kernel_rfl):vcI ops i K s:=b77 m h k
theorem iY (t:TypeId) (b:ByteArray) (l u:Int) (dst:Option Nat) (k:Zh tyT t b l u fun v=>vcI ops (i+1) K (s.put dst (.d (.v v)))) (h:b5j ops i s=some (t,b,l,u,dst):=by kernel_rfl):vcI ops i K s:=b4d h k
theorem iG (b:ByteArray) (n:Nat) (k:vcI ops (i+1) K (s.fresh n [.tup [.v (.string b),.v (.int .i64 0)]])) (h:b41 ops i s=some (b,n):=by kernel_rfl):vcI ops i K s:=b6a h k
theorem iN (n:Nat) (b:ByteArray) (p:Int) (d:Nat) (h0:0≤p) (k1:p<(b.size:Int) → ∀ (c q:Int) (w:Nat),NextIs b p c w→q=p+w→vcI ops (i+1) K ((s.setH n [.tup [.v (.string b),.v (.int .i64 q)]]).put (some d) (.d (.tup [.v (.bool true),.v (.int .i64 p),.v (.int .i32 c)]))))
  (k2 : ¬ p<(b.size:Int)→vcI ops (i+1) K ((s.setH n [.tup [.v (.string b),.v (.int .i64 p)]]).put (some d) (.d (.tup [.v (.bool false)])))) (h:b5y ops i s=some (n,b,p,d):=by kernel_rfl):vcI ops i K s:=b5b h ⟨h0,k1,k2⟩
theorem iZ (n d:Nat) (k1:n=0→vcI ops (i+1) K (s.put (some d) (.d (.v (.bool true))))) (k2:vcI ops (i+1) K (s.put (some d) (.d (.v (.bool false))))) (h:b51 ops i s=some (n,d):=by kernel_rfl):vcI ops i K s:=b6k h k1 k2
theorem iU (op:UnOp) (a:Value) (dst:Option Nat) (k:a5p op a fun v=>vcI ops (i+1) K (s.put dst (.d (.v v)))) (h:b2y ops i s=some (op,a,dst):=by kernel_rfl):vcI ops i K s:=b0j h k
theorem iV (t t':TypeId) (a:Value) (dst:Option Nat) (k:Pi tyT t t' a fun v=>vcI ops (i+1) K (s.put dst (.d (.v v)))) (h:Wu ops i s=some (t,t',a,dst):=by kernel_rfl):vcI ops i K s:=a0h h k
theorem iE (n:Nat) (t:List (Nat×AV)) (h:List (Nat×List DV)) (k:K (mkS n t h)) (hi:Nat.ble ops.size i=true:=by kernel_rfl)
  (h1:(s.n,t.map (fun p=>Rd s (s.t p.1) p.2),h.map (fun p=>s.h p.1))=(n,t.map (fun p=>some p.2),h.map (fun p=>some p.2)):=by kernel_rfl) (h2:Fx h t=true:=by kernel_rfl):vcI ops i (WkP K) s:=b05 n t h hi h1 h2 k
theorem jC (f:FuncId) (ds:List DV) (d:Nat) {post:DV→Prop} (c:HasC Tryz.prog f ds post) (k : ∀ y,post y→vcI ops (i+1) K (s.put (some d) (.d y))) (h:Xp ops i s=some (f,ds,some d):=by kernel_rfl):vcI ops i K s:=Yf h c k
theorem eC (f:FuncId) (ds:List DV) (d:Nat) {v:DV} (c:HasC Tryz.prog f ds fun y=>y=v) (k:vcI ops (i+1) K (s.put (some d) (.d v))) (h:Xp ops i s=some (f,ds,some d):=by kernel_rfl):vcI ops i K s:=Yf h c (fun y e=>by rw[e];exact k)
theorem jB (op:BinOp) (t:TypeId) (a b:Value) (d:Nat) (k:Yc tyT op t a b fun v=>vcI ops (i+1) K (s.put (some d) (.d (.v v)))) (h:a8x ops i s=some (op,t,a,b,some d):=by kernel_rfl):vcI ops i K s:=b22 h k
theorem jX (t:TypeId) (a b:Value) (d:Nat) (k:Zd tyT t a b fun v=>vcI ops (i+1) K (s.put (some d) (.d (.v v)))) (h:b36 ops i s=some (t,a,b,some d):=by kernel_rfl):vcI ops i K s:=b5l h k
theorem jU (op:UnOp) (a:Value) (d:Nat) (k:a5p op a fun v=>vcI ops (i+1) K (s.put (some d) (.d (.v v)))) (h:b2y ops i s=some (op,a,some d):=by kernel_rfl):vcI ops i K s:=b0j h k
theorem jV (t t':TypeId) (a:Value) (d:Nat) (k:Pi tyT t t' a fun v=>vcI ops (i+1) K (s.put (some d) (.d (.v v)))) (h:Wu ops i s=some (t,t',a,some d):=by kernel_rfl):vcI ops i K s:=a0h h k
theorem jL (b:Builtin) (tys:List TypeId) (vs:List Value) (d:Nat) (k:Yo tyT b tys vs fun v=>vcI ops (i+1) K (s.put (some d) (.d (.v v)))) (h:a7k ops i s=some (b,tys,vs,some d):=by kernel_rfl):vcI ops i K s:=b1r h k
theorem iT {c:Operand} {x y:Code} (k:VC ex x Q s) (h:s.dv c=some (.v (.bool true)):=by kernel_rfl):VC ex (.cond c x y) Q s:=a95 h k
theorem iF {c:Operand} {x y:Code} (k:VC ex y Q s) (h:s.dv c=some (.v (.bool false)):=by kernel_rfl):VC ex (.cond c x y) Q s:=a7x h k
theorem iR {rs:List ResultVar} {post:DV→Prop} (d:DV) (k:post d) (h:Gg tyT s rs=some [d]:=by kernel_rfl):Qd tyT rs post .ret s:=b7z h k
theorem iS {rs:List ResultVar} {post:DV→Prop} (d e:DV) (ds:List DV) (k:post (.tup (d::e::ds))) (h:Gg tyT s rs=some (d::e::ds):=by kernel_rfl):Qd tyT rs post .ret s:=b7x h k
end
end Go.Proofs.YtfkfpkhgoijfdaaGreatDoor
