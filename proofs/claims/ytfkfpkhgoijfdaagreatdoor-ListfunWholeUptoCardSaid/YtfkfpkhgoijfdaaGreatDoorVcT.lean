/- The abstract machine: what a frame and its own blocks read as; one operation's step; steps that stand in no order may be exchanged. -/
import Derived.Test.YtfkfpkhgoijfdaaGreatDoorVcA
import Derived.Orders
namespace Go.Proofs.YtfkfpkhgoijfdaaGreatDoor
open Go.RowKit
set_option linter.unusedVariables false
structure Tk where
 j:Nat
 v:Nat
 e:Nat
 z:Nat
inductive AV where
 | d (x:DV)
 | p (n o:Nat)
 | rc (cs:List DV)
 | w (x:DV) (k:Option Tk)
inductive TD where
 | bool | int (k:IntKind) | str | struct (fs:List (Nat×TypeId)) | arr (n:Nat) (e:TypeId) | slice (e:TypeId) | other
structure TI where
 d:TD
 size:Nat
 zero:List DV
 eq:Bool:=false
 bytes:Nat:=0
def TD.isAgg:TD→Bool
 | .struct _=>true
 | .arr _ _=>true
 | _=>false
def TD.conc:TD→Bool
 | .other=>false
 | _=>true
def Vm (i:TI):DV :=
 match i.d.isAgg with
 | true=>.agg i.zero
 | false=>i.zero.headD (.v undef)
structure AS where
 n:Nat
 t:Nat→Option AV
 h:Nat→Option (List DV)
 u:Nat→Bool
 r:Nat→Nat
def ins {α:Type} (f:Nat→α) (k:Nat) (x:α):Nat→α:=fun j=>bif Nat.beq j k then x else f j
theorem Ay {α:Type} (f:Nat→α) (k:Nat) (x:α):ins f k x k=x:=by simp[ins]
theorem Bc {α:Type} (f:Nat→α) {k j:Nat} (x:α) (h:j≠k):ins f k x j=f j:=by
 have:Nat.beq j k=false:=by
  cases e:Nat.beq j k
  ·rfl
  ·exact absurd (Nat.eq_of_beq_eq_true e) h
 simp[ins,this]
theorem Hx {α:Type} (f:Nat→α) {k j:Nat} (x y:α) (h:j≠k):ins (ins f k x) j y=ins (ins f j y) k x:=by
 funext i
 by_cases h1:i=j
 ·subst h1;rw[Ay,Bc _ _ h,Ay]
 ·rw[Bc _ _ h1]
  by_cases h2:i=k
  ·subst h2;rw[Ay,Ay]
  ·rw[Bc _ _ h2,Bc _ _ h2,Bc _ _ h1]
def AS.put (s:AS) (d:Option Nat) (x:AV):AS :=
 match d with
 | none=>s
 | some d=>{ n:=s.n,t:=ins s.t d (some x),h:=s.h,u:=s.u,r:=s.r }
def AS.fresh (s:AS) (n:Nat) (cs:List DV):AS:={ n:=s.n,t:=ins s.t n (some (.p n 0)),h:=ins s.h n (some cs),u:=ins s.u n true,r:=s.r }
def AS.dropH (s:AS) (n:Nat):AS:={ n:=s.n,t:=s.t,h:=fun k=>bif Nat.beq k n then none else s.h k,u:=s.u,r:=s.r }
def AS.setH (s:AS) (n:Nat) (cs:List DV):AS:={ n:=s.n,t:=s.t,h:=ins s.h n (some cs),u:=s.u,r:=s.r }
def AS.app (s:AS) (d:Option Nat) (j:Nat) (x:DV) (e z:Nat):AS :=
 match d with
 | none=>{ n:=s.n,t:=s.t,h:=s.h,u:=s.u,r:=ins s.r j (Nat.succ (s.r j)) }
 | some d=>{ n:=s.n,t:=ins s.t d (some (.w x (some ⟨j,Nat.succ (s.r j),e,z⟩))),h:=s.h,u:=s.u,r:=ins s.r j (Nat.succ (s.r j)) }
def AV.ofC:Value→AV
 | .slice none 0 0=>.w (.sl 0 []) none
 | x=>.d (DV.ofC x)
def AS.opd (s:AS):Operand→Option AV
 | .tmp t=>s.t t
 | .const v=>some (AV.ofC v)
 | _=>none
def AS.dv (s:AS) (x:Operand):Option DV :=
 match s.opd x with
 | some (.d d)=>some d
 | some (.w d _)=>some d
 | _=>none
def AS.base (s:AS) (x:Operand):Option Value :=
 match s.dv x with
 | some d=>d.base
 | none=>none
def AS.dvs (s:AS):List Operand→Option (List DV)
 | []=>some []
 | x::xs=>match s.dv x,s.dvs xs with
  | some d,some ds=>some (d::ds)
  | _,_=>none
def Bs:List DV→Bool
 | []=>true
 | d::ds=>d.one&&Bs ds
def Ei (cs:List DV) (k:Nat) (xs:List DV):List DV:=cs.take k ++ xs ++ cs.drop (k+xs.length)
def Jl:List DV→Bool
 | [.tup _]=>true
 | _=>false
def Ts:List DV→Option (ByteArray×Nat)
 | [.tup [.v (.string s),.v (.int .i64 p)]]=>some (s,p.toNat)
 | _=>none
theorem Ez {cs:List DV} (h:Jl cs=false):Ts cs=none:=by
 unfold Ts
 split
 ·simp[Jl] at h
 ·rfl
def AS.cellsAt (s:AS) (n:Nat):Option (List DV) :=
 match s.h n with
 | some cs=>match Jl cs with
  | true=>none
  | false=>some cs
 | none=>none
theorem Gl {s:AS} {n:Nat} {cs:List DV} (h:s.cellsAt n=some cs):s.h n=some cs∧Jl cs=false:=by
 unfold AS.cellsAt at h
 split at h
 ·rename_i cs' h1
  split at h
  ·cases h
  ·rename_i h2
   cases h
   exact ⟨h1,h2⟩
 ·cases h
theorem Lj {s s':AS} {n:Nat} (h:s'.h n=s.h n):s'.cellsAt n=s.cellsAt n:=by unfold AS.cellsAt;rw[h]
theorem a6p {cs:List DV} (h:Bs cs=true):Jl cs=false:=by
 unfold Jl
 split
 ·simp[Bs,DV.one] at h
 ·rfl
theorem Yr {ds xs:List DV} {k:Nat} (h:Jl ds=false) (ho:Bs xs=true) (hk:k+xs.length≤ds.length):Jl (Ei ds k xs)=false:=by
 cases xs with
 | nil=>simpa [Ei] using h
 | cons x xs =>
  have hx:DV.one x=true:=by simp[Bs] at ho;exact ho.1
  have hl:(Ei ds k (x::xs)).length=ds.length:=by simp[Ei] at hk ⊢;omega
  unfold Jl
  split
  ·rename_i l e
   exfalso
   rw[e] at hl
   have h1:ds.length=1:=by simpa using hl.symm
   have hk0:k=0:=by simp at hk;omega
   subst hk0
   simp[Ei] at e
   rw[e.1] at hx
   simp[DV.one] at hx
  ·rfl
def Jb (i:TI) (cs:List DV) (k:Nat):Option DV :=
 match i.d.isAgg with
 | true=>bif Nat.ble (k+i.size) cs.length then some (.agg ((cs.drop k).take i.size)) else none
 | false=>cs[k]?
def Hr (place:Nat→Option (Nat×Nat)):List DV→List (Nat×DV)→Option (List DV)
 | cs,[]=>some cs
 | cs,(i,d)::r=>match place i with
  | some (off,size)=>bif (Nat.beq d.cells.length size&&Nat.ble (off+size) cs.length)&&Bs d.cells then Hr place (Ei cs off d.cells) r else none
  | none=>none
def AS.parts (s:AS):List (Nat×Operand)→Option (List (Nat×DV))
 | []=>some []
 | (i,x)::r=>match s.dv x,s.parts r with
  | some d,some ds=>some ((i,d)::ds)
  | _,_=>none
def AS.bound (s:AS):Option Operand→Nat→Option Int
 | none,k=>some (k:Int)
 | some x,_=>match s.base x with
  | some (.int _ i)=>some i
  | _=>none
section
variable (ty:TypeId→Option TI)
def Fz (fs:List (Nat×TypeId)) (i:Nat):Option (Nat×Nat) :=
 match fs[i]? with
 | some (off,t)=>match ty t with
  | some j=>some (off,j.size)
  | none=>none
 | none=>none
def Eb (s:AS):Op→Option AV
 | .move x=>s.opd x
 | .assign x=>s.opd x
 | .pick c a b=>match s.dv c with
  | some (.v (.bool true))=>s.opd a
  | some (.v (.bool false))=>s.opd b
  | _=>none
 | .extract x i=>match s.dv x with
  | some (.tup xs)=>match xs[i]? with
   | some d=>some (.d d)
   | none=>none
  | _=>none
 | .field t x f=>match s.dv x,ty t with
  | some (.agg cs),some ⟨.struct fs,_,_,_,_⟩=>match fs[f]? with
   | some (off,ft)=>match ty ft with
    | some j=>match Jb j cs off with
     | some d=>some (.d d)
     | none=>none
    | none=>none
   | none=>none
  | _,_=>none
 | .build t ps=>match ty t,s.parts ps.toList with
  | some ⟨.struct fs,_,z,_,_⟩,some ds=>match Hr (Fz ty fs) z ds with
   | some cs=>some (.d (.agg cs))
   | none=>none
  | some ⟨.arr _ e,_,z,_,_⟩,some ds=>match ty e with
   | some j=>match Hr (fun i=>some (i*j.size,j.size)) z ds with
    | some cs=>some (.d (.agg cs))
    | none=>none
   | none=>none
  | _,_=>none
 | .load t x=>match s.opd x,ty t with
  | some (.p n k),some i=>match s.cellsAt n with
   | some cs=>match Jb i cs k with
    | some d=>some (.d d)
    | none=>none
   | none=>none
  | some (.rc cs),some i=>match Jb i cs 0 with
   | some d=>some (.d d)
   | none=>none
  | _,_=>none
 | .fieldAddr t x f=>match s.opd x,ty t with
  | some (.p n k),some ⟨.struct fs,_,_,_,_⟩=>match fs[f]? with
   | some (off,ft)=>match ty ft with
    | some j=>bif Nat.beq j.size 0 then none else some (.p n (k+off))
    | none=>none
   | none=>none
  | some (.rc cs),some ⟨.struct fs,_,_,_,_⟩=>match fs[f]? with
   | some (off,ft)=>match ty ft with
    | some j=>bif Nat.beq j.size 0 then none else some (.rc (cs.drop off))
    | none=>none
   | none=>none
  | _,_=>none
 | .indexAddr t x i=>match s.opd x,s.base i,ty t with
  | some (.p n k),some (.int _ (.ofNat q)),some ⟨.arr m e,_,_,_,_⟩=>match ty e with
   | some ei=>bif Nat.blt q m && !Nat.beq ei.size 0 then some (.p n (k+q*ei.size)) else none
   | none=>none
  | _,some (.int _ q),some ⟨.slice e,_,_,_,_⟩=>match s.dv x,ty e with
   | some (.sl n cs),some ei=>if 0≤q∧q<(n:Int) then some (.rc ((cs.drop (q.toNat*ei.size)).take ei.size)) else none
   | _,_=>none
  | _,_,_=>none
 | .slice t x lo hi none=>match s.dv x,ty t with
  | some (.sl n cs),some ⟨.slice e,_,_,_,_⟩=>match ty e,s.bound lo 0,s.bound hi n with
   | some ei,some l,some h=>if 0≤l∧l≤h∧h≤(n:Int) then some (.d (.sl (h-l).toNat ((cs.drop (l.toNat*ei.size)).take ((h-l).toNat*ei.size)))) else none
   | _,_,_=>none
  | _,some ⟨.arr m e,_,_,_,_⟩=>match lo,hi,s.opd x,ty e with
   | none,none,some (.rc cs),some ei=>match Nat.beq cs.length (m*ei.size)&&Nat.ble m 16777216 with
    | true=>some (.d (.sl m cs))
    | false=>none
   | _,_,_,_=>none
  | _,_=>none
 | .makeInterface t x=>match s.dv x,ty t with
  | some d,some i=>match i.d.conc with
   | true=>some (.d (.ifc t d))
   | false=>none
  | _,_=>none
 | .typeAssert x _ t b=>match b with
  | false=>match s.dv x,ty t with
   | some (.ifc t' d),some i=>match i.d.conc&&Nat.beq t' t with
    | true=>some (.d d)
    | false=>none
   | _,_=>none
  | true=>match s.dv x,ty t with
   | some (.ifc t' d),some i=>match i.d.conc with
    | true=>match Nat.beq t' t with
     | true=>some (.d (.tup [d,.v (.bool true)]))
     | false=>some (.d (.tup [Vm i,.v (.bool false)]))
    | false=>none
   | some (.v .nilIface),some i=>match i.d.conc with
    | true=>some (.d (.tup [Vm i,.v (.bool false)]))
    | false=>none
   | _,_=>none
 | .call ⟨.builtin .len,args,tys⟩=>match args.toList,tys.toList with
  | [x],[t]=>match s.dv x,ty t with
   | some (.sl n _),some ⟨.slice _,_,_,_,_⟩=>some (.d (.v (.int .i64 n)))
   | _,_=>none
  | _,_=>none
 | .index t x i=>match s.dv x with
  | some (.agg cs)=>match s.base i,ty t with
   | some (.int _ (.ofNat q)),some ⟨.arr m e,_,_,_,_⟩=>match ty e with
    | some ei=>match Nat.blt q m with
     | true=>match Jb ei cs (q*ei.size) with
      | some d=>some (.d d)
      | none=>none
     | false=>none
    | none=>none
   | _,_=>none
  | _=>none
 | _=>none
end
def rep (n:Nat) (z:List DV):List DV:=(List.range (n*z.length)).map fun i=>z.getD (i % z.length) (.v undef)
structure AS.WF (s:AS):Prop where
 p : ∀ k n o,s.t k=some (.p n o)→s.u n=true
 w : ∀ k x q,s.t k=some (.w x (some q))→q.v≤s.r q.j
def Jd (P:Program) (f:FuncId):Prop := ∀ (args:Array Value) (w:World),(callFunc f args).run P w=.ok (.enter f args) w
def HasC (P:Program) (f:FuncId) (ds:List DV) (post:DV→Prop):Prop :=
 Jd P f∧(∃ y,post y) ∧ ∀ (W:World) (vs:Array Value) (Im:Nat→Nat→Prop),Kw W→(∀ g o,Im g o→g<W.heap.size)→DV.relL Im W ds vs.toList →
  Calls P f vs W fun e W' => ∃ r y,e=.returned r∧post y∧DV.rel (fun g o=>Im g o∨(W.heap.size≤g∧g<W'.heap.size)) W' y r∧Below W.heap.size W W'
theorem HasC.mono {P:Program} {f:FuncId} {ds:List DV} {post post':DV→Prop} (h:HasC P f ds post) (k : ∀ y,post y→post' y):HasC P f ds post' :=
 ⟨h.1,h.2.1.imp k,fun W vs Im hKw hIm hr=>(h.2.2 W vs Im hKw hIm hr).mono fun e W' ⟨r,y,h1,h2,h3,h4⟩=>⟨r,y,h1,k y h2,h3,h4⟩⟩
section
variable (P:Program) (ty:TypeId→Option TI)
def Mk (o:Oper) (s:AS) (v:Value):Prop :=
 ∃ r:Operand→Value,(∀ x ∈ o.op.operands,s.base x=some (r x))∧(∀ cs b,o.op ≠ .select cs b) ∧ ∀ W,(execOp r o).run P W=.ok (.value v) W
inductive Ac where
 | set (x:AV)
 | new (cs:List DV)
 | sto (n:Nat) (cs:List DV)
 | call (f:FuncId) (ds:List DV)
 | app (j:Nat) (x:DV) (e z:Nat)
def Tk.live (s:AS) (e z:Nat) (d:Option Nat):Option Tk→Prop
 | some q=>s.r q.j=q.v∧q.e=e∧q.z=z
 | none=>d≠none
def Pc (d:Option Nat):Option Tk→Nat
 | some q=>q.j
 | none=>d.getD 0
structure AppOk (s:AS) (i:TI) (n m:Nat) (cs ds:List DV) (e:Nat) (d:Option Nat) (k:Option Tk):Prop where
 h1:cs.length=n*i.size
 h2:ds.length=m*i.size
 h3:Bs ds=true
 h4:n+m≤maxLen
 h5:(n+m)*i.bytes≤140737488355328
 h6:0<i.size
 h7:i.zero.length=i.size
 h8:Tk.live s e i.size d k
 h9:k=none→m=0→n=0
def bsl (s:AS) (t:TypeId) (n:Nat) (ps:List (Nat×Operand)):Option AV :=
 match ty t,s.parts ps with
 | some ⟨.slice e,_,_,_,_⟩,some ds=>match ty e with
  | some i=>match Hr (fun j=>some (j*i.size,i.size)) (rep n i.zero) ds with
   | some cs=>bif Nat.ble (n*i.size) 16777216&&Nat.beq i.zero.length i.size&&Nat.ble n 16777216 then some (.w (.sl n cs) none) else none
   | none=>none
  | none=>none
 | _,_=>none
open Classical in
noncomputable def Nn (s:AS) (d:Option Nat) (args:List Operand) (tys:List TypeId):Option Ac :=
 match args,tys with
 | [x,y],[t,t2]=>match s.opd x,s.dv y,ty t,ty t2 with
  | some (.w (.sl n cs) k),some (.sl m ds),some ⟨.slice e,_,_,_,_⟩,some ⟨.slice _,_,_,_,_⟩=>match ty e with
   | some i=>if AppOk s i n m cs ds e d k then some (.app (Pc d k) (.sl (n+m) (cs ++ ds)) e i.size) else none
   | none=>none
  | _,_,_,_=>none
 | _,_=>none
structure AppIs (s:AS) (d:Option Nat) (args:List Operand) (tys:List TypeId) (c:Ac) (x y:Operand) (t t2:TypeId) (n m:Nat) (cs ds:List DV) (k:Option Tk) (e:Nat) (i:TI):Prop where
 ha:args=[x,y]
 ht:tys=[t,t2]
 hx:s.opd x=some (.w (.sl n cs) k)
 hy:s.dv y=some (.sl m ds)
 h1 : ∃ a b f g,ty t=some ⟨.slice e,a,b,f,g⟩
 h2 : ∃ e2 a b f g,ty t2=some ⟨.slice e2,a,b,f,g⟩
 he:ty e=some i
 ok:AppOk s i n m cs ds e d k
 hc:c=.app (Pc d k) (.sl (n+m) (cs ++ ds)) e i.size
theorem Si {s:AS} {d:Option Nat} {args:List Operand} {tys:List TypeId} {c:Ac} (h:Nn ty s d args tys=some c) : ∃ x y t t2 n m cs ds k e i,AppIs ty s d args tys c x y t t2 n m cs ds k e i:=by
 unfold Nn at h
 split at h
 ·split at h
  ·split at h
   ·split at h
    ·rename_i hok
     simp only[Option.some.injEq] at h
     exact ⟨_,_,_,_,_,_,_,_,_,_,_,rfl,rfl,by assumption,by assumption,⟨_,_,_,_,by assumption⟩,⟨_,_,_,_,_,by assumption⟩,by assumption,hok,h.symm⟩
    ·simp at h
   ·simp at h
  ·simp at h
 ·simp at h
open Classical in
noncomputable def Pj (o:Oper) (s:AS):Option Ac :=
 match Eb ty s o.op with
 | some x=>some (.set x)
 | none=>if h : ∃ v,Mk P o s v then some (.set (.d (.v h.choose))) else none
noncomputable def act (o:Oper) (s:AS):Option Ac :=
 match o.op with
 | .alloc t=>match ty t with
  | some i=>some (.new i.zero)
  | none=>none
 | .box t x=>match s.dv x with
  | some d=>bif Bs d.cells then some (.new d.cells) else none
  | none=>none
 | .store t a x=>match s.opd a,s.dv x,ty t with
  | some (.p n k),some d,some i=>match s.cellsAt n with
   | some cs=>bif Nat.beq d.cells.length i.size&&Nat.ble (k+i.size) cs.length&&Bs d.cells then some (.sto n (Ei cs k d.cells)) else none
   | none=>none
  | _,_,_=>none
 | .call ⟨.value (.func f),args,_⟩=>match s.dvs args.toList with
  | some ds=>some (.call f ds)
  | none=>none
 | .buildSlice t n ps=>match bsl ty s t n ps.toList with
  | some x=>some (.set x)
  | none=>none
 | .call ⟨.builtin .append,args,tys⟩=>Nn ty s o.dst args.toList tys.toList
 | _=>Pj P ty o s
theorem Kj {s:AS} {d:Option Nat} {args:List Operand} {tys:List TypeId} {c:Ac} (h:Nn ty s d args tys=some c) : ∃ j x e z,c=.app j x e z:=by
 obtain ⟨_,_,_,_,_,_,_,_,_,_,_,k⟩:=Si ty h
 exact ⟨_,_,_,_,k.hc⟩
theorem b3m {s:AS} {t:TypeId} {n:Nat} {ps:List (Nat×Operand)} {x:AV} (h:bsl ty s t n ps=some x) : ∃ d,x=.w d none:=by
 unfold bsl at h
 split at h
 ·split at h
  ·split at h
   ·simp only[Bool.cond_eq_ite] at h
    split at h
    ·simp at h;exact ⟨_,h.symm⟩
    ·cases h
   ·cases h
  ·cases h
 ·cases h
noncomputable def Gm (ops:Array Oper) (o:Oper) (s:AS):Option Ac :=
 match o.guard with
 | none=>act P ty o s
 | some (j,want)=>match (ops[j]?).bind (·.dst) with
  | some g=>match s.t g with
   | some (.d (.v (.bool b)))=>if b=want then act P ty o s else some (.set (.d (.v undef)))
   | some (.d (.v _))=>some (.set (.d (.v undef)))
   | _=>none
  | none=>none
def Ma (o:Oper) (s:AS):Ac→Prop
 | .new _ => ∃ n,o.dst=some n∧s.u n=false∧n<s.n
 | .sto _ _=>o.dst=none
 | _ => ∀ d,o.dst=some d→d<s.n
def Res:Ac→(DV→Prop)→Prop
 | .call f ds,R=>HasC P f ds R
 | _,R => ∃ y,R y
def upd (o:Oper) (y:DV) (s:AS):Ac→AS
 | .set x=>s.put o.dst x
 | .new cs=>match o.dst with
  | some n=>s.fresh n cs
  | none=>s
 | .sto n cs=>s.setH n cs
 | .call _ _=>s.put o.dst (.d y)
 | .app j x e z=>s.app o.dst j x e z
def T (ops:Array Oper) (o:Oper) (Q:AS→Prop) (s:AS):Prop :=
 ∃ c,Gm P ty ops o s=some c∧Ma o s c ∧ ∃ R,Res P c R ∧ ∀ y,R y→Q (upd o y s c)
variable {P ty}
theorem Res.ex {c:Ac} {R:DV→Prop} (h:Res P c R) : ∃ y,R y:=by
 cases c with
 | call f ds=>exact h.2.1
 | _=>exact h
theorem T.mono {ops:Array Oper} {o:Oper} {Q Q':AS→Prop} {s:AS} (hq : ∀ s,Q s→Q' s) (h:T P ty ops o Q s):T P ty ops o Q' s:=by
 obtain ⟨c,h1,h2,R,h3,h4⟩:=h
 exact ⟨c,h1,h2,R,h3,fun y hy=>hq _ (h4 y hy)⟩
end
end Go.Proofs.YtfkfpkhgoijfdaaGreatDoor
