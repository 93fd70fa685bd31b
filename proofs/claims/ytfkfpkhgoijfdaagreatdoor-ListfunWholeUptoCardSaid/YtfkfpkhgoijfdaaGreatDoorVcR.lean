/- A region: its text order, walked by the abstract machine, serves for every order that its edges allow. -/
import Derived.Test.YtfkfpkhgoijfdaaGreatDoorVcP
namespace Go.Proofs.YtfkfpkhgoijfdaaGreatDoor
open Go.RowKit
set_option linter.unusedVariables false
set_option linter.unusedSimpArgs false
section
variable (P:Program) (ty:TypeId→Option TI)
def TL (ops:Array Oper) (Q:AS→Prop):List Nat→AS→Prop
 | [],s=>Q s
 | i::l,s => ∃ o,ops[i]? = some o∧T P ty ops o (TL ops Q l) s
end
def a0q (ms:List Nat):List Edge→Nat
 | []=>0
 | e::es=>bif Region.binds .any e then (1 <<< e.on) ||| (ms.getD e.on 0) ||| a0q ms es else a0q ms es
def Jj:List Oper→List Nat→List Nat
 | [],ms=>ms
 | o::r,ms=>Jj r (ms ++ [a0q ms o.after.toList])
def Jt (ops:Array Oper) (a:Nat):Bool:=ops.all fun o=>o.dst != some a
def Jc:Op→Option Nat
 | .fieldAddr _ (.tmp b) _=>some b
 | _=>none
def a2m:Op→Bool
 | .alloc _=>true
 | .box _ _=>true
 | _=>false
def b3z (f:Nat→Option AV) (ops:Array Oper) (a:Nat):Bool :=
 (ops.all fun o=>o.dst != some a||a2m o.op)&&(match f a with | some (.p m _)=>Nat.beq m a | _=>true)
def a7h (f:Nat→Option AV) (ops:Array Oper) (a b n:Nat):Bool :=
 (Jt ops b&&ops.all fun o=>o.dst != some a||Jc o.op==some b)&&(match f a with | some (.p m _)=>Nat.beq m n | _=>true)
def Md (f:Nat→Option AV) (ops:Array Oper) (a:Nat):Option Nat :=
  match Jt ops a with
  | true=>match f a with
    | some (.p n _)=>some n
    | _=>none
  | false=>match b3z f ops a with
   | true=>some a
   | false=>match ops.find? fun o=>o.dst==some a with
    | some o=>match Jc o.op with
      | some b=>match f b with
        | some (.p n _) =>
          match a7h f ops a b n with
          | true=>some n
          | false=>none
        | _=>none
      | none=>none
    | none=>none
def b9y (f:Nat→Option AV) (ops:Array Oper) (x y:Op):Bool :=
 ((Nat.beq (Op.cls x) 1&&Nat.beq (Op.cls y) 3)||(Nat.beq (Op.cls x) 3&&Nat.beq (Op.cls y) 1)) &&
 match Kc x,Kc y with
 | some a,some b=>match Md f ops a,Md f ops b with
  | some n,some m => !Nat.beq n m
  | _,_=>false
 | _,_=>false
def a42 (f:Nat→Option AV) (ops:Array Oper) (x y:Op):Bool:=Iq x y||b9y f ops x y
def Pu (ex:Op→Op→Bool) (ops:Array Oper) (m:Nat) (oj:Oper):Nat→List Oper→Bool
 | _,[]=>true
 | y,oy::r=>(m.testBit y||(ex oy.op oj.op&&oy.apart ops oj))&&Pu ex ops m oj (y+1) r
def Mu (j:Nat):List Edge→Bool
 | []=>true
 | e::es=>(!Region.binds .any e||Nat.blt e.on j)&&Mu j es
def Jq (ex:Op→Op→Bool) (ops:Array Oper) (ms:List Nat) (all:List Oper):Nat→List Oper→Bool
 | _,[]=>true
 | j,o::r=>Mu j o.after.toList&&Pu ex ops (ms.getD j 0) o 0 (all.take j)&&Jq ex ops ms all (j+1) r
def Py (ty:TypeId→Option TI):Op→Bool
 | .range _ _=>true
 | .next _ _=>true
 | .convert src _ _=>match ty src with
  | some ⟨.slice _,_,_,_,_⟩=>true
  | _=>false
 | .slice t _ (some _) _ _=>match ty t with
  | some ⟨.arr _ _,_,_,_,_⟩=>true
  | _=>false
 | .binOp .eql t _ (.const (.slice none 0 0)) _=>match ty t with
  | some ⟨.slice _,_,_,_,_⟩=>true
  | _=>false
 | _=>false
def b2c (ty:TypeId→Option TI) (ops:Array Oper):Bool:=ops.all fun o => !Py ty o.op
def Dp (ty:TypeId→Option TI) (f:Nat→Option AV) (ops:Array Oper):Bool:=b2c ty ops&&Jq (a42 f ops) ops (Jj ops.toList []) ops.toList 0 ops.toList
def Ug (ty:TypeId→Option TI) (ops:Array Oper):Bool:=b2c ty ops&&Jq Iq ops (Jj ops.toList []) ops.toList 0 ops.toList
section
variable {P:Program} {ty:TypeId→Option TI} {W0:World} {I0:Nat→Nat→Prop} {ops:Array Oper}
theorem TL.mono {Q Q':AS→Prop} (h : ∀ s,Q s→Q' s) : ∀ {l:List Nat} {s:AS},TL P ty ops Q l s→TL P ty ops Q' l s
 | [],s,k=>h s k
 | i::l,s,k=>by
  obtain ⟨o,h1,h2⟩:=k
  exact ⟨o,h1,h2.mono fun s' h'=>TL.mono h h'⟩
def Uj (ops:Array Oper) (f:Nat→Option AV) (s:AS):Prop:=(∀ a,Jt ops a=true→s.t a=f a) ∧ ∀ a n,Md f ops a=some n → ∀ m k,s.t a=some (.p m k)→m=n
theorem Vr {f:Nat→Option AV} {a n:Nat} (h:Md f ops a=some n) (hf:Jt ops a=true) : ∃ k,f a=some (.p n k):=by
 unfold Md at h
 rw[hf] at h
 simp only at h
 split at h
 ·rename_i n' k e
  simp only[Option.some.injEq] at h
  subst h
  exact ⟨k,e⟩
 ·cases h
theorem Pw {f:Nat→Option AV} {a n:Nat} (h:Md f ops a=some n) (hf:Jt ops a=false) :
  ((∃ b k,f b=some (.p n k)∧Jt ops b=true ∧ ∀ o ∈ ops,o.dst=some a→Jc o.op=some b)∨(n=a ∧ ∀ o ∈ ops,o.dst=some a→a2m o.op=true)) ∧ ∀ m k,f a=some (.p m k)→m=n:=by
 unfold Md at h
 rw[hf] at h
 simp only at h
 split at h
 ·rename_i hc
  simp only[Option.some.injEq] at h
  subst h
  unfold b3z at hc
  rw[Bool.and_eq_true] at hc
  refine ⟨.inr ⟨rfl,fun o ho hd => ?_⟩,fun m k' e' => ?_⟩
  ·have:=Array.all_eq_true_iff_forall_mem.1 hc.1 o ho
   simpa [hd] using this
  ·have:=hc.2
   rw[e'] at this
   exact Nat.eq_of_beq_eq_true this
 split at h
 ·split at h
  ·rename_i b _
   split at h
   ·rename_i n' k e
    split at h
    ·rename_i hc
     simp only[Option.some.injEq] at h
     subst h
     simp only[a7h,Bool.and_eq_true] at hc
     refine ⟨.inl ⟨b,k,e,hc.1.1,fun o ho hd => ?_⟩,fun m k' e' => ?_⟩
     ·have:=Array.all_eq_true_iff_forall_mem.1 hc.1.2 o ho
      simpa [hd] using this
     ·have:=hc.2
      rw[e'] at this
      exact Nat.eq_of_beq_eq_true this
    ·cases h
   ·cases h
  ·cases h
 ·cases h
theorem Zb (f:Nat→Option AV) (s:AS) (h:s.t=f):Uj ops f s:=by
 refine ⟨fun a _=>by rw[h],fun a n hn m k e => ?_⟩
 rw[h] at e
 cases hf:Jt ops a with
 | true =>
  obtain ⟨k',e'⟩:=Vr hn hf
  rw[e] at e'
  cases e'
  rfl
 | false=>exact (Pw hn hf).2 m k e
theorem a9n {f:Nat→Option AV} {s:AS} {x y:Op} (hs:Uj ops f s) (h:a42 f ops x y=true):may s.t x y:=by
 unfold a42 at h
 simp only[Bool.or_eq_true] at h
 rcases h with h | h
 ·exact .inl h
 ·right
  unfold b9y at h
  simp only[Bool.and_eq_true] at h
  refine ⟨h.1,?_⟩
  have h2:=h.2
  split at h2
  ·rename_i a b ha hb
   refine ⟨a,b,ha,hb,fun n k m l e1 e2 e => ?_⟩
   split at h2
   ·rename_i n' m' h3 h4
    rw[← hs.2 _ _ h3 _ _ e1,← hs.2 _ _ h4 _ _ e2,e] at h2
    simp at h2
   ·cases h2
  ·cases h2
theorem b1c {o:Oper} {s:AS} {b n k:Nat} {c:Ac} (hb:Jc o.op=some b) (hv:s.t b=some (.p n k)) (h:Gm P ty ops o s=some c) : ∃ x,c=.set x ∧ ∀ m l,x=.p m l→m=n:=by
 rcases Cj h with h | h
 ·obtain ⟨dst,op,type,pos,after,guard⟩:=o
  cases op with
  | fieldAddr t x fl =>
   cases x with
   | tmp b' =>
    simp only[Jc,Option.some.injEq] at hb
    subst hb
    unfold act Pj at h
    simp only at h
    split at h
    ·rename_i x hx
     simp only[Option.some.injEq] at h
     refine ⟨x,h.symm,fun m l e => ?_⟩
     subst e
     simp only[Eb,AS.opd,hv] at hx
     split at hx
     ·rename_i h1 h2
      simp only[Option.some.injEq,AV.p.injEq] at h1
      split at hx
      ·split at hx
       ·simp only[Bool.cond_eq_ite] at hx
        split at hx
        ·cases hx
        ·simp only[Option.some.injEq,AV.p.injEq] at hx
         omega
       ·cases hx
      ·cases hx
     ·rename_i h1 h2
      simp at h1
     ·cases hx
    ·split at h
     ·simp only[Option.some.injEq] at h
      exact ⟨_,h.symm,fun m l e=>by cases e⟩
     ·cases h
   | _=>simp[Jc] at hb
  | _=>simp[Jc] at hb
 ·exact ⟨_,h,fun m l e=>by cases e⟩
theorem b1k {o:Oper} {s:AS} {c:Ac} (hb:a2m o.op=true) (h:Gm P ty ops o s=some c):(∃ cs,c=.new cs)∨c=.set (.d (.v undef)):=by
 rcases Cj h with h | h
 ·obtain ⟨dst,op,type,pos,after,guard⟩:=o
  cases op with
  | alloc t =>
   unfold act at h
   simp only at h
   split at h
   ·exact .inl ⟨_,(Option.some.inj h).symm⟩
   ·cases h
  | box t x =>
   unfold act at h
   simp only at h
   split at h
   ·simp only[Bool.cond_eq_ite] at h
    split at h
    ·exact .inl ⟨_,(Option.some.inj h).symm⟩
    ·cases h
   ·cases h
  | _=>simp[a2m] at hb
 ·exact .inr h
theorem T.keep {f:Nat→Option AV} {i:Nat} {o:Oper} (ho:ops[i]? = some o) {Q:AS→Prop} {s:AS} (hw:s.WF) (hs:Uj ops f s) (h:T P ty ops o Q s):T P ty ops o (fun s'=>(s'.WF∧Uj ops f s')∧Q s') s:=by
 obtain ⟨c,h1,h2,R,h3,h4⟩:=h
 have hst : ∀ y a,(∀ d,o.dst=some d→a≠d)→(upd o y s c).t a=s.t a:=by
  intro y a hne
  cases c with
  | set x=>cases hd:o.dst with
   | none=>simp[upd,AS.put,hd]
   | some d=>simp[upd,AS.put,hd,Bc _ _ (hne d hd)]
  | call g ds=>cases hd:o.dst with
   | none=>simp[upd,AS.put,hd]
   | some d=>simp[upd,AS.put,hd,Bc _ _ (hne d hd)]
  | new cs=>cases hd:o.dst with
   | none=>simp[upd,hd]
   | some d=>simp[upd,AS.fresh,hd,Bc _ _ (hne d hd)]
  | sto n cs=>rfl
  | app j x e z=>cases hd:o.dst with
   | none=>simp[upd,AS.app,hd]
   | some d=>simp[upd,AS.app,hd,Bc _ _ (hne d hd)]
 have hmem:=Array.mem_of_getElem? ho
 refine ⟨c,h1,h2,R,h3,fun y hy=>⟨⟨a6g hw h1 h2,fun a ha => ?_,fun a n hn m k e => ?_⟩,h4 y hy⟩⟩
 ·rw[← hs.1 a ha]
  refine hst y a fun d hd e => ?_
  subst e
  have:=Array.all_eq_true_iff_forall_mem.1 ha o hmem
  simp[hd] at this
 ·by_cases hd:o.dst=some a
  ·cases hf:Jt ops a with
   | true =>
    have:=Array.all_eq_true_iff_forall_mem.1 hf o hmem
    simp[hd] at this
   | false =>
    obtain ⟨⟨b,k',e1,e2,e3⟩ | ⟨e2,e3⟩,_⟩:=Pw hn hf
    case inr =>
     subst e2
     rcases b1k (e3 o hmem hd) h1 with ⟨cs,rfl⟩ | rfl
     ·have:(upd o y s (.new cs)).t n=some (.p n 0):=by simp[upd,hd,AS.fresh,Ay]
      rw[this] at e
      cases e
      rfl
     ·have:(upd o y s (.set (.d (.v undef)))).t n=some (.d (.v undef)):=by simp[upd,AS.put,hd,Ay]
      rw[this] at e
      cases e
    have hb:=e3 o hmem hd
    obtain ⟨x,rfl,hx⟩:=b1c hb (by rw[hs.1 b e2];exact e1) h1
    have:(upd o y s (.set x)).t a=some x:=by simp[upd,AS.put,hd,Ay]
    rw[this] at e
    cases e
    exact hx m k rfl
  ·rw[hst y a fun d hd' e=>hd (by rw[hd',e])] at e
   exact hs.2 a n hn m k e
theorem a0s {f:Nat→Option AV} {Q:AS→Prop} {i:Nat} {oi:Oper} (hi:ops[i]? = some oi) : ∀ (l:List Nat) (s:AS),s.WF→Uj ops f s→TL P ty ops Q l s→i ∈ l →
  (∀ y ∈ l,y<i → ∀ oy,ops[y]? = some oy→a42 f ops oy.op oi.op=true∧oy.apart ops oi=true)→l.Pairwise (· < ·)→T P ty ops oi (TL P ty ops Q (l.erase i)) s
 | [],s,hw,hst,h,hm,hx,hp=>by cases hm
 | y::l,s,hw,hst,h,hm,hx,hp=>by
  obtain ⟨oy,hy,h⟩:=h
  by_cases e:y=i
  ·subst e
   rw[hi] at hy
   cases hy
   simpa using h
  ·have hil:i ∈ l:=by
    rcases List.mem_cons.1 hm with h | h
    ·exact absurd h.symm e
    ·exact h
   have hlt:y<i:=(List.pairwise_cons.1 hp).1 i hil
   have h1:=T.keep hy hw hst h
   have h2:T P ty ops oy (T P ty ops oi (TL P ty ops Q (l.erase i))) s:=h1.mono fun s' hs' =>
    a0s hi l s' hs'.1.1 hs'.1.2 hs'.2 hil (fun z hz=>hx z (List.mem_cons_of_mem _ hz)) (List.pairwise_cons.1 hp).2
   obtain ⟨k1,k2⟩:=hx y (by simp) hlt oy hy
   have h3:=b6f hw (a9n hst k1) k2 h2
   rw[List.erase_cons_tail (by simpa using e)]
   exact h3.mono fun s' hs'=>⟨oy,hy,hs'⟩
theorem Oy : ∀ (l:List Oper) (ms:List Nat) (k:Nat),k<ms.length→(Jj l ms).getD k 0=ms.getD k 0
 | [],ms,k,h=>rfl
 | o::l,ms,k,h=>by
  rw[Jj,Oy l _ k (by simp;omega)]
  simp[List.getElem?_append_left h]
theorem Vf : ∀ (l:List Oper) (ms:List Nat) (k:Nat) (o:Oper),l[k]? = some o → ∃ ns,(∀ j,j<ms.length+k→ns.getD j 0=(Jj l ms).getD j 0)∧ns.length=ms.length+k∧(Jj l ms).getD (ms.length+k) 0=a0q ns o.after.toList
 | [],ms,k,o,h=>by simp at h
 | o'::l,ms,0,o,h=>by
  simp at h
  subst h
  refine ⟨ms,fun j hj => ?_,rfl,?_⟩
  ·rw[Jj,Oy l _ j (by simp;omega)]
   simp[List.getElem?_append_left (show j<ms.length by omega)]
  ·rw[Jj,Oy l _ _ (by simp)]
   simp
 | o'::l,ms,k+1,o,h=>by
  simp at h
  obtain ⟨ns,h1,h2,h3⟩:=Vf l (ms ++ [a0q ms o'.after.toList]) k o h
  simp only[List.length_append,List.length_cons,List.length_nil,Nat.zero_add] at h1 h2 h3
  refine ⟨ns,fun j hj=>h1 j (by omega),by omega,?_⟩
  rw[Jj,← h3]
  congr 1
  omega
theorem Ru {ns:List Nat} {y:Nat} : ∀ {es:List Edge},(a0q ns es).testBit y=true → ∃ e ∈ es,Region.binds .any e=true∧(e.on=y∨(ns.getD e.on 0).testBit y=true)
 | [],h=>by simp[a0q] at h
 | e::es,h=>by
  unfold a0q at h
  cases hb:Region.binds .any e with
  | true =>
   rw[hb] at h
   simp only[cond_true,Nat.testBit_or,Bool.or_eq_true] at h
   rcases h with (h | h) | h
   ·refine ⟨e,by simp,hb,.inl ?_⟩
    rw[Nat.one_shiftLeft,Nat.testBit_two_pow] at h
    simpa using h
   ·exact ⟨e,by simp,hb,.inr h⟩
   ·obtain ⟨e',h1,h2,h3⟩:=Ru h
    exact ⟨e',by simp[h1],h2,h3⟩
  | false =>
   rw[hb] at h
   obtain ⟨e',h1,h2,h3⟩:=Ru (by simpa using h)
   exact ⟨e',by simp[h1],h2,h3⟩
def a9b (ops:Array Oper) (listed:Array Bool):Prop := ∀ k o,ops[k]? = some o→listed.getD k false=true → ∀ e ∈ o.after,Region.binds .any e=true→listed.getD e.on false=true
theorem Zm {listed:Array Bool} (hc:a9b ops listed) : ∀ (k:Nat) (o:Oper),ops[k]? = some o→(∀ e ∈ o.after,Region.binds .any e=true→listed.getD e.on false=true∧e.on<k)→(∀ j oj,ops[j]? = some oj → ∀ e ∈ oj.after,Region.binds .any e=true→e.on<j) →
  ∀ y,((Jj ops.toList []).getD k 0).testBit y=true→listed.getD y false=true:=by
 intro k
 induction k using Nat.strongRecOn with
 | _ k ih =>
  intro o ho hd hback y hy
  obtain ⟨ns,h1,h2,h3⟩:=Vf ops.toList [] k o (by simpa using ho)
  simp only[List.length_nil,Nat.zero_add] at h1 h2 h3
  rw[h3] at hy
  obtain ⟨e,he,hb,h⟩:=Ru hy
  have he':e ∈ o.after:=by simpa using he
  obtain ⟨l1,l2⟩:=hd e he' hb
  rcases h with h | h
  ·rw[← h];exact l1
  ·rw[h1 _ l2] at h
   cases hoe:ops[e.on]? with
   | none =>
    have:k<ops.size:=(Array.getElem?_eq_some_iff.1 ho).1
    have:e.on<ops.size:=by omega
    simp[this] at hoe
   | some oe=>exact ih e.on l2 oe hoe (fun e' h' b'=>⟨hc e.on oe hoe l1 e' h' b',hback e.on oe hoe e' h' b'⟩) hback y h
theorem Rg {ex:Op→Op→Bool} {m:Nat} {oj:Oper} : ∀ {l:List Oper} {y:Nat},Pu ex ops m oj y l=true → ∀ k o,l[k]? = some o→m.testBit (y+k)=true∨(ex o.op oj.op=true∧o.apart ops oj=true)
 | [],y,h,k,o,hk=>by simp at hk
 | oy::l,y,h,k,o,hk=>by
  simp only[Pu,Bool.and_eq_true,Bool.or_eq_true] at h
  cases k with
  | zero=>simp at hk;subst hk;exact h.1
  | succ k =>
   have:=Rg h.2 k o (by simpa using hk)
   rw[Nat.add_assoc,Nat.add_comm 1 k] at this
   exact this
theorem Mx {j:Nat} : ∀ {es:List Edge},Mu j es=true → ∀ e ∈ es,Region.binds .any e=true→e.on<j
 | [],h,e,he,hb=>by cases he
 | e'::es,h,e,he,hb=>by
  simp only[Mu,Bool.and_eq_true,Bool.or_eq_true] at h
  rcases List.mem_cons.1 he with rfl | he
  ·rcases h.1 with k | k
   ·rw[hb] at k;simp at k
   ·simpa [Nat.blt_eq] using k
  ·exact Mx h.2 e he hb
theorem Jz {ex:Op→Op→Bool} {ms:List Nat} {all:List Oper} : ∀ {l:List Oper} {j:Nat},Jq ex ops ms all j l=true → ∀ k o,l[k]? = some o→Mu (j+k) o.after.toList=true∧Pu ex ops (ms.getD (j+k) 0) o 0 (all.take (j+k))=true
 | [],j,h,k,o,hk=>by simp at hk
 | oy::l,j,h,k,o,hk=>by
  simp only[Jq,Bool.and_eq_true] at h
  cases k with
  | zero=>simp at hk;subst hk;exact h.1
  | succ k =>
   have:=Jz h.2 k o (by simpa using hk)
   rw[Nat.add_assoc,Nat.add_comm 1 k] at this
   exact this
theorem Tw {f:Nat→Option AV} (h:Dp ty f ops=true):(∀ j oj,ops[j]? = some oj → ∀ e ∈ oj.after,Region.binds .any e=true→e.on<j) ∧
  ∀ j oj y oy,ops[j]? = some oj→ops[y]? = some oy→y<j→((Jj ops.toList []).getD j 0).testBit y=true∨(a42 f ops oy.op oj.op=true∧oy.apart ops oj=true):=by
 have h:=((Bool.and_eq_true _ _).mp h).2
 refine ⟨fun j oj hj e he hb => ?_,fun j oj y oy hj hy hlt => ?_⟩
 ·have:=(Jz h j oj (by simpa using hj)).1
  rw[Nat.zero_add] at this
  exact Mx this e (by simpa using he) hb
 ·have:=(Jz h j oj (by simpa using hj)).2
  rw[Nat.zero_add] at this
  have:=Rg this y oy (by rw[List.getElem?_take,if_pos hlt];simpa using hy)
  rwa[Nat.zero_add] at this
def Cv (n:Nat) (listed:Array Bool):List Nat:=(List.range n).filter fun i => !listed.getD i true
theorem Jy {n i:Nat} {listed:Array Bool} (hi:i<listed.size):Cv n (listed.setIfInBounds i true)=(Cv n listed).erase i:=by
 unfold Cv
 rw[List.Nodup.erase_eq_filter (List.Pairwise.filter _ List.nodup_range),List.filter_filter]
 apply List.filter_congr
 intro j hj
 by_cases h:i=j
 ·subst h;simp[hi]
 ·rw[getD_set_ne true h]
  have : ¬ j=i:=fun e=>h e.symm
  simp[this]
theorem a4y {f:Nat→Option AV} (hty:Cy P ty) (hok:Dp ty f ops=true) {Q:AS→Prop} {Qx:Exit→Act→World→Prop} (hQ : ∀ s g a w,Q s→RelG W0 I0 g s a w→Qx .normal a w) : ∀ (fuel:Nat) (listed:Array Bool) (s:AS) (g:Gh) (a:Act) (w:World),
  listed.size=ops.size→a9b ops listed→Uj ops f s→(Cv ops.size listed).length=fuel→TL P ty ops Q (Cv ops.size listed) s→RelG W0 I0 g s a w→wpAny P .any ops Qx fuel listed a w:=by
 obtain ⟨hback,hex⟩:=Tw hok
 intro fuel
 induction fuel with
 | zero =>
  intro listed s g a w hsz hc hst hf h R
  have e:Cv ops.size listed=[]:=List.eq_nil_of_length_eq_zero hf
  rw[e] at h
  refine ⟨?_,hQ s g a w h R⟩
  apply List.eq_nil_iff_forall_not_mem.2
  intro i hi
  obtain ⟨h1,o,ho,_⟩:=mem_ready.1 hi
  have hlt:i<ops.size:=(Array.getElem?_eq_some_iff.1 ho).1
  have:i ∈ Cv ops.size listed:=List.mem_filter.2 ⟨List.mem_range.2 hlt,by rw[h1];rfl⟩
  rw[e] at this
  cases this
 | succ fuel ih =>
  intro listed s g a w hsz hc hst hf h R
  have hpw:(Cv ops.size listed).Pairwise (· < ·):=List.Pairwise.filter _ List.pairwise_lt_range
  refine ⟨fun hr => ?_,fun i hi => ?_⟩
  ·exfalso
   cases hu:Cv ops.size listed with
   | nil=>rw[hu] at hf;simp at hf
   | cons y l =>
    have hy:y ∈ Cv ops.size listed:=by rw[hu];simp
    obtain ⟨hy1,hy2⟩:=List.mem_filter.1 hy
    have hylt:y<ops.size:=List.mem_range.1 hy1
    have:y ∈ Region.ready .any ops listed:=by
     refine mem_ready.2 ⟨by simpa using hy2,ops[y],by simp[hylt],fun e he hb => ?_⟩
     have hlt:=hback y _ (by simp[hylt]) e he hb
     cases hl:listed.getD e.on false with
     | true=>rfl
     | false =>
      exfalso
      have helt:e.on<listed.size:=by omega
      have:e.on ∈ Cv ops.size listed:=List.mem_filter.2 ⟨List.mem_range.2 (by omega),by
       have:listed.getD e.on true=false:=by simpa [helt] using hl
       rw[this];rfl⟩
      rw[hu] at this hpw
      rcases List.mem_cons.1 this with h | h
      ·omega
      ·have:=(List.pairwise_cons.1 hpw).1 _ h
       omega
    rw[hr] at this
    cases this
  ·obtain ⟨h1,o,ho,hall⟩:=mem_ready.1 hi
   have hlt:i<ops.size:=(Array.getElem?_eq_some_iff.1 ho).1
   have hmem:i ∈ Cv ops.size listed:=List.mem_filter.2 ⟨List.mem_range.2 hlt,by rw[h1];rfl⟩
   have hT:=a0s ho _ s R.wf hst h hmem (fun y hy hylt oy hoy=>by
    rcases hex i o y oy ho hoy hylt with h2 | h2
    ·exfalso
     have:=Zm hc i o ho (fun e he hb=>⟨hall e he hb,hback i o ho e he hb⟩) hback y h2
     have hy2:=(List.mem_filter.1 hy).2
     have hyl:y<listed.size:=by omega
     have:listed.getD y true=true:=by simpa [hyl] using this
     rw[this] at hy2
     simp at hy2
    ·exact h2) hpw
   refine Wg hty R ho (T.keep ho R.wf hst hT) fun s' g' a' w' hs' R' => ?_
   obtain ⟨⟨_,hst'⟩,hs'⟩:=hs'
   refine ih (listed.setIfInBounds i true) s' g' a' w' (by simpa using hsz) ?_ hst' ?_ ?_ R'
   ·intro k ok hk hl e he hb
    by_cases hki:i=k
    ·subst hki
     rw[ho] at hk
     cases hk
     exact getD_set_true (hall e he hb)
    ·rw[getD_set_ne false hki] at hl
     exact getD_set_true (hc k ok hk hl e he hb)
   ·rw[Jy (by omega),List.length_erase_of_mem hmem,hf]
    rfl
   ·rw[Jy (by omega)]
    exact hs'
theorem RelG.drew {g:Gh} {s:AS} {a:Act} {w:World} (R:RelG W0 I0 g s a w):RelG W0 I0 g s a { w with drawn:=w.drawn+1 }:=by
 have:=R.grow (w':={ w with drawn:=w.drawn+1 }) (Im':=g.Im) ⟨rfl,rfl,rfl,Nat.le_refl _,fun _ _=>rfl⟩ (fun _ _ h=>h) (fun _ _ h=>.inl h)
 exact this
theorem Ty (hty:Cy P ty) {Q:AS→Prop} {Qx:Exit→Act→World→Prop} (hQ : ∀ s g a w,Q s→RelG W0 I0 g s a w→Qx .normal a w) : ∀ (l:List Nat) (s:AS) (g:Gh) (a:Act) (w:World),TL P ty ops Q l s→RelG W0 I0 g s a w→wpOps P ops Qx l a w
 | [],s,g,a,w,h,R=>hQ s g a w h R
 | i::l,s,g,a,w,h,R=>by
  obtain ⟨o,ho,h⟩:=h
  rw[wpOps_cons]
  exact Wg hty R ho h fun s' g' a' w' hs' R'=>Ty hty hQ l s' g' a' w' hs' R'
theorem Ry {ex ex':Op→Op→Bool} (hx : ∀ x y,ex x y=true→ex' x y=true) {m:Nat} {oj:Oper} : ∀ {l:List Oper} {y:Nat},Pu ex ops m oj y l=true→Pu ex' ops m oj y l=true
 | [],y,h=>rfl
 | o::l,y,h=>by
  simp only[Pu,Bool.and_eq_true,Bool.or_eq_true] at h ⊢
  exact ⟨h.1.imp id fun k=>⟨hx _ _ k.1,k.2⟩,Ry hx h.2⟩
theorem Pt {ex ex':Op→Op→Bool} (hx : ∀ x y,ex x y=true→ex' x y=true) {ms:List Nat} {all:List Oper} : ∀ {l:List Oper} {j:Nat},Jq ex ops ms all j l=true→Jq ex' ops ms all j l=true
 | [],j,h=>rfl
 | o::l,j,h=>by
  simp only[Jq,Bool.and_eq_true] at h ⊢
  exact ⟨⟨h.1.1,Ry hx h.1.2⟩,Pt hx h.2⟩
theorem Tq {f:Nat→Option AV} (h:Ug ty ops=true):Dp ty f ops=true:=by
 have h:=(Bool.and_eq_true _ _).mp h
 exact (Bool.and_eq_true _ _).mpr ⟨h.1,Pt (fun x y h=>by unfold a42;rw[h];rfl) h.2⟩
theorem To {f:Nat→Option AV} (h:Dp ty f ops=true):b2c ty ops=true:=((Bool.and_eq_true _ _).mp h).1
theorem Xy (hty:Cy P ty) (hm:P.follows .mixedOrders=true) {Q:AS→Prop} {Qx:Exit→Act→World→Prop} (hQ : ∀ s g a w,Q s→RelG W0 I0 g s a w→Qx .normal a w) {id:Nat} {draw:Bool} {s:AS} (hok:draw=true→Dp ty s.t ops=true)
  {g:Gh} {a:Act} {w:World} (h:TL P ty ops Q (List.range ops.size) s) (R:RelG W0 I0 g s a w):(Code.region id ops draw).wp P Qx a w:=by
 cases draw with
 | false=>exact wp_region (Ty hty hQ _ s g a w h R)
 | true =>
  refine wp_region_any hm ?_
  have e:Cv ops.size (Array.replicate ops.size false)=List.range ops.size:=by
   unfold Cv
   apply List.filter_eq_self.2
   intro i hi
   have:=List.mem_range.1 hi
   simp[this]
  refine a4y hty (hok rfl) hQ _ _ s g a _ (by simp) ?_ (Zb _ _ rfl) (by rw[e];simp) (by rw[e];exact h) R.drew
  intro k o hk hl
  simp[Array.getD_eq_getD_getElem?] at hl
  exfalso
  revert hl
  rw[Array.getElem?_replicate]
  split<;>simp
end
end Go.Proofs.YtfkfpkhgoijfdaaGreatDoor
