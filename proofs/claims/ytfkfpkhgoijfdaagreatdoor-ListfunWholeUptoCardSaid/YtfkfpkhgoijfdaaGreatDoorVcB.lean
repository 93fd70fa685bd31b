/- Operations on values of which no part leads to memory: what each yields, said so that no sum and no test is laid open. -/
import Derived.ChangeKeysEq
import Derived.Test.YtfkfpkhgoijfdaaGreatDoorVcR
namespace Go.Proofs.YtfkfpkhgoijfdaaGreatDoor
open Go.RowKit
set_option linter.unusedVariables false
set_option linter.unusedSimpArgs false
def IntIs (k:IntKind) (e z:Int):Prop:=z=k.wrap e
def Uy (op:BinOp) (k:IntKind) (a b z:Int):Prop :=
 z=k.wrap (match op with
  | .and=>(BitVec.ofInt k.bits a &&& BitVec.ofInt k.bits b).toNat
  | .or=>(BitVec.ofInt k.bits a ||| BitVec.ofInt k.bits b).toNat
  | .xor=>(BitVec.ofInt k.bits a ^^^ BitVec.ofInt k.bits b).toNat
  | _=>(BitVec.ofInt k.bits a &&& ~~~ BitVec.ofInt k.bits b).toNat)
def b75 (k:IntKind) (a b z:Int):Prop:=z=a.fdiv (2 ^ (min b.toNat k.bits))
def a2o (a b:ByteArray):Prop:=Op.bytesLess a.toList b.toList=true
def kEq (k k':IntKind):Bool:=Nat.beq k.ctorIdx k'.ctorIdx
theorem b0g {k k':IntKind} (h:kEq k k'=true):k=k':=by
 cases k<;>cases k'<;>first | rfl | (exact absurd h (by decide))
def a7m (op:BinOp) (k:IntKind) (a b:Int) (K:Value→Prop):Prop :=
 match op with
 | .add => ∀ z,IntIs k (a+b) z→K (.int k z)
 | .sub => ∀ z,IntIs k (a-b) z→K (.int k z)
 | .mul => ∀ z,IntIs k (a*b) z→K (.int k z)
 | .quo=>b≠0 ∧ ∀ z,IntIs k (a.tdiv b) z→K (.int k z)
 | .rem=>b≠0 ∧ ∀ z,z=a.tmod b→K (.int k z)
 | .and => ∀ z,Uy .and k a b z→K (.int k z)
 | .or => ∀ z,Uy .or k a b z→K (.int k z)
 | .xor => ∀ z,Uy .xor k a b z→K (.int k z)
 | .andNot => ∀ z,Uy .andNot k a b z→K (.int k z)
 | .eql => ∀ c,(c=true↔a=b)→K (.bool c)
 | .neq => ∀ c,(c=true↔a≠b)→K (.bool c)
 | .lss => ∀ c,(c=true↔a<b)→K (.bool c)
 | .leq => ∀ c,(c=true↔a≤b)→K (.bool c)
 | .gtr => ∀ c,(c=true↔b<a)→K (.bool c)
 | .geq => ∀ c,(c=true↔b≤a)→K (.bool c)
 | _=>False
def Qm (op:BinOp) (k:IntKind) (a b:Int) (K:Value→Prop):Prop :=
 match op with
 | .shl=>0≤b ∧ ∀ z,IntIs k (a*2 ^ (min b.toNat k.bits)) z→K (.int k z)
 | .shr=>0≤b ∧ ∀ z,b75 k a b z→K (.int k z)
 | _=>False
def a8o (op:BinOp) (a b:ByteArray) (K:Value→Prop):Prop :=
 match op with
 | .add=>a.size+b.size≤9223372036854775807 ∧ ∀ r,r=a ++ b→K (.string r)
 | .eql => ∀ c,(c=true↔a=b)→K (.bool c)
 | .neq => ∀ c,(c=true↔a≠b)→K (.bool c)
 | .lss => ∀ c,(c=true↔a2o a b)→K (.bool c)
 | .leq => ∀ c,(c=true↔(a2o a b∨a=b))→K (.bool c)
 | .gtr => ∀ c,(c=true ↔ ¬ (a2o a b∨a=b))→K (.bool c)
 | .geq => ∀ c,(c=true ↔ ¬ a2o a b)→K (.bool c)
 | _=>False
section
variable (ty:TypeId→Option TI)
mutual
def shp:Nat→TypeId→List Value→Bool
 | 0,_,_=>false
 | n+1,t,cs=>match ty t with
  | some ⟨.bool,_,_,_,_⟩=>match cs with
   | [.bool _]=>true
   | _=>false
  | some ⟨.int k,_,_,_,_⟩=>match cs with
   | [.int k' _]=>kEq k k'
   | _=>false
  | some ⟨.str,_,_,_,_⟩=>match cs with
   | [.string _]=>true
   | _=>false
  | some ⟨.struct fs,_,_,true,_⟩=>Sb n 0 fs cs
  | _=>false
def Sb:Nat→Nat→List (Nat×TypeId)→List Value→Bool
 | 0,_,_,_=>false
 | n+1,pos,fs,cs=>match fs with
  | []=>cs.isEmpty
  | (off,ft)::r=>match ty ft with
   | some j=>Nat.beq off pos&&Nat.ble j.size cs.length&&shp n ft (cs.take j.size)&&Sb n (pos+j.size) r (cs.drop j.size)
   | none=>false
end
def Yc (op:BinOp) (t:TypeId):Value→Value→(Value→Prop)→Prop
 | .int k a,.int k' b,K=>match op with
  | .shl=>Qm .shl k a b K
  | .shr=>Qm .shr k a b K
  | _=>match kEq k k' with
   | true=>a7m op k a b K
   | false=>False
 | .string a,.string b,K=>a8o op a b K
 | .bool a,.bool b,K=>match ty t,op with
  | some ⟨.bool,_,_,_,_⟩,.eql => ∀ c,(c=true↔a=b)→K (.bool c)
  | some ⟨.bool,_,_,_,_⟩,.neq => ∀ c,(c=true↔a≠b)→K (.bool c)
  | _,_=>False
 | .agg xs,.agg ys,K=>match ty t with
  | some ⟨.struct fs,_,_,true,_⟩=>match Sb ty 60 0 fs xs.toList,Sb ty 60 0 fs ys.toList,op with
   | true,true,.eql => ∀ c,(c=true↔xs=ys)→K (.bool c)
   | true,true,.neq => ∀ c,(c=true↔xs≠ys)→K (.bool c)
   | _,_,_=>False
  | some ⟨.arr 2 e,_,_,true,_⟩=>match ty e,xs.toList,ys.toList,op with
   | some ⟨.bool,1,_,_,_⟩,[.bool a,.bool b],[.bool a',.bool b'],.eql => ∀ c,(c=true↔a=a'∧b=b')→K (.bool c)
   | some ⟨.bool,1,_,_,_⟩,[.bool a,.bool b],[.bool a',.bool b'],.neq => ∀ c,(c=true ↔ ¬ (a=a'∧b=b'))→K (.bool c)
   | _,_,_,_=>False
  | _=>False
 | _,_,_=>False
def a5p (op:UnOp):Value→(Value→Prop)→Prop
 | .bool a,K=>match op with
  | .not => ∀ c,(c=true↔a=false)→K (.bool c)
  | _=>False
 | .int k a,K=>match op with
  | .neg => ∀ z,IntIs k (0-a) z→K (.int k z)
  | .xor => ∀ z,Uy .xor k (if k.signed then -1 else k.max) a z→K (.int k z)
  | _=>False
 | _,_=>False
def Pi (src dst:TypeId):Value→(Value→Prop)→Prop
 | .int k a,K=>match ty src,ty dst with
  | some _,some ⟨.int k',_,_,_,_⟩ => ∀ z,IntIs k' a z→K (.int k' z)
  | _,_=>False
 | .string a,K=>match ty src,ty dst with
  | some _,some ⟨.str,_,_,_,_⟩=>K (.string a)
  | _,_=>False
 | _,_=>False
def Um (s:ByteArray) (k:Nat):Int:=(((s.data[k]?).getD 0).toNat:Int)
def Zd (t:TypeId):Value→Value→(Value→Prop)→Prop
 | .string s,.int _ q,K=>match ty t with
  | some ⟨.str,_,_,_,_⟩=>(0≤q∧q<(s.size:Int)) ∧ ∀ z,z=Um s q.toNat→K (.int .u8 z)
  | _=>False
 | _,_,_=>False
def Zh (t:TypeId) (b:ByteArray) (l u:Int) (K:Value→Prop):Prop :=
 match ty t with
 | some ⟨.str,_,_,_,_⟩=>(0≤l∧l≤u∧u≤(b.size:Int)) ∧ ∀ r,r=b.extract l.toNat u.toNat→K (.string r)
 | _=>False
def Za (mx:Bool):List Value→Value→(Value→Prop)→Prop
 | [],x,K=>K x
 | .int _ y::r,.int k x,K => ∀ z,(match mx with | true=>z=max x y | false=>z=min x y)→Za mx r (.int k z) K
 | _,_,_=>False
def Yo (b:Builtin) (tys:List TypeId) (vs:List Value) (K:Value→Prop):Prop :=
 match b,vs with
 | .len,[.string s]=>match tys with
  | [t]=>match ty t with
   | some ⟨.str,_,_,_,_⟩ => ∀ n:Nat,n=s.size→K (.int .i64 n)
   | _=>False
  | _=>False
 | .min,.int k x::r=>Za false r (.int k x) K
 | .max,.int k x::r=>Za true r (.int k x) K
 | _,_=>False
end
section
variable {P:Program} {ty:TypeId→Option TI}
theorem a5q {op:BinOp} {t:TypeId} {k:IntKind} {a b:Int} {K:Value→Prop} (h:a7m op k a b K) : ∃ v,(∀ W,(binOp op t (.int k a) (.int k b)).run P W=.ok v W)∧K v:=by
 cases op<;>simp only[a7m] at h
 case add=>exact ⟨_,fun W=>by simp[binOp,Op.intArith],h _ rfl⟩
 case sub=>exact ⟨_,fun W=>by simp[binOp,Op.intArith],h _ rfl⟩
 case mul=>exact ⟨_,fun W=>by simp[binOp,Op.intArith],h _ rfl⟩
 case quo=>exact ⟨_,fun W=>by simp[binOp,Op.intDiv,h.1],h.2 _ rfl⟩
 case rem=>exact ⟨_,fun W=>by simp[binOp,Op.intDiv,h.1],h.2 _ rfl⟩
 case and=>exact ⟨_,fun W=>by simp[binOp,Op.intBits],h _ rfl⟩
 case or=>exact ⟨_,fun W=>by simp[binOp,Op.intBits],h _ rfl⟩
 case xor=>exact ⟨_,fun W=>by simp[binOp,Op.intBits],h _ rfl⟩
 case andNot=>exact ⟨_,fun W=>by simp[binOp,Op.intBits],h _ rfl⟩
 case eql=>exact ⟨_,fun W=>by simp[binOp,Op.intCmp],h (a==b) (by simp)⟩
 case neq=>exact ⟨_,fun W=>by simp[binOp,Op.intCmp],h (a != b) (by simp)⟩
 case lss=>exact ⟨_,fun W=>by simp[binOp,Op.intCmp],h (decide (a<b)) (by simp)⟩
 case leq=>exact ⟨_,fun W=>by simp[binOp,Op.intCmp],h (decide (a≤b)) (by simp)⟩
 case gtr=>exact ⟨_,fun W=>by simp[binOp,Op.intCmp],h (decide (b<a)) (by simp)⟩
 case geq=>exact ⟨_,fun W=>by simp[binOp,Op.intCmp],h (decide (b≤a)) (by simp)⟩
theorem Pq {op:BinOp} {t:TypeId} {k k':IntKind} {a b:Int} {K:Value→Prop} (h:Qm op k a b K) : ∃ v,(∀ W,(binOp op t (.int k a) (.int k' b)).run P W=.ok v W)∧K v:=by
 cases op<;>simp only[Qm] at h
 case shl=>exact ⟨_,fun W=>by simp[binOp,Op.shift,Int.not_lt.2 h.1],h.2 _ rfl⟩
 case shr=>exact ⟨_,fun W=>by simp[binOp,Op.shift,Int.not_lt.2 h.1],h.2 _ rfl⟩
theorem toList_eq {a b:ByteArray}:(a.toList==b.toList)=true↔a=b:=by
 rw[beq_iff_eq]
 constructor
 ·intro h
  rw[ByteArray.toList_eq,ByteArray.toList_eq] at h
  exact ByteArray.ext (Array.ext' h)
 ·intro h;rw[h]
theorem a5r {op:BinOp} {t:TypeId} {a b:ByteArray} {K:Value→Prop} (h:a8o op a b K) : ∃ v,(∀ W,(binOp op t (.string a) (.string b)).run P W=.ok v W)∧K v:=by
 cases op<;>simp only[a8o] at h
 case add=>exact ⟨_,fun W=>by simp only[binOp];exact run_string_add_sum W a b h.1,h.2 _ rfl⟩
 case eql=>exact ⟨_,fun W=>by simp[binOp,Op.stringOp],h (a.toList==b.toList) toList_eq⟩
 case neq=>exact ⟨_,fun W=>by simp[binOp,Op.stringOp],h (!(a.toList==b.toList)) (by rw[Bool.not_eq_true',← Bool.not_eq_true,toList_eq])⟩
 case lss=>exact ⟨_,fun W=>by simp[binOp,Op.stringOp],h (Op.bytesLess a.toList b.toList) Iff.rfl⟩
 case leq=>exact ⟨_,fun W=>by simp[binOp,Op.stringOp],h (Op.bytesLess a.toList b.toList||a.toList==b.toList) (by rw[Bool.or_eq_true,toList_eq];rfl)⟩
 case gtr=>exact ⟨_,fun W=>by simp[binOp,Op.stringOp],h (!(Op.bytesLess a.toList b.toList||a.toList==b.toList)) (by rw[Bool.not_eq_true',← Bool.not_eq_true,Bool.or_eq_true,toList_eq];rfl)⟩
 case geq=>exact ⟨_,fun W=>by simp[binOp,Op.stringOp],h (!(Op.bytesLess a.toList b.toList)) (by rw[Bool.not_eq_true',← Bool.not_eq_true];rfl)⟩
def Oa (i:TI) (cs:List Value):Value:=if i.d.isAgg then .agg cs.toArray else cs.headD undef
theorem a0g (hty:Cy P ty) {t:TypeId} {i:TI} (h:ty t=some i) {xs:Array Value} {off:Nat} (hl:i.d.isAgg=false → ∃ v,(xs.toList.drop off).take i.size=[v]) (W:World) :
  (part t xs off).run P W=.ok (Oa i ((xs.toList.drop off).take i.size)) W:=by
 unfold part Oa
 simp only[Sem.run_bind,Ij hty h,Result.andThen_ok]
 cases hb:i.d.isAgg with
 | true =>
  simp only[if_true,Sem.run_bind,Bn hty h,Result.andThen_ok,Sem.run_pure]
  congr 2
  apply Array.ext'
  simp[List.drop_take]
 | false =>
  obtain ⟨v,hv⟩:=hl hb
  have hx:xs[off]? = some v:=by
   have h1:((xs.toList.drop off).take i.size)[0]? = some v:=by rw[hv];rfl
   rw[List.getElem?_take] at h1
   split at h1
   ·rw[List.getElem?_drop] at h1;simpa using h1
   ·cases h1
  simp[hx,hv]
theorem a0f {a b c d:List Value} (h:a.length=c.length):a ++ b=c ++ d↔a=c∧b=d:=by
 constructor
 ·intro e;exact ⟨List.append_inj_left e h,List.append_inj_right e h⟩
 ·rintro ⟨rfl,rfl⟩;rfl
theorem a2v (hty:Cy P ty) : ∀ (n:Nat),(∀ t cs i,ty t=some i→shp ty n t cs=true→i.d.isAgg=false → ∃ v,cs=[v]):=by
 intro n t cs i hi h hb
 cases n with
 | zero=>simp[shp] at h
 | succ n =>
  unfold shp at h
  split at h
  ·split at h
   ·exact ⟨_,rfl⟩
   ·cases h
  ·split at h
   ·exact ⟨_,rfl⟩
   ·cases h
  ·split at h
   ·exact ⟨_,rfl⟩
   ·cases h
  ·rename_i h1
   rw[hi] at h1
   simp at h1
   subst h1
   simp[TD.isAgg] at hb
  ·cases h
theorem a9c {cs:List Value} (h:(match cs with | [Value.bool _]=>true | _=>false)=true) : ∃ b,cs=[.bool b]:=by
 split at h
 ·exact ⟨_,rfl⟩
 ·cases h
theorem b3w {k:IntKind} {cs:List Value} (h:(match cs with | [Value.int k' _]=>kEq k k' | _=>false)=true) : ∃ n,cs=[.int k n]:=by
 split at h
 ·have:=b0g h
  subst this
  exact ⟨_,rfl⟩
 ·cases h
theorem b3o {cs:List Value} (h:(match cs with | [Value.string _]=>true | _=>false)=true) : ∃ b,cs=[.string b]:=by
 split at h
 ·exact ⟨_,rfl⟩
 ·cases h
theorem a8v (hty:Cy P ty) (W:World) : ∀ (n:Nat),
  (∀ (t:TypeId) (i:TI) (cs ds:List Value) (d:Nat),ty t=some i→n≤d→shp ty n t cs=true→shp ty n t ds=true → ∃ r:Bool,(Op.equalIn d t (Oa i cs) (Oa i ds)).run P W=.ok r W∧(r=true↔cs=ds)) ∧
  (∀ (fields:List Field) (xs ys:Array Value) (pos d:Nat),(∀ f ∈ fields,f.name ≠ "_")→n≤d→Sb ty n pos (fields.map fun f=>(f.offset,f.type)) (xs.toList.drop pos)=true→Sb ty n pos (fields.map fun f=>(f.offset,f.type)) (ys.toList.drop pos)=true →
   ∃ r:Bool,(Op.eqFields d xs ys fields).run P W=.ok r W∧(r=true↔xs.toList.drop pos=ys.toList.drop pos)):=by
 intro n
 induction n with
 | zero=>exact ⟨fun t i cs ds d _ _ h=>by simp[shp] at h,fun fields xs ys pos d _ _ h=>by simp[Sb] at h⟩
 | succ n ih =>
  obtain ⟨ih1,ih2⟩:=ih
  constructor
  ·intro t i cs ds d hi hd h1 h2
   obtain ⟨d,rfl⟩ : ∃ d',d=d'+1:=⟨d-1,by omega⟩
   have hok:=(hty t i hi).2.1
   unfold shp at h1 h2
   rw[hi] at h1 h2
   obtain ⟨td,sz,z,eq⟩:=i
   cases td with
   | bool =>
    obtain ⟨b,rfl⟩:=a9c h1
    obtain ⟨b',rfl⟩:=a9c h2
    exact ⟨b==b',by simp only[TD.ok] at hok;simp[Op.equalIn,Oa,TD.isAgg,run_underlying hok],by simp⟩
   | int k =>
    obtain ⟨b,rfl⟩:=b3w h1
    obtain ⟨b',rfl⟩:=b3w h2
    exact ⟨b==b',by simp only[TD.ok] at hok;simp[Op.equalIn,Oa,TD.isAgg,run_underlying hok],by simp⟩
   | str =>
    obtain ⟨b,rfl⟩:=b3o h1
    obtain ⟨b',rfl⟩:=b3o h2
    exact ⟨b==b',by simp only[TD.ok] at hok;simp[Op.equalIn,Oa,TD.isAgg,run_underlying hok],by rw[beq_toListBytes,toList_eq];simp⟩
   | struct fs =>
    cases eq with
    | false=>simp at h1
    | true =>
     simp only at h1 h2
     obtain ⟨fields,hf,hfe⟩:=hok
     obtain ⟨q1,q2,q3⟩:=(hty t _ hi).2.2.2 rfl
     have hfo:P.fieldsOf t=fields:=by simp[Program.fieldsOf,hf]
     have hr:=run_equalIn_struct (P:=P) W d t cs.toArray ds.toArray (by rw[hfo];exact hf) q1
     obtain ⟨r,hr1,hr2⟩:=ih2 fields.toList cs.toArray ds.toArray 0 d (fun f hf'=>q3 fields hf f (by simpa using hf')) (by omega) (by rw[← hfe];simpa using h1) (by rw[← hfe];simpa using h2)
     refine ⟨r,?_,by simpa using hr2⟩
     simp only[Oa,TD.isAgg,if_true]
     rw[hr,hfo]
     exact hr1
   | _=>simp at h1
  ·intro fields xs ys pos d hn hd h1 h2
   cases fields with
   | nil =>
    simp[Sb] at h1 h2
    refine ⟨true,by simp[Op.eqFields],?_⟩
    rw[List.drop_eq_nil_iff.2 (by simpa using h1),List.drop_eq_nil_iff.2 (by simpa using h2)]
    simp
   | cons f fields =>
    simp only[List.map_cons,Sb] at h1 h2
    cases hj:ty f.type with
    | none=>rw[hj] at h1;cases h1
    | some j =>
     rw[hj] at h1 h2
     simp only[Bool.and_eq_true] at h1 h2
     obtain ⟨⟨⟨a1,a2⟩,a3⟩,a4⟩:=h1
     obtain ⟨⟨⟨b1,b2⟩,b3⟩,b4⟩:=h2
     have e1:=Nat.eq_of_beq_eq_true a1
     have l1:=Nat.le_of_ble_eq_true a2
     have l2:=Nat.le_of_ble_eq_true b2
     obtain ⟨r1,k1,k2⟩:=ih1 f.type j _ _ d hj (by omega) a3 b3
     rw[List.drop_drop] at a4 b4
     obtain ⟨r2,k3,k4⟩:=ih2 fields xs ys (pos+j.size) d (fun f' h'=>hn f' (by simp[h'])) (by omega) a4 b4
     have p1:=a0g (P:=P) hty hj (xs:=xs) (off:=f.offset) (fun hb=>by rw[e1];exact a2v hty n _ _ _ hj a3 hb) W
     have p2:=a0g (P:=P) hty hj (xs:=ys) (off:=f.offset) (fun hb=>by rw[e1];exact a2v hty n _ _ _ hj b3 hb) W
     rw[e1] at p1 p2
     have hne:=hn f (by simp)
     have sp : ∀ zs:Array Value,zs.toList.drop pos=(zs.toList.drop pos).take j.size ++ zs.toList.drop (pos+j.size):=fun zs=>by rw[← List.drop_drop,List.take_append_drop]
     have hiff:(xs.toList.drop pos=ys.toList.drop pos)↔(xs.toList.drop pos).take j.size=(ys.toList.drop pos).take j.size∧xs.toList.drop (pos+j.size)=ys.toList.drop (pos+j.size):=by
      conv=>lhs;rw[sp xs,sp ys]
      exact a0f (by simp only[List.length_take];omega)
     simp only[Op.eqFields,hne,ne_eq,not_false_eq_true,if_true,Sem.run_bind,e1,p1,p2,k1,Result.andThen_ok]
     cases r1 with
     | false=>exact ⟨false,by simp,by rw[hiff,← k2];simp⟩
     | true=>exact ⟨r2,by simpa using k3,by rw[hiff,← k2,← k4];simp⟩
theorem Rz (hty:Cy P ty) {t:TypeId} {i:TI} (h:ty t=some i) (hb:i.d=.bool) (a b:Bool) (W:World):(Op.equal t (.bool a) (.bool b)).run P W=.ok (a==b) W:=by
 have:=(hty t i h).2.1
 rw[hb] at this
 simp only[TD.ok] at this
 have key : ∀ n,(Op.equalIn (n+1) t (.bool a) (.bool b)).run P W=.ok (a==b) W:=fun n=>by simp[Op.equalIn,run_underlying this]
 exact key 9999
theorem a47 (hty:Cy P ty) {op:BinOp} {t:TypeId} {x y:Operand} {a b:Value} {K:Value→Prop} (h:Yc ty op t a b K) : ∃ v,(∀ W,(do eqGuard op t x y a b;binOp op t a b:Sem Value).run P W=.ok v W)∧K v:=by
 unfold Yc at h
 split at h
 ·rename_i k a k' b
  have hg : ∀ W,(eqGuard op t x y (.int k a) (.int k' b)).run P W=.ok () W:=fun W=>by cases op<;>simp[eqGuard]
  split at h
  ·obtain ⟨v,h1,h2⟩:=Pq (P:=P) (t:=t) (k':=k') h
   exact ⟨v,fun W=>by simp[hg,h1],h2⟩
  ·obtain ⟨v,h1,h2⟩:=Pq (P:=P) (t:=t) (k':=k') h
   exact ⟨v,fun W=>by simp[hg,h1],h2⟩
  ·split at h
   ·rename_i hk
    have:=b0g hk
    subst this
    obtain ⟨v,h1,h2⟩:=a5q (P:=P) (t:=t) h
    exact ⟨v,fun W=>by simp[hg,h1],h2⟩
   ·cases h
 ·rename_i a b
  have hg : ∀ W,(eqGuard op t x y (.string a) (.string b)).run P W=.ok () W:=fun W=>by cases op<;>simp[eqGuard]
  obtain ⟨v,h1,h2⟩:=a5r (P:=P) (t:=t) h
  exact ⟨v,fun W=>by simp[hg,h1],h2⟩
 ·rename_i a b
  have hg : ∀ W,(eqGuard op t x y (.bool a) (.bool b)).run P W=.ok () W:=fun W=>by cases op<;>simp[eqGuard]
  split at h
  ·rename_i h1
   exact ⟨.bool (a==b),fun W=>by simp[hg,binOp,Rz hty h1 rfl],h _ (by simp)⟩
  ·rename_i h1
   exact ⟨.bool (!(a==b)),fun W=>by simp[hg,binOp,Rz hty h1 rfl],h _ (by simp)⟩
  ·cases h
 ·rename_i xs ys
  split at h
  ·rename_i fs sz z _ h1
   have hq:=hty t _ h1
   obtain ⟨q1,q2,q3⟩:=hq.2.2.2 rfl
   have hg : ∀ W,(eqGuard op t x y (.agg xs) (.agg ys)).run P W=.ok () W:=fun W=>by cases op<;>simp[eqGuard,q2]
   have key:Sb ty 60 0 fs xs.toList=true→Sb ty 60 0 fs ys.toList=true → ∀ W,∃ r:Bool,(Op.equal t (.agg xs) (.agg ys)).run P W=.ok r W∧(r=true↔xs=ys):=by
    intro s1 s2 W
    obtain ⟨r,k1,k2⟩:=(a8v (P:=P) hty W 61).1 t _ xs.toList ys.toList 10000 h1 (by decide) (by simpa [shp,h1] using s1) (by simpa [shp,h1] using s2)
    refine ⟨r,by simpa [Oa,TD.isAgg,Op.equal,Op.maxDepth] using k1,?_⟩
    rw[k2]
    exact ⟨fun e=>Array.ext' e,fun e=>by rw[e]⟩
   split at h
   ·rename_i s1 s2
    have e : ∀ W,(Op.equal t (.agg xs) (.agg ys)).run P W=.ok (@decide (xs=ys) (Classical.propDecidable _)) W:=fun W=>by
     obtain ⟨r,k1,k2⟩:=key s1 s2 W
     rw[k1]
     congr 1
     rw[Bool.eq_iff_iff,k2]
     simp
    exact ⟨.bool (@decide (xs=ys) (Classical.propDecidable _)),fun W=>by simp[hg,binOp,e],h _ (by simp)⟩
   ·rename_i s1 s2
    have e : ∀ W,(Op.equal t (.agg xs) (.agg ys)).run P W=.ok (@decide (xs=ys) (Classical.propDecidable _)) W:=fun W=>by
     obtain ⟨r,k1,k2⟩:=key s1 s2 W
     rw[k1]
     congr 1
     rw[Bool.eq_iff_iff,k2]
     simp
    exact ⟨.bool (!(@decide (xs=ys) (Classical.propDecidable _))),fun W=>by simp[hg,binOp,e],h _ (by simp)⟩
   ·cases h
  ·rename_i e _ _ _ h1
   have hq:=hty t _ h1
   obtain ⟨q1,q2,q3⟩:=hq.2.2.2 rfl
   have hu:P.underlying t=some (.array 2 e):=hq.2.1
   have hg : ∀ W,(eqGuard op t x y (.agg xs) (.agg ys)).run P W=.ok () W:=fun W=>by cases op<;>simp[eqGuard,q2]
   have key : ∀ (zz:List DV) (eq:Bool) (bs:Nat) (a b a' b':Bool),ty e=some ⟨.bool,1,zz,eq,bs⟩→xs.toList=[.bool a,.bool b]→ys.toList=[.bool a',.bool b'] → ∀ W,(Op.equal t (.agg xs) (.agg ys)).run P W=.ok (decide (a=a'∧b=b')) W:=by
    intro zz eq bs a b a' b' h2 hx hy W
    have ex:xs=#[.bool a,.bool b]:=Array.ext' hx
    have ey:ys=#[.bool a',.bool b']:=Array.ext' hy
    subst ex ey
    obtain ⟨info,z,hi,hsz,_⟩:=Hf (P:=P) hty h2
    have hub:P.underlying e=some .bool:=(hty e _ h2).2.1
    have hc:P.cellsOf e=1:=by rw[← show info.size=1 from hsz];unfold Program.cellsOf;rw[hi];rfl
    have hag:=fun (w:World)=>Ij (P:=P) hty h2 w
    have hp : ∀ (us:Array Value) (i:Nat) (v:Value),us[i]? = some v → ∀ w,(part e us i).run P w=.ok v w:=fun us i v hv w=>by
     unfold part
     simp[hag,TD.isAgg,hv]
    have he0 : ∀ (d:Nat) (u v:Bool) (w:World),(Op.equalIn (d+1) e (.bool u) (.bool v)).run P w=.ok (u==v) w:=fun d u v w=>by
     simp[Op.equalIn,run_underlying hub]
    have he : ∀ (u v:Bool) (w:World),(Op.equalIn 9999 e (.bool u) (.bool v)).run P w=.ok (u==v) w:=he0 9998
    have p1:=hp #[.bool a,.bool b] 0 (.bool a) rfl
    have p2:=hp #[.bool a,.bool b] 1 (.bool b) rfl
    have p3:=hp #[.bool a',.bool b'] 0 (.bool a') rfl
    have p4:=hp #[.bool a',.bool b'] 1 (.bool b') rfl
    have h0:=run_equalIn_array (P:=P) W 9999 #[.bool a,.bool b] #[.bool a',.bool b'] hu hi
    rw[hc] at h0
    show (Op.equalIn 10000 t _ _).run P W=_
    rw[h0,show List.range 2=[0,1] from rfl]
    clear h0 hp he0
    simp only[Op.eqItems,Nat.zero_mul,Nat.one_mul,Sem.run_bind,p1,p3,he,Result.andThen_ok]
    cases a<;>cases a'<;>simp[p2,p4,he]<;>cases b<;>cases b'<;>rfl
   split at h
   ·rename_i a b a' b' h2 h3 h4
    exact ⟨.bool (decide (a=a'∧b=b')),fun W=>by simp[hg,binOp,key _ _ _ _ _ _ _ h2 h3 h4],h _ (by simp)⟩
   ·rename_i a b a' b' h2 h3 h4
    exact ⟨.bool (!(decide (a=a'∧b=b'))),fun W=>by simp[hg,binOp,key _ _ _ _ _ _ _ h2 h3 h4],h _ (by rw[Bool.not_eq_true',decide_eq_false_iff_not])⟩
   ·cases h
  ·cases h
 ·cases h
theorem a8a {op:UnOp} {a:Value} {K:Value→Prop} (h:a5p op a K) : ∃ v,(∀ W,(Op.unary op a).run P W=.ok v W)∧K v:=by
 unfold a5p at h
 split at h
 ·rename_i a
  split at h
  ·skip
   exact ⟨.bool (!a),fun W=>by simp[Op.unary],h _ (by simp)⟩
  ·cases h
 ·split at h
  ·exact ⟨_,fun W=>by simp[Op.unary,Op.intArith],h _ rfl⟩
  ·exact ⟨_,fun W=>by simp[Op.unary,Op.intBits],h _ rfl⟩
  ·cases h
 ·cases h
theorem a0o (hty:Cy P ty) {t:TypeId} {i:TI} (h:ty t=some i) : ∃ d,P.underlying t=some d:=by
 have:=(hty t i h).2.1
 cases hd:i.d<;>rw[hd] at this<;>simp only[TD.ok] at this
 case struct=>obtain ⟨fs,h,_⟩:=this;exact ⟨_,h⟩
 case other=>obtain ⟨d,h,_⟩:=this;exact ⟨_,h⟩
 all_goals exact ⟨_,this⟩
theorem a1m (hty:Cy P ty) {src dst:TypeId} {a:Value} {K:Value→Prop} (h:Pi ty src dst a K) : ∃ v,(∀ W,(convert src dst a).run P W=.ok v W)∧K v:=by
 unfold Pi at h
 split at h
 ·split at h
  ·rename_i h1 h2
   obtain ⟨d,hd⟩:=a0o hty h1
   have h3:=(hty _ _ h2).2.1
   simp only[TD.ok] at h3
   exact ⟨_,fun W=>by simp[convert,run_underlying hd,run_underlying h3,Conv.intToInt],h _ rfl⟩
  ·cases h
 ·split at h
  ·rename_i h1 h2
   obtain ⟨d,hd⟩:=a0o hty h1
   have h3:=(hty _ _ h2).2.1
   simp only[TD.ok] at h3
   exact ⟨_,fun W=>by simp[convert,run_underlying hd,run_underlying h3],h⟩
  ·cases h
 ·cases h
theorem a2a (hty:Cy P ty) {t:TypeId} {a b:Value} {K:Value→Prop} (h:Zd ty t a b K) : ∃ v,(∀ W,(Instr.index t a b).run P W=.ok v W)∧K v:=by
 unfold Zd at h
 split at h
 ·rename_i s k q
  split at h
  ·rename_i h1
   have h3:=(hty _ _ h1).2.1
   simp only[TD.ok] at h3
   obtain ⟨hq,hk⟩:=h
   refine ⟨_,fun W => ?_,hk _ rfl⟩
   rw[run_index_string W _ _ _ _ h3,dif_pos hq]
   have hlt:q.toNat<s.data.size:=by
    have:=hq.2
    have e:s.size=s.data.size:=rfl
    omega
   have e:s.data[q.toNat]? = some s.data[q.toNat]:=Array.getElem?_eq_getElem hlt
   unfold Um
   rw[e]
   rfl
  ·cases h
 ·cases h
theorem a4n (hty:Cy P ty) {t:TypeId} {b:ByteArray} {l u:Int} {K:Value→Prop} (h:Zh ty t b l u K) {lo hi:Option Value} (hlo:(lo=none∧l=0) ∨ ∃ k,lo=some (.int k l)) (hhi:(hi=none∧u=b.size) ∨ ∃ k,hi=some (.int k u)) :
  ∃ v,(∀ W,(Instr.sliceAt t (.string b) lo hi none).run P W=.ok v W)∧K v:=by
 unfold Zh at h
 split at h
 ·rename_i h1
  have hu:=(hty _ _ h1).2.1
  simp only[TD.ok] at hu
  obtain ⟨hb,hk⟩:=h
  refine ⟨_,fun w => ?_,hk _ rfl⟩
  have hbd:(Instr.sliceBounds false b.size b.size lo hi none).run P w=.ok (l.toNat,u.toNat,b.size) w:=by
   rcases hlo with ⟨rfl,rfl⟩ | ⟨k,rfl⟩<;>rcases hhi with ⟨rfl,rfl⟩ | ⟨k',rfl⟩
   ·simp[Instr.sliceBounds]
   ·have h5:0≤u:=by omega
    have h6:u≤(b.size:Int):=by omega
    simp[Instr.sliceBounds,run_sliceBound,h5,h6]
   ·have h5:0≤l:=by omega
    have h6:l≤(b.size:Int):=by omega
    simp[Instr.sliceBounds,run_sliceBound,h5,h6]
   ·have h5:0≤l:=by omega
    have h7:0≤u:=by omega
    have h6:u≤(b.size:Int):=by omega
    have h8:l≤(u.toNat:Int):=by omega
    have r1:=run_sliceBound (P:=P) w k l u.toNat .sliceB h5 h8
    have r2:=run_sliceBound (P:=P) w k' u b.size .sliceAlen h7 h6
    simp[Instr.sliceBounds,r2,r1]
  simp[Instr.sliceAt,Instr.slice,run_underlying hu,hbd]
 ·cases h
theorem Ku {mx:Bool} : ∀ {vs:List Value} {x:Value} {K:Value→Prop},Za mx vs x K → ∃ v,(∀ W,(vs.foldlM (if mx then Builtin.max2 else Builtin.min2) x).run P W=.ok v W)∧K v
 | [],x,K,h=>⟨x,fun W=>by simp,h⟩
 | y::vs,x,K,h=>by
  cases y<;>cases x<;>simp only[Za] at h
  rename_i k' y k x
  cases mx with
  | true =>
   obtain ⟨v,h1,h2⟩:=Ku (h (max x y) rfl)
   refine ⟨v,fun W => ?_,h2⟩
   have:=h1 W
   simp only[if_true] at this ⊢
   rw[← this]
   simp only[List.foldlM_cons,Sem.run_bind,Builtin.max2,Sem.run_pure,Result.andThen_ok]
   congr 3
   omega
  | false =>
   obtain ⟨v,h1,h2⟩:=Ku (h (min x y) rfl)
   refine ⟨v,fun W => ?_,h2⟩
   have:=h1 W
   simp only[Bool.false_eq_true,if_false] at this ⊢
   rw[← this]
   simp only[List.foldlM_cons,Sem.run_bind,Builtin.min2,Sem.run_pure,Result.andThen_ok]
   congr 3
   omega
end
end Go.Proofs.YtfkfpkhgoijfdaaGreatDoor
