/- NumfunRounds: whatever is read of bulk at most 1048576; the tied card's second form. -/
import Derived.Test.YtdkgnmiiibpnnaaGreatDoorNhB
import Derived.Test.YtdkgnmiiibpnnaaGreatDoorOpenD
import Derived.Test.YtdkgnmiiibpnnaaGreatDoorOpK
import Derived.Test.YtdkgnmiiibpnnaaGreatDoorTie
import Derived.Test.YtdkgnmiiibpnnaaGreatDoorCards
import Derived.SevenTiedAt
import Derived.Deep.DeepHandedRow
namespace Go.Proofs.YtdkgnmiiibpnnaaGreatDoor
open Go.ChangeShapes Go.WideShapes Go.ChangeAt Go.RowKit
open Go.ChangeMaps (open_string shut_string)
set_option linter.unusedVariables false
set_option maxRecDepth 100000
theorem a4q {Im:Nat→Nat→Prop} {W:World} (g:Bool) (n:Nat) (e:Int):DV.rel Im W (Bk g n e) (.agg #[.bool g,.int .u64 (hiW n),.int .u64 (loW n),.int .i64 e]):=by
 show DV.rel Im W (.agg [.v (.bool g),.v (.int .u64 (hiW n)),.v (.int .u64 (loW n)),.v (.int .i64 e)]) _
 rw[DV.rel]
 exact ⟨_,rfl,Dx (Vz _) (Dx (Vz _) (Dx (Vz _) (Dx (Vz _) a0m)))⟩
theorem Mg {w:World} {g0 g1:Bool} {p0 q0 e0 p1 q1 e1 a2:Int} {n0 n1 m3:Nat} {v4:Value} {k4:Int} {t4:L8} {is4:List Dm} {ns4:List L8} {p4 q4:Bool}
  (u0:IsU p0 q0 n0) (t0 : -9223372036854775808≤e0) (s0:e0≤9223372036854775807) (u1:IsU p1 q1 n1) (t1 : -9223372036854775808≤e1) (s1:e1≤9223372036854775807)
  (u2 : -9223372036854775808≤a2) (t2:a2≤9223372036854775807) (u3:m3<256)
  (s4:(Dm.mk k4 t4 is4 ns4 p4 q4).small) (r4:(a7w k4 t4 is4 ns4 p4 q4).rel (old w) w v4) (w':World) (hk:Kw w) :
  Calls Tryz.prog 4 #[.agg #[.bool g0,.int .u64 p0,.int .u64 q0,.int .i64 e0],.agg #[.bool g1,.int .u64 p1,.int .u64 q1,.int .i64 e1],.int .i64 a2,.int .u8 m3,v4] w fun e w'=>e=.returned (.bool true)∧Below w.heap.size w w':=by
 have l0:=u0.lt
 obtain ⟨rfl,rfl⟩:=u0.hl
 have l1:=u1.lt
 obtain ⟨rfl,rfl⟩:=u1.hl
 exact (Sd (g1:=g0) (g2:=g1) (x1:=e0) (x2:=e1) l0 l1 u2 t2 u3 s4).walkR w (Dx (a4q _ _ _) (Dx (a4q _ _ _) (Dx (Vz _) (Dx (Vz _) (Dx r4 a0m))))) hk
set_option maxRecDepth 100000 in
theorem Kv (os:Os) (started:os.Started) (H:Type) (enc:TypeId×Value→H) (Fi:Stop.Interp) :
  ReturnsInHanded {} Tryz.checked os 4 .any ((Rows.OpenSpec.upto Rows.numfunRoundsSpec).preRow enc Tryz.prog Tryz.f4 Rows.numfunRoundsUptoRow.domain false Rows.numfunRoundsUptoRow.laid) (((Rows.OpenSpec.upto Rows.numfunRoundsSpec).at Fi).post enc Tryz.prog Tryz.f4 false true false false):=by
 have hw:(DataW.whole enc Tryz.prog ((World.laidAll Tryz.prog os Rows.numfunRoundsUptoRow.laid).forCall (fun _ _=>0) ⟨#[],#[.agg #[.bool false,.int .u64 0,.int .u64 0,.int .i64 0],.agg #[.bool false,.int .u64 0,.int .u64 0,.int .i64 0],.int .i64 0,.int .u8 0,.agg #[.int .i64 0,.string ByteArray.empty,.slice none 0 0,.slice none 0 0,.bool false,.bool false]],[]⟩).memory Tryz.f4.params.toList Rows.numfunRoundsSpec.vars false (#[.agg #[.bool false,.int .u64 0,.int .u64 0,.int .i64 0],.agg #[.bool false,.int .u64 0,.int .u64 0,.int .i64 0],.int .i64 0,.int .u8 0,.agg #[.int .i64 0,.string ByteArray.empty,.slice none 0 0,.slice none 0 0,.bool false,.bool false]]:Array Value).toList 8).map (fun x=>(x.1,x.2.1)) =
   some ([.agg [.lit (.bool false),.agg [.lit (.int .u64 0),.lit (.int .u64 0)],.lit (.int .i64 0)],.agg [.lit (.bool false),.agg [.lit (.int .u64 0),.lit (.int .u64 0)],.lit (.int .i64 0)],.lit (.int .i64 0),.lit (.int .u8 0),.agg [.lit (.int .i64 0),.lit (.string []),.nil,.nil,.agg [.lit (.bool false),.lit (.bool false)]]],[]):=by kernel_rfl
 obtain ⟨⟨x1,x2,x3⟩,hx,hx1⟩:=Option.map_eq_some_iff.1 hw
 simp only[Prod.mk.injEq] at hx1
 obtain ⟨rfl,rfl⟩:=hx1
 refine returnsInHanded_of_row (C:=Tryz.checked) (s:=Rows.OpenSpec.upto Rows.numfunRoundsSpec) b2s started (by kernel_rfl) Tryz.func4
  ⟨World.laidAll Tryz.prog os Rows.numfunRoundsUptoRow.laid,fun _ _=>0,⟨#[],#[.agg #[.bool false,.int .u64 0,.int .u64 0,.int .i64 0],.agg #[.bool false,.int .u64 0,.int .u64 0,.int .i64 0],.int .i64 0,.int .u8 0,.agg #[.int .i64 0,.string ByteArray.empty,.slice none 0 0,.slice none 0 0,.bool false,.bool false]],[]⟩,World.laidAll_os _ _ _,World.shaped_of_ZipB (by kernel_rfl) (by kernel_rfl),rfl,(Input.okWide_of_okWideB (by kernel_rfl)).2,
   OpenSpec.preRow_of_cond 8 hx (by kernel_rfl) (fun k hk=>by cases hk;kernel_rfl) (by kernel_rfl) (by rw[MakeChecks.laidMetH_plain _ _ _ (by kernel_rfl)];exact laidMet_laidAll _ (by kernel_rfl) (by kernel_rfl)),by
    simp only[Assume.holds]
    exact ⟨by simp,by simp,fun _=>Modest.zero,by simp,by simp⟩⟩ ?_
 intro W base args ds gs before hval0 hW hcnd hcond hWt hL hsh _
 show Calls _ _ _ _ fun e W' => ∃ v,e=.returned v∧Rows.numfunRoundsSpec.post enc Tryz.prog Tryz.f4 false true false false W args v W'
 have hval : ∀ (j:Nat) t v,Tryz.f4.params[j]? = some t→args[j]? = some v→Value.okWide Tryz.prog W .any base t v:=hval0
 have hW':=hW
 obtain ⟨p,q,hA0,hV,rfl,hfz,hnd⟩:=hW
 have hA:DataW.TrodAll enc Tryz.prog W 0 (fun _=>true) true Tryz.f4.params.toList args.toList ds p:=hA0
 rw[Tryz.params4] at hA hval
 obtain ⟨v0,vs0,d0,ds0,p0,q0,hargs,rfl,rfl,h0,r0⟩:=trodAll_cons hA
 obtain ⟨v1,vs1,d1,ds1,p1,q1,rfl,rfl,rfl,h1,r1⟩:=trodAll_cons r0
 obtain ⟨v2,vs2,d2,ds2,p2,q2,rfl,rfl,rfl,h2,r2⟩:=trodAll_cons r1
 obtain ⟨v3,vs3,d3,ds3,p3,q3,rfl,rfl,rfl,h3,r3⟩:=trodAll_cons r2
 obtain ⟨v4,vs4,d4,ds4,p4,q4,rfl,rfl,rfl,h4,r4⟩:=trodAll_cons r3
 obtain ⟨rfl,rfl,rfl⟩:=trodAll_nil r4
 obtain rfl:args=#[v0,v1,v2,v3,v4]:=by cases args;simp_all
 obtain ⟨rfl,rfl⟩:=trodVars_none hV
 have lt0 : ∀ x ∈ p0,x.block<W.heap.size:=by obtain ⟨m,hm⟩:=h0;exact DataW.trod_lt m _ _ _ hm
 obtain ⟨g0,a0,b0,e0,n0,rfl,u0,t0,s0⟩:=Zr (hval 0 26 v0 rfl rfl) h0
 have lt1 : ∀ x ∈ p1,x.block<W.heap.size:=by obtain ⟨m,hm⟩:=h1;exact DataW.trod_lt m _ _ _ hm
 obtain ⟨g1,a1,b1,e1,n1,rfl,u1,t1,s1⟩:=Zr (hval 1 26 v1 rfl rfl) h1
 have lt2 : ∀ x ∈ p2,x.block<W.heap.size:=by obtain ⟨m,hm⟩:=h2;exact DataW.trod_lt m _ _ _ hm
 obtain ⟨a2,rfl,u2,t2⟩:=b70 (hval 2 3 v2 rfl rfl) h2
 have lt3 : ∀ x ∈ p3,x.block<W.heap.size:=by obtain ⟨m,hm⟩:=h3;exact DataW.trod_lt m _ _ _ hm
 obtain ⟨n3,rfl,u3⟩:=b4w (hval 3 5 v3 rfl rfl) h3
 have lt4 : ∀ x ∈ p4,x.block<W.heap.size:=by obtain ⟨m,hm⟩:=h4;exact DataW.trod_lt m _ _ _ hm
 have z4:Rows.uptoBulk d4≤1048576:=by
  have hb:=of_decide_eq_true (hcond _ rfl)
  simp only[Rows.uptoBulkAll,List.cons_append,List.nil_append] at hb
  omega
 obtain ⟨kk4,tt4,is4,ns4,bp4,bq4,u4,rl4⟩:=a3k (hval 4 32 v4 rfl rfl) h4 z4
 clear hA0 hval0
 refine (Mg (g0:=g0) u0 t0 s0 (g1:=g1) u1 t1 s1 u2 t2 u3 u4 rl4 W (c0c hsh hL (by kernel_rfl))).mono fun e W' ⟨he,bel⟩ => ?_
 subst he
 exact ⟨_,rfl,_,_,_,[],_,[],hW',trodAll_mk1 (shut_bool Tryz.underlying4 _),(trodAll_cons_mk (Below.trod Jn (by kernel_rfl) (of_decide_eq_true (by kernel_rfl)) h0 bel lt0) (trodAll_cons_mk (Below.trod Jn (by kernel_rfl) (of_decide_eq_true (by kernel_rfl)) h1 bel lt1) (trodAll_cons_mk (Below.trod Jn (by kernel_rfl) (of_decide_eq_true (by kernel_rfl)) h2 bel lt2) (trodAll_cons_mk (Below.trod Jn (by kernel_rfl) (of_decide_eq_true (by kernel_rfl)) h3 bel lt3) (trodAll_cons_mk (Below.trod Jn (by kernel_rfl) (of_decide_eq_true (by kernel_rfl)) h4 bel lt4) trodAll_mk0))))),rfl,bel.frame _,fun h=>by cases h⟩
theorem Nb:Rows.numfunRoundsUptoRow.holds Tryz.pinned (Rows.OpenSpec.upto Rows.numfunRoundsSpec) :=
 OpenClaim.holds_of_cond 4 Tryz.f4 rfl rfl rfl rfl rfl rfl rfl ⟨rfl,rfl,rfl,rfl,rfl⟩ rfl rfl rfl rfl rfl (by kernel_rfl) Tryz.func4 (by kernel_rfl)
  (of_decide_eq_true (by kernel_rfl)) (by unfold Func.isWrapper;first | (rw[if_pos (by decide +kernel)];kernel_rfl) | (rw[if_neg (by decide +kernel)];exact ⟨rfl,rfl⟩))
  (fun os started H enc _ Fi=>by rw[OpenClaim.pre_eq_preRow];exact Kv os started H enc Fi)
theorem holds_NumfunRoundsUpto:Rows.NumfunRoundsUptoCardSaid :=
 Claim7.holds_tied_plain_at .later [] [.data,.data,.data,.data,.sentinel,.sentinel,.pinned] true Rows.numfunRoundsUptoCard.stood.harness true
  Nb (fun _ h=>by cases h) (by kernel_rfl) (fun _ h=>by cases h) numfunRoundsUpto_row_tie rfl ⟨rfl,rfl⟩ (by kernel_rfl) rfl
  (fun f fn hf hfn=>by
   obtain rfl:f=4:=Option.some.inj ((show Tryz.prog.funcNamed "casuist/casuistlaw20.NumfunRounds" = some 4 by kernel_rfl).symm.trans hf) |>.symm
   obtain rfl:fn=Tryz.f4:=(Option.some.inj (Tryz.func4.symm.trans hfn)).symm
   exact ⟨by kernel_rfl,fun j t ht=>by
    rw[Tryz.params4] at ht
    rcases j with _ | _ | _ | _ | _ | j
    ·obtain rfl:26=t:=by simpa using ht
     exact (show Tryz.prog.wantsStandIn 26=false by kernel_rfl)
    ·obtain rfl:26=t:=by simpa using ht
     exact (show Tryz.prog.wantsStandIn 26=false by kernel_rfl)
    ·obtain rfl:3=t:=by simpa using ht
     exact (show Tryz.prog.wantsStandIn 3=false by kernel_rfl)
    ·obtain rfl:5=t:=by simpa using ht
     exact (show Tryz.prog.wantsStandIn 5=false by kernel_rfl)
    ·obtain rfl:32=t:=by simpa using ht
     exact (show Tryz.prog.wantsStandIn 32=false by kernel_rfl)
    ·simp at ht⟩)
  (by kernel_rfl)
end Go.Proofs.YtdkgnmiiibpnnaaGreatDoor
