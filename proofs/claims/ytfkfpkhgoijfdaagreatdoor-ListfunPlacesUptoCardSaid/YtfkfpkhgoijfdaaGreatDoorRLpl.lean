/- ListfunPlaces: whatever is read of bulk at most 1048576; the tied card's second form. -/
import Derived.Test.YtfkfpkhgoijfdaaGreatDoorLfLO
import Derived.Test.YtfkfpkhgoijfdaaGreatDoorOpenD
import Derived.Test.YtfkfpkhgoijfdaaGreatDoorOpK
import Derived.Test.YtfkfpkhgoijfdaaGreatDoorTie
import Derived.Test.YtfkfpkhgoijfdaaGreatDoorCards
import Derived.SevenTiedAt
import Derived.Deep.DeepHandedRow
namespace Go.Proofs.YtfkfpkhgoijfdaaGreatDoor
open Go.ChangeShapes Go.WideShapes Go.ChangeAt Go.RowKit
open Go.ChangeMaps (open_string shut_string)
set_option linter.unusedVariables false
set_option maxRecDepth 100000
theorem a87 {Im:Nat→Nat→Prop} {W:World} (x:Value):DV.rel Im W (.v x) x:=by rw[DV.rel]
theorem Lb {w:World} {v0 v3:Value} {a1 a2:Int} {ds:List Dm} {k3:Int} {t3:L8} {is3:List Dm} {ns3:List L8} {p3 q3:Bool}
  (l0:ds.length≤1048576) (s0:Eo ds) (r0:(DV.sl ds.length (Ad ds)).rel (old w) w v0) (u1 : -9223372036854775808≤a1) (t1:a1≤9223372036854775807) (u2 : -9223372036854775808≤a2) (t2:a2≤9223372036854775807)
  (s3:(Dm.mk k3 t3 is3 ns3 p3 q3).small) (r3:(Wn k3 t3 is3 ns3 p3 q3).rel (old w) w v3) (w':World) (hk:Kw w) :
  Calls Tryz.prog 4 #[v0,.int .i64 a1,.int .i64 a2,v3] w fun e w'=>e=.returned (.bool true)∧Below w.heap.size w w' :=
 (Ph s0 l0 u1 t1 u2 t2 s3).walkR w (Cv r0 (Cv (a87 _) (Cv (a87 _) (Cv r3 Re)))) hk
set_option maxRecDepth 100000 in
theorem Jw (os:Os) (started:os.Started) (H:Type) (enc:TypeId×Value→H) (Fi:Stop.Interp) :
  ReturnsInHanded {} Tryz.checked os 4 .any ((Rows.OpenSpec.upto Rows.listfunPlacesSpec).preRow enc Tryz.prog Tryz.f4 Rows.listfunPlacesUptoRow.domain false Rows.listfunPlacesUptoRow.laid) (((Rows.OpenSpec.upto Rows.listfunPlacesSpec).at Fi).post enc Tryz.prog Tryz.f4 false true false false):=by
 have hw:(DataW.whole enc Tryz.prog ((World.laidAll Tryz.prog os Rows.listfunPlacesUptoRow.laid).forCall (fun _ _=>0) ⟨#[],#[.slice none 0 0,.int .i64 0,.int .i64 0,.agg #[.int .i64 0,.string ByteArray.empty,.slice none 0 0,.slice none 0 0,.bool false,.bool false]],[]⟩).memory Tryz.f4.params.toList Rows.listfunPlacesSpec.vars false (#[.slice none 0 0,.int .i64 0,.int .i64 0,.agg #[.int .i64 0,.string ByteArray.empty,.slice none 0 0,.slice none 0 0,.bool false,.bool false]]:Array Value).toList 8).map (fun x=>(x.1,x.2.1)) =
   some ([.nil,.lit (.int .i64 0),.lit (.int .i64 0),.agg [.lit (.int .i64 0),.lit (.string []),.nil,.nil,.agg [.lit (.bool false),.lit (.bool false)]]],[]):=by kernel_rfl
 obtain ⟨⟨x1,x2,x3⟩,hx,hx1⟩:=Option.map_eq_some_iff.1 hw
 simp only[Prod.mk.injEq] at hx1
 obtain ⟨rfl,rfl⟩:=hx1
 refine returnsInHanded_of_row (C:=Tryz.checked) (s:=Rows.OpenSpec.upto Rows.listfunPlacesSpec) b2c started (by kernel_rfl) Tryz.func4
  ⟨World.laidAll Tryz.prog os Rows.listfunPlacesUptoRow.laid,fun _ _=>0,⟨#[],#[.slice none 0 0,.int .i64 0,.int .i64 0,.agg #[.int .i64 0,.string ByteArray.empty,.slice none 0 0,.slice none 0 0,.bool false,.bool false]],[]⟩,World.laidAll_os _ _ _,World.shaped_of_ZipB (by kernel_rfl) (by kernel_rfl),rfl,(Input.okWide_of_okWideB (by kernel_rfl)).2,
   OpenSpec.preRow_of_cond 8 hx (by kernel_rfl) (fun k hk=>by cases hk;kernel_rfl) (by kernel_rfl) (by rw[MakeChecks.laidMetH_plain _ _ _ (by kernel_rfl)];exact laidMet_laidAll _ (by kernel_rfl) (by kernel_rfl)),by
    simp only[Assume.holds]
    exact ⟨by simp,by simp,fun _=>Modest.zero,by simp,by simp⟩⟩ ?_
 intro W base args ds gs before hval0 hW hcnd hcond hWt hL hsh _
 show Calls _ _ _ _ fun e W' => ∃ v,e=.returned v∧Rows.listfunPlacesSpec.post enc Tryz.prog Tryz.f4 false true false false W args v W'
 have hval : ∀ (j:Nat) t v,Tryz.f4.params[j]? = some t→args[j]? = some v→Value.okWide Tryz.prog W .any base t v:=hval0
 have hW':=hW
 obtain ⟨p,q,hA0,hV,rfl,hfz,hnd⟩:=hW
 have hA:DataW.TrodAll enc Tryz.prog W 0 (fun _=>true) true Tryz.f4.params.toList args.toList ds p:=hA0
 rw[Tryz.params4] at hA hval
 obtain ⟨v0,vs0,d0,ds0,p0,q0,hargs,rfl,rfl,h0,r0⟩:=trodAll_cons hA
 obtain ⟨v1,vs1,d1,ds1,p1,q1,rfl,rfl,rfl,h1,r1⟩:=trodAll_cons r0
 obtain ⟨v2,vs2,d2,ds2,p2,q2,rfl,rfl,rfl,h2,r2⟩:=trodAll_cons r1
 obtain ⟨v3,vs3,d3,ds3,p3,q3,rfl,rfl,rfl,h3,r3⟩:=trodAll_cons r2
 obtain ⟨rfl,rfl,rfl⟩:=trodAll_nil r3
 obtain rfl:args=#[v0,v1,v2,v3]:=by cases args;simp_all
 obtain ⟨rfl,rfl⟩:=trodVars_none hV
 have lt0 : ∀ x ∈ p0,x.block<W.heap.size:=by obtain ⟨m,hm⟩:=h0;exact DataW.trod_lt m _ _ _ hm
 have z0:Rows.uptoBulk d0≤1048576:=by
  have hb:=of_decide_eq_true (hcond _ rfl)
  simp only[Rows.uptoBulkAll,List.cons_append,List.nil_append] at hb
  omega
 obtain ⟨is0,l0,u0,rl0⟩:=a4g (hval 0 22 v0 rfl rfl) h0 z0
 have lt1 : ∀ x ∈ p1,x.block<W.heap.size:=by obtain ⟨m,hm⟩:=h1;exact DataW.trod_lt m _ _ _ hm
 obtain ⟨a1,rfl,u1,t1⟩:=a88 (hval 1 3 v1 rfl rfl) h1
 have lt2 : ∀ x ∈ p2,x.block<W.heap.size:=by obtain ⟨m,hm⟩:=h2;exact DataW.trod_lt m _ _ _ hm
 obtain ⟨a2,rfl,u2,t2⟩:=a88 (hval 2 3 v2 rfl rfl) h2
 have lt3 : ∀ x ∈ p3,x.block<W.heap.size:=by obtain ⟨m,hm⟩:=h3;exact DataW.trod_lt m _ _ _ hm
 have z3:Rows.uptoBulk d3≤1048576:=by
  have hb:=of_decide_eq_true (hcond _ rfl)
  simp only[Rows.uptoBulkAll,List.cons_append,List.nil_append] at hb
  omega
 obtain ⟨kk3,tt3,is3,ns3,bp3,bq3,u3,rl3⟩:=a0w (hval 3 27 v3 rfl rfl) h3 z3
 clear hA0 hval0
 refine (Lb l0 u0 rl0 u1 t1 u2 t2 u3 rl3 W (b58 hsh hL (by kernel_rfl))).mono fun e W' ⟨he,bel⟩ => ?_
 subst he
 exact ⟨_,rfl,_,_,_,[],_,[],hW',trodAll_mk1 (shut_bool Tryz.underlying4 _),(trodAll_cons_mk (Below.trod Nd (by kernel_rfl) (of_decide_eq_true (by kernel_rfl)) h0 bel lt0) (trodAll_cons_mk (Below.trod Nd (by kernel_rfl) (of_decide_eq_true (by kernel_rfl)) h1 bel lt1) (trodAll_cons_mk (Below.trod Nd (by kernel_rfl) (of_decide_eq_true (by kernel_rfl)) h2 bel lt2) (trodAll_cons_mk (Below.trod Nd (by kernel_rfl) (of_decide_eq_true (by kernel_rfl)) h3 bel lt3) trodAll_mk0)))),rfl,bel.frame _,fun h=>by cases h⟩
theorem Ld:Rows.listfunPlacesUptoRow.holds Tryz.pinned (Rows.OpenSpec.upto Rows.listfunPlacesSpec) :=
 OpenClaim.holds_of_cond 4 Tryz.f4 rfl rfl rfl rfl rfl rfl rfl ⟨rfl,rfl,rfl,rfl,rfl⟩ rfl rfl rfl rfl rfl (by kernel_rfl) Tryz.func4 (by kernel_rfl)
  (of_decide_eq_true (by kernel_rfl)) (by unfold Func.isWrapper;first | (rw[if_pos (by decide +kernel)];kernel_rfl) | (rw[if_neg (by decide +kernel)];exact ⟨rfl,rfl⟩))
  (fun os started H enc _ Fi=>by rw[OpenClaim.pre_eq_preRow];exact Jw os started H enc Fi)
theorem holds_ListfunPlacesUpto:Rows.ListfunPlacesUptoCardSaid :=
 Claim7.holds_tied_plain_at .later [] [.data,.data,.data,.data,.sentinel,.sentinel,.pinned] true Rows.listfunPlacesUptoCard.stood.harness true
  Ld (fun _ h=>by cases h) (by kernel_rfl) (fun _ h=>by cases h) listfunPlacesUpto_row_tie rfl ⟨rfl,rfl⟩ (by kernel_rfl) rfl
  (fun f fn hf hfn=>by
   obtain rfl:f=4:=Option.some.inj ((show Tryz.prog.funcNamed "casuist/casuistlaw22.ListfunPlaces" = some 4 by kernel_rfl).symm.trans hf) |>.symm
   obtain rfl:fn=Tryz.f4:=(Option.some.inj (Tryz.func4.symm.trans hfn)).symm
   exact ⟨by kernel_rfl,fun j t ht=>by
    rw[Tryz.params4] at ht
    rcases j with _ | _ | _ | _ | j
    ·obtain rfl:22=t:=by simpa using ht
     exact (show Tryz.prog.wantsStandIn 22=false by kernel_rfl)
    ·obtain rfl:3=t:=by simpa using ht
     exact (show Tryz.prog.wantsStandIn 3=false by kernel_rfl)
    ·obtain rfl:3=t:=by simpa using ht
     exact (show Tryz.prog.wantsStandIn 3=false by kernel_rfl)
    ·obtain rfl:27=t:=by simpa using ht
     exact (show Tryz.prog.wantsStandIn 27=false by kernel_rfl)
    ·simp at ht⟩)
  (by kernel_rfl)
end Go.Proofs.YtfkfpkhgoijfdaaGreatDoor
