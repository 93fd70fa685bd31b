/- ListfunWhole: whatever is read of bulk at most 1048576; the tied card's second form. -/
import Derived.Test.YtfkfpkhgoijfdaaGreatDoorLfLO
import Derived.Test.YtfkfpkhgoijfdaaGreatDoorOpenD
import Derived.Test.YtfkfpkhgoijfdaaGreatDoorOpK
import Derived.Test.YtfkfpkhgoijfdaaGreatDoorTie
import Derived.Test.YtfkfpkhgoijfdaaGreatDoorCards
import Derived.SevenTiedAt
import Derived.Deep.DeepHandedRow
namespace Go.Proofs.YtfkfpkhgoijfdaaGreatDoor
open Go.ChangeShapes Go.WideShapes Go.ChangeAt Go.RowKit
open Go.ChangeMaps (open_string shut_string)
set_option linter.unusedVariables false
set_option maxRecDepth 100000
theorem Nr {w:World} {v0 v1 v2:Value} {ds es:List Dm} {k2:Int} {t2:L8} {is2:List Dm} {ns2:List L8} {p2 q2:Bool}
  (l0:ds.length≤1048576) (s0:Dn ds) (r0:(DV.sl ds.length (Ad ds)).rel (old w) w v0) (l1:es.length≤1048576) (s1:Dn es) (r1:(DV.sl es.length (Ad es)).rel (old w) w v1)
  (s2:(Dm.mk k2 t2 is2 ns2 p2 q2).small) (r2:(Ov k2 t2 is2 ns2 p2 q2).rel (old w) w v2) (w':World) (hk:Kw w) :
  Calls Tryz.prog 3 #[v0,v1,v2] w fun e w'=>e=.returned (.bool true)∧Below w.heap.size w w' :=
 (Rr s0 l0 s1 l1 s2).walkR w (Di r0 (Di r1 (Di r2 Sj))) hk
set_option maxRecDepth 100000 in
theorem La (os:Os) (started:os.Started) (H:Type) (enc:TypeId×Value→H) (Fi:Stop.Interp) :
  ReturnsInHanded {} Tryz.checked os 3 .any ((Rows.OpenSpec.upto Rows.listfunWholeSpec).preRow enc Tryz.prog Tryz.f3 Rows.listfunWholeUptoRow.domain false Rows.listfunWholeUptoRow.laid) (((Rows.OpenSpec.upto Rows.listfunWholeSpec).at Fi).post enc Tryz.prog Tryz.f3 false true false false):=by
 have hw:(DataW.whole enc Tryz.prog ((World.laidAll Tryz.prog os Rows.listfunWholeUptoRow.laid).forCall (fun _ _=>0) ⟨#[],#[.slice none 0 0,.slice none 0 0,.agg #[.int .i64 0,.string ByteArray.empty,.slice none 0 0,.slice none 0 0,.bool false,.bool false]],[]⟩).memory Tryz.f3.params.toList Rows.listfunWholeSpec.vars false (#[.slice none 0 0,.slice none 0 0,.agg #[.int .i64 0,.string ByteArray.empty,.slice none 0 0,.slice none 0 0,.bool false,.bool false]]:Array Value).toList 8).map (fun x=>(x.1,x.2.1)) =
   some ([.nil,.nil,.agg [.lit (.int .i64 0),.lit (.string []),.nil,.nil,.agg [.lit (.bool false),.lit (.bool false)]]],[]):=by kernel_rfl
 obtain ⟨⟨x1,x2,x3⟩,hx,hx1⟩:=Option.map_eq_some_iff.1 hw
 simp only[Prod.mk.injEq] at hx1
 obtain ⟨rfl,rfl⟩:=hx1
 refine returnsInHanded_of_row (C:=Tryz.checked) (s:=Rows.OpenSpec.upto Rows.listfunWholeSpec) b1u started (by kernel_rfl) Tryz.func3
  ⟨World.laidAll Tryz.prog os Rows.listfunWholeUptoRow.laid,fun _ _=>0,⟨#[],#[.slice none 0 0,.slice none 0 0,.agg #[.int .i64 0,.string ByteArray.empty,.slice none 0 0,.slice none 0 0,.bool false,.bool false]],[]⟩,World.laidAll_os _ _ _,World.shaped_of_ZipB (by kernel_rfl) (by kernel_rfl),rfl,(Input.okWide_of_okWideB (by kernel_rfl)).2,
   OpenSpec.preRow_of_cond 8 hx (by kernel_rfl) (fun k hk=>by cases hk;kernel_rfl) (by kernel_rfl) (by rw[MakeChecks.laidMetH_plain _ _ _ (by kernel_rfl)];exact laidMet_laidAll _ (by kernel_rfl) (by kernel_rfl)),by
    simp only[Assume.holds]
    exact ⟨by simp,by simp,fun _=>Modest.zero,by simp,by simp⟩⟩ ?_
 intro W base args ds gs before hval0 hW hcnd hcond hWt hL hsh _
 show Calls _ _ _ _ fun e W' => ∃ v,e=.returned v∧Rows.listfunWholeSpec.post enc Tryz.prog Tryz.f3 false true false false W args v W'
 have hval : ∀ (j:Nat) t v,Tryz.f3.params[j]? = some t→args[j]? = some v→Value.okWide Tryz.prog W .any base t v:=hval0
 have hW':=hW
 obtain ⟨p,q,hA0,hV,rfl,hfz,hnd⟩:=hW
 have hA:DataW.TrodAll enc Tryz.prog W 0 (fun _=>true) true Tryz.f3.params.toList args.toList ds p:=hA0
 rw[Tryz.params3] at hA hval
 obtain ⟨v0,vs0,d0,ds0,p0,q0,hargs,rfl,rfl,h0,r0⟩:=trodAll_cons hA
 obtain ⟨v1,vs1,d1,ds1,p1,q1,rfl,rfl,rfl,h1,r1⟩:=trodAll_cons r0
 obtain ⟨v2,vs2,d2,ds2,p2,q2,rfl,rfl,rfl,h2,r2⟩:=trodAll_cons r1
 obtain ⟨rfl,rfl,rfl⟩:=trodAll_nil r2
 obtain rfl:args=#[v0,v1,v2]:=by cases args;simp_all
 obtain ⟨rfl,rfl⟩:=trodVars_none hV
 have lt0 : ∀ x ∈ p0,x.block<W.heap.size:=by obtain ⟨m,hm⟩:=h0;exact DataW.trod_lt m _ _ _ hm
 have z0:Rows.uptoBulk d0≤1048576:=by
  have hb:=of_decide_eq_true (hcond _ rfl)
  simp only[Rows.uptoBulkAll,List.cons_append,List.nil_append] at hb
  omega
 obtain ⟨is0,l0,u0,rl0⟩:=Ve (hval 0 22 v0 rfl rfl) h0 z0
 have lt1 : ∀ x ∈ p1,x.block<W.heap.size:=by obtain ⟨m,hm⟩:=h1;exact DataW.trod_lt m _ _ _ hm
 have z1:Rows.uptoBulk d1≤1048576:=by
  have hb:=of_decide_eq_true (hcond _ rfl)
  simp only[Rows.uptoBulkAll,List.cons_append,List.nil_append] at hb
  omega
 obtain ⟨is1,l1,u1,rl1⟩:=Ve (hval 1 22 v1 rfl rfl) h1 z1
 have lt2 : ∀ x ∈ p2,x.block<W.heap.size:=by obtain ⟨m,hm⟩:=h2;exact DataW.trod_lt m _ _ _ hm
 have z2:Rows.uptoBulk d2≤1048576:=by
  have hb:=of_decide_eq_true (hcond _ rfl)
  simp only[Rows.uptoBulkAll,List.cons_append,List.nil_append] at hb
  omega
 obtain ⟨kk2,tt2,is2,ns2,bp2,bq2,u2,rl2⟩:=a16 (hval 2 27 v2 rfl rfl) h2 z2
 clear hA0 hval0
 refine (Nr l0 u0 rl0 l1 u1 rl1 u2 rl2 W (b9f hsh hL (by kernel_rfl))).mono fun e W' ⟨he,bel⟩ => ?_
 subst he
 exact ⟨_,rfl,_,_,_,[],_,[],hW',trodAll_mk1 (shut_bool Tryz.underlying4 _),(trodAll_cons_mk (Below.trod Sy (by kernel_rfl) (of_decide_eq_true (by kernel_rfl)) h0 bel lt0) (trodAll_cons_mk (Below.trod Sy (by kernel_rfl) (of_decide_eq_true (by kernel_rfl)) h1 bel lt1) (trodAll_cons_mk (Below.trod Sy (by kernel_rfl) (of_decide_eq_true (by kernel_rfl)) h2 bel lt2) trodAll_mk0))),rfl,bel.frame _,fun h=>by cases h⟩
theorem Nl:Rows.listfunWholeUptoRow.holds Tryz.pinned (Rows.OpenSpec.upto Rows.listfunWholeSpec) :=
 OpenClaim.holds_of_cond 3 Tryz.f3 rfl rfl rfl rfl rfl rfl rfl ⟨rfl,rfl,rfl,rfl,rfl⟩ rfl rfl rfl rfl rfl (by kernel_rfl) Tryz.func3 (by kernel_rfl)
  (of_decide_eq_true (by kernel_rfl)) (by unfold Func.isWrapper;first | (rw[if_pos (by decide +kernel)];kernel_rfl) | (rw[if_neg (by decide +kernel)];exact ⟨rfl,rfl⟩))
  (fun os started H enc _ Fi=>by rw[OpenClaim.pre_eq_preRow];exact La os started H enc Fi)
theorem holds_ListfunWholeUpto:Rows.ListfunWholeUptoCardSaid :=
 Claim7.holds_tied_plain_at .later [] [.data,.data,.data,.data,.sentinel,.sentinel,.pinned] true Rows.listfunWholeUptoCard.stood.harness true
  Nl (fun _ h=>by cases h) (by kernel_rfl) (fun _ h=>by cases h) listfunWholeUpto_row_tie rfl ⟨rfl,rfl⟩ (by kernel_rfl) rfl
  (fun f fn hf hfn=>by
   obtain rfl:f=3:=Option.some.inj ((show Tryz.prog.funcNamed "casuist/casuistlaw22.ListfunWhole" = some 3 by kernel_rfl).symm.trans hf) |>.symm
   obtain rfl:fn=Tryz.f3:=(Option.some.inj (Tryz.func3.symm.trans hfn)).symm
   exact ⟨by kernel_rfl,fun j t ht=>by
    rw[Tryz.params3] at ht
    rcases j with _ | _ | _ | j
    ·obtain rfl:22=t:=by simpa using ht
     exact (show Tryz.prog.wantsStandIn 22=false by kernel_rfl)
    ·obtain rfl:22=t:=by simpa using ht
     exact (show Tryz.prog.wantsStandIn 22=false by kernel_rfl)
    ·obtain rfl:27=t:=by simpa using ht
     exact (show Tryz.prog.wantsStandIn 27=false by kernel_rfl)
    ·simp at ht⟩)
  (by kernel_rfl)
end Go.Proofs.YtfkfpkhgoijfdaaGreatDoor
