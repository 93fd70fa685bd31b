/- ListfunTruths: whatever is read of bulk at most 1048576; the tied card's second form. -/
import Derived.Test.YtfkfpkhgoijfdaaGreatDoorLfT
import Derived.Test.YtfkfpkhgoijfdaaGreatDoorOpenD
import Derived.Test.YtfkfpkhgoijfdaaGreatDoorOpK
import Derived.Test.YtfkfpkhgoijfdaaGreatDoorTie
import Derived.Test.YtfkfpkhgoijfdaaGreatDoorCards
import Derived.SevenTiedAt
import Derived.Deep.DeepHandedRow
namespace Go.Proofs.YtfkfpkhgoijfdaaGreatDoor
open Go.ChangeShapes Go.WideShapes Go.ChangeAt Go.RowKit
open Go.ChangeMaps (open_string shut_string)
set_option linter.unusedVariables false
set_option maxRecDepth 100000
theorem Ko {w:World} {v0:Value} {ds:List Dm}
  (l0:ds.length≤1048576) (s0:Eg ds) (r0:(DV.sl ds.length (Ai ds)).rel (old w) w v0) (w':World) (hk:Kw w) :
  Calls Tryz.prog 5 #[v0] w fun e w'=>e=.returned (.bool true)∧Below w.heap.size w w' :=
 (Ol s0 l0).walkR w (Dx r0 Qj) hk
set_option maxRecDepth 100000 in
theorem Ir (os:Os) (started:os.Started) (H:Type) (enc:TypeId×Value→H) (Fi:Stop.Interp) :
  ReturnsInHanded {} Tryz.checked os 5 .any ((Rows.OpenSpec.upto Rows.listfunTruthsSpec).preRow enc Tryz.prog Tryz.f5 Rows.listfunTruthsUptoRow.domain false Rows.listfunTruthsUptoRow.laid) (((Rows.OpenSpec.upto Rows.listfunTruthsSpec).at Fi).post enc Tryz.prog Tryz.f5 false true false false):=by
 have hw:(DataW.whole enc Tryz.prog ((World.laidAll Tryz.prog os Rows.listfunTruthsUptoRow.laid).forCall (fun _ _=>0) ⟨#[],#[.slice none 0 0],[]⟩).memory Tryz.f5.params.toList Rows.listfunTruthsSpec.vars false (#[.slice none 0 0]:Array Value).toList 8).map (fun x=>(x.1,x.2.1)) =
   some ([.nil],[]):=by kernel_rfl
 obtain ⟨⟨x1,x2,x3⟩,hx,hx1⟩:=Option.map_eq_some_iff.1 hw
 simp only[Prod.mk.injEq] at hx1
 obtain ⟨rfl,rfl⟩:=hx1
 refine returnsInHanded_of_row (C:=Tryz.checked) (s:=Rows.OpenSpec.upto Rows.listfunTruthsSpec) a9g started (by kernel_rfl) Tryz.func5
  ⟨World.laidAll Tryz.prog os Rows.listfunTruthsUptoRow.laid,fun _ _=>0,⟨#[],#[.slice none 0 0],[]⟩,World.laidAll_os _ _ _,World.shaped_of_ZipB (by kernel_rfl) (by kernel_rfl),rfl,(Input.okWide_of_okWideB (by kernel_rfl)).2,
   OpenSpec.preRow_of_cond 8 hx (by kernel_rfl) (fun k hk=>by cases hk;kernel_rfl) (by kernel_rfl) (by rw[MakeChecks.laidMetH_plain _ _ _ (by kernel_rfl)];exact laidMet_laidAll _ (by kernel_rfl) (by kernel_rfl)),by
    simp only[Assume.holds]
    exact ⟨by simp,by simp,fun _=>Modest.zero,by simp,by simp⟩⟩ ?_
 intro W base args ds gs before hval0 hW hcnd hcond hWt hL hsh _
 show Calls _ _ _ _ fun e W' => ∃ v,e=.returned v∧Rows.listfunTruthsSpec.post enc Tryz.prog Tryz.f5 false true false false W args v W'
 have hval : ∀ (j:Nat) t v,Tryz.f5.params[j]? = some t→args[j]? = some v→Value.okWide Tryz.prog W .any base t v:=hval0
 have hW':=hW
 obtain ⟨p,q,hA0,hV,rfl,hfz,hnd⟩:=hW
 have hA:DataW.TrodAll enc Tryz.prog W 0 (fun _=>true) true Tryz.f5.params.toList args.toList ds p:=hA0
 rw[Tryz.params5] at hA hval
 obtain ⟨v0,vs0,d0,ds0,p0,q0,hargs,rfl,rfl,h0,r0⟩:=trodAll_cons hA
 obtain ⟨rfl,rfl,rfl⟩:=trodAll_nil r0
 obtain rfl:args=#[v0]:=by cases args;simp_all
 obtain ⟨rfl,rfl⟩:=trodVars_none hV
 have lt0 : ∀ x ∈ p0,x.block<W.heap.size:=by obtain ⟨m,hm⟩:=h0;exact DataW.trod_lt m _ _ _ hm
 have z0:Rows.uptoBulk d0≤1048576:=by
  have hb:=of_decide_eq_true (hcond _ rfl)
  simp only[Rows.uptoBulkAll,List.cons_append,List.nil_append] at hb
  omega
 obtain ⟨is0,l0,u0,rl0⟩:=a2u (hval 0 22 v0 rfl rfl) h0 z0
 clear hA0 hval0
 refine (Ko l0 u0 rl0 W (b56 hsh hL (by kernel_rfl))).mono fun e W' ⟨he,bel⟩ => ?_
 subst he
 exact ⟨_,rfl,_,_,_,[],_,[],hW',trodAll_mk1 (shut_bool Tryz.underlying4 _),(trodAll_cons_mk (Below.trod a5t (by kernel_rfl) (of_decide_eq_true (by kernel_rfl)) h0 bel lt0) trodAll_mk0),rfl,bel.frame _,fun h=>by cases h⟩
theorem Ks:Rows.listfunTruthsUptoRow.holds Tryz.pinned (Rows.OpenSpec.upto Rows.listfunTruthsSpec) :=
 OpenClaim.holds_of_cond 5 Tryz.f5 rfl rfl rfl rfl rfl rfl rfl ⟨rfl,rfl,rfl,rfl,rfl⟩ rfl rfl rfl rfl rfl (by kernel_rfl) Tryz.func5 (by kernel_rfl)
  (of_decide_eq_true (by kernel_rfl)) (by unfold Func.isWrapper;first | (rw[if_pos (by decide +kernel)];kernel_rfl) | (rw[if_neg (by decide +kernel)];exact ⟨rfl,rfl⟩))
  (fun os started H enc _ Fi=>by rw[OpenClaim.pre_eq_preRow];exact Ir os started H enc Fi)
theorem holds_ListfunTruthsUpto:Rows.ListfunTruthsUptoCardSaid :=
 Claim7.holds_tied_plain_at .later [] [.data,.data,.data,.data,.sentinel,.sentinel,.pinned] true Rows.listfunTruthsUptoCard.stood.harness true
  Ks (fun _ h=>by cases h) (by kernel_rfl) (fun _ h=>by cases h) listfunTruthsUpto_row_tie rfl ⟨rfl,rfl⟩ (by kernel_rfl) rfl
  (fun f fn hf hfn=>by
   obtain rfl:f=5:=Option.some.inj ((show Tryz.prog.funcNamed "casuist/casuistlaw22.ListfunTruths" = some 5 by kernel_rfl).symm.trans hf) |>.symm
   obtain rfl:fn=Tryz.f5:=(Option.some.inj (Tryz.func5.symm.trans hfn)).symm
   exact ⟨by kernel_rfl,fun j t ht=>by
    rw[Tryz.params5] at ht
    rcases j with _ | j
    ·obtain rfl:22=t:=by simpa using ht
     exact (show Tryz.prog.wantsStandIn 22=false by kernel_rfl)
    ·simp at ht⟩)
  (by kernel_rfl)
end Go.Proofs.YtfkfpkhgoijfdaaGreatDoor
