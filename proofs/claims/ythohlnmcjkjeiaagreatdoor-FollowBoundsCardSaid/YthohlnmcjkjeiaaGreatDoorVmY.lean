/- Seat 8: FollowBounds: the card, out of the machine's run. Conditions: none but those named. -/
import Derived.Test.YthohlnmcjkjeiaaGreatDoorVmH
import Derived.Test.YthohlnmcjkjeiaaGreatDoorVmX
set_option linter.defProp false
namespace Go.Proofs.YthohlnmcjkjeiaaGreatDoor.FollowBounds
open Go.Proofs.Tryz
set_option maxRecDepth 100000
set_option maxRecDepth 100000
open Go Go.Vm Go.ChangeShapes Go.WideShapes Go.ChangeAt Go.RowKit
theorem contract(H:Type)(enc:aq×aS->H)(W:aK)(_base:Nat)(args:dI)(ds gs:List (DataW H))(before:List MemPlace)
  (hW:DataW.Whole enc prog f4.params.toList Rows.followBoundsSpec.vars false W args.toList ds gs before) (hL:laidMetH prog Rows.followBoundsRow.laid W) :
  Calls prog 4 args W λe W'=>∃v,e=.returned v/\Rows.followBoundsSpec.post enc prog f4 false true false false W args v W':=by
 have UJ:=hW;obtain⟨p,q,hA0,hV,rfl,hfz,uX⟩:=hW;have hA:DataW.TrodAll enc prog W 0 (λ_=>true) true f4.params.toList args.toList ds p:=hA0;rw[params4] at hA;obtain⟨gO,rfl,rfl⟩:=trodAll_nil hA;obtain rfl:args=#[]:=by cases args;simp_all
 obtain⟨k,H1,hk⟩:=ac2;refine(zmJ mixed nZ lM hkF hk (ztb hL) ⟨rfl,λj y v hy hv=>(by simp at hy),ek _,λy hy=>(by simp at hy)⟩).mono λe W' ⟨he,hb⟩=>⟨_,he,?_⟩
 exact zn3 rfl (show f4.resultTypes=#[4] from rfl) underlying4 laidOut (by rw[params4];intro t ht;simp at ht) rfl UJ hb
theorem lifted(os:Os)(started:os.Started)(H:Type)(enc:aq×aS->H)(F:Stop.Interp) :
  ReturnsInHanded {} Tryz.checked os 4 .any ((OpenSpec.ofChange Rows.followBoundsSpec).preRow enc prog f4 Rows.followBoundsRow.domain false Rows.followBoundsRow.laid) (((OpenSpec.ofChange Rows.followBoundsSpec).at F).post enc prog f4 false true false false):=by
 have hx:∃places,DataW.whole enc prog ((World.doorLaid prog 320 os).forCall (λ_ _=>0) ⟨#[],#[],[]⟩).memory f4.params.toList Rows.followBoundsSpec.vars false #[].toList 8=some ([],[],places):=⟨[],by kernel_rfl⟩
 obtain⟨places,hx⟩:=hx;refine returnsInHanded_of_row (C:=Tryz.checked) (s:=OpenSpec.ofChange Rows.followBoundsSpec) own started (by kernel_rfl) func4
  (witness_row_atRef (enc:=enc) (C:=Tryz.checked) false (World.doorLaid prog 320 os) #[] rfl (by kernel_rfl) (by kernel_rfl) (by kernel_rfl)
   (OpenSpec.preRow_of_cond 8 hx (by kernel_rfl) (λk hk=>by cases hk) (by kernel_rfl) (znD os _))) ?_
 intro W base args ds gs before uB hW _ _ Mo hL _ _;exact contract H enc W base args ds gs before hW hL
theorem said:Rows.FollowBoundsSaid :=
 OpenClaim.holds_of_cond 4 f4 rfl rfl rfl rfl rfl rfl rfl ⟨rfl,rfl,rfl,rfl,rfl⟩ rfl rfl rfl rfl rfl named func4 facts
  (of_decide_eq_true (by kernel_rfl)) (by unfold Func.isWrapper;first|(rw[if_pos (by decide +kernel)];kernel_rfl)|(rw[if_neg (by decide +kernel)];exact⟨rfl,rfl⟩))
  (λos started H enc _ F=>by rw[OpenClaim.pre_eq_preRow];exact lifted os started H enc F)
theorem plain(f:FuncId)(fn:Func)(hf:Tryz.pinned.checked.prog.funcNamed "bolter/bolterlaw10.FollowBounds"=some f) (p9:Tryz.pinned.checked.prog.funcs[f]?=some fn) :
  true=Tryz.pinned.checked.prog.looks []/\∀(j:Nat) t,fn.params[j]?=some t->Tryz.pinned.checked.prog.wantsStandIn t=false:=by
 obtain rfl:f=4:=ur ((show prog.funcNamed "bolter/bolterlaw10.FollowBounds"=some 4 by kernel_rfl).symm.trans hf) |>.symm
 obtain rfl:fn=f4:=(ur (func4.symm.trans p9)).symm;refine⟨by kernel_rfl,λj t ht=>?_⟩
 rw[params4] at ht;simp at ht
theorem card:Rows.FollowBoundsCardSaid :=
 Claim7.holds_tied_plain_at .later [] _ _ _ _ said (λ_ h=>by cases h) (by kernel_rfl) (λ_ h=>by cases h) followBounds_row_tie rfl ⟨rfl,rfl⟩ (by kernel_rfl) rfl plain (by kernel_rfl)
end Go.Proofs.YthohlnmcjkjeiaaGreatDoor.FollowBounds
