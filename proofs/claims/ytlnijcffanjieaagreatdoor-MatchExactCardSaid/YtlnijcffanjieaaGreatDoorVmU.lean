/- The card. Conditions: none but those named. -/
import Derived.Test.YtlnijcffanjieaaGreatDoorVmH
import Derived.Test.YtlnijcffanjieaaGreatDoorVmT
namespace Go.Proofs.YtlnijcffanjieaaGreatDoor.Exact
open Go.Proofs.Tryz
set_option maxRecDepth 100000
set_option linter.ambiguousOpen false
open Rows Go Go.Vm Go.ChangeShapes Go.WideShapes Go.ChangeAt Go.RowKit
abbrev wA:Array Value:=#[.agg #[.int .i64 0,.int .i64 0,.int .u64 0,.int .u64 0,.int .u64 0,.int .u64 0,.string ByteArray.empty,.int .i64 0,.int .i64 0,.slice none 0 0,.slice none 0 0]]
theorem lifted(os:Os)(sd:os.Started)(H:Type)(enc:ai×aP->H)(F:Stop.Interp) :
  ReturnsInHanded {} Tryz.checked os 8 .any ((OpenSpec.ofChange matchExactSpec).preRow enc prog f8 matchExactRow.domain false matchExactRow.laid) (((OpenSpec.ofChange matchExactSpec).at F).post enc prog f8 false true false false):=by
 have hx:∃pl,DataW.whole enc prog ((World.doorLaid prog 320 os).forCall (λ_ _=>0) ⟨#[],wA,[]⟩).memory f8.params.toList matchExactSpec.vars false wA.toList 8=some ([.agg [.agg [.lit (.int .i64 0),.lit (.int .i64 0),.agg [.lit (.int .u64 0),.lit (.int .u64 0),.lit (.int .u64 0),.lit (.int .u64 0)],.lit (.string []),.lit (.int .i64 0),.lit (.int .i64 0),.nil],.nil]],[],pl):=⟨[],by kernel_rfl⟩
 obtain⟨pl,hx⟩:=hx;refine returnsInHanded_of_row (C:=Tryz.checked) (s:=OpenSpec.ofChange matchExactSpec) own sd (by kernel_rfl) func8
  (witness_row_atRef (enc:=enc) (C:=Tryz.checked) false (World.doorLaid prog 320 os) wA rfl (by kernel_rfl) (by kernel_rfl) (by kernel_rfl)
   (OpenSpec.preRow_of_cond 8 hx (by kernel_rfl) (λk hk=>by cases hk) (by kernel_rfl) (zmi os _))) ?_
 intro W bs args ds gs bf sy hW _ _ CS hL _ _
 have hW:DataW.Whole enc prog f8.params.toList matchExactSpec.vars false W args.toList ds gs bf:=hW;have VS:=hW;obtain⟨p,q,hA0,hV,rfl,hfz,DU⟩:=hW;have hA:DataW.TrodAll enc prog W 0 (λ_=>true) true f8.params.toList args.toList ds p:=hA0;rw[params8] at hA;obtain⟨v0,vs0,d0,ds0,p0,q0,de,rfl,rfl,h0,r0⟩:=trodAll_cons hA;obtain⟨rfl,rfl,rfl⟩:=trodAll_nil r0;obtain rfl:args=#[v0]:=by cases args;simp_all
 obtain⟨n,hn⟩:=h0;have Y3:∀w∈d0.weights prog 30,w<=reachBytes:=λw hw=>by
  have:=Cf.1 CS w (by
   rw[params8];show w∈DataW.weights prog 30 d0++_
   exact DI _ hw)
  simpa using this
 obtain⟨xs,x1,x2,x3⟩:=zh2 (S:=S0) Ma n 30 _ _ (by decide) hn Y3
 obtain⟨cs,rfl,fR,_⟩:∃cs,v0=.agg cs/\cs.size=prog.cellsOf 30/\Row.okWide prog W .any bs 30 cs:=by
  have h25:=sy 0 30 v0 (by rw[params8];rfl) rfl
  simp only[Value.okWide] at h25;exact h25
 have x2':RC (xR W) xs cs.toList:=x2;obtain⟨k,H1,hk⟩:=zsX n xs x1;refine(zlt mixed gT ff hk8 hk (zsY hL) ⟨rfl,λj y v hy hv=>?_,?_,?_⟩).mono λe W' ⟨he,hb⟩=>⟨_,he,?_⟩
 ·match j,hy,hv with
  | 0,hy,hv=>cases hy;cases hv;exact zrC x2'
  | j+1,hy,_=>simp at hy
 ·simp[aA,V.top,zlc x2']
 ·intro y hy sz ys e;simp only[HM] at hy;subst hy;simp
 ·exact zmH rfl (show f8.resultTypes=#[4] from rfl) underlying4 laidOut (by rw[params8];intro t ht;simp at ht;subst ht;exact⟨by kernel_rfl,of_decide_eq_true (by kernel_rfl)⟩) rfl VS hb
theorem said:Rows.MatchExactSaid :=
 OpenClaim.holds_of_cond 8 f8 rfl rfl rfl rfl rfl rfl rfl ⟨rfl,rfl,rfl,rfl,rfl⟩ rfl rfl rfl rfl rfl named func8 facts
  (of_decide_eq_true (by kernel_rfl)) (by unfold Func.isWrapper;first|(rw[if_pos (by decide +kernel)];kernel_rfl)|(rw[if_neg (by decide +kernel)];exact⟨rfl,rfl⟩))
  (λos sd H enc _ F=>by rw[OpenClaim.pre_eq_preRow];exact lifted os sd H enc F)
theorem plain(f:FuncId)(fn:Func)(hf:Tryz.pinned.checked.prog.funcNamed "bolter/bolterlaw9.MatchExact"=some f) (su:Tryz.pinned.checked.prog.funcs[f]?=some fn) :
  true=Tryz.pinned.checked.prog.looks []/\∀(j:Nat) t,fn.params[j]?=some t->Tryz.pinned.checked.prog.wantsStandIn t=false:=by
 obtain rfl:f=8:=tU ((show prog.funcNamed "bolter/bolterlaw9.MatchExact"=some 8 by kernel_rfl).symm.trans hf) |>.symm
 obtain rfl:fn=f8:=(tU (func8.symm.trans su)).symm;refine⟨by kernel_rfl,λj t ht=>?_⟩
 rw[params8] at ht;obtain rfl:t=30:=by simpa using Array.mem_of_getElem? ht
 exact(show prog.wantsStandIn 30=false by kernel_rfl)
theorem card:Rows.MatchExactCardSaid :=
 Claim7.holds_tied_plain_at .later [] _ _ _ _ said (λ_ h=>by cases h) (by kernel_rfl) (λ_ h=>by cases h) matchExact_row_tie rfl ⟨rfl,rfl⟩ (by kernel_rfl) rfl plain (by kernel_rfl)
end Go.Proofs.YtlnijcffanjieaaGreatDoor.Exact
