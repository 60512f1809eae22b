/- Seat 7: MatchLengths: the card, out of the machine's run. Conditions: none but those that each theorem names. -/
import Derived.Test.YtlnijcffanjieaaGreatDoorVmH
import Derived.Test.YtlnijcffanjieaaGreatDoorVmQ
import Derived.Test.YtlnijcffanjieaaGreatDoorVmR
namespace Go.Proofs.YtlnijcffanjieaaGreatDoor.Lengths
set_option maxRecDepth 100000
set_option maxRecDepth 100000
open Go Go.Vm Go.ChangeShapes Go.WideShapes Go.ChangeAt Go.RowKit
theorem contract (H:Type) (enc:TypeId×Value->H) (W:World) (base:Nat) (args:Array Value) (ds gs:List (DataW H)) (before:List MemPlace)
  (hval:∀ (j:Nat) t v,Tryz.f7.params[j]?=some t->args[j]?=some v->Value.okWide Tryz.prog W .any base t v)
  (hW:DataW.Whole enc Tryz.prog Tryz.f7.params.toList Rows.matchLengthsSpec.vars false W args.toList ds gs before)
  (hwt:(DataW.weightsEach Tryz.prog (Tryz.f7.params.toList++(OpenSpec.ofChange Rows.matchLengthsSpec).bare.plain.varTypes Tryz.prog) (ds++gs)).all (·<=reachBytes)=true) (hL:laidMetH Tryz.prog Rows.matchLengthsRow.laid W) :
  Calls Tryz.prog 7 args W fun e W'=>∃ v,e=.returned v/\Rows.matchLengthsSpec.post enc Tryz.prog Tryz.f7 false true false false W args v W':=by
 have hW':=hW;obtain ⟨p,q,hA0,hV,rfl,hfz,hnd⟩:=hW;have hA:DataW.TrodAll enc Tryz.prog W 0 (fun _=>true) true Tryz.f7.params.toList args.toList ds p:=hA0;rw [Tryz.params7] at hA;obtain ⟨v0,vs0,d0,ds0,p0,q0,hargs,rfl,rfl,h0,r0⟩:=trodAll_cons hA;obtain ⟨rfl,rfl,rfl⟩:=trodAll_nil r0;obtain rfl:args=#[v0]:=by cases args;simp_all
 obtain ⟨n,hn⟩:=h0;have hw0:∀ w∈d0.weights Tryz.prog 30,w<=reachBytes:=fun w hw=>by
  have:=zBE.1 hwt w (by
   rw [Tryz.params7];show w∈DataW.weights Tryz.prog 30 d0++_
   exact zAz _ hw)
  simpa using this
 obtain ⟨xs,x1,x2,x3⟩:=zha (S:=S0) closed0 n 30 _ _ (by decide) hn hw0
 obtain ⟨cs,rfl,hsz,_⟩:∃ cs,v0=.agg cs/\cs.size=Tryz.prog.cellsOf 30/\Row.okWide Tryz.prog W .any base 30 cs:=by
  have h25:=hval 0 30 v0 (by rw [Tryz.params7];rfl) rfl
  simp only [Value.okWide,Tryz.underlying30] at h25;exact h25
 have x2':RC (zac W) xs cs.toList:=x2;obtain ⟨k,hk⟩:=zrf n xs x1;refine (zkf mixed numOk primOk hk3 (hk k (zAR _)) (zqr hL) ⟨rfl,fun j y v hy hv=>?_,?_,?_⟩).mono fun e W' ⟨he,hb⟩=>⟨_,he,?_⟩
 ·match j,hy,hv with
  | 0,hy,hv=>cases hy;cases hv;exact zpo x2'
  | j+1,hy,_=>simp at hy
 ·simp [tops,V.top,zjX x2']
 ·intro y hy sz ys e;simp only [zBh] at hy;subst hy;simp
 ·exact zln rfl (show Tryz.f7.resultTypes=#[4] from rfl) Tryz.underlying4 laidOut (by rw [Tryz.params7];intro t ht;simp at ht;subst ht;exact ⟨by kernel_rfl,of_decide_eq_true (by kernel_rfl)⟩) rfl hW' hb
theorem lifted (os:Os) (started:os.Started) (H:Type) (enc:TypeId×Value->H) (F:Stop.Interp) :
  ReturnsInHanded {} Tryz.checked os 7 .any ((OpenSpec.ofChange Rows.matchLengthsSpec).preRow enc Tryz.prog Tryz.f7 Rows.matchLengthsRow.domain false Rows.matchLengthsRow.laid) (((OpenSpec.ofChange Rows.matchLengthsSpec).at F).post enc Tryz.prog Tryz.f7 false true false false):=by
 have hx:∃ places,DataW.whole enc Tryz.prog ((World.doorLaid Tryz.prog 320 os).forCall (fun _ _=>0) ⟨#[],#[.agg #[.int .i64 0,.int .i64 0,.int .u64 0,.int .u64 0,.int .u64 0,.int .u64 0,.string ByteArray.empty,.int .i64 0,.int .i64 0,.slice none 0 0,.slice none 0 0]],[]⟩).memory Tryz.f7.params.toList Rows.matchLengthsSpec.vars false #[Value.agg #[.int .i64 0,.int .i64 0,.int .u64 0,.int .u64 0,.int .u64 0,.int .u64 0,.string ByteArray.empty,.int .i64 0,.int .i64 0,.slice none 0 0,.slice none 0 0]].toList 8=some ([.agg [.agg [.lit (.int .i64 0),.lit (.int .i64 0),.agg [.lit (.int .u64 0),.lit (.int .u64 0),.lit (.int .u64 0),.lit (.int .u64 0)],.lit (.string []),.lit (.int .i64 0),.lit (.int .i64 0),.nil],.nil]],[],places):=⟨[],by kernel_rfl⟩
 obtain ⟨places,hx⟩:=hx;refine returnsInHanded_of_row (C:=Tryz.checked) (s:=OpenSpec.ofChange Rows.matchLengthsSpec) own started (by kernel_rfl) Tryz.func7
  (witness_row_atRef (enc:=enc) (C:=Tryz.checked) false (World.doorLaid Tryz.prog 320 os) #[.agg #[.int .i64 0,.int .i64 0,.int .u64 0,.int .u64 0,.int .u64 0,.int .u64 0,.string ByteArray.empty,.int .i64 0,.int .i64 0,.slice none 0 0,.slice none 0 0]] rfl (by kernel_rfl) (by kernel_rfl) (by kernel_rfl)
   (OpenSpec.preRow_of_cond 8 hx (by kernel_rfl) (fun k hk=>by cases hk) (by kernel_rfl) (zkW os _))) ?_
 intro W base args ds gs before hval hW _ _ hwt hL _ _;exact contract H enc W base args ds gs before hval hW hwt hL
theorem said:Rows.MatchLengthsSaid :=
 OpenClaim.holds_of_cond 7 Tryz.f7 rfl rfl rfl rfl rfl rfl rfl ⟨rfl,rfl,rfl,rfl,rfl⟩ rfl rfl rfl rfl rfl named Tryz.func7 facts
  (of_decide_eq_true (by kernel_rfl)) (by unfold Func.isWrapper;first|(rw [if_pos (by decide +kernel)];kernel_rfl)|(rw [if_neg (by decide +kernel)];exact ⟨rfl,rfl⟩))
  (fun os started H enc _ F=>by rw [OpenClaim.pre_eq_preRow];exact lifted os started H enc F)
theorem plain (f:FuncId) (fn:Func) (hf:Tryz.pinned.checked.prog.funcNamed "bolter/bolterlaw9.MatchLengths"=some f) (hfn:Tryz.pinned.checked.prog.funcs[f]?=some fn) :
  true=Tryz.pinned.checked.prog.looks []/\∀ (j:Nat) t,fn.params[j]?=some t->Tryz.pinned.checked.prog.wantsStandIn t=false:=by
 obtain rfl:f=7:=zA1 ((show Tryz.prog.funcNamed "bolter/bolterlaw9.MatchLengths"=some 7 by kernel_rfl).symm.trans hf) |>.symm
 obtain rfl:fn=Tryz.f7:=(zA1 (Tryz.func7.symm.trans hfn)).symm;refine ⟨by kernel_rfl,fun j t ht=>?_⟩
 rw [Tryz.params7] at ht;obtain rfl:t=30:=by simpa using Array.mem_of_getElem? ht
 exact (show Tryz.prog.wantsStandIn 30=false by kernel_rfl)
theorem card:Rows.MatchLengthsCardSaid :=
 Claim7.holds_tied_plain_at .later [] _ _ _ _ said (fun _ h=>by cases h) (by kernel_rfl) (fun _ h=>by cases h) matchLengths_row_tie rfl ⟨rfl,rfl⟩ (by kernel_rfl) rfl plain (by kernel_rfl)
end Go.Proofs.YtlnijcffanjieaaGreatDoor.Lengths
