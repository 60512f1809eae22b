/- Seat 8: SubsetChecks' argument, read; Seat 8: SubsetChecks runs to true, whatever it is handed; Seat 8: SubsetChecks: the card, out of the machine's run. Conditions: none but those that each theorem names. -/
import Derived.Test.YthohlnmcjkjeiaaGreatDoorVmH
import Derived.Test.YthohlnmcjkjeiaaGreatDoorVmP
import Derived.Test.YthohlnmcjkjeiaaGreatDoorVmZ
namespace Go.Proofs.YthohlnmcjkjeiaaGreatDoor.A2
set_option maxRecDepth 100000
open Go Go.Vm Go.Vm.Sx
theorem c5:Tryz.prog.cellsOf 5=1:=by kernel_rfl
theorem c78:Tryz.prog.cellsOf 78=1:=by kernel_rfl
theorem c58:Tryz.prog.cellsOf 58=1:=by kernel_rfl
theorem c61:Tryz.prog.cellsOf 61=1:=by kernel_rfl
theorem c66:Tryz.prog.cellsOf 66=2:=by kernel_rfl
theorem c74:Tryz.prog.cellsOf 74=2:=by kernel_rfl
theorem b5:Tryz.prog.bytesOf 5=1:=by kernel_rfl
theorem b78:Tryz.prog.bytesOf 78=24:=by kernel_rfl
theorem b66:Tryz.prog.bytesOf 66=48:=by kernel_rfl
theorem mk5 (cs:List V):vt Tryz.prog 5 cs=cs.headD .junk:=by
 have:yL Tryz.prog 5=false:=by kernel_rfl
 simp [vt,this]
theorem zrG (cs:List V):vt Tryz.prog 78 cs=cs.headD .junk:=by
 have:yL Tryz.prog 78=false:=by kernel_rfl
 simp [vt,this]
theorem zrH (cs:List V):vt Tryz.prog 66 cs=.agg cs:=by
 have:yL Tryz.prog 66=true:=by kernel_rfl
 simp [vt,this]
def WB (t:Ints):Prop:=t.2.length<2 ^ 60/\∀ b∈t.2,0<=b/\b<256
theorem zqT {n:Nat} {xs:List V} (h:qD Tryz.prog n 5 xs):∃ z,xs=[be z]/\0<=z/\z<256:=by
 cases n with
 | zero=>exact h.elim
 | succ n =>
  simp only [qD,Tryz.underlying5] at h;obtain ⟨z,h,hw⟩:=h;refine ⟨z,h,?_⟩;have hw':IntKind.u8.min<=z/\z<=IntKind.u8.max:=by simpa [Lit.wf] using hw
  have e1:IntKind.u8.min=0:=by decide
  have e2:IntKind.u8.max=255:=by decide
  rw [e1,e2] at hw';omega
theorem zpH {n:Nat} {xs:List V} (h:qD Tryz.prog n 78 xs):∃ p,xs=[bvV p]/\WB p:=by
 cases n with
 | zero=>exact h.elim
 | succ n =>
  simp only [qD,Tryz.underlying78,c5,b5] at h;rcases h with h|⟨ys,h,⟨_,hl⟩,hy⟩
  ·exact ⟨(true,[]),h,by simp [WB]⟩
  ·obtain ⟨l,h1,h2⟩:=zav (h:=be) (Q:=fun b=>0<=b/\b<256) ys fun y hyy=>by
    obtain ⟨cs,g1,g2⟩:=hy y hyy;obtain ⟨z,g3,g4⟩:=zqT g1;rw [mk5,g3] at g2;exact ⟨z,g2.symm,g4⟩
   subst h1;rw [zAU] at hl;exact ⟨(false,l),h,by have:=reach_le;show l.length<_;omega,h2⟩
theorem zpI {n:Nat} {xs:List V} (h:qD Tryz.prog n 58 xs):∃ p,xs=[tlV p]/\p.2.length<2 ^ 60/\∀ t∈p.2,WB t:=by
 cases n with
 | zero=>exact h.elim
 | succ n =>
  simp only [qD,Tryz.underlying58,c78,b78] at h;rcases h with h|⟨ys,h,⟨_,hl⟩,hy⟩
  ·exact ⟨(true,[]),h,by simp⟩
  ·obtain ⟨l,h1,h2⟩:=zav (h:=bvV) (Q:=WB) ys fun y hyy=>by
    obtain ⟨cs,g1,g2⟩:=hy y hyy;obtain ⟨z,g3,g4⟩:=zpH g1;rw [zrG,g3] at g2;exact ⟨z,g2.symm,g4⟩
   subst h1;rw [zAU] at hl;exact ⟨(false,l),h,by have:=reach_le;show l.length<_;omega,h2⟩
theorem zpJ {n:Nat} {xs:List V} (h:qD Tryz.prog n 66 xs):∃ d,V.agg xs=dcV d/\WD d:=by
 cases n with
 | zero=>exact h.elim
 | succ n =>
  simp only [qD,Tryz.underlying66,c66] at h;obtain ⟨hl,h⟩:=h;have f0:=h ⟨ "Next",28,0,false,"","",0⟩ (by simp)
  have f1:=h ⟨ "Label",27,1,false,"","",24⟩ (by simp)
  simp only [c24,c25] at f0 f1
  match xs,hl with
  | [x,y],_ =>
   obtain ⟨p,hp,wp⟩:=zpn f0;obtain ⟨q,hq,wq⟩:=zkI f1;simp at hp hq;exact ⟨(p,q),by rw [hp,hq];rfl,wp,wq⟩
theorem zpK {n:Nat} {xs:List V} (h:qD Tryz.prog n 61 xs):∃ p,xs=[dlV p]/\p.2.length<2 ^ 60/\∀ d∈p.2,WD d:=by
 cases n with
 | zero=>exact h.elim
 | succ n =>
  simp only [qD,Tryz.underlying61,c66,b66] at h;rcases h with h|⟨ys,h,⟨_,hl⟩,hy⟩
  ·exact ⟨(true,[]),h,by simp⟩
  ·obtain ⟨l,h1,h2⟩:=zav (h:=dcV) (Q:=WD) ys fun y hyy=>by
    obtain ⟨cs,g1,g2⟩:=hy y hyy;rw [zrH] at g2;obtain ⟨d,g3,g4⟩:=zpJ g1;exact ⟨d,by rw [g2,g3],g4⟩
   subst h1;rw [zAU] at hl;exact ⟨(false,l),h,by have:=reach_le;show l.length<_;omega,h2⟩
theorem typed74 {n:Nat} {xs:List V} (h:qD Tryz.prog n 74 xs):∃ r,V.agg xs=rawV r/\WRaw r:=by
 cases n with
 | zero=>exact h.elim
 | succ n =>
  simp only [qD,Tryz.underlying74,c74] at h;obtain ⟨hl,h⟩:=h;have f0:=h ⟨ "L",61,0,false,"","",0⟩ (by simp)
  have f1:=h ⟨ "Texts",58,1,false,"","",24⟩ (by simp)
  simp only [c61,c58] at f0 f1
  match xs,hl with
  | [x,y],_ =>
   obtain ⟨p,hp,lp,wp⟩:=zpK f0;obtain ⟨q,hq,lq,wq⟩:=zpI f1;simp at hp hq;exact ⟨(p,q),by rw [hp,hq];rfl,wp,wq,lp,lq⟩
end Go.Proofs.YthohlnmcjkjeiaaGreatDoor.A2
namespace Go.Proofs.YthohlnmcjkjeiaaGreatDoor
set_option maxRecDepth 100000
open Go Go.Vm Go.RowKit Go.ChangeAt Go.WideShapes
def S0:List TypeId:=[3,5,27,28,58,61,66,74,78]
theorem closed0:S0.all (zc6 Tryz.prog S0)=true:=by kernel_rfl
theorem zqU {g:Gh} {xs:List V} {cs:Array Value} (h:RC g xs cs.toList):RelV g (.agg xs) (.agg cs):=by
 refine .agg (by rw [RC.length h,zAv]) (fun j x hx=>?_) fun j x v hx hv=>?_
 ·obtain ⟨v,_,hg⟩:=h.get j x hx;exact hg.1
 ·obtain ⟨v',hv',hg⟩:=h.get j x hx;rw [zBC,hv] at hv';cases hv';exact hg.2.1
theorem zkT {g:Gh}:∀ {xs:List V} {cs:List Value},RC g xs cs->tops xs=0
 | [],[],_=>rfl
 | x::xs,v::cs,h=>by simp [tops,h.1.2.2.1,zkT h.2]
 | [],_::_,h=>h.elim
 | _::_,[],h=>h.elim
def glC:Gl:={ g:=glx,hk:=hkOf [(26,[],.bool true),(15,[er0,zq9 15],.bool true)] }
theorem hkC:HkOk Tryz.prog glC:=by
 have h0:wi Tryz.prog glx []:=zcf;exact vg (vg h0 fun d H g w cargs lc h1 h2 h3=>zc7 mixed numOk primOk hkE (zqD 0) rfl rfl h1 h2 h3) fun d H g w cargs lc h1 h2 h3=>okW7.pure 26 [] (.bool true) rfl d H g w cargs lc (zq6 h1) h2 h3
instance : NoU glC:=⟨fun _=>rfl,fun _ _ _ _=>rfl⟩
theorem GLC:GL glC where
 top:=top_glx
 no:=fun f hf args=>by
  simp only [List.any_cons,List.any_nil,zBg,zBb] at hf;have h1:Nat.beq f 26=false:=hf.2.2.2.2.2.1;have h2:Nat.beq f 15=false:=hf.2.1;show hkOf _ f args=none;simp only [hkOf,h1,h2]
theorem zrI (n:Nat) (xs:List V) (h:qD Tryz.prog n 74 xs):∃ k,∀ m,k<=m->zk Tryz.prog glC m 7 [.agg xs] ⟨[],[]⟩=some (.ret (.bool true),⟨[],[]⟩):=by
 obtain ⟨r,hr,hw⟩:=A2.typed74 h;rw [hr];exact Sx.Ev.run (xs:=[A2.rawV r]) (A2.ev7 GLC (by kernel_rfl) (Sx.Ev.hook (xs:=[]) rfl rfl) (Sx.Ev.hook (xs:=[A2.er0',A2.fl15]) rfl rfl) r hw) ⟨[],[]⟩
end Go.Proofs.YthohlnmcjkjeiaaGreatDoor
namespace Go.Proofs.YthohlnmcjkjeiaaGreatDoor.SubsetChecks
set_option maxRecDepth 100000
set_option maxRecDepth 100000
open Go Go.Vm Go.ChangeShapes Go.WideShapes Go.ChangeAt Go.RowKit
theorem contract (H:Type) (enc:TypeId×Value->H) (W:World) (base:Nat) (args:Array Value) (ds gs:List (DataW H)) (before:List MemPlace)
  (hval:∀ (j:Nat) t v,Tryz.f7.params[j]?=some t->args[j]?=some v->Value.okWide Tryz.prog W .any base t v)
  (hW:DataW.Whole enc Tryz.prog Tryz.f7.params.toList Rows.subsetChecksSpec.vars false W args.toList ds gs before)
  (hwt:(DataW.weightsEach Tryz.prog (Tryz.f7.params.toList++(OpenSpec.ofChange Rows.subsetChecksSpec).bare.plain.varTypes Tryz.prog) (ds++gs)).all (·<=reachBytes)=true) (hL:laidMetH Tryz.prog Rows.subsetChecksRow.laid W) :
  Calls Tryz.prog 7 args W fun e W'=>∃ v,e=.returned v/\Rows.subsetChecksSpec.post enc Tryz.prog Tryz.f7 false true false false W args v W':=by
 have hW':=hW;obtain ⟨p,q,hA0,hV,rfl,hfz,hnd⟩:=hW;have hA:DataW.TrodAll enc Tryz.prog W 0 (fun _=>true) true Tryz.f7.params.toList args.toList ds p:=hA0;rw [Tryz.params7] at hA;obtain ⟨v0,vs0,d0,ds0,p0,q0,hargs,rfl,rfl,h0,r0⟩:=trodAll_cons hA;obtain ⟨rfl,rfl,rfl⟩:=trodAll_nil r0;obtain rfl:args=#[v0]:=by cases args;simp_all
 obtain ⟨n,hn⟩:=h0;have hw0:∀ w∈d0.weights Tryz.prog 74,w<=reachBytes:=fun w hw=>by
  have:=zBH.1 hwt w (by
   rw [Tryz.params7];show w∈DataW.weights Tryz.prog 74 d0++_
   exact zAx _ hw)
  simpa using this
 obtain ⟨xs,x1,x2,x3⟩:=zhM (S:=S0) closed0 n 74 _ _ (by decide) hn hw0
 obtain ⟨cs,rfl,hsz,_⟩:∃ cs,v0=.agg cs/\cs.size=Tryz.prog.cellsOf 74/\Row.okWide Tryz.prog W .any base 74 cs:=by
  have h25:=hval 0 74 v0 (by rw [Tryz.params7];rfl) rfl
  simp only [Value.okWide,Tryz.underlying74] at h25;exact h25
 have x2':RC (yK W) xs cs.toList:=x2;obtain ⟨k,hk⟩:=zrI n xs x1;refine (zla mixed numOk primOk hkC (hk k (zAO _)) (zra hL) ⟨rfl,fun j y v hy hv=>?_,?_,?_⟩).mono fun e W' ⟨he,hb⟩=>⟨_,he,?_⟩
 ·match j,hy,hv with
  | 0,hy,hv=>cases hy;cases hv;exact zqU x2'
  | j+1,hy,_=>simp at hy
 ·simp [tops,V.top,zkT x2']
 ·intro y hy sz ys e;simp only [zAp] at hy;subst hy;simp
 ·exact zmq rfl (show Tryz.f7.resultTypes=#[4] from rfl) Tryz.underlying4 laidOut (by rw [Tryz.params7];intro t ht;simp at ht;subst ht;exact ⟨by kernel_rfl,of_decide_eq_true (by kernel_rfl)⟩) rfl hW' hb
theorem lifted (os:Os) (started:os.Started) (H:Type) (enc:TypeId×Value->H) (F:Stop.Interp) :
  ReturnsInHanded {} Tryz.checked os 7 .any ((OpenSpec.ofChange Rows.subsetChecksSpec).preRow enc Tryz.prog Tryz.f7 Rows.subsetChecksRow.domain false Rows.subsetChecksRow.laid) (((OpenSpec.ofChange Rows.subsetChecksSpec).at F).post enc Tryz.prog Tryz.f7 false true false false):=by
 have hx:∃ places,DataW.whole enc Tryz.prog ((World.doorLaid Tryz.prog 320 os).forCall (fun _ _=>0) ⟨#[],#[.agg #[.slice none 0 0,.slice none 0 0]],[]⟩).memory Tryz.f7.params.toList Rows.subsetChecksSpec.vars false #[Value.agg #[.slice none 0 0,.slice none 0 0]].toList 8=some ([.agg [.nil,.nil]],[],places):=⟨[],by kernel_rfl⟩
 obtain ⟨places,hx⟩:=hx;refine returnsInHanded_of_row (C:=Tryz.checked) (s:=OpenSpec.ofChange Rows.subsetChecksSpec) own started (by kernel_rfl) Tryz.func7
  (witness_row_atRef (enc:=enc) (C:=Tryz.checked) false (World.doorLaid Tryz.prog 320 os) #[.agg #[.slice none 0 0,.slice none 0 0]] rfl (by kernel_rfl) (by kernel_rfl) (by kernel_rfl)
   (OpenSpec.preRow_of_cond 8 hx (by kernel_rfl) (fun k hk=>by cases hk) (by kernel_rfl) (zlJ os _))) ?_
 intro W base args ds gs before hval hW _ _ hwt hL _ _;exact contract H enc W base args ds gs before hval hW hwt hL
theorem said:Rows.SubsetChecksSaid :=
 OpenClaim.holds_of_cond 7 Tryz.f7 rfl rfl rfl rfl rfl rfl rfl ⟨rfl,rfl,rfl,rfl,rfl⟩ rfl rfl rfl rfl rfl named Tryz.func7 facts
  (of_decide_eq_true (by kernel_rfl)) (by unfold Func.isWrapper;first|(rw [if_pos (by decide +kernel)];kernel_rfl)|(rw [if_neg (by decide +kernel)];exact ⟨rfl,rfl⟩))
  (fun os started H enc _ F=>by rw [OpenClaim.pre_eq_preRow];exact lifted os started H enc F)
theorem plain (f:FuncId) (fn:Func) (hf:Tryz.pinned.checked.prog.funcNamed "bolter/bolterlaw11.SubsetChecks"=some f) (hfn:Tryz.pinned.checked.prog.funcs[f]?=some fn) :
  true=Tryz.pinned.checked.prog.looks []/\∀ (j:Nat) t,fn.params[j]?=some t->Tryz.pinned.checked.prog.wantsStandIn t=false:=by
 obtain rfl:f=7:=zAr ((show Tryz.prog.funcNamed "bolter/bolterlaw11.SubsetChecks"=some 7 by kernel_rfl).symm.trans hf) |>.symm
 obtain rfl:fn=Tryz.f7:=(zAr (Tryz.func7.symm.trans hfn)).symm;refine ⟨by kernel_rfl,fun j t ht=>?_⟩
 rw [Tryz.params7] at ht;obtain rfl:t=74:=by simpa using Array.mem_of_getElem? ht
 exact (show Tryz.prog.wantsStandIn 74=false by kernel_rfl)
theorem card:Rows.SubsetChecksCardSaid :=
 Claim7.holds_tied_plain_at .later [] _ _ _ _ said (fun _ h=>by cases h) (by kernel_rfl) (fun _ h=>by cases h) subsetChecks_row_tie rfl ⟨rfl,rfl⟩ (by kernel_rfl) rfl plain (by kernel_rfl)
end Go.Proofs.YthohlnmcjkjeiaaGreatDoor.SubsetChecks
