/- Seat 7: slices.Sorted of slices.Values: what it hands back. Conditions: none but those that each theorem names. -/
import Derived.Maps.AppendAt
import Derived.RangeFuncGives
import Derived.Sort.OwnSortedInts
import Derived.Test.YtlnijcffanjieaaGreatDoorVmD
import Derived.Test.YtlnijcffanjieaaGreatDoorVmK
namespace Go.Proofs.YtlnijcffanjieaaGreatDoor
open Go Go.Vm Go.RowKit Go.Maps Go.Sort Go.Shelf
attribute [local go_sem] Oper.semAt_some
noncomputable def apc:Code:=c1 (c2 (c1 (c2 (Tryz.f100.body.getD .skip))))
noncomputable def apAssign:Code:=c1 apc
noncomputable def apBody:Code:=c2 apc
noncomputable def zaE (fn:FuncId) (sv:Value) (Bs D:Nat) (st:LoopState) (pend:Option Code):Loop :=
 {state:=st,pending:=pend,fn,tmps:=#[.slice none 0 0,sv,.pointer (some ⟨Bs,0,none⟩),undef,.slice none 0 0,undef,sv,undef,undef,undef,undef,undef,undef],params:=#[7],assign:=apAssign,body:=apBody,defers:=D }
structure ApAt (w0:World) (fn:FuncId) (sv:Value) (Bs l D:Nat) (ss:List Int) (W:World):Prop where
 box:∃ v,W.heap[Bs]?=some (.cells #[v] 36 (0,0))/\W.ownsRow w0.heap.size 3 1 v ss.length (ss.map (Value.int .i64))/\(v=.slice none 0 0 ↔ ss=[])
 L:W.heap[l]?=some (.loop (zaE fn sv Bs D .ready none))
 K:W.heap[D]?=some (.deferred (some []))
 below:Below w0.heap.size w0 W
theorem j7 (W:World) (l:Nat) (o:Obj):W.grownBy (W.putObj l o) (some l) :=
 ⟨rfl,rfl,rfl,by simp,fun k _ hk=>World.putObj_heap_other (fun e=>hk (by rw [e]))⟩
theorem zcB (W:World) (b:Nat) (v:Value):W.grownBy (W.setCell ⟨b,0,none⟩ v) (some b) :=
 ⟨rfl,rfl,rfl,(KeepsWalks.setCell W _ v).size,fun k _ hk=>Below.heap_setCell _ _ _ k (fun e=>hk (by rw [e]))⟩
theorem vf {W:World} {base:Nat} {e:TypeId} {size:Nat} {v:Value} {k:Nat} {xs:List Value} (h:W.ownsRow base e size v k xs) {j:Nat} {o:Obj} (hj:W.heap[j]?=some o) (hno:∀ cur,o≠.cells cur e (0,0)) :
  v.ownBlock=none\/v.ownBlock≠some j:=by
 rcases h.2 with ⟨rfl,_⟩|⟨g,cap,cur,rfl,_,hgb,_⟩
 ·exact .inl rfl
 ·refine .inr fun e'=>?_;have:g=j:=by simpa [Value.ownBlock] using e'
  subst this;rw [hgb] at hj;cases hj;exact hno cur rfl
theorem zaF {W:World} {B:Nat} {v:Value} {t:TypeId} (h:W.heap[B]?=some (.cells #[v] t (0,0))):W.cell? ⟨B,0,none⟩=some v/\W.frozen? ⟨B,0,none⟩=false:=by
 constructor<;>simp [World.cell?,World.frozen?,h]
theorem zcC {W:World} {B:Nat} {v:Value} {t:TypeId} (v':Value) (h:W.heap[B]?=some (.cells #[v] t (0,0))):(W.setCell ⟨B,0,none⟩ v').heap[B]?=some (.cells #[v'] t (0,0)):=by
 obtain ⟨hlt,hk⟩:=zAZ.1 h;show (W.heap.modify B _)[B]?=_;rw [zA1 (by rw [Array.size_modify];exact hlt),Array.getElem_modify_self,hk]
 rfl
theorem zcD {W:World} {base:Nat} {e:TypeId} {size:Nat} {v:Value} {k:Nat} {xs:List Value} (h:W.ownsRow base e size v k xs):∀ (j:Nat) (o:Obj),v.ownBlock=some j->W.heap[j]?=some o->o.isWalk=false:=by
 intro j o hj ho;rcases h.2 with ⟨rfl,_⟩|⟨g,cap,cur,rfl,_,hgb,_⟩
 ·simp [Value.ownBlock] at hj
 ·have:g=j:=by simpa [Value.ownBlock] using hj
  subst this;rw [hgb] at ho;cases ho;rfl
theorem i3f:(Tryz.prog.info? 3).map (fun i=>(i.zero,i.size,i.bytes))=some (some (.int .i64 0),1,8):=by kernel_rfl
set_option maxRecDepth 100000 in
set_option maxHeartbeats 2000000 in
theorem zoy (F:Fence) (m:Nat) (w0:World) (fn:FuncId) (hfn:F.fn fn) (sv:Value) (Bs l D:Nat) (hBl:Bs≠l) (hDl:D≠l) (hDB:D≠Bs) (h0B:w0.heap.size<=Bs) (h0l:w0.heap.size<=l)
    (N:Nat) (hN:N<=maxLen) (hNb:N * 8<=140737488355328) (ss:List Int) (x:Int) (W:World) (h:ApAt w0 fn sv Bs l D ss W) (hlen:ss.length<N) :
    YieldAt F m Tryz.prog l #[Value.int .i64 x] W fun e W'=>e=.returned (.bool true)/\ApAt w0 fn sv Bs l D (ss++[x]) W'/\KeepsWalks W W':=by
  obtain ⟨i0,hi,hz0,hz1,hz2⟩:=info_parts i3f;obtain ⟨v,hv,hrow,_⟩:=h.box;refine ⟨fn,#[.slice none 0 0,sv,.pointer (some ⟨Bs,0,none⟩),undef,.slice none 0 0,undef,sv,Value.int .i64 x,undef,undef,undef,undef,undef],apAssign,apBody,by simpa [zaE] using run_yield (P:=Tryz.prog) (args:=#[Value.int .i64 x]) h.L rfl,roundIn_of_wpIn hfn ?_⟩
  have hl:l<W.heap.size:=(zAZ.1 h.L).1;have hbr:=run_beginRound (P:=Tryz.prog) h.L rfl;obtain ⟨W2,hW2⟩:∃ W2,W.putObj l (.loop { zaE fn sv Bs D .ready none with state:=.busy })=W2:=⟨_,rfl⟩;rw [hW2] at hbr;have hg2:W.grownBy W2 (some l):=by rw [<- hW2];exact j7 _ _ _
  have hk2:KeepsWalks W W2:=by rw [<- hW2];exact KeepsWalks.putObj _ h.L rfl
  have hv2:W2.heap[Bs]?=some (.cells #[v] 36 (0,0)):=by rw [<- hW2];exact (World.putObj_heap_other hBl).trans hv
  have hK2:W2.heap[D]?=some (.deferred (some [])):=by rw [<- hW2];exact (World.putObj_heap_other hDl).trans h.K
  have hL2:W2.heap[l]?=some (.loop { zaE fn sv Bs D .ready none with state:=.busy }):=by rw [<- hW2];exact World.putObj_heap_same hl
  have hrow2:W2.ownsRow w0.heap.size 3 1 v ss.length (ss.map (Value.int .i64)):=hrow.kept hg2 (vf hrow h.L (fun cur e=>by cases e))
  have hb2:Below w0.heap.size w0 W2:=h.below.grown hg2 h.below.size (fun k e=>by cases e;exact h0l)
  obtain ⟨hc2,hf2⟩:=zaF hv2;have hBlt:Bs<W2.heap.size:=(zAZ.1 hv2).1;have hl2:l<W2.heap.size:=(zAZ.1 hL2).1;have hDlt:D<W2.heap.size:=(zAZ.1 hK2).1;have ne_of:∀ {j:Nat} {o:Obj},W2.heap[j]?=some o->(∀ cur,o≠.cells cur 3 (0,0))->some j≠v.ownBlock:=fun hj hno=>by
    rcases vf hrow2 hj hno with e|e
    · rw [e];simp
    · exact fun e'=>e e'.symm
  clear hW2;simp only [apAssign,apc,Tryz.f100,zAy,c1,c2]
  gi_wp2_with (rw [Oper.semAt_eq _ _ _ (fun c h=>by cases h)];go_simp;try go_bits)
  simp only [apBody,apc,Tryz.f100,zAy,c1,c2]
  gi_wp2_with (first
    | (gi_at_builtin;refine wpListIn_append_own _ rfl _ _ 36 rfl w0.heap.size 3 i0 (.int .i64 0) 1 8 Tryz.underlying36 hi hz0 hz1 hz2 rfl (by decide) _ _ _ rfl (hrow2.alloc _) ⟨W2.heap.size,0,none⟩ 1 1 [Value.int .i64 x] rfl rfl (cell_one_new _ _ _) (by simp [Value.oneCell']) (by omega) (by omega) (by have:=hb2.size;simp;omega) ?_;intro v' w3 hown' hg3 hnil3
       have hv3:w3.heap[Bs]?=some (.cells #[v] 36 (0,0)):=(hg3.block Bs (by simp;omega) (ne_of hv2 (fun cur e=>by cases e))).trans ((Below.heap_alloc _ _ Bs hBlt).trans hv2)
       obtain ⟨hc3,hf3⟩:=zaF hv3;obtain ⟨g',cap',cur',rfl,hbase',hgb',hr1,hr2,hr3,hr4⟩:∃ g' cap' cur',v'=.slice (some ⟨g',0,none⟩) (ss.length+1) cap'/\w0.heap.size<=g'/\w3.heap[g']?=some (.cells cur' 3 (0,0))/\ss.length+1<=cap'/\cap'<=maxLen/\cur'.size=cap' * 1/\cur'.toList.take ((ss.length+1) * 1)=ss.map (Value.int .i64)++[Value.int .i64 x]:=by
         rcases hown'.2 with ⟨_,h0⟩|h'
         · exact absurd h0 (by omega)
         · exact h'
       simp only [Act.put,List.setIfInBounds_toArray,zAH,zAG])
    | (rw [Oper.semAt_eq _ _ _ (fun c h=>by cases h)];go_simp;try go_bits))
  have hg3':(W2.alloc (.cells #[Value.int .i64 x] 3)).grownBy w3 v.ownBlock:=hg3;have hL3:w3.heap[l]?=some (.loop { zaE fn sv Bs D .ready none with state:=.busy }):=(hg3'.block l (by simp;omega) (ne_of hL2 (fun cur e=>by cases e))).trans ((Below.heap_alloc _ _ l hl2).trans hL2)
  have hK3:w3.heap[D]?=some (.deferred (some [])):=(hg3'.block D (by simp;omega) (ne_of hK2 (fun cur e=>by cases e))).trans ((Below.heap_alloc _ _ D hDlt).trans hK2)
  obtain ⟨w4,hw4⟩:∃ w4,w3.setCell ⟨Bs,0,none⟩ (.slice (some ⟨g',0,none⟩) (ss.length+1) cap')=w4:=⟨_,rfl⟩;rw [hw4];have hg4:w3.grownBy w4 (some Bs):=by rw [<- hw4];exact zcB _ _ _
  have hv4:w4.heap[Bs]?=some (.cells #[.slice (some ⟨g',0,none⟩) (ss.length+1) cap'] 36 (0,0)):=by rw [<- hw4];exact zcC _ hv3
  have hL4:w4.heap[l]?=some (.loop { zaE fn sv Bs D .ready none with state:=.busy }):=(hg4.block l (zAZ.1 hL3).1 (fun e=>hBl (by cases e;rfl))).trans hL3
  have hK4:w4.heap[D]?=some (.deferred (some [])):=(hg4.block D (zAZ.1 hK3).1 (fun e=>hDB (by cases e;rfl))).trans hK3
  have hrow4:=hown'.kept hg4 (vf hown' hv3 (fun cur e=>by cases e))
  have hl4:l<w4.heap.size:=(zAZ.1 hL4).1;have hb3:Below w0.heap.size w0 w3:=(hb2.alloc hb2.size _).grown hg3' (by have:=hb2.size;simp;omega) (fun k e=>(hrow2.lt k e).1)
  have hb4:Below w0.heap.size w0 w4:=hb3.grown hg4 hb3.size (fun k e=>by cases e;exact h0B)
  have hk4:KeepsWalks W w4:=((hk2.trans (KeepsWalks.alloc _ _)).trans (KeepsWalks.of_grownBy hg3' (zcD (hrow2.alloc _)))).trans (by rw [<- hw4];exact KeepsWalks.setCell _ _ _)
  clear hw4;refine ⟨_,_,run_endRound none hL4,rfl,⟨⟨_,(World.putObj_heap_other hBl).trans hv4,?_,by simp⟩,World.putObj_heap_same hl4,(World.putObj_heap_other hDl).trans hK4,hb4.grown (j7 _ _ _) hb4.size (fun k e=>by cases e;exact h0l)⟩,hk4.trans (KeepsWalks.putObj _ hL4 rfl)⟩
  have:=hrow4.kept (j7 w4 l (.loop { { zaE fn sv Bs D .ready none with state:=.busy } with state:=if (none:Option Code).isNone then .ready else .done,pending:=none })) (vf hrow4 hL4 (fun cur e=>by cases e))
  simpa using this
set_option maxRecDepth 100000 in
set_option maxHeartbeats 2000000 in
theorem zeu {n:Nat} (hn:n=3) (lb:Array Value) (zs:List Int) (w:World) (C:Addr->Value->Prop) (f:Nat->Value) (hf:∀ j,j<zs.length->f j=.int .i64 (zs.getD j 0)) (hC:∀ ad v,C ad v->ad.block<w.heap.size) (hN:zs.length<=maxLen) (hNb:zs.length * 8<=140737488355328)
    (hseq:zkJ Tryz.prog 73 lb (zab false false 1 zs.length f) zs.length (KpC C) w) :
    CallsIn Fence.wide n Tryz.prog 100 #[.slice none 0 0,.func (.func 73) #[] lb] w fun e w'=>∃ v,e=.returned v/\w'.ownsRow w.heap.size 3 1 v zs.length (zs.map (Value.int .i64))/\(v=.slice none 0 0 ↔ zs=[])/\Below w.heap.size w w':=by
  subst hn;have hro:Fence.wide.round=none:=rfl;refine callsIn_of_wp_marks Tryz.func100 rfl trivial ?_ hro;simp only [Tryz.ntmps100,zBU,zAT,List.length_nil,Nat.reduceAdd,Nat.reduceSub,Array.replicate_succ,zBm,List.push_toArray,List.append_toArray,zAV,zAY]
  gi_wp2
  refine wpIn_rangeFunc ?_;intro fn hfn;rw [hro];obtain ⟨W0,hW0⟩:∃ W0,w.alloc (.cells #[.slice none 0 0] 36)=W0:=⟨_,rfl⟩;have hs0:W0.heap.size=w.heap.size+1:=by rw [<- hW0];simp
  have hv0:W0.heap[w.heap.size]?=some (.cells #[.slice none 0 0] 36 (0,0)):=by rw [<- hW0];exact World.alloc_heap_new w _
  have hb0:Below w.heap.size w W0:=by rw [<- hW0];exact (Below.refl _ w).alloc (zAR _) _
  rw [hW0];obtain ⟨W1,hW1⟩:∃ W1,(W0.alloc (.deferred (some []))).alloc (.loop (zaE fn (.func (.func 73) #[] lb) w.heap.size W0.heap.size .ready none))=W1:=⟨_,rfl⟩;have hold:∀ k,k<W0.heap.size->W1.heap[k]?=W0.heap[k]?:=fun k hk=>by
    rw [<- hW1];exact (Below.heap_alloc _ _ k (by simp;omega)).trans (Below.heap_alloc _ _ k hk)
  have hb1:Below w.heap.size w W1:=by rw [<- hW1];exact (hb0.alloc hb0.size _).alloc (by have:=hb0.size;simp;omega) _
  have hs1:W1.heap.size=W0.heap.size+2:=by rw [<- hW1];simp
  have hM:ApAt w fn (.func (.func 73) #[] lb) w.heap.size (W0.heap.size+1) W0.heap.size [] W1 :=
    ⟨⟨_,(hold w.heap.size (by omega)).trans hv0,⟨rfl,.inl ⟨rfl,rfl⟩⟩,by simp⟩,
     by rw [<- hW1];have:=World.alloc_heap_new (W0.alloc (.deferred (some []))) (.loop (zaE fn (.func (.func 73) #[] lb) w.heap.size W0.heap.size .ready none));rwa [World.size_alloc] at this,
     by rw [<- hW1];exact (Below.heap_alloc _ _ _ (by simp)).trans (World.alloc_heap_new W0 _),hb1⟩
  refine ⟨W0.heap.size+1,[{ target:=.collected W0.heap.size,args:=#[] }],W1,{ target:=.fn (.func 73) lb,args:=#[.func (.yield (W0.heap.size+1)) #[] #[]] },W1,73,
    #[.func (.yield (W0.heap.size+1)) #[] #[]]++lb,W1,?_,?_,?_,?_,fun _=>(by decide),?_⟩
  · rw [<- hW1];exact run_enterLoop_outer _ _ _ _ _
  · simp [resolve,go_sem]
  · intro f' _;trivial
  · simp [invoke,go_sem,zek Tryz.func73 rfl (by kernel_rfl)]
  · have hz:∀ k,k<zs.length->zs.take (k+1)=zs.take k++[zs.getD k 0]:=fun k hk=>by
      rw [List.take_succ_eq_append_getElem hk];simp [hk]
    refine (hseq (W0.heap.size+1) (fun k W=>ApAt w fn (.func (.func 73) #[] lb) w.heap.size (W0.heap.size+1) W0.heap.size (zs.take k) W) (fun _=>False) W1 hb1
      (fun k W hk hJ=>?_) (by rw [List.take_zero];exact hM)).mono ?_
    · have hy:=zoy Fence.wide 1 w fn hfn _ w.heap.size (W0.heap.size+1) W0.heap.size (by omega) (by omega) (by omega) (zAR _) (by omega) zs.length hN hNb (zs.take k) (zs.getD k 0) W hJ (by rw [zBD];omega)
      have he:zab false false 1 zs.length f k=#[.int .i64 (zs.getD k 0)]:=by simp [zab,elV,hf k hk]
      rw [he];obtain ⟨fn',tm,ab,bd,y1,y2⟩:=hy;refine ⟨fn',tm,ab,bd,y1,y2.mono ?_⟩;rintro e W' ⟨h1,h2,_⟩;refine .inl ⟨h1,by rw [hz k hk];exact h2,fun ad v hc hv=>?_⟩
      have hlt:=hC ad v hc;rw [h2.below.cell (p:=ad) hlt];rw [hJ.below.cell (p:=ad) hlt] at hv;exact hv
    rintro e W2 ⟨⟨v0,rfl⟩,h2|h2⟩
    case inr=>exact h2.elim
    rw [zBd] at h2;obtain ⟨v,hv,hrow,hnil⟩:=h2.box;have hend:=run_endLoop (P:=Tryz.prog) h2.L (by simp [zaE])
    obtain ⟨W3,hW3⟩:∃ W3,W2.putObj (W0.heap.size+1) (.loop { zaE fn (.func (.func 73) #[] lb) w.heap.size W0.heap.size .ready none with state:=.exhausted })=W3:=⟨_,rfl⟩;rw [hW3] at hend;have hg3:W2.grownBy W3 (some (W0.heap.size+1)):=by rw [<- hW3];exact j7 _ _ _
    have hv3:W3.heap[w.heap.size]?=some (.cells #[v] 36 (0,0)):=by rw [<- hW3];exact (World.putObj_heap_other (by omega)).trans hv
    have hK3:W3.heap[W0.heap.size]?=some (.deferred (some [])):=by rw [<- hW3];exact (World.putObj_heap_other (by omega)).trans h2.K
    have hrow3:=hrow.kept hg3 (vf hrow h2.L (fun cur e=>by cases e))
    have hb3:Below w.heap.size w W3:=h2.below.grown hg3 h2.below.size (fun k e=>by cases e;omega)
    obtain ⟨hc3,hf3⟩:=zaF hv3;clear hW3;refine ⟨none,W3,hend,?_⟩
    gi_wp2
    rw [<- hs0];refine ⟨by simp,.inl ⟨_,_,rfl,run_takeDeferred hK3,?_⟩⟩
    exact ⟨_,results_tmp rfl _ _ _,v,rfl,hrow3.kept (j7 _ _ _) (vf hrow3 hK3 (fun cur e=>by cases e)),hnil,hb3.grown (j7 _ _ _) hb3.size (fun k e=>by cases e;omega)⟩
end Go.Proofs.YtlnijcffanjieaaGreatDoor
