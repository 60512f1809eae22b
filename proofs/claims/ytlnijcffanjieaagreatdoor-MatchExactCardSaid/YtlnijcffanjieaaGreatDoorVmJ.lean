/- Seat 7: slices.Values goes through a list. Conditions: none but those named. -/
import Derived.Test.YtlnijcffanjieaaGreatDoorProg
import Derived.RangeFuncBox
import Derived.RangeFuncLeaves
import Derived.Shelf.Abstract
import Derived.WalkKit
import Derived.OwnWalkIn
import Derived.TacticsInMore
import Derived.LoopNIn
import Derived.LoopIn
import Derived.KernelRfl
import Derived.Test.YtlnijcffanjieaaGreatDoorVmG
set_option linter.defProp false
namespace Go.Proofs.YtlnijcffanjieaaGreatDoor
open Go Go.Vm
open Go.Proofs.Tryz
set_option maxRecDepth 100000
section
open Go.RowKit Go.Shelf
attribute [local go_sem] Oper.semAt_some
set_option maxRecDepth 100000 in
set_option maxHeartbeats 4000000 in
def zpq(l box len cap c o:Nat)(f:Nat->aP)(O9:len<=140737488355328)(Kp:aB->aB->Prop)(hKp:∀A B:aB,Kp A B->∀j,j<len->A.cell? ⟨c,o+j,none⟩=some (f j)->B.cell? ⟨c,o+j,none⟩=some (f j))(J:Nat->aB->Prop)(Jx:aB->Prop)
  (hY:∀k W,k<len->J k W->YieldAt Fence.wide 1 prog l #[f k] W λe W'=>(e=.returned (.bool true)/\J (k+1) W'/\Kp W W')\/(e=.returned (.bool false)/\Jx W'))
  (W:aB) (Xf:W.cell? ⟨box,0,none⟩=some (.slice (some ⟨c,o,none⟩) len cap)) (hc:∀j,j<len->W.cell? ⟨c,o+j,none⟩=some (f j)) (h0:J 0 W) :
  CallsIn Fence.wide 2 prog 73 #[.func (.yield l) #[] #[],.pointer (some ⟨box,0,none⟩)] W λe W'=>(∃v,e=.returned v)/\(J len W'\/Jx W'):=by
 refine callsIn_of_wp func73 rfl trivial ?_ rfl;simp only[ntmps73,List.size_toArray,fY,List.length_nil,Nat.reduceAdd,Nat.reduceSub,Array.replicate_succ,Array.replicate_zero,List.push_toArray,List.append_toArray,gF,iQ];have hn:1<=2:=by decide
 have KZ:Fence.wide.round=none:=rfl
 gi_wp2
 gi_loopw [7] (λi wr=>∃k:Nat,k<=len/\i=.int .i64 k/\J k wr/\∀j,j<len->wr.cell? ⟨c,o+j,none⟩=some (f j))
  (λi _=>len - (intOf i).toNat)
 case atStart=>exact⟨0,dJ _,rfl,h0,hc⟩
 case round =>
  obtain⟨k,hk,rfl,LF,dA⟩:=hrel
  by_cases bu:k<len
  ·obtain⟨fn,tmps,assign,body,hy,hR⟩:=hY k wr bu LF;have apa:=dA k bu
   gi_wp2
   refine hR.mono ?_;rintro e W3 (⟨rfl,hJ3,D8⟩|⟨rfl,O_⟩)
   ·gi_wp2
    go_roundw
    case rel=>exact⟨k+1,by omega,by simp,hJ3,λj hj=>hKp _ _ D8 j hj (dA j hj)⟩
    case measure=>simp[intOf];omega
   ·gi_wp2
    refine bodyPost_ret (results_none rfl _ _ _) rfl ?_;exact⟨⟨_,rfl⟩,.inr O_⟩
  ·obtain rfl:k=len:=by omega
   gi_wp2
   go_end0
   exact⟨⟨_,rfl⟩,.inl LF⟩
set_option maxRecDepth 100000 in
set_option maxHeartbeats 4000000 in
def znM(l box cap:Nat)(a:Option Addr)(J:Nat->aB->Prop)(W:aB)(Xf:W.cell? ⟨box,0,none⟩=some (.slice a 0 cap))(h0:J 0 W) :
  CallsIn Fence.wide 2 prog 73 #[.func (.yield l) #[] #[],.pointer (some ⟨box,0,none⟩)] W λe W'=>(∃v,e=.returned v)/\J 0 W':=by
 refine callsIn_of_wp func73 rfl trivial ?_ rfl;simp only[ntmps73,List.size_toArray,fY,List.length_nil,Nat.reduceAdd,Nat.reduceSub,Array.replicate_succ,Array.replicate_zero,List.push_toArray,List.append_toArray,gF,iQ]
 gi_wp2
 gi_loopw [7] (λi wr=>i=.int .i64 0/\J 0 wr) (λ_ _=>0)
 case atStart=>exact⟨rfl,h0⟩
 case round =>
  obtain⟨rfl,LF⟩:=hrel
  gi_wp2
  go_end0
  exact⟨⟨_,rfl⟩,LF⟩
def ziH{f:FuncId}{fn:Func}(hf:prog.funcs[f]?=some fn)(hb:fn.body.isSome=true)(hn:(fn.name == "runtime.NumGoroutine")=false):∀args w,(callFunc f args).run prog w=.ok (.enter f args) w:=λargs w=>by
 obtain⟨body,hb⟩:=Option.isSome_iff_exists.1 hb;have Hu:fn.name≠ "runtime.NumGoroutine":=by simpa using hn
 simp[callFunc,hf,hb,Hu]
def u36:prog.underlying 36=some (.slice 3):=by kernel_rfl
def s3:z9 prog 3=some 1:=by kernel_rfl
def a3:jI prog 3=some false:=by kernel_rfl
def Gj:Ze prog 73 false 36:=by
 refine⟨ziH func73 rfl (by kernel_rfl),λe sz ag hu hs ha _ w box a len cap c o f C Pa gI eS haa f_ Xg hC2 hlen l J Jx W hB hY h0=>?_⟩
 rw[u36] at hu;cases hu;rw[s3] at hs;cases hs;rw[a3] at ha;cases ha;have s7:=(hB.cell (p:=⟨box,0,none⟩) Pa).trans eS;rcases NB len with rfl|iq
 ·exact(znM l box cap a J W s7 h0).mono λe W' ⟨h1,h2⟩=>⟨h1,.inl h2⟩
 ·rw[haa iq] at s7 Xg;have he:∀k,F4 false false 1 len f k=#[f k]:=λk=>by simp[F4,N4]
  refine zpq l box len cap c o f hlen (Vy C) (λA B hK j hj hA=>hK _ _ (hC2 j (by omega)) hA) J Jx (λk W1 hk hJ=>by have:=hY k W1 hk hJ;rwa [he] at this) W s7 (λj hj=>?_) h0
  exact(hB.cell (p:=⟨c,o+j,none⟩) (gI iq)).trans (f_ j (by omega))
end
section
open Go.RowKit Go.Shelf
attribute [local go_sem] Oper.semAt_some
def exV(f:Nat->aP)(i:Nat):aP:=.agg ((List.range 10).map λr=>f (i * 10+r)).toArray
set_option maxRecDepth 100000 in
set_option maxHeartbeats 4000000 in
def zpr(l box len cap c o:Nat)(f:Nat->aP)(O9:len<=140737488355328)(Kp:aB->aB->Prop)(hKp:∀A B:aB,Kp A B->∀j,j<len * 10->A.cell? ⟨c,o+j,none⟩=some (f j)->B.cell? ⟨c,o+j,none⟩=some (f j))(J:Nat->aB->Prop)(Jx:aB->Prop)
  (VM:∀A B:aB,Kp A B->A.cell? ⟨box,0,none⟩=some (.slice (some ⟨c,o,none⟩) len cap)->B.cell? ⟨box,0,none⟩=some (.slice (some ⟨c,o,none⟩) len cap))
  (hY:∀k W,k<len->J k W->YieldAt Fence.wide 1 prog l #[.int .i64 ((len - 1 - k:Nat):Int),exV f (len - 1 - k)] W λe W'=>(e=.returned (.bool true)/\J (k+1) W'/\Kp W W')\/(e=.returned (.bool false)/\Jx W'))
  (W:aB) (Xf:W.cell? ⟨box,0,none⟩=some (.slice (some ⟨c,o,none⟩) len cap)) (hc:∀j,j<len * 10->W.cell? ⟨c,o+j,none⟩=some (f j)) (h0:J 0 W) :
  CallsIn Fence.wide 2 prog 98 #[.func (.yield l) #[] #[],.pointer (some ⟨box,0,none⟩)] W λe W'=>(∃v,e=.returned v)/\(J len W'\/Jx W'):=by
 refine callsIn_of_wp func98 rfl trivial ?_ rfl;simp only[ntmps98,List.size_toArray,fY,List.length_nil,Nat.reduceAdd,Nat.reduceSub,Array.replicate_succ,Array.replicate_zero,List.push_toArray,List.append_toArray,gF,iQ];have hn:1<=2:=by decide
 have KZ:Fence.wide.round=none:=rfl
 gi_wp2
 gi_loopw [3] (λi wr=>∃k:Nat,k<=len/\i=.int .i64 ((len:Int) - 1 - (k:Int))/\J k wr/\(∀j,j<len * 10->wr.cell? ⟨c,o+j,none⟩=some (f j))/\wr.cell? ⟨box,0,none⟩=some (.slice (some ⟨c,o,none⟩) len cap))
  (λi _=>(intOf i+1).toNat)
 case atStart=>exact⟨0,dJ _,by simp,h0,hc,Xf⟩
 case round =>
  obtain⟨k,hk,rfl,LF,dA,hbs⟩:=hrel
  by_cases bu:k<len
  ·have hYk:=hY k wr bu LF;have hex:exV f (len - 1 - k)=.agg #[f ((len - 1 - k) * 10),f ((len - 1 - k) * 10+1),f ((len - 1 - k) * 10+2),f ((len - 1 - k) * 10+3),f ((len - 1 - k) * 10+4),f ((len - 1 - k) * 10+5),f ((len - 1 - k) * 10+6),f ((len - 1 - k) * 10+7),f ((len - 1 - k) * 10+8),f ((len - 1 - k) * 10+9)]:=rfl;have hi:((len - 1 - k:Nat):Int)=(len:Int) - 1 - (k:Int):=by omega
   rw[hex,hi] at hYk;obtain⟨fn,tmps,assign,body,hy,hR⟩:=hYk;have hx:∀r,r<10->wr.cell? ⟨c,o+(len - 1 - k) * 10+r,none⟩=some (f ((len - 1 - k) * 10+r)):=λr hr=>by
    have:=dA ((len - 1 - k) * 10+r) (by omega)
    rwa [<- HP] at this
   have x0:wr.cell? ⟨c,o+(len - 1 - k) * 10,none⟩=some (f ((len - 1 - k) * 10)):=hx 0 (by decide)
   have x1:wr.cell? ⟨c,o+(len - 1 - k) * 10+1,none⟩=some (f ((len - 1 - k) * 10+1)):=hx 1 (by decide)
   have x2:wr.cell? ⟨c,o+(len - 1 - k) * 10+2,none⟩=some (f ((len - 1 - k) * 10+2)):=hx 2 (by decide)
   have x3:wr.cell? ⟨c,o+(len - 1 - k) * 10+3,none⟩=some (f ((len - 1 - k) * 10+3)):=hx 3 (by decide)
   have x4:wr.cell? ⟨c,o+(len - 1 - k) * 10+4,none⟩=some (f ((len - 1 - k) * 10+4)):=hx 4 (by decide)
   have x5:wr.cell? ⟨c,o+(len - 1 - k) * 10+5,none⟩=some (f ((len - 1 - k) * 10+5)):=hx 5 (by decide)
   have x6:wr.cell? ⟨c,o+(len - 1 - k) * 10+6,none⟩=some (f ((len - 1 - k) * 10+6)):=hx 6 (by decide)
   have x7:wr.cell? ⟨c,o+(len - 1 - k) * 10+7,none⟩=some (f ((len - 1 - k) * 10+7)):=hx 7 (by decide)
   have x8:wr.cell? ⟨c,o+(len - 1 - k) * 10+8,none⟩=some (f ((len - 1 - k) * 10+8)):=hx 8 (by decide)
   have x9:wr.cell? ⟨c,o+(len - 1 - k) * 10+9,none⟩=some (f ((len - 1 - k) * 10+9)):=hx 9 (by decide)
   gi_wp2
   refine hR.mono ?_;rintro e W3 (⟨rfl,hJ3,D8⟩|⟨rfl,O_⟩)
   ·gi_wp2
    go_roundw
    case rel=>exact⟨k+1,by omega,by simp;omega,hJ3,λj hj=>hKp _ _ D8 j hj (dA j hj),VM _ _ D8 hbs⟩
    case measure=>simp[intOf];omega
   ·gi_wp2
    refine bodyPost_ret (results_none rfl _ _ _) rfl ?_;exact⟨⟨_,rfl⟩,.inr O_⟩
  ·obtain rfl:k=len:=by omega
   gi_wp2
   go_end0
   exact⟨⟨_,rfl⟩,.inl LF⟩
set_option maxRecDepth 100000 in
set_option maxHeartbeats 4000000 in
def znN(l box cap:Nat)(a:Option Addr)(J:Nat->aB->Prop)(W:aB)(Xf:W.cell? ⟨box,0,none⟩=some (.slice a 0 cap))(h0:J 0 W) :
  CallsIn Fence.wide 2 prog 98 #[.func (.yield l) #[] #[],.pointer (some ⟨box,0,none⟩)] W λe W'=>(∃v,e=.returned v)/\J 0 W':=by
 refine callsIn_of_wp func98 rfl trivial ?_ rfl;simp only[ntmps98,List.size_toArray,fY,List.length_nil,Nat.reduceAdd,Nat.reduceSub,Array.replicate_succ,Array.replicate_zero,List.push_toArray,List.append_toArray,gF,iQ]
 gi_wp2
 gi_loopw [3] (λi wr=>i=.int .i64 (-1)/\J 0 wr) (λ_ _=>0)
 case atStart=>exact⟨rfl,h0⟩
 case round =>
  obtain⟨rfl,LF⟩:=hrel
  gi_wp2
  go_end0
  exact⟨⟨_,rfl⟩,LF⟩
def u25:prog.underlying 25=some (.slice 27):=by kernel_rfl
def s27:z9 prog 27=some 10:=by kernel_rfl
def a27:jI prog 27=some true:=by kernel_rfl
def Gk:Ze prog 98 true 25:=by
 refine⟨ziH func98 rfl (by kernel_rfl),λe sz ag hu hs ha _ w box a len cap c o f C Pa gI eS haa f_ Xg hC2 hlen l J Jx W hB hY h0=>?_⟩
 rw[u25] at hu;cases hu;rw[s27] at hs;cases hs;rw[a27] at ha;cases ha;have s7:=(hB.cell (p:=⟨box,0,none⟩) Pa).trans eS;rcases NB len with rfl|iq
 ·exact(znN l box cap a J W s7 h0).mono λe W' ⟨h1,h2⟩=>⟨h1,.inl h2⟩
 ·rw[haa iq] at s7 Xg;have he:∀k,F4 true true 10 len f k=#[.int .i64 ((len - 1 - k:Nat):Int),exV f (len - 1 - k)]:=λk=>rfl;refine zpr l box len cap c o f hlen (Vy C) (λA B hK j hj hA=>hK _ _ (hC2 j hj) hA) J Jx (λA B hK hA=>hK _ _ Xg hA) (λk W1 hk hJ=>by have:=hY k W1 hk hJ;rwa [he] at this) W s7 (λj hj=>?_) h0
  exact(hB.cell (p:=⟨c,o+j,none⟩) (gI iq)).trans (f_ j hj)
end
def uR(e:ai):Bool:=Nat.beq e 1099717148723 || Nat.beq e 1099664719944
def LG:R8 prog uR:=by
 intro gf' back ty J' h;obtain⟨gf,hgf⟩:∃n:Nat,n=gf':=⟨_,rfl⟩;subst hgf;simp only[uR,gZ] at h;rcases h with h|h
 ·have h:=eT h;cases back with
  | true =>
   simp only[yr,aT] at h;obtain rfl:ty=25:=by omega
   obtain rfl:gf=98:=by omega
   exact Gk
  | false=>simp only[yr,bH,aZ] at h;omega
 ·have h:=eT h;cases back with
  | true=>simp only[yr,aT] at h;omega
  | false =>
   simp only[yr,bH,aZ] at h;obtain rfl:ty=36:=by omega
   obtain rfl:gf=73:=by omega
   exact Gj
def ks:aR:=[4,1,5,6,7,8,9,2,10,11,12,13,14,0,15,16]
def AD:Nat->Nat->bS:=Lb 373 ks
end Go.Proofs.YtlnijcffanjieaaGreatDoor
