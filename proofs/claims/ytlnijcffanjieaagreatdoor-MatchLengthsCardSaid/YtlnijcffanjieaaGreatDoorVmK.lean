/- Trees of bodies, as they are told of the program's code; Seat 7: slices.Values goes through a list; Seat 7: slices.Backward goes through a list; and what follows from it. Conditions: none but those that each theorem names. -/
import Derived.Test.YtlnijcffanjieaaGreatDoorProg
import Derived.RangeFuncBox
import Derived.RangeFuncLeaves
import Derived.Shelf.Abstract
import Derived.WalkKit
import Derived.OwnWalkIn
import Derived.TacticsInMore
import Derived.LoopNIn
import Derived.LoopIn
import Derived.KernelRfl
import Derived.Test.YtlnijcffanjieaaGreatDoorVmC
import Derived.Test.YtlnijcffanjieaaGreatDoorVmF
import Derived.Test.YtlnijcffanjieaaGreatDoorVmG
import Derived.Test.YtlnijcffanjieaaGreatDoorVmI
namespace Go.Proofs.YtlnijcffanjieaaGreatDoor
set_option maxRecDepth 100000
open Go Go.Vm Go.Vm.Sx
def hs292:List (Nat×JS):=[]
def tree292:Tree :=
 (.opn 0 [(.int .u64),(.int .u64),(.int .u64),(.int .u64)]
 (.letv (.sc (.one (.k .snil)))
 (.out [(.v 5 false)])))
def hs293:List (Nat×JS):=[]
def tree293:Tree :=
 (.opn 0 [(.sl 10)]
 (.letv (.sc (.one (.v 1 true)))
 (.out [(.v 2 false)])))
def hs294:List (Nat×JS):=[]
def tree294:Tree :=
 (.opn 0 [(.sl 10)]
 (.letv (.sc (.one (.v 1 true)))
 (.out [(.v 2 false)])))
def hs295:List (Nat×JS):=[]
def tree295:Tree :=
 (.opn 0 [(.int .i64),(.int .i64),(.sl 10)]
 (.letv (.sc (.one (.v 3 true)))
 (.out [(.v 4 false)])))
def hs304:List (Nat×JS):=[]
def tree304:Tree :=
 (.opn 0 []
 (.letv (.sc (.one (.k .snil)))
 (.out [(.v 1 false)])))
theorem tree292_ok:yp Tryz.prog hs292 292=some tree292:=by kernel_rfl
theorem tree293_ok:yp Tryz.prog hs293 293=some tree293:=by kernel_rfl
theorem tree294_ok:yp Tryz.prog hs294 294=some tree294:=by kernel_rfl
theorem tree295_ok:yp Tryz.prog hs295 295=some tree295:=by kernel_rfl
theorem tree304_ok:yp Tryz.prog hs304 304=some tree304:=by kernel_rfl
end Go.Proofs.YtlnijcffanjieaaGreatDoor
namespace Go.Proofs.YtlnijcffanjieaaGreatDoor
open Go Go.Vm Go.RowKit Go.Shelf
attribute [local go_sem] Oper.semAt_some
set_option maxRecDepth 100000 in
set_option maxHeartbeats 4000000 in
theorem znF (l box len cap c o:Nat) (f:Nat->Value) (hreach:len<=140737488355328) (Kp:World->World->Prop) (hKp:∀ A B:World,Kp A B->∀ j,j<len->A.cell? ⟨c,o+j,none⟩=some (f j)->B.cell? ⟨c,o+j,none⟩=some (f j)) (J:Nat->World->Prop) (Jx:World->Prop)
  (hY:∀ k W,k<len->J k W->YieldAt Fence.wide 1 Tryz.prog l #[f k] W fun e W'=>(e=.returned (.bool true)/\J (k+1) W'/\Kp W W')\/(e=.returned (.bool false)/\Jx W'))
  (W:World) (hBs:W.cell? ⟨box,0,none⟩=some (.slice (some ⟨c,o,none⟩) len cap)) (hc:∀ j,j<len->W.cell? ⟨c,o+j,none⟩=some (f j)) (h0:J 0 W) :
  CallsIn Fence.wide 2 Tryz.prog 73 #[.func (.yield l) #[] #[],.pointer (some ⟨box,0,none⟩)] W fun e W'=>(∃ v,e=.returned v)/\(J len W'\/Jx W'):=by
 refine callsIn_of_wp Tryz.func73 rfl trivial ?_ rfl;simp only [Tryz.ntmps73,List.size_toArray,zAS,List.length_nil,Nat.reduceAdd,Nat.reduceSub,Array.replicate_succ,Array.replicate_zero,List.push_toArray,List.append_toArray,zAW,zAY];have hn:1<=2:=by decide
 have hro:Fence.wide.round=none:=rfl
 gi_wp2
 gi_loopw [7] (fun i wr=>∃ k:Nat,k<=len/\i=.int .i64 k/\J k wr/\∀ j,j<len->wr.cell? ⟨c,o+j,none⟩=some (f j))
  (fun i _=>len - (intOf i).toNat)
 case atStart=>exact ⟨0,zAU _,rfl,h0,hc⟩
 case round =>
  obtain ⟨k,hk,rfl,hJs,hcs⟩:=hrel
  by_cases hlt:k<len
  ·obtain ⟨fn,tmps,assign,body,hy,hR⟩:=hY k wr hlt hJs;have hcx':=hcs k hlt
   gi_wp2
   refine hR.mono ?_;rintro e W3 (⟨rfl,hJ3,hk3⟩|⟨rfl,hJx3⟩)
   ·gi_wp2
    go_roundw
    case rel=>exact ⟨k+1,by omega,by simp,hJ3,fun j hj=>hKp _ _ hk3 j hj (hcs j hj)⟩
    case measure=>simp [intOf];omega
   ·gi_wp2
    refine bodyPost_ret (results_none rfl _ _ _) rfl ?_;exact ⟨⟨_,rfl⟩,.inr hJx3⟩
  ·obtain rfl:k=len:=by omega
   gi_wp2
   go_end0
   exact ⟨⟨_,rfl⟩,.inl hJs⟩
set_option maxRecDepth 100000 in
set_option maxHeartbeats 4000000 in
theorem zmo (l box cap:Nat) (a:Option Addr) (J:Nat->World->Prop) (W:World) (hBs:W.cell? ⟨box,0,none⟩=some (.slice a 0 cap)) (h0:J 0 W) :
  CallsIn Fence.wide 2 Tryz.prog 73 #[.func (.yield l) #[] #[],.pointer (some ⟨box,0,none⟩)] W fun e W'=>(∃ v,e=.returned v)/\J 0 W':=by
 refine callsIn_of_wp Tryz.func73 rfl trivial ?_ rfl;simp only [Tryz.ntmps73,List.size_toArray,zAS,List.length_nil,Nat.reduceAdd,Nat.reduceSub,Array.replicate_succ,Array.replicate_zero,List.push_toArray,List.append_toArray,zAW,zAY]
 gi_wp2
 gi_loopw [7] (fun i wr=>i=.int .i64 0/\J 0 wr) (fun _ _=>0)
 case atStart=>exact ⟨rfl,h0⟩
 case round =>
  obtain ⟨rfl,hJs⟩:=hrel
  gi_wp2
  go_end0
  exact ⟨⟨_,rfl⟩,hJs⟩
theorem zhI {f:FuncId} {fn:Func} (hf:Tryz.prog.funcs[f]?=some fn) (hb:fn.body.isSome=true) (hn:(fn.name == "runtime.NumGoroutine")=false):∀ args w,(callFunc f args).run Tryz.prog w=.ok (.enter f args) w:=fun args w=>by
 obtain ⟨body,hb⟩:=Option.isSome_iff_exists.1 hb;have hn':fn.name≠ "runtime.NumGoroutine":=by simpa using hn
 simp [callFunc,hf,hb,hn']
theorem u36:Tryz.prog.underlying 36=some (.slice 3):=by kernel_rfl
theorem s3:qc Tryz.prog 3=some 1:=by kernel_rfl
theorem a3:jG Tryz.prog 3=some false:=by kernel_rfl
theorem vals_spec:zib Tryz.prog 73 false 36:=by
 refine ⟨zhI Tryz.func73 rfl (by kernel_rfl),fun e sz ag hu hs ha _ w box a len cap c o f C hbox hcl hcell haa hcells hC1 hC2 hlen l J Jx W hB hY h0=>?_⟩
 rw [u36] at hu;cases hu;rw [s3] at hs;cases hs;rw [a3] at ha;cases ha;have hbx:=(hB.cell (p:=⟨box,0,none⟩) hbox).trans hcell;rcases zBn len with rfl|hpos
 ·exact (zmo l box cap a J W hbx h0).mono fun e W' ⟨h1,h2⟩=>⟨h1,.inl h2⟩
 ·rw [haa hpos] at hbx hC1;have he:∀ k,zck false false 1 len f k=#[f k]:=fun k=>by simp [zck,elV]
  refine znF l box len cap c o f hlen (KpC C) (fun A B hK j hj hA=>hK _ _ (hC2 j (by omega)) hA) J Jx (fun k W1 hk hJ=>by have:=hY k W1 hk hJ;rwa [he] at this) W hbx (fun j hj=>?_) h0
  exact (hB.cell (p:=⟨c,o+j,none⟩) (hcl hpos)).trans (hcells j (by omega))
end Go.Proofs.YtlnijcffanjieaaGreatDoor
namespace Go.Proofs.YtlnijcffanjieaaGreatDoor
open Go Go.Vm Go.RowKit Go.Shelf
attribute [local go_sem] Oper.semAt_some
def exV (f:Nat->Value) (i:Nat):Value:=.agg ((List.range 10).map fun r=>f (i * 10+r)).toArray
set_option maxRecDepth 100000 in
set_option maxHeartbeats 4000000 in
theorem znG (l box len cap c o:Nat) (f:Nat->Value) (hreach:len<=140737488355328) (Kp:World->World->Prop) (hKp:∀ A B:World,Kp A B->∀ j,j<len * 10->A.cell? ⟨c,o+j,none⟩=some (f j)->B.cell? ⟨c,o+j,none⟩=some (f j)) (J:Nat->World->Prop) (Jx:World->Prop)
  (hKb:∀ A B:World,Kp A B->A.cell? ⟨box,0,none⟩=some (.slice (some ⟨c,o,none⟩) len cap)->B.cell? ⟨box,0,none⟩=some (.slice (some ⟨c,o,none⟩) len cap))
  (hY:∀ k W,k<len->J k W->YieldAt Fence.wide 1 Tryz.prog l #[.int .i64 ((len - 1 - k:Nat):Int),exV f (len - 1 - k)] W fun e W'=>(e=.returned (.bool true)/\J (k+1) W'/\Kp W W')\/(e=.returned (.bool false)/\Jx W'))
  (W:World) (hBs:W.cell? ⟨box,0,none⟩=some (.slice (some ⟨c,o,none⟩) len cap)) (hc:∀ j,j<len * 10->W.cell? ⟨c,o+j,none⟩=some (f j)) (h0:J 0 W) :
  CallsIn Fence.wide 2 Tryz.prog 98 #[.func (.yield l) #[] #[],.pointer (some ⟨box,0,none⟩)] W fun e W'=>(∃ v,e=.returned v)/\(J len W'\/Jx W'):=by
 refine callsIn_of_wp Tryz.func98 rfl trivial ?_ rfl;simp only [Tryz.ntmps98,List.size_toArray,zAS,List.length_nil,Nat.reduceAdd,Nat.reduceSub,Array.replicate_succ,Array.replicate_zero,List.push_toArray,List.append_toArray,zAW,zAY];have hn:1<=2:=by decide
 have hro:Fence.wide.round=none:=rfl
 gi_wp2
 gi_loopw [3] (fun i wr=>∃ k:Nat,k<=len/\i=.int .i64 ((len:Int) - 1 - (k:Int))/\J k wr/\(∀ j,j<len * 10->wr.cell? ⟨c,o+j,none⟩=some (f j))/\wr.cell? ⟨box,0,none⟩=some (.slice (some ⟨c,o,none⟩) len cap))
  (fun i _=>(intOf i+1).toNat)
 case atStart=>exact ⟨0,zAU _,by simp,h0,hc,hBs⟩
 case round =>
  obtain ⟨k,hk,rfl,hJs,hcs,hbs⟩:=hrel
  by_cases hlt:k<len
  ·have hYk:=hY k wr hlt hJs;have hex:exV f (len - 1 - k)=.agg #[f ((len - 1 - k) * 10),f ((len - 1 - k) * 10+1),f ((len - 1 - k) * 10+2),f ((len - 1 - k) * 10+3),f ((len - 1 - k) * 10+4),f ((len - 1 - k) * 10+5),f ((len - 1 - k) * 10+6),f ((len - 1 - k) * 10+7),f ((len - 1 - k) * 10+8),f ((len - 1 - k) * 10+9)]:=rfl;have hi:((len - 1 - k:Nat):Int)=(len:Int) - 1 - (k:Int):=by omega
   rw [hex,hi] at hYk;obtain ⟨fn,tmps,assign,body,hy,hR⟩:=hYk;have hx:∀ r,r<10->wr.cell? ⟨c,o+(len - 1 - k) * 10+r,none⟩=some (f ((len - 1 - k) * 10+r)):=fun r hr=>by
    have:=hcs ((len - 1 - k) * 10+r) (by omega)
    rwa [<- zBj] at this
   have x0:wr.cell? ⟨c,o+(len - 1 - k) * 10,none⟩=some (f ((len - 1 - k) * 10)):=hx 0 (by decide)
   have x1:wr.cell? ⟨c,o+(len - 1 - k) * 10+1,none⟩=some (f ((len - 1 - k) * 10+1)):=hx 1 (by decide)
   have x2:wr.cell? ⟨c,o+(len - 1 - k) * 10+2,none⟩=some (f ((len - 1 - k) * 10+2)):=hx 2 (by decide)
   have x3:wr.cell? ⟨c,o+(len - 1 - k) * 10+3,none⟩=some (f ((len - 1 - k) * 10+3)):=hx 3 (by decide)
   have x4:wr.cell? ⟨c,o+(len - 1 - k) * 10+4,none⟩=some (f ((len - 1 - k) * 10+4)):=hx 4 (by decide)
   have x5:wr.cell? ⟨c,o+(len - 1 - k) * 10+5,none⟩=some (f ((len - 1 - k) * 10+5)):=hx 5 (by decide)
   have x6:wr.cell? ⟨c,o+(len - 1 - k) * 10+6,none⟩=some (f ((len - 1 - k) * 10+6)):=hx 6 (by decide)
   have x7:wr.cell? ⟨c,o+(len - 1 - k) * 10+7,none⟩=some (f ((len - 1 - k) * 10+7)):=hx 7 (by decide)
   have x8:wr.cell? ⟨c,o+(len - 1 - k) * 10+8,none⟩=some (f ((len - 1 - k) * 10+8)):=hx 8 (by decide)
   have x9:wr.cell? ⟨c,o+(len - 1 - k) * 10+9,none⟩=some (f ((len - 1 - k) * 10+9)):=hx 9 (by decide)
   gi_wp2
   refine hR.mono ?_;rintro e W3 (⟨rfl,hJ3,hk3⟩|⟨rfl,hJx3⟩)
   ·gi_wp2
    go_roundw
    case rel=>exact ⟨k+1,by omega,by simp;omega,hJ3,fun j hj=>hKp _ _ hk3 j hj (hcs j hj),hKb _ _ hk3 hbs⟩
    case measure=>simp [intOf];omega
   ·gi_wp2
    refine bodyPost_ret (results_none rfl _ _ _) rfl ?_;exact ⟨⟨_,rfl⟩,.inr hJx3⟩
  ·obtain rfl:k=len:=by omega
   gi_wp2
   go_end0
   exact ⟨⟨_,rfl⟩,.inl hJs⟩
set_option maxRecDepth 100000 in
set_option maxHeartbeats 4000000 in
theorem zmp (l box cap:Nat) (a:Option Addr) (J:Nat->World->Prop) (W:World) (hBs:W.cell? ⟨box,0,none⟩=some (.slice a 0 cap)) (h0:J 0 W) :
  CallsIn Fence.wide 2 Tryz.prog 98 #[.func (.yield l) #[] #[],.pointer (some ⟨box,0,none⟩)] W fun e W'=>(∃ v,e=.returned v)/\J 0 W':=by
 refine callsIn_of_wp Tryz.func98 rfl trivial ?_ rfl;simp only [Tryz.ntmps98,List.size_toArray,zAS,List.length_nil,Nat.reduceAdd,Nat.reduceSub,Array.replicate_succ,Array.replicate_zero,List.push_toArray,List.append_toArray,zAW,zAY]
 gi_wp2
 gi_loopw [3] (fun i wr=>i=.int .i64 (-1)/\J 0 wr) (fun _ _=>0)
 case atStart=>exact ⟨rfl,h0⟩
 case round =>
  obtain ⟨rfl,hJs⟩:=hrel
  gi_wp2
  go_end0
  exact ⟨⟨_,rfl⟩,hJs⟩
theorem u25:Tryz.prog.underlying 25=some (.slice 27):=by kernel_rfl
theorem s27:qc Tryz.prog 27=some 10:=by kernel_rfl
theorem a27:jG Tryz.prog 27=some true:=by kernel_rfl
theorem back_spec:zib Tryz.prog 98 true 25:=by
 refine ⟨zhI Tryz.func98 rfl (by kernel_rfl),fun e sz ag hu hs ha _ w box a len cap c o f C hbox hcl hcell haa hcells hC1 hC2 hlen l J Jx W hB hY h0=>?_⟩
 rw [u25] at hu;cases hu;rw [s27] at hs;cases hs;rw [a27] at ha;cases ha;have hbx:=(hB.cell (p:=⟨box,0,none⟩) hbox).trans hcell;rcases zBn len with rfl|hpos
 ·exact (zmp l box cap a J W hbx h0).mono fun e W' ⟨h1,h2⟩=>⟨h1,.inl h2⟩
 ·rw [haa hpos] at hbx hC1;have he:∀ k,zck true true 10 len f k=#[.int .i64 ((len - 1 - k:Nat):Int),exV f (len - 1 - k)]:=fun k=>rfl;refine znG l box len cap c o f hlen (KpC C) (fun A B hK j hj hA=>hK _ _ (hC2 j hj) hA) J Jx (fun A B hK hA=>hK _ _ hC1 hA) (fun k W1 hk hJ=>by have:=hY k W1 hk hJ;rwa [he] at this) W hbx (fun j hj=>?_) h0
  exact (hB.cell (p:=⟨c,o+j,none⟩) (hcl hpos)).trans (hcells j hj)
end Go.Proofs.YtlnijcffanjieaaGreatDoor
namespace Go.Proofs.YtlnijcffanjieaaGreatDoor
set_option maxRecDepth 100000
open Go Go.Vm
def uqw (e:TypeId):Bool:=Nat.beq e 1099717148723 || Nat.beq e 1099664719944
theorem itOk:zld Tryz.prog uqw:=by
 intro gf' back ty hty h;obtain ⟨gf,hgf⟩:∃ n:Nat,n=gf':=⟨_,rfl⟩;subst hgf;simp only [uqw,zAZ] at h;rcases h with h|h
 ·have h:=zAQ h;cases back with
  | true =>
   simp only [yU,if_true] at h;obtain rfl:ty=25:=by omega
   obtain rfl:gf=98:=by omega
   exact back_spec
  | false=>simp only [yU,zAD,if_false] at h;omega
 ·have h:=zAQ h;cases back with
  | true=>simp only [yU,if_true] at h;omega
  | false =>
   simp only [yU,zAD,if_false] at h;obtain rfl:ty=36:=by omega
   obtain rfl:gf=73:=by omega
   exact vals_spec
def ks:List Nat:=[4,1,5,6,7,8,9,2,10,11,12,13,14,0,15,16]
def glw:Nat->Nat->Option V:=zlm 373 ks
end Go.Proofs.YtlnijcffanjieaaGreatDoor
namespace Go.Proofs.YtlnijcffanjieaaGreatDoor
open Go Go.Vm
inductive E where
 |mk (op pl s0 s1 s2 s3:Int) (text:List Nat) (mn mx:Int) (nl:Bool) (args:List E)
def zW (nl:Bool) (l:List V):V:=if nl && l.isEmpty then .snil else .sl 10 l .no
mutual
def enc:E->V
 | .mk op pl s0 s1 s2 s3 text mn mx nl args=>.agg [.int .i64 op,.int .i64 pl,.int .u64 s0,.int .u64 s1,.int .u64 s2,.int .u64 s3,.str text,.int .i64 mn,.int .i64 mx,zW nl (encs args)]
def encs:List E->List V
 | []=>[]
 | e::es=>enc e::encs es
end
theorem encs_length:∀ (l:List E),(encs l).length=l.length
 | []=>rfl
 | e::l=>by simp [encs,encs_length l]
theorem encs_get:∀ (l:List E) (i:Nat),(encs l)[i]?=(l[i]?).map enc
 | [],i=>by simp [encs]
 | e::l,0=>by simp [encs]
 | e::l,i+1=>by simp [encs,encs_get l i]
theorem jd (nl:Bool) (l:List V):zW nl l=.sl 10 l .no\/(l=[]/\zW nl l=.snil):=by
 unfold zW;split
 ·rename_i h;rw [zAF] at h;exact .inr ⟨by simpa using h.2,rfl⟩
 ·exact .inl rfl
theorem qn {nl:Bool} {l:List V}:clr (zW nl l)=zW nl l:=by
 rcases jd nl l with h|⟨_,h⟩<;>rw [h]<;>rfl
theorem yF (a:E):clr (enc a)=enc a:=by cases a;rfl
theorem jA {nl:Bool} {l:List V}:(zW nl l).top=tops l:=by
 rcases jd nl l with h|⟨hl,h⟩<;>rw [h]
 ·rfl
 ·rw [hl];rfl
mutual
theorem top_enc:∀ (e:E),(enc e).top=0
 | .mk op pl s0 s1 s2 s3 text mn mx nl args=>by
  simp only [enc,V.top,tops,jA,tops_encs args];rfl
theorem tops_encs:∀ (l:List E),tops (encs l)=0
 | []=>rfl
 | e::l=>by simp [encs,tops,top_enc e,tops_encs l]
end
theorem w64 {x:Int} (h1:-9223372036854775808<=x) (h2:x<=9223372036854775807):IntKind.i64.wrap x=x:=by
 simp only [IntKind.wrap,IntKind.bits,IntKind.signed];simp;omega
theorem znH {i:Nat} (h:i<9223372036854775807):IntKind.i64.wrap ((i:Int)+1)=((i+1:Nat):Int):=by
 rw [w64 (by omega) (by omega)];omega
mutual
def Wf:E->Prop
 | .mk _ _ _ _ _ _ text _ _ _ args=>text.length<=maxLen/\args.length<=maxLen/\Wfs args
def Wfs:List E->Prop
 | []=>True
 | e::l=>Wf e/\Wfs l
end
theorem Wfs.mem {a:E}:∀ {l:List E},Wfs l->a∈l->Wf a
 | e::l,h,ha=>by
  rcases zAO.1 ha with rfl|ha
  ·exact h.1
  ·exact Wfs.mem h.2 ha
theorem maxLen_le:maxLen<=9223372036854775807:=by decide
mutual
def hg:E->Nat
 | .mk _ _ _ _ _ _ _ _ _ _ args=>hgs args+args.length+2
def hgs:List E->Nat
 | []=>0
 | e::l=>max (hg e) (hgs l)
end
theorem zaZ {a:E}:∀ {l:List E},a∈l->hg a<=hgs l
 | e::l,h=>by
  simp only [hgs];rcases zAO.1 h with rfl|h
  ·exact zBV _ _
  ·exact zAP (zaZ h) (zBg _ _)
end Go.Proofs.YtlnijcffanjieaaGreatDoor
namespace Go.Proofs.YtlnijcffanjieaaGreatDoor
set_option maxRecDepth 10000
open Go Go.Vm Go.Vm.Sx
theorem wa (nl:Bool) (l:List V):kOk (.sl 10) (zW nl l)=true:=by
 rcases jd nl l with h|⟨_,h⟩<;>rw [h]<;>rfl
theorem yk (nl:Bool) (l:List V):vL (zW nl l)=l:=by
 rcases jd nl l with h|⟨h0,h⟩<;>rw [h]
 ·rfl
 ·rw [h0];rfl
theorem zef {l:List E} {i:Nat} {a:E} (h:l[i]?=some a):nth (encs l) i=some (enc a):=by rw [zq,encs_get,h];rfl
variable {gl:Gl} [NoU gl]
structure GL (gl:Gl):Prop where
 top:∀ g off v,gl g off=some v->v.top=0
 no:∀ f,[12,14,16,23,24,26,28,29,30,32,33,36,37,38,39,58].any (Nat.beq f)=false->∀ args,gl.hk f args=none
theorem lent63:jR Tryz.prog Tryz.f63.params.toList=some []:=by kernel_rfl
theorem lent64:jR Tryz.prog Tryz.f64.params.toList=some []:=by kernel_rfl
theorem lent10:jR Tryz.prog Tryz.f10.params.toList=some []:=by kernel_rfl
theorem znI {x:V}:vJ Tryz.prog [27] [.d x] 0:=by
 refine ⟨fun e=>?_,trivial⟩;rw [Tryz.underlying27];simp
theorem zpD {x y:V}:vJ Tryz.prog [27,3] [.d x,.d y] 0:=by
 refine ⟨fun e=>?_,fun e=>?_,trivial⟩
 ·rw [Tryz.underlying27];simp
 ·rw [Tryz.underlying3];simp
def leanB:E->Bool
 | .mk op pl s0 s1 s2 s3 text mn mx _ _=>((pl == 0 && eqL text []) && (op == 2 || (s0 == 0 && (s1 == 0 && (s2 == 0 && s3 == 0))))) && (op == 7 || (mn == 0 && mx == 0))
def kindB:E->Bool
 | .mk op _ _ _ _ _ _ mn mx _ args =>
  if op == 1 then (args.length:Int) == 0 else if op == 2 then (args.length:Int) == 0 else if op == 5 then ltz 1 (args.length:Int) else if op == 6 then ltz 1 (args.length:Int) else
  if op == 7 then (args.length:Int) == 1 && ((mn == 0 && mx == -1 || mn == 1 && mx == -1) || mn == 0 && mx == 1) else false
theorem zqw (hgl:GL gl):∀ (e:E),Ev Tryz.prog gl 63 [.d (enc e)] [] (.bool (leanB e)) []
 | .mk op pl s0 s1 s2 s3 text mn mx nl args=>by
  refine jc (xs:=[enc (.mk op pl s0 s1 s2 s3 text mn mx nl args)]) hgl.top (hgl.no 63 rfl) tree63_ok Tryz.func63 lent63 znI (by simp [tops,top_enc]) (N:=1) ?_
  simp only [tree63,enc];simp only [zP,zN,ev_opn,qC,qH,zU,jL,vD,ks_nil,zAc,qm,zy,zI,evB,evI,evS,zr,evC,zC,qR,zY,zoT,qX,cmS,wa,leanB]
theorem zqx (hgl:GL gl):∀ (e:E),Ev Tryz.prog gl 64 [.d (enc e)] [] (.bool (kindB e)) []
 | .mk op pl s0 s1 s2 s3 text mn mx nl args=>by
  refine jc (xs:=[enc (.mk op pl s0 s1 s2 s3 text mn mx nl args)]) hgl.top (hgl.no 64 rfl) tree64_ok Tryz.func64 lent64 znI (by simp [tops,top_enc]) (N:=1) ?_
  simp only [tree64,enc,kindB];cases h1:op == 1 with
  | true=>simp only [jC,zP,zN,ev_opn,qC,qH,zU,jL,vD,ks_nil,zAc,qm,zy,zI,evB,evI,evL,zr,evC,zC,qR,zY,qX,wa,yk,h1,encs_length,if_true]
  | false =>
  cases h2:op == 2 with
  | true=>simp only [jC,jM,zP,zN,ev_opn,qC,qH,zU,jL,vD,ks_nil,zAc,qm,zy,zI,evB,evI,evL,zr,evC,zC,qR,zY,qX,wa,yk,h1,h2,encs_length,if_true,if_false,zAD]
  | false =>
  cases h3:op == 5 with
  | true=>simp only [jC,jM,zP,zN,ev_opn,qC,qH,zU,jL,vD,ks_nil,zAc,qm,zy,zI,evB,evI,evL,zr,evC,zC,qR,zY,kc,qX,wa,yk,h1,h2,h3,encs_length,if_true,if_false,zAD]
  | false =>
  cases h4:op == 6 with
  | true=>simp only [jC,jM,zP,zN,ev_opn,qC,qH,zU,jL,vD,ks_nil,zAc,qm,zy,zI,evB,evI,evL,zr,evC,zC,qR,zY,kc,qX,wa,yk,h1,h2,h3,h4,encs_length,if_true,if_false,zAD]
  | false =>
  cases h5:op == 7 with
  | true=>simp only [jC,jM,zP,zN,ev_opn,qC,qH,zU,jL,vD,ks_nil,zAc,qm,zy,zI,evB,evI,evL,zr,evC,zC,qR,zY,qX,wa,yk,h1,h2,h3,h4,h5,encs_length,if_true,if_false,zAD]
  | false=>simp only [jM,zP,zN,ev_opn,qC,qH,zU,jL,vD,ks_nil,zAc,qm,zy,zI,evB,evI,zr,evC,zC,qR,zY,qX,wa,h1,h2,h3,h4,h5,if_false,zAD]
mutual
def sizeM:E->Int->Int
 | .mk _ _ _ _ _ _ _ _ _ _ args,deep=>if ltz 5000 deep then 1048576 else sizeF (IntKind.i64.wrap (deep+1)) 1 args
def sizeF:Int->Int->List E->Int
 | _,n,[]=>n
 | d,n,a::l=>if ltz n 1048576 then sizeF d (IntKind.i64.wrap (n+sizeM a d)) l else n
end
theorem zpE (hgl:GL gl):∀ (e:E),Wf e->∀ d,Ev Tryz.prog gl 10 [.d (enc e),.d (.int .i64 d)] [] (.int .i64 (sizeM e d)) []
 | .mk op pl s0 s1 s2 s3 text mn mx nl args,hw=>by
  intro d;have hml:=maxLen_le;have hlen:=hw.2.1;have hargs:∀ i a,args[i]?=some a->∀ d,phE Tryz.prog gl 10 [.d (enc a),.d (.int .i64 d)] []=some (.int .i64 (sizeM a d),[]):=fun i a h d =>
   have ha:=zAh h
   kW (zpE hgl a (hw.2.2.mem ha) d)
  refine jc (xs:=[enc (.mk op pl s0 s1 s2 s3 text mn mx nl args),.int .i64 d]) hgl.top (hgl.no 10 rfl) tree10_ok Tryz.func10 lent10 zpD (by simp [tops,top_enc];rfl) (N:=args.length+1) ?_
  have key:∀ (l:List E) (i:Nat) (n:Int),args.drop i=l->∀ k,l.length<k->zcX (phE Tryz.prog gl) gl (args.length+1) lp10_1
    [.agg [.int .i64 op,.int .i64 pl,.int .u64 s0,.int .u64 s1,.int .u64 s2,.int .u64 s3,.str text,.int .i64 mn,.int .i64 mx,zW nl (encs args)],.int .i64 d,.int .i64 op,.int .i64 pl,.int .u64 s0,.int .u64 s1,.int .u64 s2,.int .u64 s3,.str text,.int .i64 mn,.int .i64 mx,zW nl (encs args)]
    k [.int .i64 n,.int .i64 (i:Int)]=some (0,[.int .i64 (sizeF (IntKind.i64.wrap (d+1)) n l)]):=by
   simp only [lp10_1];intro l
   induction l with
   | nil =>
    intro i n hd k hk;obtain ⟨k,rfl⟩:∃ k',k=k'+1:=⟨k - 1,by omega⟩
    refine xf ?_;have h1:=zme (zfc hd);simp only [jM,zP,ev_esc,zN,qC,qH,zBt,zy,zI,evB,evI,evL,zr,evC,zC,qR,zY,j9,zv,yk,h1,encs_length,sizeF]
   | cons a l ih =>
    intro i n hd k hk;obtain ⟨k,rfl⟩:∃ k',k=k'+1:=⟨k - 1,by omega⟩
    obtain ⟨ha,hi,hd'⟩:=zfb hd;have h1:=zjv hi;cases h5:ltz n 1048576 with
    | false =>
     refine xf ?_;simp only [jM,zP,ev_esc,zN,qC,qH,Bool.and_false,zy,zI,evB,evI,evL,zr,evC,zC,qR,zY,j9,zv,yk,h1,h5,encs_length,sizeF,if_false,zAD]
    | true =>
    refine xe (vs:=[.int .i64 (IntKind.i64.wrap (n+sizeM a (IntKind.i64.wrap (d+1)))),.int .i64 ((i+1:Nat):Int)]) ?_ (by simp only [sizeF,h5,if_true];exact ih (i+1) _ hd' k (by simp at hk;omega))
    have hc:=hargs i a ha;have h2:=zef ha;have h4:=znH (i:=i) (by omega)
    obtain ⟨op',pl',s0',s1',s2',s3',text',mn',mx',nl',args'⟩:=a;simp only [enc] at hc h2;simp only [jC,zP,xG,ev_opn,qZ,jg,qC,qH,zU,jL,vD,ks_nil,zAc,qm,vK,zy,zI,evB,evI,evL,zr,evC,zC,kX,evA,qD,zY,j9,biI,zea,joinL,sizesOk,wa,yk,h1,h2,h4,h5,hc,encs_length,zBd]
  simp only [tree10,enc,sizeM];cases hd:ltz 5000 d with
  | true=>simp only [jC,zP,zN,ev_opn,qZ,qC,qH,zU,jL,vD,ks_nil,zAc,qm,zy,zI,evB,evI,zr,evC,zC,qR,zY,kc,wa,hd,if_true]
  | false =>
   simp only [jM,ev_opn,qZ,zaL,qC,qH,zU,jL,vD,ks_nil,zAc,qm,zy,zI,evB,evI,zr,evC,zY,kc,wa,hd,if_false,zAD];exact zdj (key args 0 _ (by simp) _ (by omega))
termination_by e=>hg e
decreasing_by simp only [hg];have:=zaZ ha;omega
mutual
def partsM:E->Int->Int->Int->Bool×Int×Int
 | .mk op pl s0 s1 s2 s3 text mn mx nl args,d,n,s =>
  if (ltz 65536 (IntKind.i64.wrap (n+1)) || ltz 4096 d) then (false,IntKind.i64.wrap (n+1),s) else
  if leanB (.mk op pl s0 s1 s2 s3 text mn mx nl args) then
   if kindB (.mk op pl s0 s1 s2 s3 text mn mx nl args) then partsF (IntKind.i64.wrap (d+1)) args (IntKind.i64.wrap (n+1)) (if op == 2 then IntKind.i64.wrap (s+1) else s)
   else (false,IntKind.i64.wrap (n+1),s)
  else (false,IntKind.i64.wrap (n+1),s)
def partsF:Int->List E->Int->Int->Bool×Int×Int
 | _,[],n,s=>(true,n,s)
 | d,a::l,n,s=>if (partsM a d n s).1 then partsF d l (partsM a d n s).2.1 (partsM a d n s).2.2 else partsM a d n s
end
def zhJ (e:E) (d:Int):List AV:=[.d (enc e),.d (.int .i64 d),.p 0 0,.p 1 0]
def zgk (n s:Int):List (List V×TypeId):=[([.int .i64 n],3),([.int .i64 s],3)]
def zeg (r:Bool×Int×Int):List (List V):=[[.int .i64 r.2.1],[.int .i64 r.2.2]]
theorem lent41:jR Tryz.prog Tryz.f41.params.toList=some [(3,[.int .i64]),(3,[.int .i64])]:=by kernel_rfl
theorem zpF {x y:V}:vJ Tryz.prog [27,3,86,86] [.d x,.d y,.p 0 0,.p 1 0] 0:=by
 refine ⟨fun e=>?_,fun e=>?_,⟨3,Tryz.underlying86⟩,rfl,rfl,⟨3,Tryz.underlying86⟩,rfl,rfl,trivial⟩
 ·rw [Tryz.underlying27];simp
 ·rw [Tryz.underlying3];simp
theorem zpG (hgl:GL gl):∀ (e:E),Wf e->∀ d n s,Ev Tryz.prog gl 41 (zhJ e d) (zgk n s) (.bool (partsM e d n s).1) (zeg (partsM e d n s))
 | .mk op pl s0 s1 s2 s3 text mn mx nl args,hw=>by
  intro d n s;have hml:=maxLen_le;have hlen:=hw.2.1;have hargs:∀ i a,args[i]?=some a->∀ d n s,phE Tryz.prog gl 41 (zhJ a d) (zgk n s)=some (.bool (partsM a d n s).1,zeg (partsM a d n s)):=fun i a h d n s =>
   have ha:=zAh h
   kW (zpG hgl a (hw.2.2.mem ha) d n s)
  refine zjt (N:=args.length+1) (zmc hgl.top) (hgl.no 41 rfl) tree41_ok Tryz.func41 lent41 (avs:=zhJ _ d) (by rw [Tryz.params41];exact zpF) (fp:=zgk n s) (show FpOk [(3,[.int .i64]),(3,[.int .i64])] (zgk n s) from ⟨rfl,rfl,rfl,rfl,rfl,rfl,trivial⟩) (fun x hx=>?_) (show szOk (zgk n s) (zeg _) from ⟨rfl,rfl,trivial⟩) ?_
  ·simp only [zhJ,zAO,AV.d.injEq,reduceCtorEq,List.not_mem_nil,zBr] at hx;rcases hx with rfl|rfl
   ·exact top_enc _
   ·rfl
  have key:∀ (l:List E) (i:Nat) (n' s':Int),args.drop i=l->∀ k,l.length<k->zcX (phE Tryz.prog gl) gl (args.length+1) lp41_1
    [.agg [.int .i64 op,.int .i64 pl,.int .u64 s0,.int .u64 s1,.int .u64 s2,.int .u64 s3,.str text,.int .i64 mn,.int .i64 mx,zW nl (encs args)],.int .i64 d,.nilp,.nilp,.int .i64 n,.int .i64 s,.int .i64 op,.int .i64 pl,.int .u64 s0,.int .u64 s1,.int .u64 s2,.int .u64 s3,.str text,.int .i64 mn,.int .i64 mx,zW nl (encs args),.bool true,.bool true]
    k [.int .i64 (i:Int),.int .i64 n',.int .i64 s']=some (0,[.bool (partsF (IntKind.i64.wrap (d+1)) l n' s').1,.int .i64 (partsF (IntKind.i64.wrap (d+1)) l n' s').2.1,.int .i64 (partsF (IntKind.i64.wrap (d+1)) l n' s').2.2]):=by
   simp only [lp41_1];intro l
   induction l with
   | nil =>
    intro i n' s' hd k hk;obtain ⟨k,rfl⟩:∃ k',k=k'+1:=⟨k - 1,by omega⟩
    refine xf ?_;have h1:=zme (zfc hd);simp only [jM,zP,ev_esc,zN,qC,qH,zy,zI,evB,evI,evL,zr,evC,zC,qR,zY,j9,yk,h1,encs_length,partsF]
   | cons a l ih =>
    intro i n' s' hd k hk;obtain ⟨k,rfl⟩:∃ k',k=k'+1:=⟨k - 1,by omega⟩
    obtain ⟨ha,hi,hd'⟩:=zfb hd;have h1:=zjv hi;have hc:=hargs i a ha (IntKind.i64.wrap (d+1)) n' s';have h2:=zef ha;have h4:=znH (i:=i) (by omega)
    have hf:partsF (IntKind.i64.wrap (d+1)) (a::l) n' s'=if (partsM a (IntKind.i64.wrap (d+1)) n' s').1 then partsF (IntKind.i64.wrap (d+1)) l (partsM a (IntKind.i64.wrap (d+1)) n' s').2.1 (partsM a (IntKind.i64.wrap (d+1)) n' s').2.2 else partsM a (IntKind.i64.wrap (d+1)) n' s':=by simp only [partsF]
    rw [hf];cases hp:(partsM a (IntKind.i64.wrap (d+1)) n' s').1 with
    | false =>
     refine xf ?_;simp only [zAD,if_false,hp];rw [hp] at hc;obtain ⟨op',pl',s0',s1',s2',s3',text',mn',mx',nl',args'⟩:=a;simp only [enc,zhJ,zgk,zeg] at hc h2;simp only [jC,zP,ev_esc,zN,xG,ev_opn,qZ,jg,qC,qH,zU,jL,vD,kK,ks_nil,zAc,zAw,qm,vK,zy,zI,vR,evB,evI,evL,zr,evC,zC,kX,evA,qD,qR,zY,qY,j9,biI,zea,joinL,sizesOk,zv,kP,zBS,zAS,List.length_nil,wa,yk,qn,h1,h2,hc,encs_length,zBd]
    | true =>
     simp only [if_true];refine xe (vs:=[.int .i64 ((i+1:Nat):Int),.int .i64 (partsM a (IntKind.i64.wrap (d+1)) n' s').2.1,.int .i64 (partsM a (IntKind.i64.wrap (d+1)) n' s').2.2]) ?_ (ih (i+1) _ _ hd' k (by simp at hk;omega))
     rw [hp] at hc;obtain ⟨op',pl',s0',s1',s2',s3',text',mn',mx',nl',args'⟩:=a;simp only [enc,zhJ,zgk,zeg] at hc h2;simp only [jC,jM,zP,xG,ev_opn,qZ,jg,qC,qH,zU,jL,vD,kK,ks_nil,zAc,zAs,qm,vK,zy,zI,vR,evB,evI,evL,zr,evC,zC,kX,evA,qD,zY,qY,j9,biI,zea,joinL,sizesOk,zv,kP,zBS,zAS,List.length_nil,wa,yk,qn,h1,h2,h4,hc,encs_length,zBd]
  have e71:=kW (zqw hgl (.mk op pl s0 s1 s2 s3 text mn mx nl args));have e72:=kW (zqx hgl (.mk op pl s0 s1 s2 s3 text mn mx nl args));simp only [enc] at e71 e72;simp only [tree41,zhJ,zgk,zeg,zc6,lentV,zAX,zAp,holdA,enc,partsM];cases h1:(ltz 65536 (IntKind.i64.wrap (n+1)) || ltz 4096 d) with
  | true=>simp only [jM,zP,zN,ev_opn,qZ,qC,qH,zU,jL,vD,ks_nil,zAc,zAs,qm,zy,zI,vR,evB,evI,zr,evC,zC,qR,zY,kc,biI,joinL,wa,h1,if_true]
  | false =>
  cases h2:leanB (.mk op pl s0 s1 s2 s3 text mn mx nl args) with
  | false=>simp only [jC,jM,zP,zN,ev_opn,qZ,jg,qC,qH,zU,jL,vD,kK,ks_nil,zAc,zAw,qm,zy,zI,vR,evB,evI,zr,evC,zC,kX,evA,qD,qR,zY,qY,kc,biI,joinL,sizesOk,zv,kP,wa,qn,h1,e71,h2,if_false,zAD]
  | true =>
  cases h3:kindB (.mk op pl s0 s1 s2 s3 text mn mx nl args) with
  | false=>simp only [jC,zP,zN,ev_opn,qZ,jg,qC,qH,zU,jL,vD,kK,ks_nil,zAc,zAw,qm,zy,zI,vR,evB,evI,zr,evC,zC,kX,evA,qD,qR,zY,qY,kc,biI,joinL,sizesOk,zv,kP,wa,qn,h1,e71,e72,h2,h3,if_true,if_false,zAD]
  | true =>
  cases hop:op == 2 with
  | true =>
   simp only [jC,jM,ev_opn,qZ,jg,zaL,qC,qH,zU,jL,vD,kK,ks_nil,zAc,zAs,zAw,qm,zy,zI,vR,evB,evI,zr,evC,zC,kX,evA,qD,zY,qY,kc,qX,biI,joinL,sizesOk,zv,kP,wa,qn,h1,e71,e72,h2,h3,hop,if_true,if_false,zAD];exact zdj (key args 0 _ _ (by simp) _ (by omega))
  | false =>
   simp only [jC,jM,ev_opn,qZ,jg,zaL,qC,qH,zU,jL,vD,kK,ks_nil,zAc,zAs,zAw,qm,zy,zI,vR,evB,evI,zr,evC,zC,kX,evA,qD,zY,qY,kc,qX,biI,joinL,sizesOk,zv,kP,wa,qn,h1,e71,e72,h2,h3,hop,if_true,if_false,zAD];exact zdj (key args 0 _ _ (by simp) _ (by omega))
termination_by e=>hg e
decreasing_by simp only [hg];have:=zaZ ha;omega
end Go.Proofs.YtlnijcffanjieaaGreatDoor
namespace Go.Proofs.YtlnijcffanjieaaGreatDoor
set_option maxRecDepth 10000
open Go Go.Vm Go.Vm.Sx
abbrev St4:=Int×Int×Int×Int
def stV (s:St4):V:=.agg [.int .u64 s.1,.int .u64 s.2.1,.int .u64 s.2.2.1,.int .u64 s.2.2.2]
def r64 (x:Int):Prop:=0<=x/\x<18446744073709551616
def RgS (s:St4):Prop:=r64 s.1/\r64 s.2.1/\r64 s.2.2.1/\r64 s.2.2.2
instance (s:St4):Decidable (RgS s):=by unfold RgS r64;exact inferInstance
def za0 (s:St4) (i:Nat):Int:=if i=0 then s.1 else if i=1 then s.2.1 else if i=2 then s.2.2.1 else s.2.2.2
def wb (s:St4) (b:Nat):Bool:=(za0 s (b / 64)).toNat.testBit (b % 64)
def orI (a b:Int):Int:=((a.toNat ||| b.toNat:Nat):Int)
def xV (s t:St4):St4:=(orI s.1 t.1,orI s.2.1 t.2.1,orI s.2.2.1 t.2.2.1,orI s.2.2.2 t.2.2.2)
theorem zjC {a b:Int} (ha:r64 a) (hb:r64 b):r64 (orI a b):=by
 obtain ⟨a0,a1⟩:=ha;obtain ⟨b0,b1⟩:=hb;have h1:a.toNat<2 ^ 64:=by omega
 have h2:b.toNat<2 ^ 64:=by omega
 have:=Nat.or_lt_two_pow h1 h2;unfold orI r64;omega
theorem zok {s t:St4} (hs:RgS s) (ht:RgS t):RgS (xV s t):=⟨zjC hs.1 ht.1,zjC hs.2.1 ht.2.1,zjC hs.2.2.1 ht.2.2.1,zjC hs.2.2.2 ht.2.2.2⟩
theorem zjD {s t:St4} (b:Nat):wb (xV s t) b=(wb s b || wb t b):=by
 have:∀ i,za0 (xV s t) i=orI (za0 s i) (za0 t i):=fun i=>by unfold za0 xV;split<;>(try split)<;>(try split)<;>rfl
 unfold wb;rw [this];simp [orI,Nat.testBit_or]
theorem u8w {x:Int} (h:0<=x) (h':x<256):IntKind.u8.wrap x=x:=by
 simp only [IntKind.wrap,IntKind.bits,IntKind.signed];simp;omega
theorem zpH {x:Nat} (h:x<2 ^ 64):IntKind.u64.wrap (x:Int)=(x:Int):=by
 simp only [IntKind.wrap,IntKind.bits,IntKind.signed];simp;omega
theorem zqy {b:Nat} (h:b<256):biI .quo .u8 (b:Int) 64=((b / 64:Nat):Int):=by
 simp only [biI];rw [show (b:Int).tdiv 64=((b / 64:Nat):Int) by rw [Int.tdiv_eq_ediv_of_nonneg (by omega)];omega]
 exact u8w (by omega) (by omega)
theorem zqz {b:Nat}:biI .rem .u8 (b:Int) 64=((b % 64:Nat):Int):=by
 simp only [biI];rw [Int.tmod_eq_emod_of_nonneg (by omega)]
 omega
theorem zdl {a:Nat} (ha:a<2 ^ 64):(BitVec.ofInt 64 (a:Int)).toNat=a:=by
 simp [zBY ha]
theorem zpI {a b:Nat} (ha:a<2 ^ 64) (hb:b<2 ^ 64):biI .and .u64 (a:Int) (b:Int)=((a &&& b:Nat):Int):=by
 have h0:((BitVec.ofInt 64 (a:Int) &&& BitVec.ofInt 64 (b:Int)).toNat)=a &&& b:=by
  rw [BitVec.toNat_and,zdl ha,zdl hb]
 have h:((BitVec.ofInt IntKind.u64.bits (a:Int) &&& BitVec.ofInt IntKind.u64.bits (b:Int)).toNat)=a &&& b:=h0;simp only [biI];rw [h,zpH (Nat.lt_of_le_of_lt Nat.and_le_left ha)]
theorem zqA {a b:Nat} (ha:a<2 ^ 64) (hb:b<2 ^ 64):biI .or .u64 (a:Int) (b:Int)=((a ||| b:Nat):Int):=by
 have h0:((BitVec.ofInt 64 (a:Int) ||| BitVec.ofInt 64 (b:Int)).toNat)=a ||| b:=by
  rw [BitVec.toNat_or,zdl ha,zdl hb]
 have h:((BitVec.ofInt IntKind.u64.bits (a:Int) ||| BitVec.ofInt IntKind.u64.bits (b:Int)).toNat)=a ||| b:=h0
 simp only [biI];rw [h,zpH (Nat.or_lt_two_pow ha hb)]
theorem zjE {a b:Int} (ha:r64 a) (hb:r64 b):biI .or .u64 a b=orI a b:=by
 obtain ⟨a0,a1⟩:=ha;obtain ⟨b0,b1⟩:=hb;have:=zqA (a:=a.toNat) (b:=b.toNat) (by omega) (by omega)
 rw [Int.toNat_of_nonneg a0,Int.toNat_of_nonneg b0] at this;exact this
theorem zpJ {x:Int} {k:Nat} (h0:r64 x) (hk:k<64):biI .shr .u64 x (k:Int)=((x.toNat >>> k:Nat):Int):=by
 obtain ⟨a0,a1⟩:=h0;obtain ⟨n,rfl⟩:∃ n:Nat,x=(n:Int):=⟨x.toNat,by omega⟩
 simp only [biI];have:min ((k:Int).toNat) IntKind.u64.bits=k:=by
  show min ((k:Int).toNat) 64=k;omega
 rw [this,Nat.shiftRight_eq_div_pow,zBd];rw [Int.fdiv_eq_ediv_of_nonneg _ (by exact Int.le_of_lt (Int.pow_pos (by decide)))]
 push_cast
 rfl
theorem zgl {x:Int} {k:Nat} (h0:r64 x) (hk:k<64):(biI .and .u64 (biI .shr .u64 x (k:Int)) 1 == 1)=x.toNat.testBit k:=by
 have h1:x.toNat<2 ^ 64:=by obtain ⟨a0,a1⟩:=h0;omega
 rw [zpJ h0 hk,show (1:Int)=((1:Nat):Int) from rfl,zpI (Nat.lt_of_le_of_lt (Nat.shiftRight_le _ _) h1) (by decide),Nat.and_one_is_mod]
 rw [Nat.testBit_eq_decide_div_mod_eq,Nat.shiftRight_eq_div_pow];generalize x.toNat / 2 ^ k % 2=m
 by_cases e:m=1
 ·subst e;rfl
 ·simp only [e,decide_false];exact beq_false_of_ne (by omega)
variable {gl:Gl} [NoU gl]
theorem lent17:jR Tryz.prog Tryz.f17.params.toList=some []:=by kernel_rfl
theorem zpK {x y:V}:vJ Tryz.prog [24,5] [.d x,.d y] 0:=by
 refine ⟨fun e=>?_,fun e=>?_,trivial⟩
 ·rw [Tryz.underlying24];simp
 ·rw [Tryz.underlying5];simp
theorem zqB (hgl:GL gl) (s:St4) (hs:RgS s) (b:Nat) (hb:b<256):Ev Tryz.prog gl 17 [.d (stV s),.d (.int .u8 b)] [] (.bool (wb s b)) []:=by
 refine jc (xs:=[stV s,.int .u8 b]) hgl.top (hgl.no 17 rfl) tree17_ok Tryz.func17 lent17 zpK (by simp [tops,V.top,stV]) (N:=1) ?_
 have hm:b % 64<64:=Nat.mod_lt _ (by decide)
 have hge:ltz ((b % 64:Nat):Int) 0=false:=zb2 (by omega)
 have hge':lez 0 ((b % 64:Nat):Int)=true:=zju (by omega)
 obtain ⟨r0,r1,r2,r3⟩:=hs;have e0:=zgl r0 hm;have e1:=zgl r1 hm;have e2:=zgl r2 hm;have e3:=zgl r3 hm;simp only [biI] at e0 e1 e2 e3;have q:=zqy hb;have rm:=zqz (b:=b);simp only [biI] at q rm;have hd:b / 64=0\/b / 64=1\/b / 64=2\/b / 64=3:=by omega
 have hb0:∀ n:Nat,b / 64=n->IntKind.u8.wrap ((b:Int).tdiv 64)=(n:Int):=fun n h=>by rw [q,h]
 simp only [tree17,stV,wb,za0];rcases hd with h|h|h|h<;>simp only [h,Nat.reduceEqDiff,if_true,if_false,Nat.succ_ne_zero]
 ·have q':IntKind.u8.wrap ((b:Int).tdiv 64)=0:=hb0 0 h;simp only [jC,zb3,zP,zN,ev_opn,qZ,qC,qH,zU,jL,ks_nil,zAc,qm,zy,zI,evB,evI,zr,evC,zC,qR,zY,zcx,qX,biI,q',rm,hge',e0,Int.reduceBEq]
 ·have q':IntKind.u8.wrap ((b:Int).tdiv 64)=1:=hb0 1 h;simp only [jC,jM,zb3,zP,zN,ev_opn,qZ,qC,qH,zU,jL,ks_nil,zAc,qm,zy,zI,evB,evI,zr,evC,zC,qR,zY,zcx,qX,biI,q',rm,hge',e1,Int.reduceBEq]
 ·have q':IntKind.u8.wrap ((b:Int).tdiv 64)=2:=hb0 2 h;simp only [jC,jM,zb3,zP,zN,ev_opn,qZ,qC,qH,zU,jL,ks_nil,zAc,qm,zy,zI,evB,evI,zr,evC,zC,qR,zY,zcx,qX,biI,q',rm,hge',e2,Int.reduceBEq]
 ·have q':IntKind.u8.wrap ((b:Int).tdiv 64)=3:=hb0 3 h;simp only [jC,jM,zb3,zP,zN,ev_opn,qZ,qC,qH,zU,jL,ks_nil,zAc,qm,zy,zI,evB,evI,zr,evC,zC,qR,zY,zcx,qX,biI,q',rm,hge',e3,Int.reduceBEq]
theorem lent226:jR Tryz.prog Tryz.f226.params.toList=some []:=by kernel_rfl
theorem zpL {x y:V}:vJ Tryz.prog [24,24] [.d x,.d y] 0:=by
 refine ⟨fun e=>?_,fun e=>?_,trivial⟩
 ·rw [Tryz.underlying24];simp
 ·rw [Tryz.underlying24];simp
theorem w1:IntKind.i64.wrap (0+1)=1:=by decide
theorem w2:IntKind.i64.wrap (1+1)=2:=by decide
theorem w3:IntKind.i64.wrap (2+1)=3:=by decide
theorem w4:IntKind.i64.wrap (3+1)=4:=by decide
theorem l04:ltz 0 4=true:=rfl
theorem l14:ltz 1 4=true:=rfl
theorem l24:ltz 2 4=true:=rfl
theorem l34:ltz 3 4=true:=rfl
theorem l44:ltz 4 4=false:=rfl
theorem zpM (hgl:GL gl) (s t:St4) (hs:RgS s) (ht:RgS t):Ev Tryz.prog gl 226 [.d (stV s),.d (stV t)] [] (stV (xV s t)) []:=by
 refine jc (xs:=[stV s,stV t]) hgl.top (hgl.no 226 rfl) tree226_ok Tryz.func226 lent226 zpL (by simp [tops,V.top,stV]) (N:=5) ?_
 obtain ⟨a0,a1,a2,a3⟩:=hs;obtain ⟨b0,b1,b2,b3⟩:=ht;have o0:=zjE a0 b0;have o1:=zjE a1 b1;have o2:=zjE a2 b2;have o3:=zjE a3 b3;simp only [biI] at o0 o1 o2 o3;simp only [tree226,stV,xV];simp only [ev_opn,zaL,qC,qH,zU,jL,ks_nil,zAc,qm,zy,zI,evI,zr,evC,zv];refine zdj ?_;refine xe (by simp only [lp226_1];simp only [jC,zP,qC,qH,zy,zI,evB,evI,zr,evC,zY,j9,qX,biI,l04,w1,o0,Int.reduceBEq];rfl) ?_
 refine xe (by simp only [lp226_1];simp only [jC,jM,zP,qC,qH,zy,zI,evB,evI,zr,evC,zY,j9,qX,biI,l14,w2,o1,Int.reduceBEq];rfl) ?_
 refine xe (by simp only [lp226_1];simp only [jC,jM,zP,qC,qH,zy,zI,evB,evI,zr,evC,zY,j9,qX,biI,l24,w3,o2,Int.reduceBEq];rfl) ?_
 refine xe (by simp only [lp226_1];simp only [jC,jM,zP,qC,qH,zy,zI,evB,evI,zr,evC,zY,j9,qX,biI,l34,w4,o3,Int.reduceBEq];rfl) ?_
 refine xf (by simp only [lp226_1];simp only [jM,zP,ev_esc,zN,qC,qH,zy,zI,evB,evI,zr,evC,zC,qR,zY,j9,zv,l44])
def st0:St4:=(0,0,0,0)
theorem rg0:RgS st0:=⟨⟨by decide,by decide⟩,⟨by decide,by decide⟩,⟨by decide,by decide⟩,⟨by decide,by decide⟩⟩
theorem xK (b:Nat):wb st0 b=false:=by
 have:za0 st0 (b / 64)=0:=by unfold za0 st0;split<;>(try split)<;>(try split)<;>rfl
 unfold wb;rw [this];simp
theorem zb8 {x y:Int} (hx:r64 x) (hy:r64 y) (h:∀ k,k<64->x.toNat.testBit k=y.toNat.testBit k):x=y:=by
 obtain ⟨x0,x1⟩:=hx;obtain ⟨y0,y1⟩:=hy;have:x.toNat=y.toNat:=by
  apply Nat.eq_of_testBit_eq;intro j;rcases zAg j 64 with hj|hj
  ·exact h j hj
  ·have p:2 ^ 64<=2 ^ j:=Nat.pow_le_pow_right (by decide) hj
   rw [Nat.testBit_lt_two_pow (show x.toNat<2 ^ j by omega),Nat.testBit_lt_two_pow (show y.toNat<2 ^ j by omega)]
 omega
theorem znJ {s t:St4} (hs:RgS s) (ht:RgS t) (h:∀ b,b<256->wb s b=wb t b):s=t:=by
 have key:∀ i,i<4->∀ k,k<64->(za0 s i).toNat.testBit k=(za0 t i).toNat.testBit k:=fun i hi k hk=>by
  have:=h (64 * i+k) (by omega)
  unfold wb at this;rw [show (64 * i+k) / 64=i by omega,show (64 * i+k) % 64=k by omega] at this
  exact this
 obtain ⟨a,b,c,d⟩:=s;obtain ⟨a',b',c',d'⟩:=t;have e0:=zb8 hs.1 ht.1 (key 0 (by decide))
 have e1:=zb8 hs.2.1 ht.2.1 (key 1 (by decide))
 have e2:=zb8 hs.2.2.1 ht.2.2.1 (key 2 (by decide))
 have e3:=zb8 hs.2.2.2 ht.2.2.2 (key 3 (by decide))
 simp only at e0 e1 e2 e3;rw [e0,e1,e2,e3]
theorem zhK {s:St4} (hs:RgS s) (h:s≠st0):∃ b,b<256/\wb s b=true:=by
 apply Classical.byContradiction;intro hn;refine h (znJ hs rg0 fun b hb=>?_);rw [xK];cases hb':wb s b with
 | false=>rfl
 | true=>exact absurd ⟨b,hb,hb'⟩ hn
end Go.Proofs.YtlnijcffanjieaaGreatDoor
namespace Go.Proofs.YtlnijcffanjieaaGreatDoor
set_option maxRecDepth 100000
open Go Go.Vm
variable {gl:Gl}
structure GW (gl:Gl):Prop where
 uq:gl.uq=uqw
 hk2:∀ n f args H,gl.hk2 n f args H=none
 has:∀ s b,RgS s->b<256->gl.hk 17 [stV s,.int .u8 (b:Nat)]=some (.bool (wb s b))
 uni:∀ s t,RgS s->RgS t->gl.hk 226 [stV s,stV t]=some (stV (xV s t))
 hk:∀ f args,(([44,45,67,98]++(List.range 22).map (·+270)).any (Nat.beq f))=true->gl.hk f args=none
theorem fo125_0:qG Tryz.prog 125 0=some 0:=by kernel_rfl
theorem fo125_1:qG Tryz.prog 125 1=some 4:=by kernel_rfl
theorem fo133_0:qG Tryz.prog 133 0=some 0:=by kernel_rfl
theorem fo133_1:qG Tryz.prog 133 1=some 1:=by kernel_rfl
theorem fo133_2:qG Tryz.prog 133 2=some 2:=by kernel_rfl
theorem fo133_3:qG Tryz.prog 133 3=some 3:=by kernel_rfl
theorem fo137_0:qG Tryz.prog 137 0=some 0:=by kernel_rfl
theorem fo137_1:qG Tryz.prog 137 1=some 1:=by kernel_rfl
theorem fo137_2:qG Tryz.prog 137 2=some 2:=by kernel_rfl
theorem fo140_0:qG Tryz.prog 140 0=some 0:=by kernel_rfl
theorem fo140_1:qG Tryz.prog 140 1=some 1:=by kernel_rfl
theorem fo140_2:qG Tryz.prog 140 2=some 2:=by kernel_rfl
theorem ag4:jG Tryz.prog 4=some false:=by kernel_rfl
theorem ag24:jG Tryz.prog 24=some true:=by kernel_rfl
theorem ag93:jG Tryz.prog 93=some false:=by kernel_rfl
theorem ag135:jG Tryz.prog 135=some false:=by kernel_rfl
theorem sz4:qc Tryz.prog 4=some 1:=by kernel_rfl
theorem sz24:qc Tryz.prog 24=some 4:=by kernel_rfl
theorem sz93:qc Tryz.prog 93=some 1:=by kernel_rfl
noncomputable def ko (gl:Gl) (n:Nat) (nm:String) (v:V) (args:List V) (H:Hp):Option (OR×Hp):=Cx.callV ⟨Tryz.prog,gl.g,zx Tryz.prog gl n,gl.uq⟩ (.fn (.method nm) [] []) (v::args) H
section
variable {cx:Cx} {takes:List Tmp} {dst:Option Tmp} {type:TypeId} {pos:String} {after:Array Edge} {guard:Option (Nat×Bool)} {env:List V} {H:Hp} {lk:List (Nat×Nat)} {df:List (V×List V)}
def zmq (cx:Cx) (m:String) (H:Hp) (lk:List (Nat×Nat)) (df:List (V×List V)) (env:List V):Option V->Option (List V)->Option (OR×St)
 | some r,some args=>je lk df env (cx.callV (.fn (.method m) [] []) (r::args) H)
 | _,_=>none
theorem z6 {r:Operand} {m:String} {args:Array Operand} {ts:Array TypeId}:cx.op takes ⟨dst,.call ⟨.invoke r m,args,ts⟩,type,pos,after,guard⟩ env H lk df=zmq cx m H lk df env (peek env r) (peeks env args.toList):=by
 simp only [Cx.op,zmq];cases peek env r with
 | none=>rfl
 | some x =>
  cases peeks env args.toList with
  | none=>rfl
  | some l =>
   simp only [je];cases cx.callV (.fn (.method m) [] []) (x::l) H with
   | none=>rfl
   | some q=>obtain ⟨a,b⟩:=q;rfl
theorem zfk {m:String} {v:V} {args:List V}:zmq cx m H lk df env (some v) (some args)=je lk df env (cx.callV (.fn (.method m) [] []) (v::args) H):=rfl
end
theorem qK {n:Nat} {nm:String} {t f:Nat} {v u:V} {args:List V} {H H':Hp} {r:V} {fn:Func} {body:Code} (hm:qo Tryz.prog t v nm=some (f,u)) (hf:Tryz.prog.funcs[f]?=some fn) (hb:fn.body=some body) (hargs:(u::args).map clr=u::args)
  (hc:zx Tryz.prog gl n f (u::args) H=some (.ret r,H')):ko gl n nm (.ifc t v) args H=some (.val r,H'):=by
 unfold ko;simp only [Cx.callV,zAW,hm,fL_eq,hargs];exact z7 hf hb hc
theorem xi {n:Nat} {f:FuncId} {args:List V} {H:Hp} {v:V} (h:gl.hk f args=some v):zx Tryz.prog gl (n+1) f args H=some (.ret v,H):=by
 obtain ⟨bs,es⟩:=H;simp only [zx,h]
theorem zQ {bs:List Blk} {es:List (Nat×Nat)} {n0 t:Nat} (h:n0=bs.length) (ht:t<=n0):q9 n0 es t ⟨bs,[]⟩=⟨bs,es⟩:=by
 subst h;have:=qq (bs:=bs) (ls:=[]) (es:=es) ht
 rwa [zA0] at this
theorem qg {bs:List Blk} {es:List (Nat×Nat)} {x:Blk}:Hp.push ⟨bs,es⟩ x=⟨bs++[x],es⟩:=rfl
theorem zqC (hg:GW gl) {n:Nat} {bs:List Blk} {es:List (Nat×Nat)} {p:Nat} {cs:List V} {ty:TypeId} {m:Bool} (hb:nth bs p=some (.cells cs ty)) (hc:nth cs 4=some (.bool m)) :
  zx Tryz.prog gl (n+1) 271 [.ptr p 0] ⟨bs,es⟩=some (.ret (.bool m),⟨bs,es⟩):=by
 have hl:zJ Tryz.prog ⟨bs,[]⟩ gl.g 4 (.ptr p 4)=some (.bool m):=zZ ag4 hb hc;refine qJ (hg.hk _ _ (by decide)) (fun H=>hg.hk2 _ _ _ _) Tryz.func271 rfl ?_
 simp only [Tryz.f271,zd];refine zc (tk:=[]) (by kernel_rfl) ?_
 simp only [zi,go_os_nil,zd,zg,zE,ofVal,zj,opQ_val,zl,zAC,zAS,List.length_nil,zAT,zAY,zAW,zAI,zAJ,List.replicate,Nat.reduceSub]
 refine zc (tk:=[]) (by kernel_rfl) ?_
 simp only [zi,go_os_nil,zk,zt,zg,zF,zn,peek,ze,zB,zb,zj,opQ_val,zl,zh,zp,zAB,zAC,derefA,zu,zX,zAT,zf,zm,zAI,zAJ,fo125_1,hl]
 simp only [go_ret,zD,Vm.Fin]
 exact ⟨trivial,[.bool m],rfl,rfl,(zQ rfl (zAU _)).symm⟩
theorem zqD (hg:GW gl) {n:Nat} {bs:List Blk} {es:List (Nat×Nat)} {p:Nat} {cs:List V} {ty:TypeId} {m:Bool} (hb:nth bs p=some (.cells cs ty)) (hc:nth cs 2=some (.bool m)) :
  zx Tryz.prog gl (n+1) 278 [.ptr p 0] ⟨bs,es⟩=some (.ret (.bool m),⟨bs,es⟩):=by
 have hl:zJ Tryz.prog ⟨bs,[]⟩ gl.g 4 (.ptr p 2)=some (.bool m):=zZ ag4 hb hc;refine qJ (hg.hk _ _ (by decide)) (fun H=>hg.hk2 _ _ _ _) Tryz.func278 rfl ?_
 simp only [Tryz.f278,zd];refine zc (tk:=[]) (by kernel_rfl) ?_
 simp only [zi,go_os_nil,zd,zg,zE,ofVal,zj,opQ_val,zl,zAC,zAS,List.length_nil,zAT,zAY,zAW,zAI,zAJ,List.replicate,Nat.reduceSub]
 refine zc (tk:=[]) (by kernel_rfl) ?_
 simp only [zi,go_os_nil,zk,zt,zg,zF,zn,peek,ze,zB,zb,zj,opQ_val,zl,zh,zp,zAB,zAC,derefA,zu,zX,zAT,zf,zm,zAI,zAJ,fo133_2,hl]
 simp only [go_ret,zD,Vm.Fin]
 exact ⟨trivial,[.bool m],rfl,rfl,(zQ rfl (zAU _)).symm⟩
theorem zqE (hg:GW gl) {n:Nat} {bs:List Blk} {es:List (Nat×Nat)} {p:Nat} {cs:List V} {ty:TypeId} {m:Bool} (hb:nth bs p=some (.cells cs ty)) (hc:nth cs 3=some (.bool m)) :
  zx Tryz.prog gl (n+1) 279 [.ptr p 0] ⟨bs,es⟩=some (.ret (.bool m),⟨bs,es⟩):=by
 have hl:zJ Tryz.prog ⟨bs,[]⟩ gl.g 4 (.ptr p 3)=some (.bool m):=zZ ag4 hb hc;refine qJ (hg.hk _ _ (by decide)) (fun H=>hg.hk2 _ _ _ _) Tryz.func279 rfl ?_
 simp only [Tryz.f279,zd];refine zc (tk:=[]) (by kernel_rfl) ?_
 simp only [zi,go_os_nil,zd,zg,zE,ofVal,zj,opQ_val,zl,zAC,zAS,List.length_nil,zAT,zAY,zAW,zAI,zAJ,List.replicate,Nat.reduceSub]
 refine zc (tk:=[]) (by kernel_rfl) ?_
 simp only [zi,go_os_nil,zk,zt,zg,zF,zn,peek,ze,zB,zb,zj,opQ_val,zl,zh,zp,zAB,zAC,derefA,zu,zX,zAT,zf,zm,zAI,zAJ,fo133_3,hl]
 simp only [go_ret,zD,Vm.Fin]
 exact ⟨trivial,[.bool m],rfl,rfl,(zQ rfl (zAU _)).symm⟩
theorem zqF (hg:GW gl) {n:Nat} {bs:List Blk} {es:List (Nat×Nat)} {p:Nat} {cs:List V} {ty:TypeId} {m:Bool} (hb:nth bs p=some (.cells cs ty)) (hc:nth cs 1=some (.bool m)) :
  zx Tryz.prog gl (n+1) 283 [.ptr p 0] ⟨bs,es⟩=some (.ret (.bool m),⟨bs,es⟩):=by
 have hl:zJ Tryz.prog ⟨bs,[]⟩ gl.g 4 (.ptr p 1)=some (.bool m):=zZ ag4 hb hc;refine qJ (hg.hk _ _ (by decide)) (fun H=>hg.hk2 _ _ _ _) Tryz.func283 rfl ?_
 simp only [Tryz.f283,zd];refine zc (tk:=[]) (by kernel_rfl) ?_
 simp only [zi,go_os_nil,zd,zg,zE,ofVal,zj,opQ_val,zl,zAC,zAS,List.length_nil,zAT,zAY,zAW,zAI,zAJ,List.replicate,Nat.reduceSub]
 refine zc (tk:=[]) (by kernel_rfl) ?_
 simp only [zi,go_os_nil,zk,zt,zg,zF,zn,peek,ze,zB,zb,zj,opQ_val,zl,zh,zp,zAB,zAC,derefA,zu,zX,zAT,zf,zm,zAI,zAJ,fo137_1,hl]
 simp only [go_ret,zD,Vm.Fin]
 exact ⟨trivial,[.bool m],rfl,rfl,(zQ rfl (zAU _)).symm⟩
theorem zqG (hg:GW gl) {n:Nat} {bs:List Blk} {es:List (Nat×Nat)} {p:Nat} {cs:List V} {ty:TypeId} {m:Bool} (hb:nth bs p=some (.cells cs ty)) (hc:nth cs 2=some (.bool m)) :
  zx Tryz.prog gl (n+1) 284 [.ptr p 0] ⟨bs,es⟩=some (.ret (.bool m),⟨bs,es⟩):=by
 have hl:zJ Tryz.prog ⟨bs,[]⟩ gl.g 4 (.ptr p 2)=some (.bool m):=zZ ag4 hb hc;refine qJ (hg.hk _ _ (by decide)) (fun H=>hg.hk2 _ _ _ _) Tryz.func284 rfl ?_
 simp only [Tryz.f284,zd];refine zc (tk:=[]) (by kernel_rfl) ?_
 simp only [zi,go_os_nil,zd,zg,zE,ofVal,zj,opQ_val,zl,zAC,zAS,List.length_nil,zAT,zAY,zAW,zAI,zAJ,List.replicate,Nat.reduceSub]
 refine zc (tk:=[]) (by kernel_rfl) ?_
 simp only [zi,go_os_nil,zk,zt,zg,zF,zn,peek,ze,zB,zb,zj,opQ_val,zl,zh,zp,zAB,zAC,derefA,zu,zX,zAT,zf,zm,zAI,zAJ,fo137_2,hl]
 simp only [go_ret,zD,Vm.Fin]
 exact ⟨trivial,[.bool m],rfl,rfl,(zQ rfl (zAU _)).symm⟩
theorem zqH (hg:GW gl) {n:Nat} {bs:List Blk} {es:List (Nat×Nat)} {p:Nat} {cs:List V} {ty:TypeId} {m:Bool} (hb:nth bs p=some (.cells cs ty)) (hc:nth cs 2=some (.bool m)) :
  zx Tryz.prog gl (n+1) 287 [.ptr p 0] ⟨bs,es⟩=some (.ret (.bool m),⟨bs,es⟩):=by
 have hl:zJ Tryz.prog ⟨bs,[]⟩ gl.g 4 (.ptr p 2)=some (.bool m):=zZ ag4 hb hc;refine qJ (hg.hk _ _ (by decide)) (fun H=>hg.hk2 _ _ _ _) Tryz.func287 rfl ?_
 simp only [Tryz.f287,zd];refine zc (tk:=[]) (by kernel_rfl) ?_
 simp only [zi,go_os_nil,zd,zg,zE,ofVal,zj,opQ_val,zl,zAC,zAS,List.length_nil,zAT,zAY,zAW,zAI,zAJ,List.replicate,Nat.reduceSub]
 refine zc (tk:=[]) (by kernel_rfl) ?_
 simp only [zi,go_os_nil,zk,zt,zg,zF,zn,peek,ze,zB,zb,zj,opQ_val,zl,zh,zp,zAB,zAC,derefA,zu,zX,zAT,zf,zm,zAI,zAJ,fo140_2,hl]
 simp only [go_ret,zD,Vm.Fin]
 exact ⟨trivial,[.bool m],rfl,rfl,(zQ rfl (zAU _)).symm⟩
theorem zqI (hg:GW gl) {n:Nat} {bs:List Blk} {es:List (Nat×Nat)} {p:Nat} :
  zx Tryz.prog gl (n+1) 270 [.ptr p 0] ⟨bs,es⟩=some (.ret (.bool false),⟨bs,es⟩):=by
 refine qJ (hg.hk _ _ (by decide)) (fun H=>hg.hk2 _ _ _ _) Tryz.func270 rfl ?_
 simp only [Tryz.f270,zd];refine zc (tk:=[]) (by kernel_rfl) ?_
 simp only [zi,go_os_nil,zd,zg,zE,ofVal,zj,opQ_val,zl,zAC,zAS,List.length_nil,zAT,zAY,zAW,zAI,zAJ,List.replicate,Nat.reduceSub]
 refine zc (tk:=[]) (by kernel_rfl) ?_
 simp only [zi,go_os_nil,zg,zE,ofVal,zj,opQ_val,zl,zAC,zAI,zAJ]
 simp only [go_ret,zD,Vm.Fin]
 exact ⟨trivial,[.bool false],rfl,rfl,(zQ rfl (zAU _)).symm⟩
theorem zqJ (hg:GW gl) {n:Nat} {bs:List Blk} {es:List (Nat×Nat)} {_bg:Bool} {_c:Int} :
  zx Tryz.prog gl (n+1) 274 [.agg []] ⟨bs,es⟩=some (.ret (.bool true),⟨bs,es⟩):=by
 refine qJ (hg.hk _ _ (by decide)) (fun H=>hg.hk2 _ _ _ _) Tryz.func274 rfl ?_
 simp only [Tryz.f274,zd];refine zc (tk:=[]) (by kernel_rfl) ?_
 simp only [zi,go_os_nil,zd,kE,zg,ze,zE,ofVal,z0,zj,opQ_val,zl,zAC,qg,zAS,List.length_nil,zAT,zAY,zAW,zf,zAI,zAJ,List.replicate,Nat.reduceSub,qO (show okC (.agg [])=true from rfl)]
 refine zc (tk:=[]) (by kernel_rfl) ?_
 simp only [zi,go_os_nil,zg,zE,ofVal,zj,opQ_val,zl,zAC,zAI,zAJ]
 simp only [go_ret,zD,Vm.Fin]
 exact ⟨trivial,[.bool true],rfl,rfl,(qq (ls:=[_]) (zAU _)).symm⟩
theorem zqK (hg:GW gl) {n:Nat} {bs:List Blk} {es:List (Nat×Nat)} {_bg:Bool} {_c:Int} :
  zx Tryz.prog gl (n+1) 275 [.agg []] ⟨bs,es⟩=some (.ret (.bool false),⟨bs,es⟩):=by
 refine qJ (hg.hk _ _ (by decide)) (fun H=>hg.hk2 _ _ _ _) Tryz.func275 rfl ?_
 simp only [Tryz.f275,zd];refine zc (tk:=[]) (by kernel_rfl) ?_
 simp only [zi,go_os_nil,zd,kE,zg,ze,zE,ofVal,z0,zj,opQ_val,zl,zAC,qg,zAS,List.length_nil,zAT,zAY,zAW,zf,zAI,zAJ,List.replicate,Nat.reduceSub,qO (show okC (.agg [])=true from rfl)]
 refine zc (tk:=[]) (by kernel_rfl) ?_
 simp only [zi,go_os_nil,zg,zE,ofVal,zj,opQ_val,zl,zAC,zAI,zAJ]
 simp only [go_ret,zD,Vm.Fin]
 exact ⟨trivial,[.bool false],rfl,rfl,(qq (ls:=[_]) (zAU _)).symm⟩
theorem zqL (hg:GW gl) {n:Nat} {bs:List Blk} {es:List (Nat×Nat)} {bg:Bool} {c:Int} :
  zx Tryz.prog gl (n+1) 277 [.agg [],.bool bg,.int .u8 c] ⟨bs,es⟩=some (.ret (.bool false),⟨bs,es⟩):=by
 refine qJ (hg.hk _ _ (by decide)) (fun H=>hg.hk2 _ _ _ _) Tryz.func277 rfl ?_
 simp only [Tryz.f277,zd];refine zc (tk:=[]) (by kernel_rfl) ?_
 simp only [zi,go_os_nil,zd,kE,zg,ze,zE,ofVal,z0,zj,opQ_val,zl,zAC,qg,zAS,List.length_nil,zAT,Nat.reduceAdd,zAY,zAW,zf,zAI,zAJ,List.replicate,Nat.reduceSub,qO (show okC (.agg [])=true from rfl)]
 refine zc (tk:=[]) (by kernel_rfl) ?_
 simp only [zi,go_os_nil,zg,zE,ofVal,zj,opQ_val,zl,zAC,zAI,zAJ]
 simp only [go_ret,zD,Vm.Fin]
 exact ⟨trivial,[.bool false],rfl,rfl,(qq (ls:=[_]) (zAU _)).symm⟩
end Go.Proofs.YtlnijcffanjieaaGreatDoor
namespace Go.Proofs.YtlnijcffanjieaaGreatDoor
set_option maxRecDepth 100000
open Go Go.Vm
variable {gl:Gl}
def vT (s:St4) (m:Bool):List V:=[.int .u64 s.1,.int .u64 s.2.1,.int .u64 s.2.2.1,.int .u64 s.2.2.2,.bool m]
theorem qz {α:Type} {l:List α} {i:Nat} {v:α} (h:i<l.length):nth (l.set i v) i=some v:=by rw [zq,zBN h]
theorem qf {α:Type} {l:List α} {i j:Nat} {v:α} (h:i≠j):nth (l.set i v) j=nth l j:=by rw [zq,zq,zBG h]
theorem zaP {H:Hp} {b:Nat} {m:Bool}:H.edge b (.bool m)=H:=kq rfl
theorem zqM (hg:GW gl) {n:Nat} {bs:List Blk} {es:List (Nat×Nat)} {p c:Nat} {s:St4} {m bg:Bool} (hs:RgS s) (hc:c<256) (hb:nth bs p=some (.cells (vT s m) 125)) :
  zx Tryz.prog gl (n+2) 273 [.ptr p 0,.bool bg,.int .u8 (c:Nat)] ⟨bs,es⟩=some (.ret (.bool (bg && wb s c)),⟨bs.set p (.cells (vT s (bg && wb s c)) 125),es⟩):=by
 have hlt:p<bs.length:=wk (H:=⟨bs,[]⟩) hb;have hb':Hp.get ⟨bs,[]⟩ p=some (.cells (vT s m) 125):=hb;have hl:zJ Tryz.prog ⟨bs,[]⟩ gl.g 24 (.ptr p 0)=some (stV s):=wI ag24 sz24 hb' (show 0+4<=(vT s m).length by simp [vT])
 have hcl:Cx.callF ⟨Tryz.prog,gl.g,zx Tryz.prog gl (n+1),gl.uq⟩ 17 [stV s,.int .u8 (c:Nat)] ⟨bs,[]⟩=some (.val (.bool (wb s c)),⟨bs,[]⟩):=z7 Tryz.func17 rfl (xi (hg.has s c hs hc));have vE:clr (stV s)=stV s:=rfl;refine qJ (hg.hk _ _ (by decide)) (fun H=>hg.hk2 _ _ _ _) Tryz.func273 rfl ?_
 have hst:∀ (env:List V) (x:Bool),qQ Tryz.prog 4 ⟨bs,[]⟩ [] [] (some (.bool x,env)) (some (.ptr p 4))=some (.skip,⟨env,⟨bs.set p (.cells (vT s x) 125),[]⟩,[],[]⟩):=fun env x=>by
  rw [jF sz4 hb' rfl rfl (by simp [vT]) (by simp [vT,vY,locked])]
  simp only [zaP,Hp.set,V.laid,vT,Vm.storeCells,zAJ,zAI]
 have hl2:∀ x,zJ Tryz.prog ⟨bs.set p (.cells (vT s x) 125),[]⟩ gl.g 4 (.ptr p 4)=some (.bool x):=fun x=>zZ (H:=⟨bs.set p (.cells (vT s x) 125),[]⟩) ag4 (qz hlt) rfl;simp only [Tryz.f273,zd];refine zc (tk:=[]) (by kernel_rfl) ?_
 simp only [zi,go_os_nil,zd,zg,zE,ofVal,zj,opQ_val,zl,zAC,zAS,List.length_nil,zAT,Nat.reduceAdd,zAY,zAW,zAI,zAJ,List.replicate,Nat.reduceSub]
 refine zc (tk:=[]) (by kernel_rfl) ?_
 cases bg with
 | false =>
  simp only [zi,go_os_nil,zd,zk,zt,zw,qE,zF,zn,qx,peeks,zO,peek,ze,ofVal,zB,zb,opQ_val,opQ_skip,zl,zv,zh,zp,zAB,zAC,derefA,zu,zX,zR,je,zAX,zAp,zAT,zAv,jb,zf,zm,zAI,zAJ,kL,qa,jh,wantB_tf,xT,fo125_0,fo125_1,hl,hcl,vE,jb,hst]
  refine zc (tk:=[]) (by kernel_rfl) ?_
  simp only [zi,go_os_nil,zk,zt,zg,zF,zn,peek,ze,zB,zb,zj,opQ_val,zl,zh,zp,zAB,zAC,derefA,zu,zX,zAT,zf,zm,zAI,zAJ,fo125_1,hl2]
  simp only [go_ret,zD,Vm.Fin]
  exact ⟨trivial,[.bool false],rfl,rfl,(zQ (by simp) (zAU _)).symm⟩
 | true =>
  simp only [zi,go_os_nil,zd,zk,zt,zw,qE,zF,zn,qx,peeks,zO,peek,ze,ofVal,zB,zb,opQ_val,opQ_skip,zl,zv,zh,zp,zAB,zAC,derefA,zu,zX,zR,je,zAX,zAp,zAT,zAv,ja,zf,zm,zAI,zAJ,kL,qa,jh,wantB_tt,xh,fo125_0,fo125_1,hl,hcl,vE,ja,hst]
  refine zc (tk:=[]) (by kernel_rfl) ?_
  simp only [zi,go_os_nil,zk,zt,zg,zF,zn,peek,ze,zB,zb,zj,opQ_val,zl,zh,zp,zAB,zAC,derefA,zu,zX,zAT,zf,zm,zAI,zAJ,fo125_1,hl2]
  simp only [go_ret,zD,Vm.Fin]
  exact ⟨trivial,[.bool (wb s c)],rfl,rfl,(zQ (by simp) (zAU _)).symm⟩
theorem z24:qi Tryz.prog 24=some (stV st0):=by kernel_rfl
theorem vE (s:St4):clr (stV s)=stV s:=rfl
theorem zeh {H:Hp} {g:Nat->Nat->Option V} {b:Nat} {s:St4} (h:H.get b=some (.cells (stV s).cells 24)):zJ Tryz.prog H g 24 (.ptr b 0)=some (stV s):=wI ag24 sz24 h (show 0+4<=4 by decide)
theorem xL {H:Hp} {b:Nat} {s t:St4} {env:List V} {lk:List (Nat×Nat)} {df:List (V×List V)} (h:H.get b=some (.cells (stV s).cells 24)):qQ Tryz.prog 24 H lk df (some (stV t,env)) (some (.ptr b 0))=some (.skip,⟨env,H.set b (.cells (stV t).cells 24),lk,df⟩):=by
 rw [jF sz24 h rfl rfl (show 0+4<=4 by decide) (vq (cs:=(stV s).cells) rfl (show 0+4<=4 by decide))]
 rw [kq rfl];rfl
theorem wJ {env:List V} {t:Nat} {s:St4}:jV env t (some (stV s))=some (stV s,env):=rfl
theorem zei {env:List V} {H:Hp} {lk:List (Nat×Nat)} {df:List (V×List V)}:zec 24 env H lk df (qi Tryz.prog 24)=some (.val (.ptr H.blks.length 0),⟨env,H.push (.cells (stV st0).cells 24),lk,df⟩):=by
 rw [z24,wU rfl]
theorem zb9 {bs:List Blk} {es:List (Nat×Nat)} {x:Blk}:Hp.get ⟨bs++[x],es⟩ bs.length=some x:=get_at0
theorem yG {bs:List Blk} {es:List (Nat×Nat)} {x y:Blk}:Hp.set ⟨bs++[x],es⟩ bs.length y=⟨bs++[y],es⟩:=set_at0
theorem zjF {bs:List Blk} {es:List (Nat×Nat)} {s:St4} {env:List V} {t:Nat} (h:nth env t=some (.ptr bs.length 0)):zM Tryz.prog ⟨bs++[.cells (stV s).cells 24],es⟩ env [.cell t 24]=some [stV s]:=by
 simp only [zM,h,zeh (H:=⟨bs++[.cells (stV s).cells 24],es⟩) (b:=bs.length) zb9,vE]
theorem zej {env:List V}:jE Tryz.prog 24 #[] env=some (stV st0):=by kernel_rfl
theorem zqN (hg:GW gl) {n:Nat} {bs:List Blk} {es:List (Nat×Nat)} {p:Nat} {s:St4} {m bg:Bool} (hb:nth bs p=some (.cells (vT s m) 125)) :
  zx Tryz.prog gl (n+1) 272 [.ptr p 0,.bool bg] ⟨bs,es⟩=some (.ret (stV (if bg then s else st0)),⟨bs,es⟩):=by
 have hlt:p<bs.length:=wk (H:=⟨bs,[]⟩) hb;have hb':Hp.get ⟨bs++[.cells (stV st0).cells 24],[]⟩ p=some (.cells (vT s m) 125):=(get_old hlt).trans hb;have hl:zJ Tryz.prog ⟨bs++[.cells (stV st0).cells 24],[]⟩ gl.g 24 (.ptr p 0)=some (stV s):=wI ag24 sz24 hb' (show 0+4<=(vT s m).length by simp [vT])
 refine qJ (hg.hk _ _ (by decide)) (fun H=>hg.hk2 _ _ _ _) Tryz.func272 rfl ?_
 simp only [Tryz.f272,zd];refine zc (tk:=[]) (by kernel_rfl) ?_
 simp only [zi,go_os_nil,zd,z9,opQ_val,zl,qg,zAS,List.length_nil,zAT,Nat.reduceAdd,zAY,zAW,zAI,zAJ,List.replicate,Nat.reduceSub,zei]
 refine zc (tk:=[]) (by kernel_rfl) ?_
 cases bg with
 | false =>
  simp only [zi,go_os_nil,zd,go_skip,zk,peek,zb,opQ_val,zl,zh,zAa,zG,zK,zf,zm,zAI,zAJ,zAD,zBA,zBi]
  refine zc (tk:=[]) (by kernel_rfl) ?_
  simp only [zi,go_os_nil,zw,qV,peek,ze,zb,opQ_val,opQ_skip,zl,zp,zf,zm,zAI,zAJ,zej,wJ,xL zb9,yG]
  simp only [go_ret,zD,Vm.Fin]
  exact ⟨trivial,[stV st0],zjF rfl,rfl,(qq (ls:=[_]) (zAU _)).symm⟩
 | true =>
  simp only [zi,go_os_nil,zd,go_skip,zk,peek,zb,opQ_val,zl,zh,zAa,zG,zK,if_true,zf,zm,zAI,zAJ,zAa,zBA,zBr,zAy]
  refine zc (tk:=[]) (by kernel_rfl) ?_
  simp only [zi,go_os_nil,zk,zt,zw,zF,zn,peek,ze,zb,opQ_val,opQ_skip,zl,zp,zAB,zAC,derefA,zu,zX,zAv,zf,zm,zAI,zAJ,fo125_0,hl,vE,wJ,xL zb9,yG]
  simp only [go_ret,zD,qI,Vm.Fin]
  exact ⟨trivial,[stV s],zjF rfl,rfl,(qq (ls:=[_]) (zAU _)).symm⟩
theorem zqO (hg:GW gl) {n:Nat} {bs:List Blk} {es:List (Nat×Nat)} {bg:Bool} :
  zx Tryz.prog gl (n+1) 276 [.agg [],.bool bg] ⟨bs,es⟩=some (.ret (stV st0),⟨bs,es⟩):=by
 refine qJ (hg.hk _ _ (by decide)) (fun H=>hg.hk2 _ _ _ _) Tryz.func276 rfl ?_
 simp only [Tryz.f276,zd];refine zc (tk:=[]) (by kernel_rfl) ?_
 simp only [zi,go_os_nil,zd,kE,z9,ze,z0,opQ_val,zl,qg,zAi,zAS,List.length_nil,zAT,Nat.reduceAdd,zAb,zAY,zAW,zf,zAI,zAJ,List.replicate,Nat.reduceSub,zei,qO (show okC (.agg [])=true from rfl)]
 refine zc (tk:=[]) (by kernel_rfl) ?_
 have g1:∀ x y:Blk,Hp.get ⟨bs++[x,y],[]⟩ (bs.length+1)=some y:=fun x y=>Vm.get_at (k:=1);simp only [zi,go_os_nil,zw,qV,peek,ze,zb,opQ_val,opQ_skip,zl,zp,zf,zm,zAI,zAJ,zej,wJ,xL (g1 _ _)]
 rw [Vm.set_at (k:=1)];simp only [go_ret,zD,Vm.Fin]
 refine ⟨trivial,[stV st0],?_,rfl,(qq (ls:=[_,_]) (zAU _)).symm⟩;simp only [zM,zm,zf];rw [zeh (s:=st0) (by exact Vm.get_at (k:=1))]
 rfl
end Go.Proofs.YtlnijcffanjieaaGreatDoor
namespace Go.Proofs.YtlnijcffanjieaaGreatDoor
set_option maxRecDepth 100000
open Go Go.Vm
variable {gl:Gl}
abbrev mEm:= "bolter/match.empty"
abbrev mEn:= "bolter/match.ends"
abbrev mNx:= "bolter/match.next"
abbrev mSt:= "bolter/match.step"
def xj (va vb:V) (null last:Bool):List V:=[va,vb,.bool null,.bool last]
def zcz (v:V) (loop null:Bool):List V:=[v,.bool loop,.bool null]
theorem jQ {n:Nat} {nm:String} {v:V} {args:List V} {H H':Hp} {lk:List (Nat×Nat)} {df:List (V×List V)} {env:List V} {r:V} (h:ko gl n nm v args H=some (.val r,H')) :
  zmq ⟨Tryz.prog,gl.g,zx Tryz.prog gl n,gl.uq⟩ nm H lk df env (some v) (some args)=some (.val r,⟨env,H',lk,df⟩):=by
 rw [zfk];unfold ko at h;rw [h];rfl
theorem zpN (hg:GW gl) {n:Nat} {bs:List Blk} {es:List (Nat×Nat)} {p:Nat} {va vb:V} {null last bg ea na:Bool} (hb:nth bs p=some (.cells (xj va vb null last) 133)) (hva:clr va=va)
  (he:ko gl n mEm va [] ⟨bs,[]⟩=some (.val (.bool ea),⟨bs,[]⟩)) (hn:ko gl n mEn va [] ⟨bs,[]⟩=some (.val (.bool na),⟨bs,[]⟩)) :
  zx Tryz.prog gl (n+1) 282 [.ptr p 0,.bool bg] ⟨bs,es⟩=some (.ret (.bool (bg && ea || na)),⟨bs,es⟩):=by
 have hl:zJ Tryz.prog ⟨bs,[]⟩ gl.g 93 (.ptr p 0)=some va:=zZ (H:=⟨bs,[]⟩) ag93 hb rfl;have he':=fun env=>jQ (lk:=[]) (df:=[]) (env:=env) he;have hn':=fun env=>jQ (lk:=[]) (df:=[]) (env:=env) hn;refine qJ (hg.hk _ _ (by decide)) (fun H=>hg.hk2 _ _ _ _) Tryz.func282 rfl ?_
 simp only [Tryz.f282,zd];refine zc (tk:=[]) (by kernel_rfl) ?_
 simp only [zi,go_os_nil,zd,zg,zE,ofVal,zj,opQ_val,zl,zAC,zAS,List.length_nil,zAT,Nat.reduceAdd,zAY,zAW,zAI,zAJ,List.replicate,Nat.reduceSub]
 refine zc (tk:=[]) (by kernel_rfl) ?_
 cases bg with
 | false =>
  simp only [zi,go_os_nil,zk,zt,qE,zg,zF,zn,peeks,peek,ze,ofVal,zB,zb,zj,opQ_val,zl,zh,zp,zAB,zAC,derefA,zu,zX,zAv,jb,zf,zm,zAI,zAJ,kL,qa,jh,wantB_tf,wantB_ff,xh,xT,fo133_0,hl,hva,z6,he',hn',jb]
  simp only [go_ret,zD,Vm.Fin]
  exact ⟨trivial,[.bool na],rfl,rfl,(zQ rfl (zAU _)).symm⟩
 | true =>
  cases ea with
  | false =>
   simp only [zi,go_os_nil,zk,zt,qE,zg,zF,zn,peeks,peek,ze,ofVal,zB,zb,zj,opQ_val,zl,zh,zp,zAB,zAC,derefA,zu,zX,zAv,ja,jb,zf,zm,zAI,zAJ,kL,qa,jh,wantB_tt,wantB_ff,xh,fo133_0,hl,hva,z6,he',hn',ja,jb]
   simp only [go_ret,zD,Vm.Fin]
   exact ⟨trivial,[.bool na],rfl,rfl,(zQ rfl (zAU _)).symm⟩
  | true =>
   simp only [zi,go_os_nil,zk,zt,qE,zg,zF,zn,peeks,peek,ze,ofVal,zB,zb,zj,opQ_val,zl,zh,zp,zAB,zAC,derefA,zu,zX,zAv,ja,zf,zm,zAI,zAJ,kL,qa,jh,wantB_tt,wantB_ft,xh,xT,fo133_0,hl,hva,z6,he',hn',ja]
   simp only [go_ret,zD,Vm.Fin]
   exact ⟨trivial,[.bool true],rfl,rfl,(zQ rfl (zAU _)).symm⟩
theorem zqP (hg:GW gl) {n:Nat} {bs:List Blk} {es:List (Nat×Nat)} {p:Nat} {v:V} {loop null na:Bool} (hb:nth bs p=some (.cells (zcz v loop null) 140)) (hv:clr v=v)
  (hn:ko gl n mEn v [] ⟨bs,[]⟩=some (.val (.bool na),⟨bs,[]⟩)) :
  zx Tryz.prog gl (n+1) 288 [.ptr p 0] ⟨bs,es⟩=some (.ret (.bool na),⟨bs,es⟩):=by
 have hl:zJ Tryz.prog ⟨bs,[]⟩ gl.g 93 (.ptr p 0)=some v:=zZ (H:=⟨bs,[]⟩) ag93 hb rfl;have hn':=fun env=>jQ (lk:=[]) (df:=[]) (env:=env) hn;refine qJ (hg.hk _ _ (by decide)) (fun H=>hg.hk2 _ _ _ _) Tryz.func288 rfl ?_
 simp only [Tryz.f288,zd];refine zc (tk:=[]) (by kernel_rfl) ?_
 simp only [zi,go_os_nil,zd,zg,zE,ofVal,zj,opQ_val,zl,zAC,zAS,List.length_nil,zAT,zAY,zAW,zAI,zAJ,List.replicate,Nat.reduceSub]
 refine zc (tk:=[]) (by kernel_rfl) ?_
 simp only [zi,go_os_nil,zk,zt,zg,zF,zn,peeks,peek,ze,zB,zb,zj,opQ_val,zl,zp,zAB,zAC,derefA,zu,zX,zAv,zf,zm,zAI,zAJ,fo140_0,hl,hv,z6,hn']
 simp only [go_ret,zD,Vm.Fin]
 exact ⟨trivial,[.bool na],rfl,rfl,(zQ rfl (zAU _)).symm⟩
theorem zpO (hg:GW gl) {n:Nat} {bs:List Blk} {es:List (Nat×Nat)} {p:Nat} {v:V} {loop null bg na:Bool} (hb:nth bs p=some (.cells (zcz v loop null) 140)) (hv:clr v=v)
  (hn:ko gl n mEn v [] ⟨bs,[]⟩=some (.val (.bool na),⟨bs,[]⟩)) :
  zx Tryz.prog gl (n+1) 291 [.ptr p 0,.bool bg] ⟨bs,es⟩=some (.ret (.bool (bg || loop && na)),⟨bs,es⟩):=by
 have hl:zJ Tryz.prog ⟨bs,[]⟩ gl.g 93 (.ptr p 0)=some v:=zZ (H:=⟨bs,[]⟩) ag93 hb rfl;have hl1:zJ Tryz.prog ⟨bs,[]⟩ gl.g 4 (.ptr p 1)=some (.bool loop):=zZ (H:=⟨bs,[]⟩) ag4 hb rfl;have hn':=fun env=>jQ (lk:=[]) (df:=[]) (env:=env) hn;refine qJ (hg.hk _ _ (by decide)) (fun H=>hg.hk2 _ _ _ _) Tryz.func291 rfl ?_
 simp only [Tryz.f291,zd];refine zc (tk:=[]) (by kernel_rfl) ?_
 simp only [zi,go_os_nil,zd,zg,zE,ofVal,zj,opQ_val,zl,zAC,zAS,List.length_nil,zAT,Nat.reduceAdd,zAY,zAW,zAI,zAJ,List.replicate,Nat.reduceSub]
 refine zc (tk:=[]) (by kernel_rfl) ?_
 cases bg with
 | true =>
  simp only [zi,go_os_nil,zk,zt,qE,zg,zF,zn,peeks,peek,ze,ofVal,zB,zb,zj,opQ_val,zl,zh,zp,zAB,zAC,derefA,zu,zX,zAT,zAv,ja,zf,zm,zAI,zAJ,kL,qa,jh,wantB_ft,xT,fo140_0,fo140_1,hl,hl1,hv,z6,hn',ja]
  simp only [go_ret,zD,Vm.Fin]
  exact ⟨trivial,[.bool true],rfl,rfl,(zQ rfl (zAU _)).symm⟩
 | false =>
  cases loop with
  | false =>
   simp only [zi,go_os_nil,zk,zt,qE,zg,zF,zn,peeks,peek,ze,ofVal,zB,zb,zj,opQ_val,zl,zh,zp,zAB,zAC,derefA,zu,zX,zAT,zAv,jb,zf,zm,zAI,zAJ,kL,qa,jh,wantB_tf,wantB_ff,xh,xT,fo140_0,fo140_1,hl,hl1,hv,z6,hn',jb]
   simp only [go_ret,zD,Vm.Fin]
   exact ⟨trivial,[.bool false],rfl,rfl,(zQ rfl (zAU _)).symm⟩
  | true =>
   simp only [zi,go_os_nil,zk,zt,qE,zg,zF,zn,peeks,peek,ze,ofVal,zB,zb,zj,opQ_val,zl,zh,zp,zAB,zAC,derefA,zu,zX,zAT,zAv,ja,jb,zf,zm,zAI,zAJ,kL,qa,jh,wantB_tt,wantB_ff,xh,fo140_0,fo140_1,hl,hl1,hv,z6,hn',ja,jb]
   simp only [go_ret,zD,Vm.Fin]
   exact ⟨trivial,[.bool na],rfl,rfl,(zQ rfl (zAU _)).symm⟩
theorem zqQ (hg:GW gl) {n:Nat} {bs bs1 bs2:List Blk} {es:List (Nat×Nat)} {p:Nat} {va vb:V} {null last bg sec fa gb eb:Bool} {c:Int} (hb:nth bs p=some (.cells (xj va vb null last) 133)) (hva:clr va=va) (hvb:clr vb=vb)
  (hbeg:zx Tryz.prog gl n 282 [.ptr p 0,.bool bg] ⟨bs,[]⟩=some (.ret (.bool sec),⟨bs,[]⟩))
  (ha:ko gl n mSt va [.bool bg,.int .u8 c] ⟨bs,[]⟩=some (.val (.bool fa),⟨bs1,[]⟩)) (hp1:nth bs1 p=nth bs p)
  (hs:ko gl n mSt vb [.bool sec,.int .u8 c] ⟨bs1,[]⟩=some (.val (.bool gb),⟨bs2,[]⟩)) (hp2:nth bs2 p=nth bs p)
  (he:ko gl n mEm vb [] ⟨bs2,[]⟩=some (.val (.bool eb),⟨bs2,[]⟩)) (hlen:bs2.length=bs.length) :
  zx Tryz.prog gl (n+1) 281 [.ptr p 0,.bool bg,.int .u8 c] ⟨bs,es⟩=some (.ret (.bool (gb || fa && eb)),⟨bs2.set p (.cells (xj va vb null (gb || fa && eb)) 133),es⟩):=by
 have hlt:p<bs2.length:=wk (H:=⟨bs2,[]⟩) (hp2.trans hb);have hl:zJ Tryz.prog ⟨bs,[]⟩ gl.g 93 (.ptr p 0)=some va:=zZ (H:=⟨bs,[]⟩) ag93 hb rfl;have hl1:zJ Tryz.prog ⟨bs1,[]⟩ gl.g 93 (.ptr p 1)=some vb:=zZ (H:=⟨bs1,[]⟩) ag93 (hp1.trans hb) rfl;have hl2:zJ Tryz.prog ⟨bs2,[]⟩ gl.g 93 (.ptr p 1)=some vb:=zZ (H:=⟨bs2,[]⟩) ag93 (hp2.trans hb) rfl
 have hbeg':Cx.callF ⟨Tryz.prog,gl.g,zx Tryz.prog gl n,gl.uq⟩ 282 [.ptr p 0,.bool bg] ⟨bs,[]⟩=some (.val (.bool sec),⟨bs,[]⟩):=z7 Tryz.func282 rfl hbeg;have ha':=fun env=>jQ (lk:=[]) (df:=[]) (env:=env) ha;have hs':=fun env=>jQ (lk:=[]) (df:=[]) (env:=env) hs;have he':=fun env=>jQ (lk:=[]) (df:=[]) (env:=env) he
 have hst:∀ (env:List V) (x:Bool),qQ Tryz.prog 4 ⟨bs2,[]⟩ [] [] (some (.bool x,env)) (some (.ptr p 3))=some (.skip,⟨env,⟨bs2.set p (.cells (xj va vb null x) 133),[]⟩,[],[]⟩):=fun env x=>by
  rw [jF sz4 (H:=⟨bs2,[]⟩) (hp2.trans hb) rfl rfl (by simp [xj]) (by simp [xj,vY,locked])]
  simp only [zaP,Hp.set,V.laid,xj,Vm.storeCells,zAJ,zAI]
 have hl3:∀ x,zJ Tryz.prog ⟨bs2.set p (.cells (xj va vb null x) 133),[]⟩ gl.g 4 (.ptr p 3)=some (.bool x):=fun x=>zZ (H:=⟨bs2.set p (.cells (xj va vb null x) 133),[]⟩) ag4 (qz hlt) rfl;refine qJ (hg.hk _ _ (by decide)) (fun H=>hg.hk2 _ _ _ _) Tryz.func281 rfl ?_
 simp only [Tryz.f281,zd];refine zc (tk:=[]) (by kernel_rfl) ?_
 simp only [zi,go_os_nil,zd,zg,zE,ofVal,zj,opQ_val,zl,zAC,zAS,List.length_nil,zAT,Nat.reduceAdd,zAY,zAW,zAI,zAJ,List.replicate,Nat.reduceSub]
 refine zc (tk:=[]) (by kernel_rfl) ?_
 simp only [zi,go_os_nil,zd,zk,zg,qx,peeks,zO,peek,ze,zB,zb,zj,opQ_val,zl,zh,zp,zR,je,zAX,zAp,zf,zm,zAI,zAJ,hbeg']
 refine zc (tk:=[]) (by kernel_rfl) ?_
 simp only [zi,go_os_nil,zd,zk,zt,zg,zF,zn,peeks,zO,peek,ze,zB,zb,zj,opQ_val,zl,zv,zh,zp,zAB,zAC,derefA,zu,zX,zAv,zf,zm,zAI,zAJ,fo133_0,hl,hva,z6,ha']
 refine zc (tk:=[]) (by kernel_rfl) ?_
 cases gb with
 | true =>
  simp only [zi,go_os_nil,zd,zk,zt,zw,qE,zF,zn,peeks,zO,peek,ze,ofVal,zB,zb,opQ_val,opQ_skip,zl,zv,zh,zp,zAB,zAC,derefA,zu,zX,zAT,ja,zf,zm,zAI,zAJ,kL,qa,jh,wantB_ft,xT,fo133_1,fo133_3,hl1,hl2,hvb,z6,hs',he',ja,hst]
  refine zc (tk:=[]) (by kernel_rfl) ?_
  simp only [zi,go_os_nil,zk,zt,zg,zF,zn,peek,ze,zB,zb,zj,opQ_val,zl,zh,zp,zAB,zAC,derefA,zu,zX,zAT,zf,zm,zAI,zAJ,fo133_3,hl3]
  simp only [go_ret,zD,Vm.Fin]
  exact ⟨trivial,[.bool true],rfl,rfl,(zQ (by simp [hlen]) (zAU _)).symm⟩
 | false =>
  cases fa with
  | false =>
   simp only [zi,go_os_nil,zd,zk,zt,zw,qE,zF,zn,peeks,zO,peek,ze,ofVal,zB,zb,opQ_val,opQ_skip,zl,zv,zh,zp,zAB,zAC,derefA,zu,zX,zAT,jb,zf,zm,zAI,zAJ,kL,qa,jh,wantB_tf,wantB_ff,xh,xT,fo133_1,fo133_3,hl1,hl2,hvb,z6,hs',he',jb,hst]
   refine zc (tk:=[]) (by kernel_rfl) ?_
   simp only [zi,go_os_nil,zk,zt,zg,zF,zn,peek,ze,zB,zb,zj,opQ_val,zl,zh,zp,zAB,zAC,derefA,zu,zX,zAT,zf,zm,zAI,zAJ,fo133_3,hl3]
   simp only [go_ret,zD,Vm.Fin]
   exact ⟨trivial,[.bool false],rfl,rfl,(zQ (by simp [hlen]) (zAU _)).symm⟩
  | true =>
   simp only [zi,go_os_nil,zd,zk,zt,zw,qE,zF,zn,peeks,zO,peek,ze,ofVal,zB,zb,opQ_val,opQ_skip,zl,zv,zh,zp,zAB,zAC,derefA,zu,zX,zAT,ja,jb,zf,zm,zAI,zAJ,kL,qa,jh,wantB_tt,wantB_ff,xh,fo133_1,fo133_3,hl1,hl2,hvb,z6,hs',he',ja,jb,hst]
   refine zc (tk:=[]) (by kernel_rfl) ?_
   simp only [zi,go_os_nil,zk,zt,zg,zF,zn,peek,ze,zB,zb,zj,opQ_val,zl,zh,zp,zAB,zAC,derefA,zu,zX,zAT,zf,zm,zAI,zAJ,fo133_3,hl3]
   simp only [go_ret,zD,Vm.Fin]
   exact ⟨trivial,[.bool eb],rfl,rfl,(zQ (by simp [hlen]) (zAU _)).symm⟩
end Go.Proofs.YtlnijcffanjieaaGreatDoor
namespace Go.Proofs.YtlnijcffanjieaaGreatDoor
set_option maxRecDepth 100000
open Go Go.Vm
variable {gl:Gl}
theorem jq {cx:Cx} {t d:Nat} {a:Operand} {ty:TypeId} {pos:String} {after:Array Edge} {guard:Option (Nat×Bool)} {env:List V} {H:Hp} {lk:List (Nat×Nat)} {df:List (V×List V)} {p v w:V} {D:Nat}
  (hp:peek env a=some p) (hl:zJ cx.P H cx.gl t p=some v) (hv:clr v=w):cx.valC [] ⟨some d,.load t a,ty,pos,after,guard⟩ env w ⟨D,H,lk,df⟩=true:=by
 refine zjy (s1:=⟨env,H,lk,df⟩) ?_;rw [zt,hp,zAB,hl,zAC,hv];rfl
theorem zqR (hg:GW gl) {n:Nat} {bs bs1:List Blk} {es:List (Nat×Nat)} {p:Nat} {t:Nat} {u:V} {loop null bg sec fa:Bool} {c:Int} (hb:nth bs p=some (.cells (zcz (.ifc t u) loop null) 140))
  (hbeg:zx Tryz.prog gl n 291 [.ptr p 0,.bool bg] ⟨bs,[]⟩=some (.ret (.bool sec),⟨bs,[]⟩))
  (ha:ko gl n mSt (.ifc t u) [.bool sec,.int .u8 c] ⟨bs,[]⟩=some (.val (.bool fa),⟨bs1,[]⟩)) (hp1:nth bs1 p=nth bs p) (hlen:bs1.length=bs.length) :
  zx Tryz.prog gl (n+1) 290 [.ptr p 0,.bool bg,.int .u8 c] ⟨bs,es⟩=some (.ret (.bool fa),⟨bs1,es⟩):=by
 have hl:zJ Tryz.prog ⟨bs,[]⟩ gl.g 93 (.ptr p 0)=some (.ifc t u):=zZ (H:=⟨bs,[]⟩) ag93 hb rfl;have hl1:zJ Tryz.prog ⟨bs1,[]⟩ gl.g 93 (.ptr p 0)=some (.ifc t u):=zZ (H:=⟨bs1,[]⟩) ag93 (hp1.trans hb) rfl;have hbeg':Cx.callF ⟨Tryz.prog,gl.g,zx Tryz.prog gl n,uqw⟩ 291 [.ptr p 0,.bool bg] ⟨bs,[]⟩=some (.val (.bool sec),⟨bs,[]⟩):=z7 Tryz.func291 rfl hbeg
 have ha':=fun env=>jQ (lk:=[]) (df:=[]) (env:=env) ha;rw [hg.uq] at ha';refine qJ (hg.hk _ _ (by decide)) (fun H=>hg.hk2 _ _ _ _) Tryz.func290 rfl ?_
 rw [hg.uq];simp only [Tryz.f290,zd];refine zc (tk:=[]) (by kernel_rfl) ?_
 simp only [zi,go_os_nil,zd,zg,zE,ofVal,zj,opQ_val,zl,zAC,zAS,List.length_nil,zAT,Nat.reduceAdd,zAY,zAW,zAI,zAJ,List.replicate,Nat.reduceSub]
 refine yj [3] [(false,false),(false,false),(false,false),(true,false),(false,false),(false,false),(false,true),(false,false),(false,false),(false,false),(false,true),(false,false)] (tk:=[]) (by kernel_rfl) (by kernel_rfl) ?_
 simp only [zk,zt,zg,zF,zn,qx,peeks,zO,peek,ze,zB,zb,zj,zl,zv,zh,zp,zAB,zAC,derefA,zu,zX,zR,je,zAX,zAp,zAa,zAv,kZ,zf,zm,zAI,zAJ,oj_cons,oj_nil,xJ,zee,kS,wZ,ke,j6,ag93,fo140_0,hl,hbeg',zT,z6,ha'];refine ⟨⟨jq (p:=.ptr p 0) rfl hl rfl,trivial⟩,⟨jq (p:=.ptr p 0) rfl hl1 rfl,trivial⟩,?_⟩;simp only [go_ret,zD,Vm.Fin]
 exact ⟨trivial,[.bool fa],rfl,rfl,(zQ (by simp [hlen]) (zAU _)).symm⟩
theorem zqS (hg:GW gl) {n:Nat} {bs:List Blk} {es:List (Nat×Nat)} {p:Nat} {t:Nat} {u:V} {loop null bg sec:Bool} {s:St4} (hb:nth bs p=some (.cells (zcz (.ifc t u) loop null) 140))
  (hbeg:∀ bs',(∀ i,i<bs.length->nth bs' i=nth bs i)->zx Tryz.prog gl n 291 [.ptr p 0,.bool bg] ⟨bs',[]⟩=some (.ret (.bool sec),⟨bs',[]⟩))
  (ha:∀ bs',(∀ i,i<bs.length->nth bs' i=nth bs i)->ko gl n mNx (.ifc t u) [.bool sec] ⟨bs',[]⟩=some (.val (stV s),⟨bs',[]⟩)) :
  zx Tryz.prog gl (n+1) 289 [.ptr p 0,.bool bg] ⟨bs,es⟩=some (.ret (stV s),⟨bs,es⟩):=by
 have hlt:p<bs.length:=wk (H:=⟨bs,[]⟩) hb;have hpre:∀ x:Blk,∀ i,i<bs.length->nth (bs++[x]) i=nth bs i:=fun x i hi=>get_old (es:=[]) (ls:=[x]) hi;have hl:∀ x:Blk,zJ Tryz.prog ⟨bs++[x],[]⟩ gl.g 93 (.ptr p 0)=some (.ifc t u):=fun x=>zZ (H:=⟨bs++[x],[]⟩) ag93 ((hpre x p hlt).trans hb) rfl
 have hbeg':Cx.callF ⟨Tryz.prog,gl.g,zx Tryz.prog gl n,uqw⟩ 291 [.ptr p 0,.bool bg] ⟨bs++[.cells (stV st0).cells 24],[]⟩=some (.val (.bool sec),⟨bs++[.cells (stV st0).cells 24],[]⟩):=z7 Tryz.func291 rfl (hbeg _ (hpre _));have ha':=fun env=>jQ (lk:=[]) (df:=[]) (env:=env) (ha (bs++[.cells (stV st0).cells 24]) (hpre _));rw [hg.uq] at ha'
 refine qJ (hg.hk _ _ (by decide)) (fun H=>hg.hk2 _ _ _ _) Tryz.func289 rfl ?_
 rw [hg.uq];simp only [Tryz.f289,zd];refine zc (tk:=[]) (by kernel_rfl) ?_
 simp only [zi,go_os_nil,zd,z9,opQ_val,zl,qg,zAS,List.length_nil,zAT,Nat.reduceAdd,zAY,zAW,zAI,zAJ,List.replicate,Nat.reduceSub,zei]
 refine yj [3] [(false,false),(false,false),(false,false),(true,false),(false,false),(false,false),(false,true),(false,false),(false,false),(false,true),(false,true)] (tk:=[]) (by kernel_rfl) (by kernel_rfl) ?_
 simp only [zk,zt,zw,zF,zn,qx,peeks,zO,peek,ze,zb,zl,zh,zp,zAB,zAC,derefA,zu,zX,zR,je,zAX,zAp,zAa,zAv,kZ,zf,zm,zAI,zAJ,oj_cons,oj_nil,xJ,zee,zb6,kS,wZ,ke,j6,ag93,fo140_0,hl,hbeg',zT,z6,ha',wJ,xL zb9,yG];refine ⟨⟨jq (p:=.ptr p 0) rfl (hl _) rfl,trivial⟩,⟨jq (p:=.ptr p 0) rfl (hl _) rfl,trivial⟩,fun _=>⟨jq (p:=.ptr p 0) rfl (hl _) rfl,trivial⟩,?_⟩;simp only [go_ret,zD,Vm.Fin]
 exact ⟨trivial,[stV s],zjF rfl,rfl,(qq (ls:=[_]) (zAU _)).symm⟩
theorem zqT (hg:GW gl) {n:Nat} {bs:List Blk} {es:List (Nat×Nat)} {p:Nat} {t t':Nat} {u u':V} {null last bg sec:Bool} {s s':St4} (hs:RgS s) (hs':RgS s') (hb:nth bs p=some (.cells (xj (.ifc t u) (.ifc t' u') null last) 133))
  (hbeg:∀ bs',(∀ i,i<bs.length->nth bs' i=nth bs i)->zx Tryz.prog gl (n+1) 282 [.ptr p 0,.bool bg] ⟨bs',[]⟩=some (.ret (.bool sec),⟨bs',[]⟩))
  (ha:∀ bs',(∀ i,i<bs.length->nth bs' i=nth bs i)->ko gl (n+1) mNx (.ifc t u) [.bool bg] ⟨bs',[]⟩=some (.val (stV s),⟨bs',[]⟩))
  (hb2:∀ bs',(∀ i,i<bs.length->nth bs' i=nth bs i)->ko gl (n+1) mNx (.ifc t' u') [.bool sec] ⟨bs',[]⟩=some (.val (stV s'),⟨bs',[]⟩)) :
  zx Tryz.prog gl (n+2) 280 [.ptr p 0,.bool bg] ⟨bs,es⟩=some (.ret (stV (xV s s')),⟨bs,es⟩):=by
 have hlt:p<bs.length:=wk (H:=⟨bs,[]⟩) hb;have hpre:∀ x:Blk,∀ i,i<bs.length->nth (bs++[x]) i=nth bs i:=fun x i hi=>get_old (es:=[]) (ls:=[x]) hi;have hl:∀ x:Blk,zJ Tryz.prog ⟨bs++[x],[]⟩ gl.g 93 (.ptr p 0)=some (.ifc t u):=fun x=>zZ (H:=⟨bs++[x],[]⟩) ag93 ((hpre x p hlt).trans hb) rfl
 have hl1:∀ x:Blk,zJ Tryz.prog ⟨bs++[x],[]⟩ gl.g 93 (.ptr p 1)=some (.ifc t' u'):=fun x=>zZ (H:=⟨bs++[x],[]⟩) ag93 ((hpre x p hlt).trans hb) rfl;have hbeg':Cx.callF ⟨Tryz.prog,gl.g,zx Tryz.prog gl (n+1),uqw⟩ 282 [.ptr p 0,.bool bg] ⟨bs++[.cells (stV st0).cells 24],[]⟩=some (.val (.bool sec),⟨bs++[.cells (stV st0).cells 24],[]⟩):=z7 Tryz.func282 rfl (hbeg _ (hpre _))
 have hun:∀ H,Cx.callF ⟨Tryz.prog,gl.g,zx Tryz.prog gl (n+1),uqw⟩ 226 [stV s,stV s'] H=some (.val (stV (xV s s')),H):=fun H=>z7 Tryz.func226 rfl (xi (hg.uni s s' hs hs'));have ha':=fun env=>jQ (lk:=[]) (df:=[]) (env:=env) (ha (bs++[.cells (stV st0).cells 24]) (hpre _));have hb':=fun env=>jQ (lk:=[]) (df:=[]) (env:=env) (hb2 (bs++[.cells (stV st0).cells 24]) (hpre _));rw [hg.uq] at ha' hb'
 refine qJ (hg.hk _ _ (by decide)) (fun H=>hg.hk2 _ _ _ _) Tryz.func280 rfl ?_
 rw [hg.uq];simp only [Tryz.f280,zd];refine zc (tk:=[]) (by kernel_rfl) ?_
 simp only [zi,go_os_nil,zd,z9,opQ_val,zl,qg,zAS,List.length_nil,zAT,Nat.reduceAdd,zAY,zAW,zAI,zAJ,List.replicate,Nat.reduceSub,zei]
 refine xg [3,9] [9] [(false,false,false,false),(false,false,false,false),(false,false,false,false),(true,false,false,false),(false,false,false,false),(false,true,false,false),(false,false,false,false),(false,false,false,false),(false,false,false,false),(true,false,true,false),(false,false,false,false),(false,false,false,false),(false,true,false,false),(false,false,false,false),(false,false,false,false),(false,true,false,false),(false,true,false,false),(false,true,false,false)] (tk:=[]) (by kernel_rfl) (by kernel_rfl) ?_
 simp only [zk,zt,zw,zF,zn,qx,peeks,zO,peek,ze,zb,zl,zh,zp,zAB,zAC,derefA,zu,zX,zR,je,zAX,zAp,zAa,zAT,zAv,kZ,zf,zm,zAI,zAJ,ol_cons,ol_nil,olV_val,olV_late,olV_valh,olV_skip,late_nil,zkJ,kS,wZ,ke,j6,ag93,fo133_0,fo133_1,hl,hl1,hbeg',zT,z6,ha',hb',hun,wJ,vE,xL zb9,yG]
 refine ⟨⟨jq (p:=.ptr p 0) rfl (hl _) rfl,trivial⟩,⟨jq (p:=.ptr p 1) rfl (hl1 _) rfl,trivial⟩,⟨jq (p:=.ptr p 1) rfl (hl1 _) rfl,jq (p:=.ptr p 0) rfl (hl _) rfl,trivial⟩,⟨jq (p:=.ptr p 1) rfl (hl1 _) rfl,jq (p:=.ptr p 0) rfl (hl _) rfl,trivial⟩,⟨jq (p:=.ptr p 1) rfl (hl1 _) rfl,jq (p:=.ptr p 0) rfl (hl _) rfl,trivial⟩,⟨jq (p:=.ptr p 1) rfl (hl1 _) rfl,jq (p:=.ptr p 0) rfl (hl _) rfl,trivial⟩,?_⟩
 simp only [go_ret,zD,Vm.Fin]
 exact ⟨trivial,[stV (xV s s')],zjF rfl,rfl,(qq (ls:=[_]) (zAU _)).symm⟩
end Go.Proofs.YtlnijcffanjieaaGreatDoor
namespace Go.Proofs.YtlnijcffanjieaaGreatDoor
set_option maxRecDepth 100000
open Go Go.Vm
variable {gl:Gl}
theorem u135:Tryz.prog.underlying 135=some (.slice 93):=by kernel_rfl
def zbk (vs:List V) (o:Vm.Own) (null last:Bool):List V:=[.sl 1 vs o,.bool null,.bool last]
theorem zmr {H:Hp} {vs:List V} {o:Vm.Own}:kO Tryz.prog H 135 (.sl 1 vs o)=some (vs.length:Int):=by simp [kO]
theorem zms {vs:List V} {k:Nat} {v:V} {o:Vm.Own} (h:nth vs k=some v) (hv:v.cells=[v]):z8 Tryz.prog 135 (.sl 1 vs o) (k:Int)=some (.vp [v]):=by
 have hk:¬ ((k:Int)<0):=by omega
 simp [z8,sz93,hk,h,hv]
theorem zmt {H:Hp} {g:Nat->Nat->Option V} {v:V}:zJ Tryz.prog H g 93 (.vp [v])=some v:=by simp [zJ,wE,ag93,nth,zcR]
theorem zqU (hg:GW gl) {n:Nat} {bs:List Blk} {es:List (Nat×Nat)} {p:Nat} {vs:List V} {o:Vm.Own} {null last bg:Bool} {c:Int} (hb:nth bs p=some (.cells (zbk vs o null last) 137)) (hvs:∀ v∈vs,∃ t u,v=.ifc t u)
  (acc:Nat->Bool) (J:Nat->List Blk->Prop) (hacc:acc 0=false) (hJp:∀ k bs' x,J k bs'->J k (bs'.set p x)) (h0:J 0 bs) (hn:vs.length<n)  (hlen:vs.length<=2 ^ 40)
  (hs:∀ k bs' v,nth vs k=some v->J k bs'->bs'.length=bs.length->nth bs' p=some (.cells (zbk vs o null (acc k)) 137)->∃ bs1 r,ko gl n mSt v [.bool bg,.int .u8 c] ⟨bs',[]⟩=some (.val (.bool r),⟨bs1,[]⟩)/\nth bs1 p=nth bs' p/\bs1.length=bs'.length/\J (k+1) bs1/\acc (k+1)=(acc k || r)) :
  ∃ bs',zx Tryz.prog gl (n+1) 286 [.ptr p 0,.bool bg,.int .u8 c] ⟨bs,es⟩=some (.ret (.bool (acc vs.length)),⟨bs',es⟩)/\J vs.length bs'/\bs'.length=bs.length/\nth bs' p=some (.cells (zbk vs o null (acc vs.length)) 137):=by
 have hst:∀ (bs':List Blk) (env:List V) (x y:Bool),nth bs' p=some (.cells (zbk vs o null y) 137)->qQ Tryz.prog 4 ⟨bs',[]⟩ [] [] (some (.bool x,env)) (some (.ptr p 2))=some (.skip,⟨env,⟨bs'.set p (.cells (zbk vs o null x) 137),[]⟩,[],[]⟩):=fun bs' env x y h=>by
  rw [jF sz4 (H:=⟨bs',[]⟩) h rfl rfl (by simp [zbk]) (by simp [zbk,vY,locked])]
  simp only [zaP,Hp.set,V.laid,zbk,Vm.storeCells,zAJ,zAI]
 have hlt:p<bs.length:=wk (H:=⟨bs,[]⟩) hb
 suffices hmain:go ⟨Tryz.prog,gl.g,zx Tryz.prog gl n,gl.uq⟩ n (Fx Tryz.prog Tryz.f286.results.toList fun v H1=>∃ bs',v=.bool (acc vs.length)/\H1=⟨bs',[]⟩/\J vs.length bs'/\bs'.length=bs.length/\nth bs' p=some (.cells (zbk vs o null (acc vs.length)) 137)) [.c (Tryz.f286.body.getD .skip)] .normal ⟨[.ptr p 0,.bool bg,.int .u8 c]++List.replicate 30 (.tup []),⟨bs,[]⟩,[],[]⟩ by
  obtain ⟨v,H1,h1,bs',rfl,rfl,h2,h3,h4⟩:=kR (gl:=gl) (f:=286) (bs:=bs) (es:=es) (args:=[.ptr p 0,.bool bg,.int .u8 c]) (n:=n) (hg.hk _ _ (by decide)) (fun H=>hg.hk2 _ _ _ _) Tryz.func286 rfl hmain
  refine ⟨bs',?_,h2,h3,h4⟩;rw [h1];exact congrArg some (congrArg (Prod.mk _) (zQ h3.symm (zAU _)))
 simp only [Tryz.f286,zA8,zd];refine zc (tk:=[]) (by kernel_rfl) ?_
 simp only [zi,go_os_nil,zd,zg,zE,ofVal,zj,opQ_val,zl,zAC,zAY,zAW,zAI,zAJ,List.replicate]
 refine zc (tk:=[]) (by kernel_rfl) ?_
 simp only [zi,go_os_nil,zd,zk,zw,zF,zn,peek,zE,ofVal,zb,opQ_val,opQ_skip,zl,zp,zAB,zAC,derefA,zu,zX,zAT,zf,zm,zAI,zAJ,fo137_2,hst bs _ false last hb]
 obtain ⟨bs0,hbs0⟩:∃ bs0,bs0=bs.set p (.cells (zbk vs o null false) 137):=⟨_,rfl⟩;have hb0:nth bs0 p=some (.cells (zbk vs o null (acc 0)) 137):=by rw [hbs0,qz hlt,hacc]
 have hJ0:J 0 bs0:=by rw [hbs0];exact hJp _ _ _ h0
 have hl0:bs0.length=bs.length:=by rw [hbs0];simp
 rw [<- hbs0];have hld:zJ Tryz.prog ⟨bs0,[]⟩ gl.g 135 (.ptr p 0)=some (.sl 1 vs o):=zZ (H:=⟨bs0,[]⟩) ag135 hb0 rfl;refine zc (tk:=[]) (by kernel_rfl) ?_
 simp only [zi,go_os_nil,qb,zk,zt,zF,zn,kF,peek,ofVal,zb,opQ_val,zl,zp,za8,zAB,zAC,derefA,zu,zX,zAv,zf,zm,zAI,zAJ,fo137_0,hld,zmr]
 refine xI (fun m s=>∃ k env bs',m+k=vs.length/\s=⟨env,⟨bs',[]⟩,[],[]⟩/\env.length=33/\nth env 0=some (.ptr p 0)/\nth env 1=some (.bool bg)/\nth env 2=some (.int .u8 c)/\nth env 15=some (.sl 1 vs .no)/\nth env 16=some (.int .i64 vs.length)/\nth env 17=some (.int .i64 (k:Nat))/\bs'.length=bs.length/\J k bs'/\nth bs' p=some (.cells (zbk vs o null (acc k)) 137)) vs.length hn ⟨0,_,bs0,rfl,rfl,rfl,rfl,rfl,rfl,rfl,rfl,rfl,hl0,hJ0,hb0⟩ ?_
 clear hld hb0 hJ0 hl0 hbs0 bs0;rintro m s ⟨k,env,bs',hmk,rfl,hel,h0',h1,h2,h15,h16,h17,hbl,hJ,hbp⟩;simp only [zd];refine zc (tk:=[]) (by kernel_rfl) ?_
 simp only [zi,go_os_nil,zd,go_skip,qb,zA,peek,zb,opQ_val,zl,zv,zh,zG,zK,if_true,za,Nat.reduceLT,if_true,h16,h17,hel,vQ]
 by_cases hk:k<vs.length
 ·refine .inl ⟨by simp;omega,?_⟩
  obtain ⟨v,hv⟩:∃ v,nth vs k=some v:=⟨vs[k],by rw [zq];simp [hk]⟩
  have hvm:v∈vs:=by rw [zq] at hv;exact zAh hv
  obtain ⟨vt,vu,rfl⟩:=hvs v hvm;obtain ⟨bs1,r,hc1,hp1,hl1,hJ1,ha1⟩:=hs k bs' _ hv hJ hbl hbp;have hc1':=fun env=>jQ (lk:=[]) (df:=[]) (env:=env) hc1
  try simp only [go_skip,zd,qb]
  refine zc (tk:=[]) (by kernel_rfl) ?_
  simp only [zi,go_os_nil,zd,zt,zg,qh,Nat.reduceEqDiff,peek,ze,zb,zj,opQ_val,zl,zv,yL,za8,zAB,zAC,wv,if_true,za,zAN,Nat.reduceLT,if_true,if_false,h15,h17,hel,wv,zms hv rfl,zmt,zT,qp]
  refine zc (tk:=[]) (by kernel_rfl) ?_
  simp only [zi,go_os_nil,go_skip,jX,zk,Nat.reduceEqDiff,peeks,zO,peek,zb,opQ_val,zl,zv,zh,zG,zK,if_true,za,zAN,Nat.reduceLT,if_true,if_false,h1,h2,hel,zT,z6,hc1']
  cases r with
  | false =>
   rw [Bool.or_false] at ha1;simp only [zAD,zBA,zBi,zAa];refine zc (tk:=[]) (by kernel_rfl) ?_
   simp only [zi,go_os_nil,zk,zA,Nat.reduceEqDiff,peek,ofVal,zb,opQ_val,zl,zv,if_true,za,zAN,Nat.reduceLT,if_true,if_false,h17,hel,jy (show k<2 ^ 60 by omega),zD,thn_normal]
   refine ⟨vs.length - (k+1),by omega,k+1,_,bs1,by omega,rfl,?_,?_,?_,?_,?_,?_,?_,by omega,hJ1,?_⟩
   ·simp [hel]
   ·simp [za,h0']
   ·simp [za,h1]
   ·simp [za,h2]
   ·simp [za,h15]
   ·simp [za,h16]
   ·simp [za,hel]
   ·rw [hp1,hbp,ha1]
  | true =>
   rw [Bool.or_true] at ha1;simp only [zAa,zAy,zBA,zBr];refine zc (tk:=[]) (by kernel_rfl) ?_
   simp only [zi,go_os_nil,jX,zk,zw,zF,zn,Nat.reduceEqDiff,peek,zE,ofVal,zb,opQ_val,opQ_skip,zl,zp,zAB,zAC,derefA,zu,zX,zAT,if_true,za,zAN,Nat.reduceLT,if_true,if_false,h0',hel,fo137_2,hst bs1 _ true _ (hp1.trans hbp)]
   refine zc (tk:=[]) (by kernel_rfl) ?_
   simp only [zi,go_os_nil,zk,zA,Nat.reduceEqDiff,peek,ofVal,zb,opQ_val,zl,zv,if_true,za,zAN,Nat.reduceLT,if_true,if_false,h17,hel,jy (show k<2 ^ 60 by omega),zD,thn_normal]
   refine ⟨vs.length - (k+1),by omega,k+1,_,bs1.set p (.cells (zbk vs o null true) 137),by omega,rfl,?_,?_,?_,?_,?_,?_,?_,by simp;omega,hJp _ _ _ hJ1,?_⟩
   ·simp [hel]
   ·simp [za,h0']
   ·simp [za,h1]
   ·simp [za,h2]
   ·simp [za,h15]
   ·simp [za,h16]
   ·simp [za,hel]
   ·rw [qz (by omega),ha1]
 ·refine .inr ⟨by simp;omega,?_⟩
  obtain rfl:k=vs.length:=by omega
  have hld2:zJ Tryz.prog ⟨bs',[]⟩ gl.g 4 (.ptr p 2)=some (.bool (acc vs.length)):=zZ (H:=⟨bs',[]⟩) ag4 hbp rfl;simp only [xH,wT,wj,zD,thn_exit,zd,zBS,if_true,zD];refine zc (tk:=[]) (by kernel_rfl) ?_
  simp only [zi,go_os_nil,zk,zt,zg,zF,zn,Nat.reduceEqDiff,peek,ze,zB,zb,zj,opQ_val,zl,zh,zp,zAB,zAC,derefA,zu,zX,zAT,if_true,za,zAN,Nat.reduceLT,if_true,if_false,h0',hel,fo137_2,hld2]
  simp only [go_ret,zD,Fx]
  refine ⟨trivial,[.bool (acc vs.length)],?_,bs',rfl,rfl,hJ,hbl,hbp⟩;simp [zM,za,hel]
end Go.Proofs.YtlnijcffanjieaaGreatDoor
namespace Go.Proofs.YtlnijcffanjieaaGreatDoor
set_option maxRecDepth 100000
open Go Go.Vm
variable {gl:Gl}
theorem zas {bs:List Blk} {es:List (Nat×Nat)} {x y:Blk}:Hp.get ⟨bs++[x,y],es⟩ (bs.length+1)=some y:=Vm.get_at (k:=1)
theorem zat {bs:List Blk} {es:List (Nat×Nat)} {x y:Blk}:Hp.get ⟨bs++[x,y],es⟩ bs.length=some x:=Vm.get_at0
theorem zmu {bs:List Blk} {es:List (Nat×Nat)} {x y z:Blk}:Hp.set ⟨bs++[x,y],es⟩ (bs.length+1) z=⟨bs++[x,z],es⟩:=Vm.set_at (k:=1)
theorem zmv {bs:List Blk} {es:List (Nat×Nat)} {x y z:Blk}:Hp.set ⟨bs++[x,y],es⟩ bs.length z=⟨bs++[z,y],es⟩:=Vm.set_at0
theorem zqV (hg:GW gl) {n:Nat} {bs:List Blk} {es:List (Nat×Nat)} {p:Nat} {vs:List V} {o:Vm.Own} {null last bg:Bool} (hb:nth bs p=some (.cells (zbk vs o null last) 137)) (hvs:∀ v∈vs,∃ t u,v=.ifc t u)
  (acc:Nat->St4) (hacc:acc 0=st0) (hrg:∀ k,RgS (acc k)) (hn:vs.length<n+1) (hlen:vs.length<=2 ^ 40)
  (hs:∀ k v bs',nth vs k=some v->(∀ i,i<bs.length->nth bs' i=nth bs i)->∃ s,ko gl (n+1) mNx v [.bool bg] ⟨bs',[]⟩=some (.val (stV s),⟨bs',[]⟩)/\RgS s/\acc (k+1)=xV (acc k) s) :
  zx Tryz.prog gl (n+2) 285 [.ptr p 0,.bool bg] ⟨bs,es⟩=some (.ret (stV (acc vs.length)),⟨bs,es⟩):=by
 have hlt:p<bs.length:=wk (H:=⟨bs,[]⟩) hb;have hpre:∀ l:List Blk,∀ i,i<bs.length->nth (bs++l) i=nth bs i:=fun l i hi=>get_old (es:=[]) (ls:=l) hi
 suffices hmain:go ⟨Tryz.prog,gl.g,zx Tryz.prog gl (n+1),gl.uq⟩ (n+1) (Fx Tryz.prog Tryz.f285.results.toList fun v H1=>∃ l,v=stV (acc vs.length)/\H1=⟨bs++l,[]⟩) [.c (Tryz.f285.body.getD .skip)] .normal ⟨[.ptr p 0,.bool bg]++List.replicate 22 (.tup []),⟨bs,[]⟩,[],[]⟩ by
  obtain ⟨v,H1,h1,l,rfl,rfl⟩:=kR (gl:=gl) (f:=285) (bs:=bs) (es:=es) (args:=[.ptr p 0,.bool bg]) (n:=n+1) (hg.hk _ _ (by decide)) (fun H=>hg.hk2 _ _ _ _) Tryz.func285 rfl hmain
  rw [h1];exact congrArg some (congrArg (Prod.mk _) (qq (zAU _)))
 rw [hg.uq];simp only [Tryz.f285,zA8,zd];refine zc (tk:=[]) (by kernel_rfl) ?_
 simp only [zi,go_os_nil,zd,z9,opQ_val,zl,qg,zAY,zAW,zAI,zAJ,List.replicate,zei]
 refine zc (tk:=[]) (by kernel_rfl) ?_
 simp only [zi,go_os_nil,zd,z9,opQ_val,zl,qg,zAi,zAS,List.length_nil,zAT,zAb,zAY,zAW,zAI,zAJ,zei]
 have hld:∀ x y,zJ Tryz.prog ⟨bs++[x,y],[]⟩ gl.g 135 (.ptr p 0)=some (.sl 1 vs o):=fun x y=>zZ (H:=⟨bs++[x,y],[]⟩) ag135 ((hpre _ p hlt).trans hb) rfl;refine zc (tk:=[]) (by kernel_rfl) ?_
 simp only [zi,go_os_nil,qb,zk,zt,zF,zn,kF,peek,ofVal,zb,opQ_val,zl,zp,za8,zAB,zAC,derefA,zu,zX,zAv,zf,zm,zAI,zAJ,fo137_0,hld,zmr]
 refine xI (fun m s=>∃ k env,m+k=vs.length/\s=⟨env,⟨bs++[.cells (stV st0).cells 24,.cells (stV (acc k)).cells 24],[]⟩,[],[]⟩/\env.length=24/\nth env 1=some (.bool bg)/\nth env 4=some (.ptr bs.length 0)/\nth env 5=some (.ptr (bs.length+1) 0)/\nth env 11=some (.sl 1 vs .no)/\nth env 12=some (.int .i64 vs.length)/\nth env 13=some (.int .i64 (k:Nat))) vs.length hn ⟨0,_,rfl,by rw [hacc],rfl,rfl,rfl,rfl,rfl,rfl,rfl⟩ ?_
 clear hld;rintro m s ⟨k,env,hmk,rfl,hel,h1,h4,h5,h11,h12,h13⟩;simp only [zd];refine zc (tk:=[]) (by kernel_rfl) ?_
 simp only [zi,go_os_nil,zd,go_skip,qb,zA,peek,zb,opQ_val,zl,zv,zh,zG,zK,if_true,za,Nat.reduceLT,if_true,h12,h13,hel,vQ]
 by_cases hk:k<vs.length
 ·refine .inl ⟨by simp;omega,?_⟩
  obtain ⟨v,hv⟩:∃ v,nth vs k=some v:=⟨vs[k],by rw [zq];simp [hk]⟩
  have hvm:v∈vs:=by rw [zq] at hv;exact zAh hv
  obtain ⟨vt,vu,rfl⟩:=hvs v hvm;obtain ⟨s,hc1,hrs,ha1⟩:=hs k _ (bs++[.cells (stV st0).cells 24,.cells (stV (acc k)).cells 24]) hv (hpre _);have hc1':=fun env=>jQ (lk:=[]) (df:=[]) (env:=env) hc1;rw [hg.uq] at hc1';have hun:∀ H,Cx.callF ⟨Tryz.prog,gl.g,zx Tryz.prog gl (n+1),uqw⟩ 226 [stV (acc k),stV s] H=some (.val (stV (xV (acc k) s)),H):=fun H=>z7 Tryz.func226 rfl (xi (hg.uni _ s (hrg k) hrs))
  have hlc:zJ Tryz.prog ⟨bs++[.cells (stV st0).cells 24,.cells (stV (acc k)).cells 24],[]⟩ gl.g 24 (.ptr (bs.length+1) 0)=some (stV (acc k)):=zeh zas
  try simp only [go_skip,zd,qb]
  refine zc (tk:=[]) (by kernel_rfl) ?_
  simp only [zi,go_os_nil,zt,zg,qh,Nat.reduceEqDiff,peek,ze,zb,zj,opQ_val,zl,zv,yL,za8,zAB,zAC,wv,if_true,za,zAN,Nat.reduceLT,if_true,if_false,h11,h13,hel,wv,zms hv rfl,zmt,zT,qp]
  refine xg [0] [] [(true,false,false,false),(false,false,false,false),(false,false,false,false),(false,true,false,false),(false,true,false,true),(false,true,false,true)] (tk:=[]) (by kernel_rfl) (by kernel_rfl) ?_
  simp only [jX,zk,zt,zw,qx,Nat.reduceEqDiff,peeks,zO,peek,ze,zb,zl,zh,zp,zAB,zAC,zR,je,zAX,zAp,zAa,kZ,if_true,za,zAN,Nat.reduceLT,if_true,if_false,ol_cons,ol_nil,olV_val,olV_valh,olV_valc,olV_skipc,kS,wZ,ke,j6,ag24,h1,h5,hel,hlc,vE,zT,z6,hc1',hun,wJ,xL zas,zmu]
  have hpe:peek ((((env.set 14 (V.bool (decide ((k:Int)<(vs.length:Int))))).set 15 (V.vp [V.ifc vt vu])).set 16 (V.ifc vt vu)).set 7 (V.ifc vt vu)) (.tmp 5)=some (.ptr (bs.length+1) 0):=by simp [peek,za,h5,clr]
  refine ⟨rfl,⟨jq hpe hlc rfl,trivial⟩,?_⟩;refine zc (tk:=[]) (by kernel_rfl) ?_
  simp only [zi,go_os_nil,zk,zA,Nat.reduceEqDiff,peek,ofVal,zb,opQ_val,zl,zv,if_true,za,zAN,Nat.reduceLT,if_true,if_false,h13,hel,jy (show k<2 ^ 60 by omega),zD,thn_normal]
  refine ⟨vs.length - (k+1),by omega,k+1,_,by omega,by rw [ha1],?_,?_,?_,?_,?_,?_,?_⟩
  ·simp [hel]
  ·simp [za,h1]
  ·simp [za,h4]
  ·simp [za,h5]
  ·simp [za,h11]
  ·simp [za,h12]
  ·simp [za,hel]
 ·refine .inr ⟨by simp;omega,?_⟩
  obtain rfl:k=vs.length:=by omega
  have hlc:zJ Tryz.prog ⟨bs++[.cells (stV st0).cells 24,.cells (stV (acc vs.length)).cells 24],[]⟩ gl.g 24 (.ptr (bs.length+1) 0)=some (stV (acc vs.length)):=zeh zas;simp only [xH,wT,wj,zD,thn_exit,zd,zBS,if_true,zD];refine zc (tk:=[]) (by kernel_rfl) ?_
  simp only [zi,go_os_nil,zt,zw,Nat.reduceEqDiff,peek,ze,zb,opQ_val,opQ_skip,zl,zp,zAB,zAC,if_true,za,zAN,Nat.reduceLT,if_true,if_false,h4,h5,hel,hlc,vE,wJ,xL zat,zmv]
  simp only [go_ret,zD,Fx]
  refine ⟨trivial,[stV (acc vs.length)],?_,_,rfl,rfl⟩;simp only [zM,za,hel,h4,Nat.reduceEqDiff,if_false,zeh (s:=acc vs.length) zat,vE]
end Go.Proofs.YtlnijcffanjieaaGreatDoor
namespace Go.Proofs.YtlnijcffanjieaaGreatDoor
set_option maxRecDepth 100000
open Go Go.Vm
inductive Wd where
 |non|one (s:St4) (m:Bool)|both (a b:Wd) (null last:Bool)|alt (l:List Wd) (null last:Bool)|rep (w:Wd) (loop null:Bool)
def emW:Wd->Bool
 | .non=>true|.one _ _=>false|.both _ _ n _=>n|.alt _ n _=>n|.rep _ _ n=>n
def enW:Wd->Bool
 | .non=>false|.one _ m=>m|.both _ _ _ l=>l|.alt _ _ l=>l|.rep w _ _=>enW w
mutual
def stW:Wd->Bool->Nat->Wd×Bool
 | .non,_,_=>(.non,false)
 | .one s _,bg,c=>(.one s (bg && wb s c),bg && wb s c)
 | .both x y n _,bg,c=>(.both (stW x bg c).1 (stW y (bg && emW x || enW x) c).1 n ((stW y (bg && emW x || enW x) c).2 || (stW x bg c).2 && emW y),(stW y (bg && emW x || enW x) c).2 || (stW x bg c).2 && emW y)
 | .alt l n _,bg,c=>(.alt (stWs l bg c).1 n (stWs l bg c).2,(stWs l bg c).2)
 | .rep w lp n,bg,c=>(.rep (stW w (bg || lp && enW w) c).1 lp n,(stW w (bg || lp && enW w) c).2)
def stWs:List Wd->Bool->Nat->List Wd×Bool
 | [],_,_=>([],false)
 | w::l,bg,c=>((stW w bg c).1::(stWs l bg c).1,(stW w bg c).2 || (stWs l bg c).2)
end
mutual
def nxW:Wd->Bool->St4
 | .non,_=>st0
 | .one s _,bg=>if bg then s else st0
 | .both x y _ _,bg=>xV (nxW x bg) (nxW y (bg && emW x || enW x))
 | .alt l _ _,bg=>nxWs l bg st0
 | .rep w lp _,bg=>nxW w (bg || lp && enW w)
def nxWs:List Wd->Bool->St4->St4
 | [],_,s=>s
 | w::l,bg,s=>nxWs l bg (xV s (nxW w bg))
end
mutual
def FW:Wd->Nat
 | .non=>1|.one _ _=>2|.both a b _ _=>max (FW a) (FW b)+2|.alt l _ _=>FWs l+l.length+2|.rep w _ _=>FW w+2
def FWs:List Wd->Nat
 | []=>0|w::l=>max (FW w) (FWs l)
end
mutual
def RgW:Wd->Prop
 | .non=>True|.one s _=>RgS s|.both a b _ _=>RgW a/\RgW b|.alt l _ _=>RgWs l/\l.length<=2 ^ 40|.rep w _ _=>RgW w
def RgWs:List Wd->Prop
 | []=>True|w::l=>RgW w/\RgWs l
end
mutual
def At (bs:List Blk):Wd->Nat->Nat->V->Prop
 | .non,lo,hi,v=>lo<=hi/\v=.ifc 127 (.agg [])
 | .one s m,lo,hi,v=>∃ p,lo<=p/\p<hi/\v=.ifc 123 (.ptr p 0)/\nth bs p=some (.cells (vT s m) 125)
 | .both a b nl la,lo,hi,v=>∃ p m1 m2 va vb,At bs b lo m1 vb/\At bs a m1 m2 va/\m2<=p/\p<hi/\v=.ifc 131 (.ptr p 0)/\nth bs p=some (.cells (xj va vb nl la) 133)
 | .alt l nl la,lo,hi,v=>∃ p m1 vs o,lo<=p/\p<m1/\Ats bs l m1 hi vs/\v=.ifc 134 (.ptr p 0)/\nth bs p=some (.cells (zbk vs o nl la) 137)
 | .rep w lp nl,lo,hi,v=>∃ p m1 vw,At bs w lo m1 vw/\m1<=p/\p<hi/\v=.ifc 138 (.ptr p 0)/\nth bs p=some (.cells (zcz vw lp nl) 140)
def Ats (bs:List Blk):List Wd->Nat->Nat->List V->Prop
 | [],lo,hi,vs=>lo<=hi/\vs=[]
 | w::l,lo,hi,vs=>∃ m v vs',vs=v::vs'/\At bs w lo m v/\Ats bs l m hi vs'
end
mutual
theorem At.le {bs:List Blk}:∀ {w:Wd} {lo hi:Nat} {v:V},At bs w lo hi v->lo<=hi
 | .non,_,_,_,h=>h.1
 | .one _ _,_,_,_,⟨p,h1,h2,_⟩=>by omega
 | .both _ _ _ _,_,_,_,⟨p,m1,m2,va,vb,h1,h2,h3,h4,_⟩=>by have:=h1.le;have:=h2.le;omega
 | .alt _ _ _,_,_,_,⟨p,m1,vs,o,h1,h2,h3,_⟩=>by have:=h3.le;omega
 | .rep _ _ _,_,_,_,⟨p,m1,vw,h1,h2,h3,_⟩=>by have:=h1.le;omega
theorem Ats.le {bs:List Blk}:∀ {l:List Wd} {lo hi:Nat} {vs:List V},Ats bs l lo hi vs->lo<=hi
 | [],_,_,_,h=>h.1
 | _::_,_,_,_,⟨m,v,vs',_,h1,h2⟩=>by have:=h1.le;have:=h2.le;omega
end
mutual
theorem At.frame {bs bs':List Blk}:∀ {w:Wd} {lo hi:Nat} {v:V},At bs w lo hi v->(∀ i,lo<=i->i<hi->nth bs' i=nth bs i)->At bs' w lo hi v
 | .non,_,_,_,h,_=>h
 | .one _ _,_,_,_,⟨p,h1,h2,h3,h4⟩,hf=>⟨p,h1,h2,h3,(hf p h1 h2).trans h4⟩
 | .both _ _ _ _,_,_,_,⟨p,m1,m2,va,vb,h1,h2,h3,h4,h5,h6⟩,hf=>by
  have l1:=h1.le;have l2:=h2.le;exact ⟨p,m1,m2,va,vb,h1.frame fun i a b=>hf i a (by omega),h2.frame fun i a b=>hf i (by omega) (by omega),h3,h4,h5,(hf p (by omega) h4).trans h6⟩
 | .alt _ _ _,_,_,_,⟨p,m1,vs,o,h1,h2,h3,h5,h6⟩,hf=>by
  have l1:=h3.le;exact ⟨p,m1,vs,o,h1,h2,h3.frame fun i a b=>hf i (by omega) b,h5,(hf p h1 (by omega)).trans h6⟩
 | .rep _ _ _,_,_,_,⟨p,m1,vw,h1,h2,h3,h5,h6⟩,hf=>by
  have l1:=h1.le;exact ⟨p,m1,vw,h1.frame fun i a b=>hf i a (by omega),h2,h3,h5,(hf p (by omega) h3).trans h6⟩
theorem Ats.frame {bs bs':List Blk}:∀ {l:List Wd} {lo hi:Nat} {vs:List V},Ats bs l lo hi vs->(∀ i,lo<=i->i<hi->nth bs' i=nth bs i)->Ats bs' l lo hi vs
 | [],_,_,_,h,_=>h
 | _::_,_,_,_,⟨m,v,vs',e,h1,h2⟩,hf=>by
  have l1:=h1.le;have l2:=h2.le;exact ⟨m,v,vs',e,h1.frame fun i a b=>hf i a (by omega),h2.frame fun i a b=>hf i (by omega) b⟩
end
mutual
theorem At.widen {bs:List Blk}:∀ {w:Wd} {lo hi lo' hi':Nat} {v:V},At bs w lo hi v->lo'<=lo->hi<=hi'->At bs w lo' hi' v
 | .non,_,_,_,_,_,h,a,b=>⟨by have:=h.1;omega,h.2⟩
 | .one _ _,_,_,_,_,_,⟨p,h1,h2,h3⟩,a,b=>⟨p,by omega,by omega,h3⟩
 | .both _ _ _ _,_,_,_,_,_,⟨p,m1,m2,va,vb,h1,h2,h3,h4,h5⟩,a,b=>⟨p,m1,m2,va,vb,h1.widen a (zAR _),h2,h3,by omega,h5⟩
 | .alt _ _ _,_,_,_,_,_,⟨p,m1,vs,o,h1,h2,h3,h5⟩,a,b=>⟨p,m1,vs,o,by omega,h2,h3.widen (zAR _) b,h5⟩
 | .rep _ _ _,_,_,_,_,_,⟨p,m1,vw,h1,h2,h3,h5⟩,a,b=>⟨p,m1,vw,h1.widen a (zAR _),h2,by omega,h5⟩
theorem Ats.widen {bs:List Blk}:∀ {l:List Wd} {lo hi lo' hi':Nat} {vs:List V},Ats bs l lo hi vs->lo'<=lo->hi<=hi'->Ats bs l lo' hi' vs
 | [],_,_,_,_,_,h,a,b=>⟨by have:=h.1;omega,h.2⟩
 | _::_,_,_,_,_,_,⟨m,v,vs',e,h1,h2⟩,a,b=>⟨m,v,vs',e,h1.widen a (zAR _),h2.widen (zAR _) b⟩
end
theorem At.ifc {bs:List Blk}:∀ {w:Wd} {lo hi:Nat} {v:V},At bs w lo hi v->∃ t u,v=.ifc t u
 | .non,_,_,_,h=>⟨_,_,h.2⟩
 | .one _ _,_,_,_,⟨_p,_h1,_h2,h3,_h4⟩=>⟨_,_,h3⟩
 | .both _ _ _ _,_,_,_,⟨_p,_m1,_m2,_va,_vb,_h1,_h2,_h3,_h4,h5,_h6⟩=>⟨_,_,h5⟩
 | .alt _ _ _,_,_,_,⟨_p,_m1,_vs,_o,_h1,_h2,_h3,h5,_h6⟩=>⟨_,_,h5⟩
 | .rep _ _ _,_,_,_,⟨_p,_m1,_vw,_h1,_h2,_h3,h5,_h6⟩=>⟨_,_,h5⟩
theorem Ats.ifc {bs:List Blk}:∀ {l:List Wd} {lo hi:Nat} {vs:List V},Ats bs l lo hi vs->∀ v∈vs,∃ t u,v=.ifc t u
 | [],_,_,_,h,v,hv=>by rw [h.2] at hv;cases hv
 | _::_,_,_,_,⟨m,v,vs',e,h1,h2⟩,u,hu=>by
  subst e;rcases zAO.1 hu with rfl|hu
  ·exact h1.ifc
  ·exact h2.ifc u hu
theorem Ats.len {bs:List Blk}:∀ {l:List Wd} {lo hi:Nat} {vs:List V},Ats bs l lo hi vs->vs.length=l.length
 | [],_,_,_,h=>by rw [h.2];rfl
 | _::_,_,_,_,⟨m,v,vs',e,h1,h2⟩=>by subst e;simp [h2.len]
theorem Ats.at_ {bs:List Blk}:∀ {l:List Wd} {lo hi:Nat} {vs:List V} {k:Nat} {w:Wd},Ats bs l lo hi vs->l[k]?=some w->∃ m m' v,nth vs k=some v/\At bs w m m' v/\lo<=m/\m'<=hi /\
  ∀ bs' w',At bs' w' m m' v->(∀ i,¬ (m<=i/\i<m')->nth bs' i=nth bs i)->Ats bs' (l.set k w') lo hi vs
 | [],_,_,_,_,_,_,hk=>by simp at hk
 | x::l,lo,hi,_,0,w,⟨m,v,vs',e,h1,h2⟩,hk=>by
  simp only [zAn,zAA] at hk;subst hk;subst e;exact ⟨lo,m,v,rfl,h1,zAR _,h2.le,fun bs' w' h3 hf=>⟨m,v,vs',rfl,h3,h2.frame fun i a b=>hf i (by omega)⟩⟩
 | x::l,lo,hi,_,k+1,w,⟨m,v,vs',e,h1,h2⟩,hk=>by
  subst e;obtain ⟨a,b,u,g1,g2,g3,g4,g5⟩:=h2.at_ (k:=k) (w:=w) (by simpa using hk)
  have l1:=h1.le;exact ⟨a,b,u,g1,g2,by omega,g4,fun bs' w' h3 hf=>⟨m,v,vs',rfl,h1.frame fun i c d=>hf i (by omega),g5 bs' w' h3 hf⟩⟩
theorem stWs_1:∀ (l:List Wd) (bg:Bool) (c:Nat),(stWs l bg c).1=l.map fun w=>(stW w bg c).1
 | [],_,_=>by simp [stWs]
 | w::l,bg,c=>by simp [stWs,stWs_1 l]
theorem stWs_2:∀ (l:List Wd) (bg:Bool) (c:Nat),(stWs l bg c).2=l.any fun w=>(stW w bg c).2
 | [],_,_=>by simp [stWs]
 | w::l,bg,c=>by simp [stWs,stWs_2 l]
theorem nxWs_eq:∀ (l:List Wd) (bg:Bool) (s:St4),nxWs l bg s=l.foldl (fun s w=>xV s (nxW w bg)) s
 | [],_,_=>by simp [nxWs]
 | w::l,bg,s=>by simp [nxWs,nxWs_eq l]
theorem FWs_le:∀ {l:List Wd} {w:Wd},w∈l->FW w<=FWs l
 | x::l,w,h=>by
  simp only [FWs];rcases zAO.1 h with rfl|h
  ·omega
  ·have:=FWs_le h;omega
theorem RgWs.mem:∀ {l:List Wd} {w:Wd},RgWs l->w∈l->RgW w
 | x::l,w,hr,h=>by
  rcases zAO.1 h with rfl|h
  ·exact hr.1
  ·exact hr.2.mem h
mutual
theorem nx_rg:∀ (w:Wd) (bg:Bool),RgW w->RgS (nxW w bg)
 | .non,_,_=>by simp only [nxW];exact rg0
 | .one s _,bg,h=>by simp only [nxW];cases bg<;>first|exact rg0|exact h
 | .both x y _ _,bg,h=>by simp only [nxW];exact zok (nx_rg x _ h.1) (nx_rg y _ h.2)
 | .alt l _ _,bg,h=>by simp only [nxW];exact nxs_rg l _ _ h.1 rg0
 | .rep w lp _,bg,h=>by simp only [nxW];exact nx_rg w _ h
theorem nxs_rg:∀ (l:List Wd) (bg:Bool) (s:St4),RgWs l->RgS s->RgS (nxWs l bg s)
 | [],_,_,_,hs=>by simp only [nxWs];exact hs
 | w::l,bg,s,h,hs=>by simp only [nxWs];exact nxs_rg l _ _ h.2 (zok hs (nx_rg w _ h.1))
end
theorem rg_take:∀ {l:List Wd},RgWs l->∀ k,RgWs (l.take k)
 | [],_,k=>by simp [RgWs]
 | w::l,h,0=>by simp [RgWs]
 | w::l,h,k+1=>by simp only [List.take_succ_cons];exact ⟨h.1,rg_take h.2 k⟩
end Go.Proofs.YtlnijcffanjieaaGreatDoor
namespace Go.Proofs.YtlnijcffanjieaaGreatDoor
set_option maxRecDepth 100000
open Go Go.Vm
variable {gl:Gl}
theorem m127e:qo Tryz.prog 127 (.agg []) mEm=some (274,.agg []):=by kernel_rfl
theorem m127n:qo Tryz.prog 127 (.agg []) mEn=some (275,.agg []):=by kernel_rfl
theorem m127x:qo Tryz.prog 127 (.agg []) mNx=some (276,.agg []):=by kernel_rfl
theorem m127s:qo Tryz.prog 127 (.agg []) mSt=some (277,.agg []):=by kernel_rfl
theorem zpP (p:Nat):qo Tryz.prog 123 (.ptr p 0) mEm=some (270,.ptr p 0):=by kernel_rfl
theorem zpQ (p:Nat):qo Tryz.prog 123 (.ptr p 0) mEn=some (271,.ptr p 0):=by kernel_rfl
theorem zpR (p:Nat):qo Tryz.prog 123 (.ptr p 0) mNx=some (272,.ptr p 0):=by kernel_rfl
theorem zpS (p:Nat):qo Tryz.prog 123 (.ptr p 0) mSt=some (273,.ptr p 0):=by kernel_rfl
theorem zpT (p:Nat):qo Tryz.prog 131 (.ptr p 0) mEm=some (278,.ptr p 0):=by kernel_rfl
theorem zpU (p:Nat):qo Tryz.prog 131 (.ptr p 0) mEn=some (279,.ptr p 0):=by kernel_rfl
theorem zpV (p:Nat):qo Tryz.prog 131 (.ptr p 0) mNx=some (280,.ptr p 0):=by kernel_rfl
theorem zpW (p:Nat):qo Tryz.prog 131 (.ptr p 0) mSt=some (281,.ptr p 0):=by kernel_rfl
theorem zpX (p:Nat):qo Tryz.prog 134 (.ptr p 0) mEm=some (283,.ptr p 0):=by kernel_rfl
theorem zpY (p:Nat):qo Tryz.prog 134 (.ptr p 0) mEn=some (284,.ptr p 0):=by kernel_rfl
theorem zpZ (p:Nat):qo Tryz.prog 134 (.ptr p 0) mNx=some (285,.ptr p 0):=by kernel_rfl
theorem zp0 (p:Nat):qo Tryz.prog 134 (.ptr p 0) mSt=some (286,.ptr p 0):=by kernel_rfl
theorem zp1 (p:Nat):qo Tryz.prog 138 (.ptr p 0) mEm=some (287,.ptr p 0):=by kernel_rfl
theorem zp2 (p:Nat):qo Tryz.prog 138 (.ptr p 0) mEn=some (288,.ptr p 0):=by kernel_rfl
theorem zp3 (p:Nat):qo Tryz.prog 138 (.ptr p 0) mNx=some (289,.ptr p 0):=by kernel_rfl
theorem zp4 (p:Nat):qo Tryz.prog 138 (.ptr p 0) mSt=some (290,.ptr p 0):=by kernel_rfl
theorem zcZ (hg:GW gl) {w:Wd} {bs:List Blk} {lo hi:Nat} {v:V} (h:At bs w lo hi v) {n:Nat} (hn:1<=n) (es:List (Nat×Nat)):ko gl n mEm v [] ⟨bs,es⟩=some (.val (.bool (emW w)),⟨bs,es⟩):=by
 obtain ⟨n,rfl⟩:∃ k,n=k+1:=⟨n - 1,by omega⟩
 cases w with
 | non=>obtain ⟨_,rfl⟩:=h;exact qK m127e Tryz.func274 rfl rfl (zqJ hg (_bg:=false) (_c:=0))
 | one s m=>obtain ⟨p,_,_,rfl,h4⟩:=h;exact qK (zpP p) Tryz.func270 rfl rfl (zqI hg)
 | both a b nl la=>obtain ⟨p,m1,m2,va,vb,h1,h2,h3,h4,rfl,h6⟩:=h;exact qK (zpT p) Tryz.func278 rfl rfl (zqD hg h6 rfl)
 | alt l nl la=>obtain ⟨p,m1,vs,o,h1,h2,h3,rfl,h6⟩:=h;exact qK (zpX p) Tryz.func283 rfl rfl (zqF hg h6 rfl)
 | rep w lp nl=>obtain ⟨p,m1,vw,h1,h2,h3,rfl,h6⟩:=h;exact qK (zp1 p) Tryz.func287 rfl rfl (zqH hg h6 rfl)
theorem zhL (hg:GW gl):∀ {w:Wd} {bs:List Blk} {lo hi:Nat} {v:V},At bs w lo hi v->∀ {n:Nat},FW w<=n->∀ (es:List (Nat×Nat)),ko gl n mEn v [] ⟨bs,es⟩=some (.val (.bool (enW w)),⟨bs,es⟩)
 | .non,bs,lo,hi,v,h,n,hn,es=>by
  obtain ⟨n,rfl⟩:∃ k,n=k+1:=⟨n - 1,by simp only [FW] at hn;omega⟩
  obtain ⟨_,rfl⟩:=h;exact qK m127n Tryz.func275 rfl rfl (zqK hg (_bg:=false) (_c:=0))
 | .one s m,bs,lo,hi,v,h,n,hn,es=>by
  obtain ⟨n,rfl⟩:∃ k,n=k+1:=⟨n - 1,by simp only [FW] at hn;omega⟩
  obtain ⟨p,_,_,rfl,h4⟩:=h;exact qK (zpQ p) Tryz.func271 rfl rfl (zqC hg h4 rfl)
 | .both a b nl la,bs,lo,hi,v,h,n,hn,es=>by
  obtain ⟨n,rfl⟩:∃ k,n=k+1:=⟨n - 1,by simp only [FW] at hn;omega⟩
  obtain ⟨p,m1,m2,va,vb,h1,h2,h3,h4,rfl,h6⟩:=h;exact qK (zpU p) Tryz.func279 rfl rfl (zqE hg h6 rfl)
 | .alt l nl la,bs,lo,hi,v,h,n,hn,es=>by
  obtain ⟨n,rfl⟩:∃ k,n=k+1:=⟨n - 1,by simp only [FW] at hn;omega⟩
  obtain ⟨p,m1,vs,o,h1,h2,h3,rfl,h6⟩:=h;exact qK (zpY p) Tryz.func284 rfl rfl (zqG hg h6 rfl)
 | .rep w lp nl,bs,lo,hi,v,h,n,hn,es=>by
  obtain ⟨n,rfl⟩:∃ k,n=k+1:=⟨n - 1,by simp only [FW] at hn;omega⟩
  simp only [FW] at hn;obtain ⟨p,m1,vw,h1,h2,h3,rfl,h6⟩:=h;obtain ⟨t,u,rfl⟩:=h1.ifc;exact qK (zp2 p) Tryz.func288 rfl rfl (zqP hg h6 rfl (zhL hg h1 (by omega) []))
theorem zbl (w:Wd):1<=FW w:=by cases w<;>simp only [FW]<;>omega
theorem zhM {bs bs':List Blk} (hf:∀ i,i<bs.length->nth bs' i=nth bs i):bs.length<=bs'.length:=by
 rcases zAg bs'.length bs.length with hl|hl
 ·have e:=hf bs'.length hl;rw [zq,zq,zAu (zAR _),zAV hl] at e;cases e
 ·exact hl
theorem zhN (hg:GW gl):∀ (N:Nat) {w:Wd} {bs:List Blk} {lo hi:Nat} {v:V},At bs w lo hi v->RgW w->hi<=bs.length->FW w<=N->∀ {n:Nat},FW w<=n->∀ (bg:Bool) (es:List (Nat×Nat)),ko gl n mNx v [.bool bg] ⟨bs,es⟩=some (.val (stV (nxW w bg)),⟨bs,es⟩)
 | 0,w,bs,lo,hi,v,h,hr,hh,hN,n,hn,bg,es=>by have:=zbl w;omega
 | N+1,.non,bs,lo,hi,v,h,hr,hh,hN,n,hn,bg,es=>by
  obtain ⟨n,rfl⟩:∃ k,n=k+1:=⟨n - 1,by simp only [FW] at hn;omega⟩
  obtain ⟨_,rfl⟩:=h;exact qK m127x Tryz.func276 rfl rfl (zqO hg)
 | N+1,.one s m,bs,lo,hi,v,h,hr,hh,hN,n,hn,bg,es=>by
  obtain ⟨n,rfl⟩:∃ k,n=k+1:=⟨n - 1,by simp only [FW] at hn;omega⟩
  obtain ⟨p,_,_,rfl,h4⟩:=h;exact qK (zpR p) Tryz.func272 rfl rfl (zqN hg h4)
 | N+1,.both a b nl la,bs,lo,hi,v,h,hr,hh,hN,n,hn,bg,es=>by
  simp only [FW] at hn hN;obtain ⟨n,rfl⟩:∃ k,n=k+2:=⟨n - 2,by omega⟩
  obtain ⟨p,m1,m2,va,vb,h1,h2,h3,h4,rfl,h6⟩:=h;obtain ⟨t,u,rfl⟩:=h2.ifc;obtain ⟨t',u',rfl⟩:=h1.ifc;have l1:=h1.le;have l2:=h2.le;have f1:∀ bs',(∀ i,i<bs.length->nth bs' i=nth bs i)->At bs' b lo m1 (.ifc t' u'):=fun bs' hf=>h1.frame fun i a b=>hf i (by omega)
  have f2:∀ bs',(∀ i,i<bs.length->nth bs' i=nth bs i)->At bs' a m1 m2 (.ifc t u):=fun bs' hf=>h2.frame fun i a b=>hf i (by omega)
  refine qK (zpV p) Tryz.func280 rfl rfl ?_;simp only [nxW];refine zqT hg (sec:=bg && emW a || enW a) (nx_rg a _ hr.1) (nx_rg b _ hr.2) h6 (fun bs' hf=>?_) (fun bs' hf=>?_) (fun bs' hf=>?_)
  ·have:=zhM hf;exact zpN hg ((hf p (by omega)).trans h6) rfl (zcZ hg (f2 bs' hf) (by have:=zbl a;omega) []) (zhL hg (f2 bs' hf) (by omega) [])
  ·have:=zhM hf;exact zhN hg N (f2 bs' hf) hr.1 (by omega) (by omega) (by omega) bg []
  ·have:=zhM hf;exact zhN hg N (f1 bs' hf) hr.2 (by omega) (by omega) (by omega) _ []
 | N+1,.alt l nl la,bs,lo,hi,v,h,hr,hh,hN,n,hn,bg,es=>by
  simp only [FW] at hn hN;obtain ⟨n,rfl⟩:∃ k,n=k+2:=⟨n - 2,by omega⟩
  obtain ⟨p,m1,vs,o,h1,h2,h3,rfl,h6⟩:=h;have hlen:=h3.len;refine qK (zpZ p) Tryz.func285 rfl rfl ?_
  have key:=zqV hg (es:=es) (n:=n) (bg:=bg) h6 h3.ifc (fun k=>nxWs (l.take k) bg st0) (by simp [nxWs]) (fun k=>nxs_rg _ _ _ (rg_take hr.1 k) rg0) (by omega) (by have:=hr.2;omega) (fun k v bs' hv hf=>by
   have hk:k<l.length:=by
    rw [zq] at hv;have:=(zAG.1 hv).1;omega
   obtain ⟨w,hw⟩:∃ w,l[k]?=some w:=⟨l[k],by simp [hk]⟩
   have hm:w∈l:=zAh hw;have:=zhM hf;obtain ⟨a,b,v',g1,g2,g3,g4,_⟩:=(h3.frame (bs':=bs') fun i c d=>hf i (by omega)).at_ hw
   rw [hv] at g1;cases g1;have hF:=FWs_le hm;refine ⟨nxW w bg,zhN hg N g2 (hr.1.mem hm) (by omega) (by omega) (by omega) bg [],nx_rg w _ (hr.1.mem hm),?_⟩
   rw [nxWs_eq,nxWs_eq,List.take_add_one,hw]
   simp)
  rw [hlen] at key;simp only [nxW];rw [zBc] at key;exact key
 | N+1,.rep w lp nl,bs,lo,hi,v,h,hr,hh,hN,n,hn,bg,es=>by
  simp only [FW] at hn hN;obtain ⟨n,rfl⟩:∃ k,n=k+2:=⟨n - 2,by omega⟩
  obtain ⟨p,m1,vw,h1,h2,h3,rfl,h6⟩:=h;obtain ⟨t,u,rfl⟩:=h1.ifc;have l1:=h1.le;have f1:∀ bs',(∀ i,i<bs.length->nth bs' i=nth bs i)->At bs' w lo m1 (.ifc t u):=fun bs' hf=>h1.frame fun i a b=>hf i (by omega)
  refine qK (zp3 p) Tryz.func289 rfl rfl ?_;simp only [nxW];refine zqS hg (n:=n+1) (sec:=bg || lp && enW w) h6 (fun bs' hf=>?_) (fun bs' hf=>?_)
  ·exact zpO hg ((hf p (by omega)).trans h6) rfl (zhL hg (f1 bs' hf) (by omega) [])
  ·have:=zhM hf;exact zhN hg N (f1 bs' hf) hr (by omega) (by omega) (by omega) _ []
end Go.Proofs.YtlnijcffanjieaaGreatDoor
namespace Go.Proofs.YtlnijcffanjieaaGreatDoor
set_option maxRecDepth 100000
open Go Go.Vm
variable {gl:Gl}
theorem zp5 (w:Wd) (bg:Bool) (c:Nat):emW (stW w bg c).1=emW w:=by cases w<;>simp only [stW,emW]
def stL (l:List Wd) (bg:Bool) (c k:Nat):List Wd:=(l.take k).map (fun w=>(stW w bg c).1)++l.drop k
theorem znK {l:List Wd} {bg:Bool} {c k:Nat} {w:Wd} (h:l[k]?=some w):(stL l bg c k)[k]?=some w:=by
 have hk:=(zAG.1 h).1;unfold stL;rw [zAf (by simp;omega),zBU]
 simp only [zA2,zA7];rw [show k+(k - min k l.length)=k by omega,h]
theorem znL {l:List Wd} {bg:Bool} {c k:Nat} {w:Wd} (h:l[k]?=some w):(stL l bg c k).set k (stW w bg c).1=stL l bg c (k+1):=by
 have hk:=(zAG.1 h).1;unfold stL;rw [zBH _ _ (by simp;omega)]
 simp only [zA2,zA7];rw [show k - min k l.length=0 by omega,zBT hk,zAI,List.take_add_one,h]
 simp
theorem zfl (hg:GW gl):∀ (N:Nat) {w:Wd} {bs:List Blk} {lo hi:Nat} {v:V},At bs w lo hi v->RgW w->hi<=bs.length->FW w<=N->∀ {n:Nat},FW w<=n->∀ (bg:Bool) (c:Nat),c<256->∀ (es:List (Nat×Nat)),
  ∃ bs',ko gl n mSt v [.bool bg,.int .u8 (c:Nat)] ⟨bs,es⟩=some (.val (.bool (stW w bg c).2),⟨bs',es⟩)/\At bs' (stW w bg c).1 lo hi v/\bs'.length=bs.length/\∀ i,¬ (lo<=i/\i<hi)->nth bs' i=nth bs i
 | 0,w,bs,lo,hi,v,h,hr,hh,hN,n,hn,bg,c,hc,es=>by have:=zbl w;omega
 | N+1,.non,bs,lo,hi,v,h,hr,hh,hN,n,hn,bg,c,hc,es=>by
  obtain ⟨n,rfl⟩:∃ k,n=k+1:=⟨n - 1,by simp only [FW] at hn;omega⟩
  obtain ⟨h1,rfl⟩:=h;refine ⟨bs,?_,?_,rfl,fun _ _=>rfl⟩
  ·simp only [stW];exact qK m127s Tryz.func277 rfl rfl (zqL hg)
  ·simp only [stW];exact ⟨h1,rfl⟩
 | N+1,.one s m,bs,lo,hi,v,h,hr,hh,hN,n,hn,bg,c,hc,es=>by
  obtain ⟨n,rfl⟩:∃ k,n=k+2:=⟨n - 2,by simp only [FW] at hn;omega⟩
  obtain ⟨p,h1,h2,rfl,h4⟩:=h;have hlt:p<bs.length:=wk (H:=⟨bs,[]⟩) h4;simp only [stW];exact ⟨_,qK (zpS p) Tryz.func273 rfl rfl (zqM hg hr hc h4),⟨p,h1,h2,rfl,qz hlt⟩,by simp,fun i hi=>qf (by omega)⟩
 | N+1,.both a b nl la,bs,lo,hi,v,h,hr,hh,hN,n,hn,bg,c,hc,es=>by
  simp only [FW] at hn hN;obtain ⟨n,rfl⟩:∃ k,n=k+2:=⟨n - 2,by omega⟩
  obtain ⟨p,m1,m2,va,vb,h1,h2,h3,h4,rfl,h6⟩:=h;obtain ⟨t,u,rfl⟩:=h2.ifc;obtain ⟨t',u',rfl⟩:=h1.ifc;have l1:=h1.le;have l2:=h2.le;have hlt:p<bs.length:=wk (H:=⟨bs,[]⟩) h6;obtain ⟨bs1,a1,a2,a3,a4⟩:=zfl hg N h2 hr.1 (by omega) (by omega) (n:=n+1) (by omega) bg c hc []
  have h1':At bs1 b lo m1 (.ifc t' u'):=h1.frame fun i x y=>a4 i (by omega)
  obtain ⟨bs2,b1,b2,b3,b4⟩:=zfl hg N h1' hr.2 (by omega) (by omega) (n:=n+1) (by omega) (bg && emW a || enW a) c hc []
  have ee:=zcZ hg b2 (n:=n+1) (by omega) []
  rw [zp5] at ee;have hp1:nth bs1 p=nth bs p:=a4 p (by omega)
  have hp2:nth bs2 p=nth bs p:=(b4 p (by omega)).trans hp1
  have key:=zqQ hg (es:=es) (c:=(c:Int)) h6 rfl rfl (zpN hg h6 rfl (zcZ hg h2 (by have:=zbl a;omega) []) (zhL hg h2 (by omega) [])) a1 hp1 b1 hp2 ee (b3.trans a3)
  simp only [stW];refine ⟨_,qK (zpW p) Tryz.func281 rfl rfl key,⟨p,m1,m2,.ifc t u,.ifc t' u',b2.frame fun i x y=>qf (by omega),?_,h3,h4,rfl,qz (by omega)⟩,by simp;omega,fun i hi=>?_⟩
  ·exact a2.frame fun i x y=>(qf (by omega)).trans (b4 i (by omega))
  ·rw [qf (by omega),b4 i (by omega),a4 i (by omega)]
 | N+1,.alt l nl la,bs,lo,hi,v,h,hr,hh,hN,n,hn,bg,c,hc,es=>by
  simp only [FW] at hn hN;obtain ⟨n,rfl⟩:∃ k,n=k+2:=⟨n - 2,by omega⟩
  obtain ⟨p,m1,vs,o,h1,h2,h3,rfl,h6⟩:=h;have hlen:=h3.len;have l1:=h3.le;have hlt:p<bs.length:=wk (H:=⟨bs,[]⟩) h6;have key:=zqU hg (es:=es) (n:=n+1) (bg:=bg) (c:=(c:Int)) h6 h3.ifc (fun k=>(l.take k).any fun w=>(stW w bg c).2)
   (fun k bs'=>Ats bs' (stL l bg c k) m1 hi vs/\∀ i,¬ (lo<=i/\i<hi)->nth bs' i=nth bs i) (by simp)
   (fun k bs' x hJ=>⟨hJ.1.frame fun i a b=>qf (by omega),fun i hi=>(qf (by omega)).trans (hJ.2 i hi)⟩)
   ⟨by simpa [stL] using h3,fun _ _=>rfl⟩ (by omega) (by have:=hr.2;omega) (fun k bs' v hv hJ hbl hbp=>by
    have hk:k<l.length:=by
     rw [zq] at hv;have:=(zAG.1 hv).1;omega
    obtain ⟨w,hw⟩:∃ w,l[k]?=some w:=⟨l[k],by simp [hk]⟩
    have hm:w∈l:=zAh hw;have hF:=FWs_le hm;obtain ⟨x,y,v',g1,g2,g3,g4,g5⟩:=hJ.1.at_ (znK hw);rw [hv] at g1;cases g1;obtain ⟨bs1,c1,c2,c3,c4⟩:=zfl hg N g2 (hr.1.mem hm) (by omega) (by omega) (n:=n+1) (by omega) bg c hc []
    refine ⟨bs1,_,c1,c4 p (by omega),c3,⟨?_,fun i hi=>(c4 i (by omega)).trans (hJ.2 i hi)⟩,?_⟩
    ·have:=g5 bs1 _ c2 c4
     rwa [znL hw] at this
    ·rw [List.take_add_one,hw];simp)
  obtain ⟨bs',k1,k2,k3,k4⟩:=key;rw [hlen] at k1 k2 k4;rw [zBc] at k1 k4;have e1:stL l bg c l.length=l.map fun w=>(stW w bg c).1:=by simp [stL]
  rw [e1] at k2;simp only [stW,stWs_1,stWs_2];exact ⟨bs',qK (zp0 p) Tryz.func286 rfl rfl k1,⟨p,m1,vs,o,h1,h2,k2.1,rfl,k4⟩,k3,k2.2⟩
 | N+1,.rep w lp nl,bs,lo,hi,v,h,hr,hh,hN,n,hn,bg,c,hc,es=>by
  simp only [FW] at hn hN;obtain ⟨n,rfl⟩:∃ k,n=k+2:=⟨n - 2,by omega⟩
  obtain ⟨p,m1,vw,h1,h2,h3,rfl,h6⟩:=h;obtain ⟨t,u,rfl⟩:=h1.ifc;have l1:=h1.le;obtain ⟨bs1,a1,a2,a3,a4⟩:=zfl hg N h1 hr (by omega) (by omega) (n:=n+1) (by omega) (bg || lp && enW w) c hc []
  have hp1:nth bs1 p=nth bs p:=a4 p (by omega)
  simp only [stW];exact ⟨bs1,qK (zp4 p) Tryz.func290 rfl rfl (zqR hg h6 (zpO hg h6 rfl (zhL hg h1 (by omega) [])) a1 hp1 a3),⟨p,m1,.ifc t u,a2,h2,h3,rfl,hp1.trans h6⟩,a3,fun i hi=>a4 i (by omega)⟩
end Go.Proofs.YtlnijcffanjieaaGreatDoor
namespace Go.Proofs.YtlnijcffanjieaaGreatDoor
set_option maxRecDepth 100000
open Go Go.Vm
variable {gl:Gl}
def c1:Code->Code|.seq a _=>a|.cond _ a _=>a|.block _ c=>c|.loop c=>c|.rangeFunc _ _ a _=>a|c=>c
def c2:Code->Code|.seq _ b=>b|.cond _ _ b=>b|.rangeFunc _ _ _ b=>b|c=>c
noncomputable def K45:Code:=Tryz.f45.body.getD .skip
noncomputable def K45X:Code:=c1 (c2 (c1 (c2 K45)))
noncomputable def K45Z:Code:=c2 (c2 K45)
def xU (P:Program) (rs:List ResultVar) (Post:V->Hp->Prop):Ex->St->Prop
 | .normal,⟨env,H,_,df⟩|.ret,⟨env,H,_,df⟩=>dropMarks df=[]/\∃ vs,zM P H env rs=some vs/\Post (tupOf vs) H
 | _,_=>False
theorem zkM {P:Program} {gl:Gl} {n:Nat} {f:FuncId} {fn:Func} {body:Code} {args:List V} {bs:List Blk} {es:List (Nat×Nat)} {Post:V->Hp->Prop} (hk:gl.hk f args=none) (hk2:∀ H,gl.hk2 n f args H=none) (hf:P.funcs[f]?=some fn) (hb:fn.body=some body)
  (h:go ⟨P,gl,zx P gl n,gl.uq⟩ n (xU P fn.results.toList Post) [.c body] .normal ⟨args++List.replicate (fn.ntmps - args.length) (.tup []),⟨bs,[]⟩,[],[]⟩):∃ v H1,zx P gl (n+1) f args ⟨bs,es⟩=some (.ret v,q9 bs.length es v.top H1)/\Post v H1:=by
 obtain ⟨ex,⟨env,H,lk,df⟩,h1,h2⟩:=yi h;have key:endOf ex=some none->dropMarks df=[]->∀ vs,zM P H env fn.results.toList=some vs->zx P gl (n+1) f args ⟨bs,es⟩=some (.ret (tupOf vs),q9 bs.length es (tupOf vs).top H):=by
  intro he hd vs hr;simp only [zx,hk,hk2,hf,hb,qP,fL_eq,h1,he,yV,hd,wc,hr,zO,kA]
 cases ex<;>simp only [xU] at h2
 ·obtain ⟨h2,vs,h3,h4⟩:=h2;exact ⟨_,H,key rfl h2 vs h3,h4⟩
 ·obtain ⟨h2,vs,h3,h4⟩:=h2;exact ⟨_,H,key rfl h2 vs h3,h4⟩
def ecells:E->List V
 | .mk op pl s0 s1 s2 s3 text mn mx nl args=>[.int .i64 op,.int .i64 pl,.int .u64 s0,.int .u64 s1,.int .u64 s2,.int .u64 s3,.str text,.int .i64 mn,.int .i64 mx,zW nl (encs args)]
theorem qw (e:E):enc e=.agg (ecells e):=by cases e;rfl
theorem kf (e:E):(ecells e).length=10:=by cases e;rfl
theorem wV (e:E):(ecells e).map clr=ecells e:=by cases e;simp [ecells,qn,zv,kP]
theorem zhO (e:E):tops (ecells e)=0:=by have:=top_enc e;rwa [qw] at this
section
variable {cx:Cx} {takes:List Tmp} {dst:Option Tmp} {type:TypeId} {pos:String} {after:Array Edge} {guard:Option (Nat×Bool)} {env:List V} {H:Hp} {lk:List (Nat×Nat)} {df:List (V×List V)}
theorem xM {P:Program} {g:Nat->Nat->Option V} {c:FuncId->List V->Hp->Option (Out×Hp)} {u:TypeId->Bool} {t:TypeId} {x:Operand} (ht:kV P t=false):Cx.op ⟨P,g,c,u⟩ takes ⟨dst,.makeInterface t x,type,pos,after,guard⟩ env H lk df=rdQ env H lk df ((peek env x).map (.ifc t)):=by
 simp only [Cx.op];refine wq ?_;simp only [qj,ht,Option.bind_eq_bind,zAD,if_false];cases peek env x<;>rfl
end
theorem if127:kV Tryz.prog 127=false:=by kernel_rfl
theorem if123:kV Tryz.prog 123=false:=by kernel_rfl
theorem if131:kV Tryz.prog 131=false:=by kernel_rfl
theorem if134:kV Tryz.prog 134=false:=by kernel_rfl
theorem if138:kV Tryz.prog 138=false:=by kernel_rfl
theorem ziz {env:List V}:jE Tryz.prog 127 #[] env=some (.agg []):=by kernel_rfl
theorem ag3:jG Tryz.prog 3=some false:=by kernel_rfl
theorem ag25:jG Tryz.prog 25=some false:=by kernel_rfl
theorem ag27:jG Tryz.prog 27=some true:=by kernel_rfl
theorem sz27:qc Tryz.prog 27=some 10:=by kernel_rfl
theorem fo27_0:qG Tryz.prog 27 0=some 0:=by kernel_rfl
theorem fo27_2:qG Tryz.prog 27 2=some 2:=by kernel_rfl
theorem fo27_4:qG Tryz.prog 27 4=some 7:=by kernel_rfl
theorem fo27_5:qG Tryz.prog 27 5=some 8:=by kernel_rfl
theorem fo27_6:qG Tryz.prog 27 6=some 9:=by kernel_rfl
theorem z93:qi Tryz.prog 93=some .nili:=by kernel_rfl
theorem zol {env:List V} {H:Hp} {lk:List (Nat×Nat)} {df:List (V×List V)}:zec 93 env H lk df (qi Tryz.prog 93)=some (.val (.ptr H.blks.length 0),⟨env,H.push (.cells [.nili] 93),lk,df⟩):=by
 rw [z93,wU rfl];rfl
theorem zjG {H:Hp} {b:Nat} {v x:V} {env:List V} {lk:List (Nat×Nat)} {df:List (V×List V)} (h:H.get b=some (.cells [x] 93)) (hx:locked x=false) (h1:okC v=true) (h2:v.laid=[v]):qQ Tryz.prog 93 H lk df (some (v,env)) (some (.ptr b 0))=some (.skip,⟨env,(H.set b (.cells [v] 93)).edge b v,lk,df⟩):=by
 rw [jF sz93 h h1 (by rw [h2];rfl) (show 0+1<=1 by decide) (vq (cs:=[x]) (by simp [hx]) (show 0+1<=1 by decide))]
 rw [h2];rfl
def B1 (e:E) (bs:List Blk):List Blk:=bs++[.cells (ecells e) 27,.cells [.nili] 93]
theorem zca (hg:GW gl) {n:Nat} {e:E} {op:Int} {bs:List Blk} {es:List (Nat×Nat)} {Post:V->Hp->Prop} (hop:nth (ecells e) 0=some (.int .i64 op))
  (h:∀ env,env.length=125->nth env 1=some (.ptr bs.length 0)->nth env 2=some (.ptr (bs.length+1) 0)->nth env 13=some (.int .i64 op)->go ⟨Tryz.prog,gl.g,zx Tryz.prog gl n,uqw⟩ n (xU Tryz.prog [.cell 2 93] Post) [.c K45X,.eb 0,.c K45Z] .normal ⟨env,⟨B1 e bs,[]⟩,[],[]⟩) :
  ∃ v H1,zx Tryz.prog gl (n+1) 45 [enc e] ⟨bs,es⟩=some (.ret v,q9 bs.length es v.top H1)/\Post v H1:=by
 refine zkM (hg.hk _ _ (by decide)) (fun H=>hg.hk2 _ _ _ _) Tryz.func45 (show Tryz.f45.body=some K45 from rfl) ?_
 rw [hg.uq];have hld:zJ Tryz.prog ⟨B1 e bs,[]⟩ gl.g 3 (.ptr bs.length 0)=some (.int .i64 op):=zZ (H:=⟨B1 e bs,[]⟩) ag3 zat hop;have e1:K45=.seq (c1 K45) (.seq (.seq (c1 (c1 (c2 K45))) (.block 0 K45X)) K45Z):=by kernel_rfl
 rw [e1];simp only [zd];simp only [c1,c2,K45,Tryz.f45,zA8,zAS,List.length_nil];rw [qw];have hrep:([V.agg (ecells e)]++List.replicate (125 - (0+1)) (V.tup []):List V)=V.agg (ecells e)::.tup []::.tup []::List.replicate 122 (V.tup []):=rfl;rw [hrep];refine zc (tk:=[]) (by kernel_rfl) ?_
 simp only [zi,go_os_nil,zd,kE,z9,ze,z0,opQ_val,zl,qg,zAi,zAS,List.length_nil,zAT,zAb,zAY,zAW,zf,zAI,zAJ,qO (show okC (.agg (ecells e))=true from rfl),V.laid,wV,zol]
 refine zc (tk:=[]) (by kernel_rfl) ?_
 have hB:bs++[Blk.cells (ecells e) 27,Blk.cells [V.nili] 93]=B1 e bs:=rfl;rw [hB];have hn9:∀ x:V,nth ((List.replicate 122 (V.tup [])).set 9 x) 9=some x:=fun x=>rfl;simp only [zi,go_os_nil,qb,zt,zn,peek,zb,opQ_val,zl,zv,zp,zAB,zAC,zu,zX,zAv,zf,zm,zAJ,fo27_0,hn9,hld]
 refine h _ ?_ ?_ ?_ ?_
 ·simp []
 ·rfl
 ·rfl
 ·rfl
end Go.Proofs.YtlnijcffanjieaaGreatDoor
namespace Go.Proofs.YtlnijcffanjieaaGreatDoor
set_option maxRecDepth 100000
open Go Go.Vm
variable {gl:Gl}
mutual
def foW:E->Option Wd
 | .mk op _ s0 s1 s2 s3 _ mn mx _ args =>
  if op=2 then (if (s0,s1,s2,s3)=st0 then none else some (.one (s0,s1,s2,s3) false))
  else if op=5 then foCat args
  else if op=6 then (if (foAlt args).isEmpty then none else some (.alt (foAlt args) ((foAlt args).any emW) false))
  else if op=7 then (match foHead args with
   | some x=>some (.rep x (decide (mx<0)) (mn == 0 || emW x))
   | none=>if 0<mn then none else some .non)
  else some .non
def foCat:List E->Option Wd
 | []=>some .non
 | e::l=>match foCat l,foW e with
  | some w,some x=>some (.both x w (emW x && emW w) false)
  | _,_=>none
def foAlt:List E->List Wd
 | []=>[]
 | e::l=>match foW e with
  | some x=>x::foAlt l
  | none=>foAlt l
def foHead:List E->Option Wd
 | []=>none
 | e::_=>foW e
end
def Res (bs:List Blk) (lo:Nat):Option Wd->V->Prop
 | none,v=>v=.nili
 | some w,v=>∃ hi,hi<=bs.length/\At bs w lo hi v
def NewC (bs bs':List Blk):Prop:=∃ l,bs'=bs++l/\∀ x∈l,x.isCells=true
def zo0 (bs:List Blk) (r:Option Wd) (v:V) (H:Hp):Prop:=NewC bs H.blks/\(∀ p∈H.edges,bs.length<=p.1)/\Res H.blks bs.length r v
def yl (gl:Gl) (n:Nat) (e:E) (bs:List Blk) (es:List (Nat×Nat)):Prop :=
 ∃ v bs' es',zx Tryz.prog gl n 45 [enc e] ⟨bs,es⟩=some (.ret v,⟨bs',es'++es⟩)/\NewC bs bs'/\(∀ p∈es',bs.length<=p.1)/\Res bs' bs.length (foW e) v
theorem NewC.refl (bs:List Blk):NewC bs bs:=⟨[],by simp,by simp⟩
theorem NewC.trans {a b c:List Blk} (h:NewC a b) (k:NewC b c):NewC a c:=by
 obtain ⟨l,rfl,h1⟩:=h;obtain ⟨m,rfl,h2⟩:=k;refine ⟨l++m,by simp,fun x hx=>?_⟩
 rcases zAt.1 hx with hx|hx
 ·exact h1 x hx
 ·exact h2 x hx
theorem NewC.nth {a b:List Blk} (h:NewC a b) {i:Nat} (hi:i<a.length):nth b i=nth a i:=by
 obtain ⟨l,rfl,_⟩:=h;exact get_old (es:=[]) (ls:=l) hi
theorem NewC.len {a b:List Blk} (h:NewC a b):a.length<=b.length:=by
 obtain ⟨l,rfl,_⟩:=h;simp
theorem NewC.push {a b:List Blk} (h:NewC a b) {cs:List V} {t:TypeId}:NewC a (b++[.cells cs t]):=h.trans ⟨[_],rfl,by simp [Blk.isCells]⟩
theorem NewC.set {a b:List Blk} (h:NewC a b) {i:Nat} {cs:List V} {t:TypeId} (hi:a.length<=i):NewC a (b.set i (.cells cs t)):=by
 obtain ⟨l,rfl,h1⟩:=h;refine ⟨l.set (i - a.length) (.cells cs t),by rw [zBH _ _ hi],fun x hx=>?_⟩
 rcases List.mem_or_eq_of_mem_set hx with hx|rfl
 ·exact h1 x hx
 ·rfl
theorem zek {n:Nat} {e:E} {bs:List Blk} {es:List (Nat×Nat)} (h:∃ v H1,zx Tryz.prog gl n 45 [enc e] ⟨bs,es⟩=some (.ret v,q9 bs.length es v.top H1)/\zo0 bs (foW e) v H1):yl gl n e bs es:=by
 obtain ⟨v,⟨b1,e1⟩,h1,h2,h3,h4⟩:=h
 by_cases hc:(Nat.ble v.top bs.length && e1.all (fun e=>Nat.ble bs.length e.1 || Nat.ble e.2 bs.length))=true
 ·refine ⟨v,bs,[],?_,.refl _,by simp,?_⟩
  ·rw [h1];obtain ⟨l,hl,_⟩:=h2;simp only at hl;subst hl;have hf:e1.filter (fun e=>Nat.blt e.1 bs.length)=[]:=by
    rw [List.filter_eq_nil_iff];intro p hp hb;have:=h3 p hp;have:=zAk hb;omega
   simp only [q9,if_pos hc,hf,List.take_left]
  ·have ht:v.top<=bs.length:=by
    simp only [zAF] at hc;exact zAk hc.1
   revert h4;cases foW e with
   | none=>exact fun h=>h
   | some w =>
    rintro ⟨hi,k1,k2⟩;cases w with
    | non=>exact ⟨bs.length,zAR _,zAR _,k2.2⟩
    | one s m=>obtain ⟨p,g1,g2,rfl,g4⟩:=k2;simp only [V.top] at ht;omega
    | both a b nl la=>obtain ⟨p,m1,m2,va,vb,g1,g2,g3,g4,rfl,g6⟩:=k2;have:=g1.le;have:=g2.le;simp only [V.top] at ht;omega
    | alt l nl la=>obtain ⟨p,m1,vs,o,g1,g2,g3,rfl,g6⟩:=k2;simp only [V.top] at ht;omega
    | rep w lp nl=>obtain ⟨p,m1,vw,g1,g2,g3,rfl,g6⟩:=k2;have:=g1.le;simp only [V.top] at ht;omega
 ·refine ⟨v,b1,e1,?_,h2,h3,h4⟩;rw [h1];simp only [q9,if_neg hc]
theorem zel {H:Hp} {v:V} {env:List V} {t b:Nat} (h:nth env t=some (.ptr b 0)) (hb:H.get b=some (.cells [v] 93)):zM Tryz.prog H env [.cell t 93]=some [clr v]:=by
 simp only [zM,h,zZ ag93 hb (show nth [v] 0=some v from rfl)]
theorem zbm (e:E) (bs:List Blk):(B1 e bs).length=bs.length+2:=by simp [B1]
theorem yS (e:E) (bs:List Blk):NewC bs (B1 e bs):=⟨_,rfl,by simp [Blk.isCells]⟩
theorem zkN (e:E) (bs:List Blk):nth (B1 e bs) bs.length=some (.cells (ecells e) 27):=zat (es:=[])
theorem zhP (e:E) (bs:List Blk):nth (B1 e bs) (bs.length+1)=some (.cells [.nili] 93):=zas (es:=[])
theorem zp6 {x y:Operand} {a b c d:Int}:kD Tryz.prog .eql 24 x y (some (stV (a,b,c,d))) (some (stV st0))=some (.bool (decide ((a,b,c,d)=st0))):=by
 have hg:jN Tryz.prog .eql 24 x y (stV (a,b,c,d)) (stV st0)=true:=by kernel_rfl
 simp only [kD,hg,if_true];have hb:w8 Tryz.prog .eql 24 (stV (a,b,c,d)) (stV st0)=(eqA Tryz.prog 100 24 (stV (a,b,c,d)) (stV st0)).map .bool:=rfl;obtain ⟨e,he,hsz,hag,hu⟩:∃ e,Tryz.prog.underlying 24=some (.array 4 e)/\qc Tryz.prog e=some 1/\jG Tryz.prog e=some false/\Tryz.prog.underlying e=some (.int .u64):=⟨_,Tryz.underlying24,by kernel_rfl,by kernel_rfl,by kernel_rfl⟩
 have hi:∀ m n:Int,eqA Tryz.prog 99 e (.int .u64 m) (.int .u64 n)=some (m == n):=fun m n=>by simp [eqA,hu,eqS]
 have he:eqA Tryz.prog 100 24 (stV (a,b,c,d)) (stV st0)=some (decide ((a,b,c,d)=st0)):=by
  have:eqA Tryz.prog 100 24 (stV (a,b,c,d)) (stV st0)=zfr Tryz.prog (eqA Tryz.prog 99) e 1 [.int .u64 a,.int .u64 b,.int .u64 c,.int .u64 d] [.int .u64 0,.int .u64 0,.int .u64 0,.int .u64 0] 0 4:=by
   simp only [eqA,he,stV,hsz,st0]
  rw [this];simp only [zfr,wE,hag,zda,Nat.mul_one,zAT,hi,Option.bind_eq_bind,zAB,Nat.reduceAdd,nth]
  by_cases h1:a=0
  ·by_cases h2:b=0
   ·by_cases h3:c=0
    ·by_cases h4:d=0
     ·simp [h1,h2,h3,h4,st0]
     ·simp [h1,h2,h3,h4,st0]
    ·simp [h1,h2,h3,st0]
   ·simp [h1,h2,st0]
  ·simp [h1,st0]
 rw [hb,he];rfl
theorem znM (hg:GW gl) {n:Nat} {e:E} {op:Int} {bs:List Blk} {es:List (Nat×Nat)} (hop:nth (ecells e) 0=some (.int .i64 op)) (h2:op≠2) (h5:op≠5) (h6:op≠6) (h7:op≠7) (hf:foW e=some .non):yl gl (n+1) e bs es:=by
 refine zek (zca hg hop fun env hel e1 e2 e13=>?_);have x2:(op == 2)=false:=beq_false_of_ne h2;have x5:(op == 5)=false:=beq_false_of_ne h5;have x6:(op == 6)=false:=beq_false_of_ne h6;have x7:(op == 7)=false:=beq_false_of_ne h7;simp only [K45X,K45Z,K45,Tryz.f45,zA8,c1,c2,zd];refine zc (tk:=[]) (by kernel_rfl) ?_
 simp only [zi,go_os_nil,zd,zA,zg,Nat.reduceEqDiff,peek,ze,ofVal,zB,zb,zj,opQ_val,zl,zv,zh,zAa,zG,zK,if_true,za,zAN,Nat.reduceLT,if_true,if_false,e13,hel,jj,x2,zAD,zBA,zBi]
 refine zc (tk:=[]) (by kernel_rfl) ?_
 simp only [zi,go_os_nil,zd,zA,zg,Nat.reduceEqDiff,peek,ze,ofVal,zB,zb,zj,opQ_val,zl,zv,zh,zAa,zG,zK,if_true,za,zAN,Nat.reduceLT,if_true,if_false,e13,hel,jj,x5,zAD,zBA,zBi]
 refine zc (tk:=[]) (by kernel_rfl) ?_
 simp only [zi,go_os_nil,zd,zA,zg,Nat.reduceEqDiff,peek,ze,ofVal,zB,zb,zj,opQ_val,zl,zv,zh,zAa,zG,zK,if_true,za,zAN,Nat.reduceLT,if_true,if_false,e13,hel,jj,x6,zAD,zBA,zBi]
 refine zc (tk:=[]) (by kernel_rfl) ?_
 simp only [zi,go_os_nil,zd,go_skip,jX,zA,zg,Nat.reduceEqDiff,peek,ze,ofVal,zB,zb,zj,opQ_val,zl,zv,zh,zAa,zG,zK,if_true,za,zAN,Nat.reduceLT,if_true,if_false,e13,hel,jj,x7,zAD,zBA,zBi]
 refine zc (tk:=[]) (by kernel_rfl) ?_
 have hst:∀ env:List V,qQ Tryz.prog 93 ⟨B1 e bs,[]⟩ [] [] (some (.ifc 127 (.agg []),env)) (some (.ptr (bs.length+1) 0))=some (.skip,⟨env,⟨(B1 e bs).set (bs.length+1) (.cells [.ifc 127 (.agg [])] 93),[]⟩,[],[]⟩):=fun env=>by
  rw [zjG (H:=⟨B1 e bs,[]⟩) (zhP e bs) rfl rfl rfl,kq rfl];rfl
 have hlen:bs.length+1<(B1 e bs).length:=by rw [zbm];omega
 simp only [zi,go_os_nil,zw,qV,Nat.reduceEqDiff,peek,ze,zb,opQ_val,opQ_skip,zl,qA,zp,zAC,if_true,za,zAN,Nat.reduceLT,if_true,if_false,e2,hel,ziz,xM if127,qp,hst]
 simp only [go_ret,zD,xU]
 refine ⟨rfl,[.ifc 127 (.agg [])],?_,?_,fun p hp=>(by cases hp),?_⟩
 ·refine zel (v:=.ifc 127 (.agg [])) (b:=bs.length+1) (by simp [za,e2]) ?_
  exact qz hlen
 ·exact (yS e bs).set (by omega)
 ·rw [hf];exact ⟨bs.length+2,by simp only [zAN,zbm];omega,by omega,rfl⟩
def b125:Option V->Option V
 | some v=>if okC v=true/\v.cells.length=4 then some (.agg (Vm.storeCells [.int .u64 0,.int .u64 0,.int .u64 0,.int .u64 0,.bool false] 0 v.cells)) else none
 | none=>none
theorem zo1 {env:List V} {x:Operand}:jE Tryz.prog 125 #[(0,x)] env=b125 (peek env x):=by
 have e0:jE Tryz.prog 125 #[(0,x)] env=(w9 [.int .u64 0,.int .u64 0,.int .u64 0,.int .u64 0,.bool false] (nth [(0,4),(4,1)]) env [(0,x)]).map .agg:=by kernel_rfl
 rw [e0];simp only [w9,Option.bind_eq_bind,zf];cases peek env x with
 | none=>rfl
 | some v =>
  simp only [zAB,b125,zAF,Nat.beq_eq,zAT]
  by_cases h1:okC v=true<;>by_cases h2:v.cells.length=4<;>simp [h1,h2]
theorem znN {s:St4}:b125 (some (stV s))=some (.agg (vT s false)):=rfl
def edg (b:Nat) (v:V) (es:List (Nat×Nat)):List (Nat×Nat):=if v.top<=b+1 then es else (b,v.top)::es
theorem zjH {bs:List Blk} {es:List (Nat×Nat)} {b:Nat} {v:V}:Hp.edge ⟨bs,es⟩ b v=⟨bs,edg b v es⟩:=by
 simp only [Hp.edge,edg];split<;>rfl
theorem yH {m b:Nat} {v:V} {es:List (Nat×Nat)} (h:∀ p∈es,m<=p.1) (hb:m<=b):∀ p∈edg b v es,m<=p.1:=by
 intro p hp;unfold edg at hp;split at hp
 ·exact h p hp
 ·rcases zAO.1 hp with rfl|hp
  ·exact hb
  ·exact h p hp
theorem xN {bs:List Blk} {es:List (Nat×Nat)} {b:Nat} {v x:V} {env:List V} {lk:List (Nat×Nat)} {df:List (V×List V)} (h:nth bs b=some (.cells [x] 93)) (hx:locked x=false) (h1:okC v=true) (h2:v.laid=[v]):qQ Tryz.prog 93 ⟨bs,es⟩ lk df (some (v,env)) (some (.ptr b 0))=some (.skip,⟨env,⟨bs.set b (.cells [v] 93),edg b v es⟩,lk,df⟩):=by
 rw [zjG (H:=⟨bs,es⟩) h hx h1 h2,Hp.set,zjH]
theorem zgm {H1:Hp} {env:List V} {lk:List (Nat×Nat)} {df:List (V×List V)} {bs:List Blk} {r:Option Wd} (e2:nth env 2=some (.ptr (bs.length+1) 0)) (hd:dropMarks df=[]) (hc:H1.get (bs.length+1)=some (.cells [.nili] 93)) (hn:NewC bs H1.blks) (he:∀ p∈H1.edges,bs.length<=p.1) (hr:r=none):xU Tryz.prog [.cell 2 93] (zo0 bs r) .ret ⟨env,H1,lk,df⟩:=by
 simp only [xU];exact ⟨hd,[.nili],zel (b:=bs.length+1) e2 hc,hn,he,by rw [hr];exact rfl⟩
theorem zo2 (hg:GW gl) {n:Nat} {pl s0 s1 s2 s3 mn mx:Int} {tx:List Nat} {nl:Bool} {args:List E} {bs:List Blk} {es:List (Nat×Nat)}:yl gl (n+1) (.mk 2 pl s0 s1 s2 s3 tx mn mx nl args) bs es:=by
 refine zek (zca hg (op:=2) rfl fun env hel e1 e2 e13=>?_);generalize hE:E.mk 2 pl s0 s1 s2 s3 tx mn mx nl args=e;have hec:ecells e=[.int .i64 2,.int .i64 pl,.int .u64 s0,.int .u64 s1,.int .u64 s2,.int .u64 s3,.str tx,.int .i64 mn,.int .i64 mx,zW nl (encs args)]:=by rw [<- hE];rfl
 have hfo:foW e=if (s0,s1,s2,s3)=st0 then none else some (.one (s0,s1,s2,s3) false):=by rw [<- hE];simp only [foW,if_true]
 have hld:zJ Tryz.prog ⟨B1 e bs,[]⟩ gl.g 24 (.ptr bs.length 2)=some (stV (s0,s1,s2,s3)):=by
  rw [wI (H:=⟨B1 e bs,[]⟩) ag24 sz24 (zkN e bs) (by rw [kf];decide),hec]
  rfl
 simp only [K45X,K45Z,K45,Tryz.f45,zA8,c1,c2,zd];refine zc (tk:=[]) (by kernel_rfl) ?_
 simp only [zi,go_os_nil,zd,zA,zg,Nat.reduceEqDiff,peek,ze,ofVal,zB,zb,zj,opQ_val,zl,zv,zh,zAa,zG,zK,if_true,za,zAN,Nat.reduceLT,if_true,if_false,e13,hel,jj,beq_self_eq_true,zAa,zAy,zBA,zBr]
 refine zc (tk:=[]) (by kernel_rfl) ?_
 simp only [zi,go_os_nil,zd,go_skip,zt,zA,qV,zn,Nat.reduceEqDiff,peek,zb,opQ_val,zl,zh,zp,zAB,zAC,zu,zX,zAT,zG,zK,if_true,za,zAN,Nat.reduceLT,if_true,if_false,e1,hel,fo27_2,hld,vE,zej,zp6]
 by_cases h0:(s0,s1,s2,s3)=st0
 ·refine .inl ⟨decide_eq_true h0,?_⟩;rw [if_pos h0] at hfo;refine zc (tk:=[]) (by kernel_rfl) ?_
  have hst:∀ env:List V,qQ Tryz.prog 93 ⟨B1 e bs,[]⟩ [] [] (some (.nili,env)) (some (.ptr (bs.length+1) 0))=some (.skip,⟨env,⟨(B1 e bs).set (bs.length+1) (.cells [.nili] 93),[]⟩,[],[]⟩):=fun env=>by
   rw [zjG (H:=⟨B1 e bs,[]⟩) (zhP e bs) rfl rfl rfl,kq rfl];rfl
  simp only [zi,go_os_nil,zw,Nat.reduceEqDiff,peek,zE,ofVal,opQ_skip,zl,zp,zAC,if_true,za,zAN,Nat.reduceLT,if_true,if_false,e2,hel,hst]
  simp only [go_ret,zD,qI,jk]
  exact zgm (by simp [za,e2]) rfl (qz (by rw [zbm];omega)) ((yS e bs).set (by omega)) (fun p hp=>(by cases hp)) hfo
 ·refine .inr ⟨decide_eq_false h0,?_⟩;rw [if_neg h0] at hfo;have hl:(B1 e bs).length=bs.length+2:=zbm e bs;have hc1:nth (B1 e bs++[Blk.cells (vT (s0,s1,s2,s3) false) 125]) (bs.length+1)=some (.cells [.nili] 93):=(get_old (es:=[]) (by omega)).trans (zhP e bs)
  have hst:∀ (env:List V),qQ Tryz.prog 93 ⟨B1 e bs++[Blk.cells (vT (s0,s1,s2,s3) false) 125],[]⟩ [] [] (some (.ifc 123 (.ptr (bs.length+2) 0),env)) (some (.ptr (bs.length+1) 0))=_:=fun env=>xN hc1 rfl rfl rfl;have hla:(V.agg (vT (s0,s1,s2,s3) false)).laid=vT (s0,s1,s2,s3) false:=rfl;refine zc (tk:=[]) (by kernel_rfl) ?_
  simp only [zi,go_os_nil,zt,kE,zw,qV,zn,Nat.reduceEqDiff,peek,ze,z0,zb,opQ_val,opQ_skip,zl,zp,zAB,zAC,zu,zX,qg,zAT,if_true,za,zAN,Nat.reduceLT,if_true,if_false,e1,e2,hel,hl,fo27_2,hld,vE,zo1,znN,qO (show okC (.agg (vT (s0,s1,s2,s3) false))=true from rfl),hla,xM if123,qp,z0,hst]
  simp only [go_ret,zD,qI,jk,xU]
  have hN:NewC bs (B1 e bs++[Blk.cells (vT (s0,s1,s2,s3) false) 125]):=(yS e bs).push;refine ⟨rfl,[.ifc 123 (.ptr (bs.length+2) 0)],?_,hN.set (by omega),yH (by simp) (by omega),?_⟩
  ·refine zel (v:=.ifc 123 (.ptr (bs.length+2) 0)) (b:=bs.length+1) (by simp [za,e2]) ?_
   exact qz (by simp [hl])
  ·rw [hfo];refine ⟨bs.length+3,by simp [hl],bs.length+2,by omega,by omega,rfl,?_⟩
   rw [qf (by omega)]
   have:=Vm.get_at0 (bs:=B1 e bs) (ls:=[Blk.cells (vT (s0,s1,s2,s3) false) 125]) (es:=[]);rw [hl] at this;exact this
end Go.Proofs.YtlnijcffanjieaaGreatDoor
namespace Go.Proofs.YtlnijcffanjieaaGreatDoor
set_option maxRecDepth 100000
open Go Go.Vm
variable {gl:Gl}
theorem zjI {x:Operand} {t:Nat} {u:V}:kD Tryz.prog .neq 93 x (.const .nilIface) (some (.ifc t u)) (some .nili)=some (.bool true):=by kernel_rfl
theorem zjJ {x:Operand}:kD Tryz.prog .neq 93 x (.const .nilIface) (some .nili) (some .nili)=some (.bool false):=by cases x<;>kernel_rfl
theorem zgn {x:Operand} {t:Nat} {u:V}:kD Tryz.prog .eql 93 x (.const .nilIface) (some (.ifc t u)) (some .nili)=some (.bool false):=by kernel_rfl
theorem zgo {x:Operand}:kD Tryz.prog .eql 93 x (.const .nilIface) (some .nili) (some .nili)=some (.bool true):=by cases x<;>kernel_rfl
theorem zmw {nl:Bool} {l:List E} {k:Nat} {a:E} (h:l[k]?=some a):z8 Tryz.prog 25 (zW nl (encs l)) (k:Int)=some (.vp (ecells a)):=by
 have hk:¬ ((k:Int)<0):=by omega
 have hn:nth (encs l) k=some (enc a):=zef h;have:zW nl (encs l)=.sl 10 (encs l) .no:=by
  rcases jd nl (encs l) with h'|⟨h',_⟩
  ·exact h'
  ·rw [h'] at hn;simp [nth] at hn
 rw [this];simp [z8,sz27,hk,hn,qw,V.cells]
theorem ziA {H:Hp} {g:Nat->Nat->Option V} {a:E}:zJ Tryz.prog H g 27 (.vp (ecells a))=some (enc a):=by
 rw [zhf,wE,ag27,sz27,zfZ,if_pos (by rw [kf];decide),qw]
 simp only [zBo];rw [zBM (by rw [kf];decide)]
def b140:Option V->Option V->Option V->Option V
 | some a,some b,some c=>if (okC a=true/\a.cells.length=1)/\(okC b=true/\b.cells.length=1)/\(okC c=true/\c.cells.length=1) then some (.agg (Vm.storeCells (Vm.storeCells (Vm.storeCells [.nili,.bool false,.bool false] 0 a.cells) 1 b.cells) 2 c.cells)) else none
 | _,_,_=>none
theorem stc_length:∀ (xs ys:List V) (k:Nat),(Vm.storeCells ys k xs).length=ys.length
 | [],_,_=>rfl
 | x::xs,ys,k=>by simp [Vm.storeCells,stc_length xs]
theorem zmx {env:List V} {x y z:Operand}:jE Tryz.prog 140 #[(0,x),(1,y),(2,z)] env=b140 (peek env x) (peek env y) (peek env z):=by
 have e0:jE Tryz.prog 140 #[(0,x),(1,y),(2,z)] env=(w9 [.nili,.bool false,.bool false] (nth [(0,1),(1,1),(2,1)]) env [(0,x),(1,y),(2,z)]).map .agg:=by kernel_rfl
 rw [e0];simp only [w9,Option.bind_eq_bind,zf,zm];cases peek env x with
 | none=>rfl
 | some a =>
  simp only [zAB,zAF,Nat.beq_eq,zAT,stc_length]
  by_cases h1:okC a=true/\a.cells.length=1
  ·cases peek env y with
   | none=>simp [b140]
   | some b =>
    by_cases h2:okC b=true/\b.cells.length=1
    ·cases peek env z with
     | none=>simp [b140]
     | some c =>
      by_cases h3:okC c=true/\c.cells.length=1
      ·simp [b140,h1,h2,h3]
      ·simp [b140,h1,h2,h3]
    ·cases peek env z<;>simp [b140,h1,h2]
  ·cases peek env y<;>cases peek env z<;>simp [b140,h1]
theorem zmy {t:Nat} {u:V} {a b:Bool}:b140 (some (.ifc t u)) (some (.bool a)) (some (.bool b))=some (.agg (zcz (.ifc t u) a b)):=rfl
theorem Res.ifc {bs:List Blk} {lo:Nat} {w:Wd} {v:V} (h:Res bs lo (some w) v):∃ t u,v=.ifc t u:=by
 obtain ⟨hi,_,h⟩:=h;exact h.ifc
theorem zo3 (hg:GW gl) {n:Nat} {pl s0 s1 s2 s3 mn mx:Int} {tx:List Nat} {nl:Bool} {a:E} {l:List E} {bs:List Blk} {es:List (Nat×Nat)} (hn:1<=n) (ih:∀ bs es,yl gl n a bs es):yl gl (n+1) (.mk 7 pl s0 s1 s2 s3 tx mn mx nl (a::l)) bs es:=by
 refine zek (zca hg (op:=7) rfl fun env hel e1 e2 e13=>?_);generalize hE:E.mk 7 pl s0 s1 s2 s3 tx mn mx nl (a::l)=e;have hec:ecells e=[.int .i64 7,.int .i64 pl,.int .u64 s0,.int .u64 s1,.int .u64 s2,.int .u64 s3,.str tx,.int .i64 mn,.int .i64 mx,zW nl (encs (a::l))]:=by rw [<- hE];rfl
 have hfo:foW e=(match foW a with|some x=>some (.rep x (decide (mx<0)) (mn == 0 || emW x))|none=>if 0<mn then none else some .non):=by rw [<- hE];simp only [foW,foHead];rfl
 have hB:(B1 e bs).length=bs.length+2:=zbm e bs;have hl9:∀ bs',NewC (B1 e bs) bs'->∀ es g,zJ Tryz.prog ⟨bs',es⟩ g 25 (.ptr bs.length 9)=some (zW nl (encs (a::l))):=fun bs' hN es g=>zZ (H:=⟨bs',es⟩) ag25 ((hN.nth (by omega)).trans (zkN e bs)) (by rw [hec];rfl)
 have hl8:∀ bs',NewC (B1 e bs) bs'->∀ es g,zJ Tryz.prog ⟨bs',es⟩ g 3 (.ptr bs.length 8)=some (.int .i64 mx):=fun bs' hN es g=>zZ (H:=⟨bs',es⟩) ag3 ((hN.nth (by omega)).trans (zkN e bs)) (by rw [hec];rfl)
 have hl7:∀ bs',NewC (B1 e bs) bs'->∀ es g,zJ Tryz.prog ⟨bs',es⟩ g 3 (.ptr bs.length 7)=some (.int .i64 mn):=fun bs' hN es g=>zZ (H:=⟨bs',es⟩) ag3 ((hN.nth (by omega)).trans (zkN e bs)) (by rw [hec];rfl)
 have hix:z8 Tryz.prog 25 (zW nl (encs (a::l))) (0:Int)=some (.vp (ecells a)):=zmw (k:=0) rfl;obtain ⟨v,bs',es',hc0,hN,hes,hres⟩:=ih (B1 e bs) [];have hcall:Cx.callF ⟨Tryz.prog,gl.g,zx Tryz.prog gl n,uqw⟩ 45 [enc a] ⟨B1 e bs,[]⟩=some (.val v,⟨bs',es'++[]⟩):=z7 Tryz.func45 rfl hc0;rw [zA0] at hcall;have hlen':=hN.len
 have hed:∀ v,∀ p∈edg (bs.length+1) v es',bs.length<=p.1:=fun v=>yH (fun p hp=>by have:=hes p hp;omega) (by omega)
 have hes':∀ p∈es',bs.length<=p.1:=fun p hp=>by have:=hes p hp;omega
 simp only [K45X,K45Z,K45,Tryz.f45,zA8,c1,c2,zd];refine zc (tk:=[]) (by kernel_rfl) ?_
 simp only [zi,go_os_nil,zd,zA,zg,Nat.reduceEqDiff,peek,ze,ofVal,zB,zb,zj,opQ_val,zl,zv,zh,zAa,zG,zK,if_true,za,zAN,Nat.reduceLT,if_true,if_false,e13,hel,jj,Int.reduceBEq,zAD,zBA,zBi,zAa]
 refine zc (tk:=[]) (by kernel_rfl) ?_
 simp only [zi,go_os_nil,zd,zA,zg,Nat.reduceEqDiff,peek,ze,ofVal,zB,zb,zj,opQ_val,zl,zv,zh,zAa,zG,zK,if_true,za,zAN,Nat.reduceLT,if_true,if_false,e13,hel,jj,Int.reduceBEq,zAD,zBA,zBi,zAa]
 refine zc (tk:=[]) (by kernel_rfl) ?_
 simp only [zi,go_os_nil,zd,zA,zg,Nat.reduceEqDiff,peek,ze,ofVal,zB,zb,zj,opQ_val,zl,zv,zh,zAa,zG,zK,if_true,za,zAN,Nat.reduceLT,if_true,if_false,e13,hel,jj,Int.reduceBEq,zAD,zBA,zBi,zAa]
 refine zc (tk:=[]) (by kernel_rfl) ?_
 simp only [zi,go_os_nil,zd,go_skip,jX,zA,zg,Nat.reduceEqDiff,peek,ze,ofVal,zB,zb,zj,opQ_val,zl,zv,zh,zAa,zG,zK,if_true,za,zAN,Nat.reduceLT,if_true,if_false,e13,hel,jj,beq_self_eq_true,zAy,zBA,zAa,zBr]
 refine zc (tk:=[]) (by kernel_rfl) ?_
 simp only [zi,go_os_nil,zd,qb,zt,zg,zn,qh,qx,Nat.reduceEqDiff,peeks,zO,peek,ze,ofVal,zb,opQ_val,zl,zp,yL,zAB,zAC,zu,zX,wv,zR,je,zAX,zAp,zAT,if_true,za,zAN,Nat.reduceLT,if_true,if_false,e1,hel,fo27_6,hl9 _ (NewC.refl _),qn,wv,hix,ziA,yF,hcall]
 cases hw:foW a with
 | none =>
  rw [hw] at hres hfo;simp only [Res] at hres;subst hres;simp only at hfo;have tki:∀ env t,jV env t (some V.nili)=some (.nili,env):=fun _ _=>rfl;simp only [tki,zj,opQ_val,zl];refine zc (tk:=[]) (by kernel_rfl) ?_
  simp only [zi,go_os_nil,zd,zk,zA,zg,Nat.reduceEqDiff,peek,ze,ofVal,zB,zb,zj,opQ_val,zl,zh,zAa,zG,zK,if_true,za,zAN,Nat.reduceLT,if_true,if_false,hel,clr_nili,zjJ,zAD,zBA,zBi]
  refine zc (tk:=[]) (by kernel_rfl) ?_
  simp only [zi,go_os_nil,zd,go_skip,jX,zt,zA,zg,zn,Nat.reduceEqDiff,peek,ze,ofVal,zB,zb,zj,opQ_val,zl,zv,zh,zp,zAB,zAC,zu,zX,zAT,zG,zK,if_true,za,zAN,Nat.reduceLT,if_true,if_false,e1,hel,fo27_4,hl7 _ hN,zbL]
  have hce:nth bs' (bs.length+1)=some (.cells [.nili] 93):=(hN.nth (by omega)).trans (zhP e bs)
  by_cases h0:0<mn
  ·refine .inl ⟨decide_eq_true h0,?_⟩;rw [if_pos h0] at hfo;have hst:∀ env:List V,qQ Tryz.prog 93 ⟨bs',es'⟩ [] [] (some (.nili,env)) (some (.ptr (bs.length+1) 0))=_:=fun env=>xN hce rfl rfl rfl;refine zc (tk:=[]) (by kernel_rfl) ?_
   simp only [zi,go_os_nil,zw,Nat.reduceEqDiff,peek,zE,ofVal,opQ_skip,zl,zp,zAC,if_true,za,zAN,Nat.reduceLT,if_true,if_false,e2,hel,hst]
   simp only [go_ret,zD,qI,jk]
   exact zgm (by simp [za,e2]) rfl (qz (by omega)) (((yS e bs).trans hN).set (by omega)) (hed .nili) hfo
  ·refine .inr ⟨decide_eq_false h0,?_⟩;rw [if_neg h0] at hfo;have hst:∀ env:List V,qQ Tryz.prog 93 ⟨bs',es'⟩ [] [] (some (.ifc 127 (.agg []),env)) (some (.ptr (bs.length+1) 0))=_:=fun env=>xN hce rfl rfl rfl
   try simp only [go_skip,jX,zd]
   refine zc (tk:=[]) (by kernel_rfl) ?_
   simp only [zi,go_os_nil,zw,qV,Nat.reduceEqDiff,peek,ze,zb,opQ_val,opQ_skip,zl,qA,zp,zAC,if_true,za,zAN,Nat.reduceLT,if_true,if_false,e2,hel,ziz,xM if127,qp,hst]
   simp only [go_ret,zD,xU]
   refine ⟨rfl,[.ifc 127 (.agg [])],?_,((yS e bs).trans hN).set (by omega),hed (.ifc 127 (.agg [])),?_⟩
   ·refine zel (v:=.ifc 127 (.agg [])) (b:=bs.length+1) (by simp [za,e2]) ?_
    exact qz (by omega)
   ·rw [hfo];exact ⟨bs.length,by simp only [zAN];omega,zAR _,rfl⟩
 | some x =>
  rw [hw] at hres hfo;obtain ⟨t,u,rfl⟩:=hres.ifc;simp only at hfo;simp only [qp,zj,opQ_val,zl];refine zc (tk:=[]) (by kernel_rfl) ?_
  simp only [zi,go_os_nil,zd,zk,zA,zg,Nat.reduceEqDiff,peek,ze,ofVal,zB,zb,zj,opQ_val,zl,zh,zAa,zG,zK,if_true,za,zAN,Nat.reduceLT,if_true,if_false,hel,zT,zjI,zAa,zAy,zBA,zBr]
  obtain ⟨hi,hhi,hat⟩:=hres;have hce:nth (bs'++[Blk.cells (zcz (.ifc t u) (decide (mx<0)) (mn == 0 || emW x)) 140]) (bs.length+1)=some (.cells [.nili] 93):=(get_old (es:=[]) (by omega)).trans ((hN.nth (by omega)).trans (zhP e bs))
  have hst:∀ env:List V,qQ Tryz.prog 93 ⟨bs'++[Blk.cells (zcz (.ifc t u) (decide (mx<0)) (mn == 0 || emW x)) 140],es'⟩ [] [] (some (.ifc 138 (.ptr bs'.length 0),env)) (some (.ptr (bs.length+1) 0))=_:=fun env=>xN hce rfl rfl rfl
  have hem:=fun env=>jQ (lk:=[]) (df:=[]) (env:=env) (zcZ hg hat (n:=n) hn es');rw [hg.uq] at hem;have hla:∀ b c,(V.agg (zcz (.ifc t u) b c)).laid=zcz (.ifc t u) b c:=fun _ _=>rfl
  have fin:∀ env:List V,nth env 2=some (.ptr (bs.length+1) 0)->xU Tryz.prog [.cell 2 93] (zo0 bs (foW e)) .ret ⟨env,⟨(bs'++[Blk.cells (zcz (.ifc t u) (decide (mx<0)) (mn == 0 || emW x)) 140]).set (bs.length+1) (.cells [.ifc 138 (.ptr bs'.length 0)] 93),edg (bs.length+1) (.ifc 138 (.ptr bs'.length 0)) es'⟩,[],[]⟩:=fun env h2=>by
   simp only [xU];refine ⟨rfl,[.ifc 138 (.ptr bs'.length 0)],zel (v:=.ifc 138 (.ptr bs'.length 0)) (b:=bs.length+1) h2 (qz (by simp;omega)),(((yS e bs).trans hN).push).set (by omega),hed _,?_⟩
   rw [hfo];refine ⟨bs'.length+1,by simp,bs'.length,hi,.ifc t u,?_,hhi,by omega,rfl,?_⟩
   ·refine (hat.frame fun i h3 h4=>?_).widen (lo':=bs.length) (by omega) (zAR _)
    rw [qf (by omega)]
    exact get_old (es:=[]) (by omega)
   ·rw [qf (by omega)]
    exact Vm.get_at0 (es:=[])
  have hpe:∀ env:List V,nth env 106=some (.ptr bs.length 8)->peek env (.tmp 106)=some (.ptr bs.length 8):=fun env h=>by simp [peek,h,clr]
  cases h0:(mn == 0) with
  | true =>
   rw [h0] at hst fin hce;simp only [Bool.true_or] at hst fin hce
   refine xg [2] [] [(false,false,false,false),(false,false,false,false),(true,false,false,false),(false,false,false,false),(false,false,false,false),(false,false,false,false),(false,false,false,false),(false,false,false,false),(false,false,false,false),(false,true,false,false),(false,false,false,false),(false,false,false,false),(false,true,false,true),(false,false,false,false),(false,true,false,true)] (tk:=[]) (by kernel_rfl) (by kernel_rfl) ?_
   simp only [zk,zt,kE,zw,zA,qE,qV,zn,Nat.reduceEqDiff,peeks,peek,ze,ofVal,z0,zb,zl,zv,zh,zp,zAB,zAC,zu,zX,zAa,qg,zAT,kZ,if_true,ja,za,zAN,Nat.reduceLT,if_true,if_false,ol_cons,znD,qa,zf,zm,jh,wantB_ft,xT,ol_nil,olV_val,olV_valh,olV_valc,olV_skipc,kS,wZ,ke,j6,ag3,e1,e2,hel,fo27_5,fo27_4,hl8 _ hN,hl7 _ hN,zT,vQ,jj,h0,z6,hem,ja,zmx,zmy,qO (show okC (.agg (zcz (.ifc t u) (decide (mx<0)) true))=true from rfl),hla,xM if138,qp,z0,hst]
   simp only [go_ret,zD,qI,jk]
   exact fin _ (by simp [za,e2])
  | false =>
   rw [h0] at hst fin hce;simp only [zBL] at hst fin hce
   refine xg [2] [] [(false,false,false,false),(false,false,false,false),(true,false,false,false),(false,false,false,false),(false,false,false,false),(false,false,false,false),(false,false,false,false),(false,false,false,false),(false,false,false,false),(false,true,false,false),(false,false,false,false),(false,false,false,false),(false,true,false,true),(false,false,false,false),(false,true,false,true)] (tk:=[]) (by kernel_rfl) (by kernel_rfl) ?_
   simp only [zk,zt,kE,zw,zA,qE,qV,zn,Nat.reduceEqDiff,peeks,peek,ze,ofVal,z0,zb,zl,zv,zh,zp,zAB,zAC,zu,zX,zAa,qg,zAT,kZ,if_true,jb,za,zAN,Nat.reduceLT,if_true,if_false,ol_cons,znD,qa,zf,zm,jh,wantB_ff,xh,ol_nil,olV_val,olV_valh,olV_valc,olV_skipc,kS,wZ,ke,j6,ag3,e1,e2,hel,fo27_5,fo27_4,hl8 _ hN,hl7 _ hN,zT,vQ,jj,h0,z6,hem,jb,zmx,zmy,qO (show okC (.agg (zcz (.ifc t u) (decide (mx<0)) (emW x)))=true from rfl),hla,xM if138,qp,z0,hst]
   refine ⟨⟨jq (hpe _ (by simp [za,hel])) (hl8 _ hN _ _) rfl,trivial⟩,?_⟩
   simp only [go_ret,zD,qI,jk]
   exact fin _ (by simp [za,e2])
end Go.Proofs.YtlnijcffanjieaaGreatDoor
namespace Go.Proofs.YtlnijcffanjieaaGreatDoor
set_option maxRecDepth 100000
open Go Go.Vm
variable {gl:Gl}
theorem r135:RowT Tryz.prog 135 93 1 16:=⟨by kernel_rfl,by kernel_rfl,by kernel_rfl,by decide,by kernel_rfl,by kernel_rfl,by kernel_rfl⟩
theorem foAlt_eq:∀ (l:List E),foAlt l=l.filterMap foW
 | []=>by simp [foAlt]
 | a::l=>by
  simp only [foAlt,List.filterMap_cons,foAlt_eq l];cases foW a<;>rfl
theorem zem {l:List E} {k:Nat} {a:E} (h:l[k]?=some a):foAlt (l.take (k+1))=foAlt (l.take k)++(foW a).toList:=by
 rw [foAlt_eq,foAlt_eq,List.take_add_one,h,List.filterMap_append];cases hw:foW a<;>simp [hw]
theorem Ats.snoc {bs:List Blk}:∀ {l:List Wd} {lo m m' hi:Nat} {vs:List V} {w:Wd} {v:V},Ats bs l lo m vs->At bs w m' hi v->m<=m'->Ats bs (l++[w]) lo hi (vs++[v])
 | [],_,_,_,_,_,_,_,h,h2,hm=>by
  rw [h.2];exact ⟨_,_,[],rfl,h2.widen (by have:=h.1;omega) (zAR _),zAR _,rfl⟩
 | x::l,_,_,_,_,_,_,_,⟨a,v',vs',e,h3,h4⟩,h2,hm=>by
  subst e;exact ⟨a,v',vs'++[_],rfl,h3,h4.snoc h2 hm⟩
def vU (vs:List V) (nl:Bool):List V:=[qt 1 93 vs,.bool nl,.bool false]
theorem z27:∃ z,qi Tryz.prog 27=some z/\okC z=true/\z.cells.length=10/\z.cells.all (fun c=>!(locked c))=true:=by
 refine ⟨_,(show qi Tryz.prog 27=some (enc (.mk 0 0 0 0 0 0 [] 0 0 true [])) by kernel_rfl),rfl,rfl,rfl⟩
theorem zo4 {env:List V}:jE Tryz.prog 137 #[] env=some (.agg [.snil,.bool false,.bool false]):=by kernel_rfl
theorem zmz {bs:List Blk} {es:List (Nat×Nat)} {cs:List V} {a:E} {env:List V} {lk:List (Nat×Nat)} {df:List (V×List V)} (h1:cs.length=10) (h2:cs.all (fun c=>!(locked c))=true):qQ Tryz.prog 27 ⟨bs++[.cells cs 27],es⟩ lk df (some (enc a,env)) (some (.ptr bs.length 0))=some (.skip,⟨env,⟨bs++[.cells (ecells a) 27],es⟩,lk,df⟩):=by
 have hl:(enc a).laid=ecells a:=by rw [qw];exact wV a
 rw [jF sz27 (H:=⟨bs++[Blk.cells cs 27],es⟩) (b:=bs.length) (off:=0) (cs:=cs) (ty:=27) Vm.get_at0 (by rw [qw];rfl) (by rw [hl,kf]) (by omega) (vq h2 (by omega)),kq (top_enc a),hl,zb7 (by rw [kf,h1]),yG]
theorem zmA {_env:List V} {_H:Hp} {_lk:List (Nat×Nat)} {_df:List (V×List V)}:∃ cs,(cs.length=10/\cs.all (fun c=>!(locked c))=true)/\∀ {env:List V} {H:Hp} {lk:List (Nat×Nat)} {df:List (V×List V)},zec 27 env H lk df (qi Tryz.prog 27)=some (.val (.ptr H.blks.length 0),⟨env,H.push (.cells cs 27),lk,df⟩):=by
 obtain ⟨z,h1,h2,h3,h4⟩:=z27;exact ⟨z.cells,⟨h3,h4⟩,by rw [h1];exact wU h2⟩
theorem zom {H:Hp} {nl:Bool} {l:List E}:kO Tryz.prog H 25 (zW nl (encs l))=some (l.length:Int):=by
 rcases jd nl (encs l) with h|⟨h0,h⟩<;>rw [h]
 ·simp [kO,encs_length]
 ·have:l=[]:=by cases l with|nil=>rfl|cons a l=>simp [encs] at h0
  subst this;simp [kO]
theorem zen {env:List V} {t:Nat} {a:E}:jV env t (some (enc a))=some (enc a,env):=by rw [qw];rfl
theorem znO {bs:List Blk} {es:List (Nat×Nat)} {g:Nat->Nat->Option V} {a:E}:zJ Tryz.prog ⟨bs++[.cells (ecells a) 27],es⟩ g 27 (.ptr bs.length 0)=some (enc a):=by
 rw [wI (H:=⟨bs++[Blk.cells (ecells a) 27],es⟩) (b:=bs.length) (off:=0) (cs:=ecells a) (ty:=27) ag27 sz27 Vm.get_at0 (by rw [kf];decide),qw]
 simp only [zBo];rw [zBM (by rw [kf];decide)]
structure AI (e:E) (bs:List Blk) (l:List E) (k:Nat) (H:List Blk) (es:List (Nat×Nat)) (vs:List V):Prop where
 new:NewC (B1 e bs) H
 c2:nth H (bs.length+1)=some (.cells [.nili] 93)
 own:nth H (bs.length+2)=some (.cells (vU vs ((foAlt (l.take k)).any emW)) 137)
 ats:Ats H (foAlt (l.take k)) (bs.length+3) H.length vs
 ed:∀ p∈es,bs.length<=p.1
theorem zo5 (hg:GW gl) {n:Nat} {pl s0 s1 s2 s3 mn mx:Int} {tx:List Nat} {nl:Bool} {l:List E} {bs:List Blk} {es:List (Nat×Nat)} (hn:l.length<n) (hll:l.length<=2 ^ 40) (ih:∀ a∈l,∀ bs es,yl gl n a bs es):yl gl (n+1) (.mk 6 pl s0 s1 s2 s3 tx mn mx nl l) bs es:=by
 refine zek (zca hg (op:=6) rfl fun env hel e1 e2 e13=>?_);generalize hE:E.mk 6 pl s0 s1 s2 s3 tx mn mx nl l=e;have hec:ecells e=[.int .i64 6,.int .i64 pl,.int .u64 s0,.int .u64 s1,.int .u64 s2,.int .u64 s3,.str tx,.int .i64 mn,.int .i64 mx,zW nl (encs l)]:=by rw [<- hE];rfl
 have hfo:foW e=if (foAlt l).isEmpty then none else some (.alt (foAlt l) ((foAlt l).any emW) false):=by rw [<- hE];simp only [foW];rfl
 have hB:(B1 e bs).length=bs.length+2:=zbm e bs;have hl9:∀ bs',NewC (B1 e bs) bs'->∀ es g,zJ Tryz.prog ⟨bs',es⟩ g 25 (.ptr bs.length 9)=some (zW nl (encs l)):=fun bs' hN es g=>zZ (H:=⟨bs',es⟩) ag25 ((hN.nth (by omega)).trans (zkN e bs)) (by rw [hec];rfl)
 have hN0:NewC (B1 e bs) (B1 e bs++[Blk.cells (vU [] false) 137]):=(NewC.refl _).push;have hla:(V.agg (vU [] false)).laid=vU [] false:=rfl;have hbx:jE Tryz.prog 137 #[]=fun _=>some (.agg (vU [] false)):=by funext env;exact zo4
 simp only [K45X,K45Z,K45,Tryz.f45,zA8,c1,c2,zd];refine zc (tk:=[]) (by kernel_rfl) ?_
 simp only [zi,go_os_nil,zd,zA,zg,Nat.reduceEqDiff,peek,ze,ofVal,zB,zb,zj,opQ_val,zl,zv,zh,zAa,zG,zK,if_true,za,zAN,Nat.reduceLT,if_true,if_false,e13,hel,jj,Int.reduceBEq,zAD,zBA,zBi,zAa]
 refine zc (tk:=[]) (by kernel_rfl) ?_
 simp only [zi,go_os_nil,zd,zA,zg,Nat.reduceEqDiff,peek,ze,ofVal,zB,zb,zj,opQ_val,zl,zv,zh,zAa,zG,zK,if_true,za,zAN,Nat.reduceLT,if_true,if_false,e13,hel,jj,Int.reduceBEq,zAD,zBA,zBi,zAa]
 refine zc (tk:=[]) (by kernel_rfl) ?_
 simp only [zi,go_os_nil,zd,zA,zg,Nat.reduceEqDiff,peek,ze,ofVal,zB,zb,zj,opQ_val,zl,zv,zh,zAa,zG,zK,if_true,za,zAN,Nat.reduceLT,if_true,if_false,e13,hel,jj,beq_self_eq_true,zAy,zBA,zAa,zBr]
 refine zc (tk:=[]) (by kernel_rfl) ?_
 simp only [zi,go_os_nil,zd,kE,qV,zg,Nat.reduceEqDiff,ze,z0,zeY,zb,zj,opQ_val,zl,qg,if_true,za,zAN,Nat.reduceLT,if_true,if_false,hel,hB,hbx,qO (show okC (.agg (vU [] false))=true from rfl),hla,z0,zeY]
 refine zc (tk:=[]) (by kernel_rfl) ?_
 simp only [zi,go_os_nil,qb,zk,zt,zn,kF,Nat.reduceEqDiff,peek,ofVal,zb,opQ_val,zl,zp,zAB,zAC,zu,zX,zAT,if_true,za,zAN,Nat.reduceLT,if_true,if_false,e1,hel,fo27_6,hl9 _ hN0,qn,zom]
 obtain ⟨cz,⟨hz1,hz2⟩,hz3⟩:=zmA (_env:=env) (_H:=⟨[],[]⟩) (_lk:=[]) (_df:=[]);have hAI0:AI e bs l 0 (B1 e bs++[Blk.cells (vU [] false) 137]) [] []:=by
  refine ⟨hN0,(get_old (es:=[]) (by omega)).trans (zhP e bs),?_,?_,by simp⟩
  ·have:=Vm.get_at0 (bs:=B1 e bs) (ls:=[Blk.cells (vU [] false) 137]) (es:=[]);rw [hB] at this;exact this
  ·refine ⟨?_,rfl⟩;simp [hB]
 refine xI (fun m s=>∃ k env H E vs,m+k=l.length/\s=⟨env,⟨H,E⟩,[],[]⟩/\env.length=125/\nth env 2=some (.ptr (bs.length+1) 0)/\nth env 7=some (.ptr (bs.length+2) 0)/\nth env 55=some (zW nl (encs l))/\nth env 56=some (.int .i64 l.length)/\nth env 57=some (.int .i64 (k:Nat))/\AI e bs l k H E vs) l.length hn ⟨0,_,_,[],[],rfl,rfl,?_,?_,?_,?_,?_,?_,hAI0⟩ ?_
 ·simp [hel]
 ·simp [za,e2]
 ·simp [za,hel]
 ·simp [za,hel]
 ·simp [za,hel]
 ·simp [za,hel]
 clear e1 e2 e13 hel hAI0 env;rintro m s ⟨k,env,H,E,vs,hmk,rfl,hel,e2,e7,e55,e56,e57,hA⟩;have hHl:bs.length+3<=H.length:=hA.ats.le;simp only [zd];refine zc (tk:=[]) (by kernel_rfl) ?_
 simp only [zi,go_os_nil,zd,go_skip,qb,zA,peek,zb,opQ_val,zl,zv,zh,zG,zK,if_true,za,Nat.reduceLT,if_true,e56,e57,hel,vQ]
 by_cases hk:k<l.length
 ·refine .inl ⟨by simp;omega,?_⟩
  obtain ⟨a,ha⟩:∃ a,l[k]?=some a:=⟨l[k],by simp [hk]⟩
  have ham:a∈l:=zAh ha;have hix:z8 Tryz.prog 25 (zW nl (encs l)) (k:Int)=some (.vp (ecells a)):=zmw ha
  try simp only [go_skip,zd,qb]
  refine zc (tk:=[]) (by kernel_rfl) ?_
  simp only [zi,go_os_nil,zd,zt,z9,zw,qh,Nat.reduceEqDiff,peek,ze,zb,opQ_val,opQ_skip,zl,zv,zp,yL,zAB,zAC,wv,qg,if_true,za,zAN,Nat.reduceLT,if_true,if_false,e55,e57,hel,qn,wv,hix,ziA,yF,hz3,zen,zmz hz1 hz2]
  obtain ⟨v,bs',es',hc0,hN,hes,hres⟩:=ih a ham (H++[Blk.cells (ecells a) 27]) E;have hcall:Cx.callF ⟨Tryz.prog,gl.g,zx Tryz.prog gl n,uqw⟩ 45 [enc a] ⟨H++[Blk.cells (ecells a) 27],E⟩=some (.val v,⟨bs',es'++E⟩):=z7 Tryz.func45 rfl hc0;have hNH:NewC H bs':=(NewC.push (NewC.refl H)).trans hN;have hHb:=hNH.len;have hE':∀ p∈es'++E,bs.length<=p.1:=fun p hp=>by
   rcases zAt.1 hp with hp|hp
   ·have:=hes p hp;simp at this;omega
   ·exact hA.ed p hp
  refine zc (tk:=[]) (by kernel_rfl) ?_
  simp only [zi,go_os_nil,zd,zt,zg,qx,Nat.reduceEqDiff,peeks,zO,peek,ze,zb,opQ_val,zl,zp,zAB,zAC,zR,je,zAX,zAp,if_true,za,zAN,Nat.reduceLT,if_true,if_false,hel,znO,yF,hcall]
  cases hw:foW a with
  | none =>
   rw [hw] at hres;simp only [Res] at hres;subst hres;have tki:∀ env t,jV env t (some V.nili)=some (.nili,env):=fun _ _=>rfl;simp only [tki,zj,opQ_val,zl];refine zc (tk:=[]) (by kernel_rfl) ?_
   simp only [zi,go_os_nil,zd,go_skip,jX,zk,zA,Nat.reduceEqDiff,peek,ofVal,zb,opQ_val,zl,zh,zAa,zG,zK,if_true,za,zAN,Nat.reduceLT,if_true,if_false,hel,clr_nili,zjJ,zAD,zBA,zBi,zAa]
   refine zc (tk:=[]) (by kernel_rfl) ?_
   simp only [zi,go_os_nil,zk,zA,Nat.reduceEqDiff,peek,ofVal,zb,opQ_val,zl,zv,if_true,za,zAN,Nat.reduceLT,if_true,if_false,e57,hel,jy (show k<2 ^ 60 by omega),zD,thn_normal]
   have ht:foAlt (l.take (k+1))=foAlt (l.take k):=by rw [zem ha,hw];simp
   refine ⟨l.length - (k+1),by omega,k+1,_,bs',es'++E,vs,by omega,rfl,?_,?_,?_,?_,?_,?_,?_⟩
   ·simp [hel]
   ·simp [za,e2]
   ·simp [za,e7]
   ·simp [za,e55]
   ·simp [za,e56]
   ·simp [za,hel]
   ·refine ⟨hA.new.trans hNH,(hNH.nth (by omega)).trans hA.c2,?_,?_,hE'⟩
    ·rw [ht];exact (hNH.nth (by omega)).trans hA.own
    ·rw [ht];exact (hA.ats.frame fun i a b=>hNH.nth b).widen (zAR _) hHb
  | some x =>
   rw [hw] at hres;obtain ⟨t,u,rfl⟩:=hres.ifc;simp only [qp,zj,opQ_val,zl];refine zc (tk:=[]) (by kernel_rfl) ?_
   simp only [zi,go_os_nil,zd,go_skip,jX,zk,zA,Nat.reduceEqDiff,peek,ofVal,zb,opQ_val,zl,zh,zAa,zG,zK,if_true,za,zAN,Nat.reduceLT,if_true,if_false,hel,zT,zjI,zAa,zAy,zBA,zBr]
   obtain ⟨hi,hhi,hat⟩:=hres;have hvl:vs.length<=l.length:=by
    have:=hA.ats.len;rw [this,foAlt_eq];exact zAP (List.length_filterMap_le _ _) (by simp;omega)
   obtain ⟨nlk,hnlk⟩:∃ nlk,nlk=(foAlt (l.take k)).any emW:=⟨_,rfl⟩;have hown:nth bs' (bs.length+2)=some (.cells (vU vs nlk) 137):=by rw [hnlk];exact (hNH.nth (by omega)).trans hA.own
   have hlod:∀ env,zeF Tryz.prog 135 env ⟨bs',es'++E⟩ [] [] (some (.ptr (bs.length+2) 0))=some (.val (qt 1 93 vs),⟨env,⟨bs'.set (bs.length+2) (.cells ((vU vs nlk).set 0 (lkL 1 vs)) 137),es'++E⟩,zhG (bs.length+2) 0 vs,[]⟩):=fun env=>zmm (H:=⟨bs',es'++E⟩) ag135 hown rfl;obtain ⟨HL,hHL⟩:∃ HL,HL=bs'.set (bs.length+2) (.cells ((vU vs nlk).set 0 (lkL 1 vs)) 137):=⟨_,rfl⟩;rw [<- hHL] at hlod
   have gL:nth HL (bs.length+2)=some (.cells ((vU vs nlk).set 0 (lkL 1 vs)) 137):=by rw [hHL,qz (by omega)]
   have hbsl:=r135.bsl (v:=.ifc t u) rfl rfl;have happ:∀ H,qL Tryz.prog H 135 (qt 1 93 vs) (.sl 1 [.ifc t u] .no)=some (qt 1 93 (vs++[.ifc t u])):=fun H=>zbj r135 (by simp) (roomA_of (by simp;omega) (by simp;omega))
   have hst:∀ env,qQ Tryz.prog 135 ⟨HL,es'++E⟩ (zhG (bs.length+2) 0 vs) [] (some (qt 1 93 (vs++[.ifc t u]),env)) (some (.ptr (bs.length+2) 0))=some (.skip,⟨env,⟨HL.set (bs.length+2) (.cells (vU (vs++[.ifc t u]) nlk) 137),edg (bs.length+2) (qt 1 93 (vs++[.ifc t u])) (es'++E)⟩,zhG (bs.length+2) 0 vs,[]⟩):=fun env=>by
    rw [jF r135.st (H:=⟨HL,es'++E⟩) gL znE (by rw [zhH];rfl) (by simp [vU]) (zmn (by simp [vU])),Hp.set,zjH]
    simp only [zhH,Vm.storeCells,List.set_set];rfl
   have hcls:clr (V.sl 1 [V.ifc t u] (.yes 93))=.sl 1 [.ifc t u] .no:=rfl;refine zc (tk:=[69]) (by kernel_rfl) ?_
   simp only [zi,go_os_nil,zed,zkG,zw,zF,zn,zaN,ne_eq,Nat.reduceEqDiff,zBs,peek,ze,zfj,zb,opQ_val,opQ_skip,zl,zp,zAB,derefA,zu,zX,zAv,if_true,za,zAN,Nat.reduceLT,if_true,if_false,e7,hel,fo137_0,hlod,zT,hbsl,hcls,zdO,happ,hst,wP (cx:=⟨Tryz.prog,gl.g,zx Tryz.prog gl n,uqw⟩) (show uqT Tryz.prog uqw 135=false by kernel_rfl)]
   obtain ⟨H2,hH2⟩:∃ H2,H2=HL.set (bs.length+2) (.cells (vU (vs++[.ifc t u]) nlk) 137):=⟨_,rfl⟩;obtain ⟨E2,hE2⟩:∃ E2,E2=edg (bs.length+2) (qt 1 93 (vs++[.ifc t u])) (es'++E):=⟨_,rfl⟩;have g2:nth H2 (bs.length+2)=some (.cells (vU (vs++[.ifc t u]) nlk) 137):=by rw [hH2,qz (by rw [hHL,zAN];omega)]
   have h2l:H2.length=bs'.length:=by rw [hH2,hHL];simp
   have h2n:∀ i,i≠bs.length+2->nth H2 i=nth bs' i:=fun i hi=>by rw [hH2,qf (Ne.symm hi),hHL,qf (Ne.symm hi)]
   have hE2':∀ p∈E2,bs.length<=p.1:=by rw [hE2];exact yH hE' (by omega)
   rw [<- hH2,<- hE2];have hat2:At H2 x (H.length+1) hi (.ifc t u):=by
    have:=hat.frame (bs':=H2) fun i a b=>h2n i (by simp at a;omega)
    simpa using this
   have hl1:zJ Tryz.prog ⟨H2,E2⟩ gl.g 4 (.ptr (bs.length+2) 1)=some (.bool nlk):=zZ (H:=⟨H2,E2⟩) ag4 g2 rfl;have hem:=fun env=>jQ (lk:=[]) (df:=[]) (env:=env) (zcZ hg hat2 (n:=n) (by omega) E2)
   rw [hg.uq] at hem;have hst2:∀ (env:List V) (b:Bool),qQ Tryz.prog 4 ⟨H2,E2⟩ [] [] (some (.bool b,env)) (some (.ptr (bs.length+2) 1))=some (.skip,⟨env,⟨H2.set (bs.length+2) (.cells (vU (vs++[.ifc t u]) b) 137),E2⟩,[],[]⟩):=fun env b=>by
    rw [jF sz4 (H:=⟨H2,E2⟩) g2 rfl rfl (by simp [vU]) (vq (by cases vs<;>rfl) (by simp [vU]))]
    rw [zaP];rfl
   have ht:foAlt (l.take (k+1))=foAlt (l.take k)++[x]:=by rw [zem ha,hw];rfl
   have fin:∀ env:List V,env.length=125->nth env 2=some (.ptr (bs.length+1) 0)->nth env 7=some (.ptr (bs.length+2) 0)->nth env 55=some (zW nl (encs l))->nth env 56=some (.int .i64 l.length)->nth env 57=some (.int .i64 ((k+1:Nat):Int))->∃ i,i<m/\∃ k env' H E vs',i+k=l.length/\(⟨env,⟨H2.set (bs.length+2) (.cells (vU (vs++[.ifc t u]) (nlk || emW x)) 137),E2⟩,[],[]⟩:St)=⟨env',⟨H,E⟩,[],[]⟩/\env'.length=125/\nth env' 2=some (.ptr (bs.length+1) 0)/\nth env' 7=some (.ptr (bs.length+2) 0)/\nth env' 55=some (zW nl (encs l))/\nth env' 56=some (.int .i64 l.length)/\nth env' 57=some (.int .i64 (k:Nat))/\AI e bs l k H E vs':=by
    intro env g0 g2' g7 g55 g56 g57;refine ⟨m - 1,by omega,k+1,env,_,E2,vs++[.ifc t u],by omega,rfl,g0,g2',g7,g55,g56,g57,?_⟩
    have hnw:NewC (B1 e bs) (H2.set (bs.length+2) (.cells (vU (vs++[.ifc t u]) (nlk || emW x)) 137)):=by
     rw [hH2,hHL];have hq:=hA.new.trans hNH;exact ((hq.set (by omega)).set (by omega)).set (by omega)
    refine ⟨hnw,?_,?_,?_,hE2'⟩
    ·rw [qf (by omega),h2n _ (by omega)];exact (hNH.nth (by omega)).trans hA.c2
    ·rw [qz (by omega),ht,List.any_append,<- hnlk];simp
    ·rw [ht,zAN,h2l];have f1:Ats (H2.set (bs.length+2) (.cells (vU (vs++[.ifc t u]) (nlk || emW x)) 137)) (foAlt (l.take k)) (bs.length+3) H.length vs:=hA.ats.frame fun i a b=>by rw [qf (by omega),h2n i (by omega)];exact hNH.nth b
     have f2:At (H2.set (bs.length+2) (.cells (vU (vs++[.ifc t u]) (nlk || emW x)) 137)) x (H.length+1) hi (.ifc t u):=hat2.frame fun i a b=>qf (by omega)
     exact f1.snoc (f2.widen (zAR _) hhi) (by omega)
   refine zc (tk:=[]) (by kernel_rfl) ?_
   cases hnb:nlk with
   | true =>
    rw [hnb] at hl1 fin;simp only [Bool.true_or] at fin;simp only [zi,go_os_nil,jX,zk,zt,zw,qE,zF,zn,Nat.reduceEqDiff,peeks,peek,ze,ofVal,zB,zb,opQ_val,opQ_skip,zl,zh,zp,zAB,zAC,derefA,zu,zX,zAT,if_true,ja,za,zAN,Nat.reduceLT,if_true,if_false,kL,qa,zf,zm,jh,wantB_ft,xT,e7,hel,fo137_1,hl1,z6,hem,zT,ja,hst2]
    refine zc (tk:=[]) (by kernel_rfl) ?_
    simp only [zi,go_os_nil,zk,zA,Nat.reduceEqDiff,peek,ofVal,zb,opQ_val,zl,zv,if_true,za,zAN,Nat.reduceLT,if_true,if_false,e57,hel,jy (show k<2 ^ 60 by omega),zD,thn_normal]
    refine fin _ ?_ ?_ ?_ ?_ ?_ ?_
    ·simp [hel]
    ·simp [za,e2]
    ·simp [za,e7]
    ·simp [za,e55]
    ·simp [za,e56]
    ·simp [za,hel]
   | false =>
    rw [hnb] at hl1 fin;simp only [zBL] at fin;simp only [zi,go_os_nil,jX,zk,zt,zw,qE,zF,zn,Nat.reduceEqDiff,peeks,peek,ze,ofVal,zB,zb,opQ_val,opQ_skip,zl,zh,zp,zAB,zAC,derefA,zu,zX,zAT,if_true,jb,za,zAN,Nat.reduceLT,if_true,if_false,kL,qa,zf,zm,jh,wantB_ff,xh,e7,hel,fo137_1,hl1,z6,hem,zT,jb,hst2]
    refine zc (tk:=[]) (by kernel_rfl) ?_
    simp only [zi,go_os_nil,zk,zA,Nat.reduceEqDiff,peek,ofVal,zb,opQ_val,zl,zv,if_true,za,zAN,Nat.reduceLT,if_true,if_false,e57,hel,jy (show k<2 ^ 60 by omega),zD,thn_normal]
    refine fin _ ?_ ?_ ?_ ?_ ?_ ?_
    ·simp [hel]
    ·simp [za,e2]
    ·simp [za,e7]
    ·simp [za,e55]
    ·simp [za,e56]
    ·simp [za,hel]
 ·refine .inr ⟨by simp;omega,?_⟩
  obtain rfl:k=l.length:=by omega
  have hlv:vs.length=(foAlt l).length:=by have:=hA.ats.len;rwa [zBc] at this
  simp only [xH,wT,wj,zD,thn_exit,zd,zBS,if_true,zD];have hld:zJ Tryz.prog ⟨H,E⟩ gl.g 135 (.ptr (bs.length+2) 0)=some (qt 1 93 vs):=zZ (H:=⟨H,E⟩) ag135 hA.own rfl;refine zc (tk:=[]) (by kernel_rfl) ?_
  simp only [zi,go_os_nil,zd,go_skip,zk,zt,zA,zF,zn,kF,Nat.reduceEqDiff,peek,ofVal,zb,opQ_val,zl,zv,zh,zp,zhF,zAB,zAC,derefA,zu,zX,zAv,zG,zK,if_true,za,zAN,Nat.reduceLT,if_true,if_false,e7,hel,fo137_0,hld,zhF,zml u135,jj]
  by_cases h0:foAlt l=[]
  ·have hv0:vs=[]:=by cases vs with|nil=>rfl|cons a b=>rw [h0] at hlv;simp at hlv
   subst hv0;refine .inl ⟨rfl,?_⟩;rw [h0] at hfo;have hst:∀ env:List V,qQ Tryz.prog 93 ⟨H,E⟩ [] [] (some (.nili,env)) (some (.ptr (bs.length+1) 0))=_:=fun env=>xN hA.c2 rfl rfl rfl;refine zc (tk:=[]) (by kernel_rfl) ?_
   simp only [zi,go_os_nil,zw,Nat.reduceEqDiff,peek,zE,ofVal,opQ_skip,zl,zp,zAC,List.length_nil,if_true,za,zAN,Nat.reduceLT,if_true,if_false,e2,hel,hst]
   simp only [go_ret,zD,qI,jk]
   exact zgm (by simp [za,e2]) rfl (qz (by omega)) (((yS e bs).trans hA.new).set (by omega)) (yH (b:=bs.length+1) (v:=.nili) hA.ed (by omega)) hfo
  ·have hv0:(vs.length:Int)≠0:=by
    cases hf:foAlt l with
    | nil=>exact absurd hf h0
    | cons a b=>rw [hf] at hlv;simp at hlv;omega
   refine .inr ⟨beq_false_of_ne hv0,?_⟩;have hfo':foW e=some (.alt (foAlt l) ((foAlt l).any emW) false):=by
    rw [hfo,if_neg (by cases hf:foAlt l with|nil=>exact absurd hf h0|cons a b=>simp)]
   have hst:∀ env:List V,qQ Tryz.prog 93 ⟨H,E⟩ [] [] (some (.ifc 134 (.ptr (bs.length+2) 0),env)) (some (.ptr (bs.length+1) 0))=_:=fun env=>xN hA.c2 rfl rfl rfl;refine zc (tk:=[]) (by kernel_rfl) ?_
   simp only [zi,go_os_nil,zk,zw,Nat.reduceEqDiff,peek,ze,zb,opQ_val,opQ_skip,zl,zp,zAC,if_true,za,zAN,Nat.reduceLT,if_true,if_false,e2,e7,hel,xM if134,qp,hst]
   simp only [go_ret,zD,qI,jk,xU]
   refine ⟨rfl,[.ifc 134 (.ptr (bs.length+2) 0)],zel (v:=.ifc 134 (.ptr (bs.length+2) 0)) (b:=bs.length+1) (by simp [za,e2]) (qz (by omega)),((yS e bs).trans hA.new).set (by omega),yH (b:=bs.length+1) (v:=.ifc 134 (.ptr (bs.length+2) 0)) hA.ed (by omega),?_⟩
   rw [hfo'];have hats:=hA.ats;have hown:=hA.own;rw [zBc] at hats hown;refine ⟨H.length,by simp,bs.length+2,bs.length+3,vs,.yes 93,by omega,by omega,hats.frame fun i a b=>qf (by omega),rfl,?_⟩
   rw [qf (by omega),hown]
   cases vs with
   | nil=>simp at hv0
   | cons a b=>rfl
end Go.Proofs.YtlnijcffanjieaaGreatDoor
namespace Go.Proofs.YtlnijcffanjieaaGreatDoor
set_option maxRecDepth 100000
open Go Go.Vm
variable {gl:Gl}
theorem zeo {asg:List V->List Blk->Option (Ex×St)} {bd:List V->List Blk->Option (Ex×St)} {ok:List Blk->Bool} (Inv:Nat->List Blk->List (Nat×Nat)->Prop) (Post:Ex->Hp->Prop) (xs:List (List V))
  (hstep:∀ k x bs es,xs[k]?=some x->Inv k bs es->∃ e bs1 es1 lk1,asg x bs=some (.normal,⟨e,⟨bs1,es1⟩,lk1,[]⟩)/\ok bs1=true/\∃ ex e2 bs2 es2 lk2,bd (e.map clr) bs1=some (ex,⟨e2,⟨bs2,es2⟩,lk2,[]⟩)/\ok bs2=true/\((ex=.normal/\Inv (k+1) bs2 (es2++(es1++es)))\/(ex=.ret/\Post .ret ⟨bs2,es2++(es1++es)⟩)))
  (hend:∀ bs es,Inv xs.length bs es->Post .normal ⟨bs,es⟩):∀ (m k:Nat) (bs:List Blk) (es:List (Nat×Nat)),m+k=xs.length->Inv k bs es->∃ ex H,vZ asg bd ok (xs.drop k) ⟨bs,es⟩=some (ex,H)/\Post ex H
 | 0,k,bs,es,hm,hI=>by
  obtain rfl:k=xs.length:=by omega
  exact ⟨.normal,_,by rw [List.drop_length];rfl,hend _ _ hI⟩
 | m+1,k,bs,es,hm,hI=>by
  have hk:k<xs.length:=by omega
  obtain ⟨e,bs1,es1,lk1,h1,h2,ex,e2,bs2,es2,lk2,h3,h4,h5⟩:=hstep k xs[k] bs es (by simp [hk]) hI
  rw [zBT hk];rcases h5 with ⟨rfl,h5⟩|⟨rfl,h5⟩
  ·obtain ⟨ex,H,h6,h7⟩:=zeo Inv Post xs hstep hend m (k+1) bs2 _ (by omega) h5
   exact ⟨ex,H,by simp only [vZ,h1,h2,h3,h4,fL_eq,zAs,zAD,if_false,h6],h7⟩
  ·exact ⟨.ret,_,by simp only [vZ,h1,h2,h3,h4,fL_eq,zAs,zAD,if_false],h5⟩
theorem zmB {cx:Cx} {n:Nat} {Q:Ex->St->Prop} {f:Operand} {ps:Array Tmp} {asn bd:Code} {k:List It} {env:List V} {bs:List Blk} {es:List (Nat×Nat)} {lk:List (Nat×Nat)} {df:List (V×List V)} {fv:V} {b sz:Nat} {ty:TypeId} {ys:List V} {back:Bool}
  (hp:peek env f=some fv) (hi:cx.itOf fv ⟨bs,es⟩=some (b,ty,some (sz,ys),back)) (hc:(calm asn && calm bd && Nat.beq ps.size (if back then 2 else 1))=true)
  (h:∃ ex H1,vZ (fun x bs=>cx.code n asn ⟨xQ (env.map clr) ps.toList x,⟨bs,[]⟩,[],[]⟩) (fun e bs=>cx.code n bd ⟨e,⟨bs,[]⟩,[],[]⟩) (jm bs.length) (ji back ys) ⟨lockBox b ty sz ys bs,es⟩=some (ex,H1)/\∃ H2,freeBox b H1=some H2/\go cx n Q k ex ⟨env.map clr,H2,[],(.nilp,[])::df⟩) :
  go cx n Q (.c (.rangeFunc f ps asn bd)::k) .normal ⟨env,⟨bs,es⟩,lk,df⟩:=by
 obtain ⟨ex,H1,h1,H2,h2,h3⟩:=h;simp only [go];refine ⟨ex,_,?_,h3⟩;simp only [Cx.code,hp,hi,hc,zAs,zAD,if_false,fL_eq,h1,h2]
theorem zkO {cx:Cx} {n:Nat} {Q:Ex->St->Prop} {f:Operand} {ps:Array Tmp} {asn bd:Code} {k:List It} {env:List V} {bs:List Blk} {es:List (Nat×Nat)} {lk:List (Nat×Nat)} {df:List (V×List V)} {fv:V} {b sz:Nat} {ty:TypeId} {ys:List V} {back:Bool}
  (Inv:Nat->List Blk->List (Nat×Nat)->Prop) (hp:peek env f=some fv) (hi:cx.itOf fv ⟨bs,es⟩=some (b,ty,some (sz,ys),back)) (hc:(calm asn && calm bd && Nat.beq ps.size (if back then 2 else 1))=true)
  (h0:Inv 0 (lockBox b ty sz ys bs) es)
  (hend:∀ bs' es',Inv (ji back ys).length bs' es'->∃ H2,freeBox b ⟨bs',es'⟩=some H2/\go cx n Q k .normal ⟨env.map clr,H2,[],(.nilp,[])::df⟩)
  (hstep:∀ j x bs' es',(ji back ys)[j]?=some x->Inv j bs' es'->go cx n (fun ex s=>ex=.normal/\s.defers=[]/\jm bs.length s.H.blks=true /\
   go cx n (fun ex2 s2=>s2.defers=[]/\jm bs.length s2.H.blks=true/\((ex2=.normal/\Inv (j+1) s2.H.blks (s2.H.edges++(s.H.edges++es')))\/(ex2=.ret/\∃ H2,freeBox b ⟨s2.H.blks,s2.H.edges++(s.H.edges++es')⟩=some H2/\go cx n Q k .ret ⟨env.map clr,H2,[],(.nilp,[])::df⟩)))
    [.c bd] .normal ⟨s.env.map clr,⟨s.H.blks,[]⟩,[],[]⟩) [.c asn] .normal ⟨xQ (env.map clr) ps.toList x,⟨bs',[]⟩,[],[]⟩) :
  go cx n Q (.c (.rangeFunc f ps asn bd)::k) .normal ⟨env,⟨bs,es⟩,lk,df⟩:=by
 refine zmB hp hi hc ?_;refine zeo Inv (fun ex H1=>∃ H2,freeBox b H1=some H2/\go cx n Q k ex ⟨env.map clr,H2,[],(.nilp,[])::df⟩) (ji back ys) (fun j x bs' es' hx hI=>?_) hend (ji back ys).length 0 _ _ (by omega) h0
 obtain ⟨ex,⟨e,⟨bs1,es1⟩,lk1,df1⟩,h1,rfl,h2,h3,h4⟩:=yi (hstep j x bs' es' hx hI);obtain ⟨ex2,⟨e2,⟨bs2,es2⟩,lk2,df2⟩,h5,h6,h7,h8⟩:=yi h4;simp only at h2 h6;subst h2 h6;exact ⟨e,bs1,es1,lk1,h1,h3,ex2,e2,bs2,es2,lk2,h5,h7,h8⟩
theorem go_env {cx:Cx} {n:Nat} {Q:Ex->St->Prop} {k:List It} {env:List V} {H:Hp} {lk:List (Nat×Nat)} {df:List (V×List V)} (F:List V->Prop) (h1:F env) (h2:∀ env,F env->go cx n Q k .normal ⟨env,H,lk,df⟩):go cx n Q k .normal ⟨env,H,lk,df⟩:=h2 _ h1
theorem jr {l:List V} {i:Nat} {v:V} (h:nth l i=some v):nth (l.map clr) i=some (clr v):=by rw [zq] at h ⊢;rw [zAl,h];rfl
theorem zo6 {cx:Cx} {takes:List Tmp} {dst:Option Tmp} {type:TypeId} {pos:String} {after:Array Edge} {guard:Option (Nat×Bool)} {env:List V} {H:Hp} {lk:List (Nat×Nat)} {df:List (V×List V)} {fn:Fn} {t:Operand}:cx.op takes ⟨dst,.makeFunc fn #[] #[t],type,pos,after,guard⟩ env H lk df=rdQ env H lk df ((peek env t).map fun v=>.fn fn [] [v]):=by
 simp only [Cx.op];refine wq ?_;simp only [qj,peeks,zO,Option.bind_eq_bind,zAB];cases peek env t<;>rfl
def bkV (b:Nat):V:=.fn (.func 98) [] [.ptr b 0]
theorem e67 (hg:GW gl) {n:Nat} {bs:List Blk} {es:List (Nat×Nat)} {nl:Bool} {l:List E} :
  zx Tryz.prog gl (n+1) 67 [zW nl (encs l)] ⟨bs,es⟩=some (.ret (bkV bs.length),⟨bs++[.cells [zW nl (encs l)] 25],es⟩):=by
 suffices hmain:go ⟨Tryz.prog,gl.g,zx Tryz.prog gl n,gl.uq⟩ n (Fx Tryz.prog Tryz.f67.results.toList fun v H1=>v=bkV bs.length/\H1=⟨bs++[.cells [zW nl (encs l)] 25],[]⟩) [.c (Tryz.f67.body.getD .skip)] .normal ⟨[zW nl (encs l)]++List.replicate 3 (.tup []),⟨bs,[]⟩,[],[]⟩ by
  obtain ⟨v,H1,h1,rfl,rfl⟩:=kR (gl:=gl) (f:=67) (bs:=bs) (es:=es) (args:=[zW nl (encs l)]) (n:=n) (hg.hk _ _ (by decide)) (fun H=>hg.hk2 _ _ _ _) Tryz.func67 rfl hmain
  rw [h1];have:(bkV bs.length).top=bs.length+1:=by simp [bkV,V.top,tops]
  rw [this];simp only [q9];rw [if_neg]
  ·rfl
  ·simp only [zAF,not_and];intro hb;have:=zAk hb;omega
 have hbx:okC (zW nl (encs l))=true/\(zW nl (encs l)).laid=[zW nl (encs l)]:=by
  rcases jd nl (encs l) with h|⟨_,h⟩<;>rw [h]<;>exact ⟨rfl,rfl⟩
 have htk:∀ env t,jV env t (some (zW nl (encs l)))=some (zW nl (encs l),env):=fun env t=>by
  rcases jd nl (encs l) with h|⟨_,h⟩<;>rw [h]<;>rfl
 simp only [Tryz.f67,zA8,zd];refine zc (tk:=[]) (by kernel_rfl) ?_
 simp only [zi,go_os_nil,zd,kE,zg,ze,zE,ofVal,zj,opQ_val,zl,zAC,qg,zAY,zAW,zf,zAI,zAJ,List.replicate,htk,qO hbx.1,hbx.2]
 have htf:∀ env t b,jV env t (some (V.fn (.func 98) [] [.ptr b 0]))=some (.fn (.func 98) [] [.ptr b 0],env):=fun _ _ _=>rfl;refine zc (tk:=[]) (by kernel_rfl) ?_
 simp only [zi,go_os_nil,zg,peek,ze,zb,zj,opQ_val,zl,zp,zAC,zf,zm,zAI,zAJ,zo6,htf]
 simp only [go_ret,zD,Fx]
 exact ⟨trivial,[bkV bs.length],rfl,rfl,trivial⟩
end Go.Proofs.YtlnijcffanjieaaGreatDoor
namespace Go.Proofs.YtlnijcffanjieaaGreatDoor
set_option maxRecDepth 100000
open Go Go.Vm
variable {gl:Gl}
theorem zgp {a b:List Blk} {m:Nat} (h:NewC a b) (hm:a.length<=m):jm m b=true:=by
 obtain ⟨l,rfl,h1⟩:=h;simp only [jm,zBE];intro x hx;have:x∈l:=by
  rw [List.drop_append,List.drop_eq_nil_of_le hm,zAW] at hx;exact zBB hx
 exact h1 x this
theorem foCat_drop:∀ (l:List E) (j:Nat),foCat (l.drop j)=none->foCat l=none
 | l,0,h=>h
 | [],j+1,h=>by simp only [List.drop_nil] at h;exact h
 | a::l,j+1,h=>by
  have:=foCat_drop l j (by simpa using h)
  simp only [foCat,this]
def zon (x w:Wd):Wd:=.both x w (emW x && emW w) false
def b133:Option V->Option V->Option V->Option V
 | some a,some b,some c=>if (okC a=true/\a.cells.length=1)/\(okC b=true/\b.cells.length=1)/\(okC c=true/\c.cells.length=1) then some (.agg (Vm.storeCells (Vm.storeCells (Vm.storeCells [.nili,.nili,.bool false,.bool false] 0 a.cells) 1 b.cells) 2 c.cells)) else none
 | _,_,_=>none
theorem zmC {env:List V} {x y z:Operand}:jE Tryz.prog 133 #[(0,x),(1,y),(2,z)] env=b133 (peek env x) (peek env y) (peek env z):=by
 have e0:jE Tryz.prog 133 #[(0,x),(1,y),(2,z)] env=(w9 [.nili,.nili,.bool false,.bool false] (nth [(0,1),(1,1),(2,1),(3,1)]) env [(0,x),(1,y),(2,z)]).map .agg:=by kernel_rfl
 rw [e0];simp only [w9,Option.bind_eq_bind,zf,zm];cases peek env x with
 | none=>rfl
 | some a =>
  simp only [zAB,zAF,Nat.beq_eq,zAT,stc_length]
  by_cases h1:okC a=true/\a.cells.length=1
  ·cases peek env y with
   | none=>simp [b133]
   | some b =>
    by_cases h2:okC b=true/\b.cells.length=1
    ·cases peek env z with
     | none=>simp [b133]
     | some c =>
      by_cases h3:okC c=true/\c.cells.length=1
      ·simp [b133,h1,h2,h3]
      ·simp [b133,h1,h2,h3]
    ·cases peek env z<;>simp [b133,h1,h2]
  ·cases peek env y<;>cases peek env z<;>simp [b133,h1]
theorem zmD {t t':Nat} {u u':V} {b:Bool}:b133 (some (.ifc t u)) (some (.ifc t' u')) (some (.bool b))=some (.agg (xj (.ifc t u) (.ifc t' u') b false)):=rfl
theorem zo7 {gl:Nat->Nat->Option V} {c:FuncId->List V->Hp->Option (Out×Hp)} {bs:List Blk} {es:List (Nat×Nat)} {b:Nat} {l:List E} (hb:nth bs b=some (.cells [.sl 10 (encs l) .no] 25)) (hl:l.length<=140737488355328):Cx.itOf ⟨Tryz.prog,gl,c,uqw⟩ (bkV b) ⟨bs,es⟩=some (b,25,some (10,encs l),true):=by
 have hb':Hp.get ⟨bs,es⟩ b=some (.cells [.sl 10 (encs l) .no] 25):=hb;have hk:uqw (yU 98 true 25)=true:=rfl;have hall:(encs l).all (fun x=>isAggV x == true)=true:=by
  rw [zBE];intro x hx;obtain ⟨i,hi⟩:=List.mem_iff_getElem?.1 hx;rw [encs_get] at hi;cases ha:l[i]? with
  | none=>rw [ha] at hi;cases hi
  | some a=>rw [ha] at hi;cases hi;rw [qw];rfl
 have hle:Nat.ble (encs l).length 140737488355328=true:=zBp (by rw [encs_length];exact hl)
 have hbt:Nat.blt 25 1048576=true:=rfl;simp only [Cx.itOf,bkV,hb',u25,sz27,ag27,hk,Bool.true_or,zAs,zBL,hbt,hall,hle];rfl
structure CI (e:E) (bs:List Blk) (l:List E) (k:Nat) (H:List Blk) (es:List (Nat×Nat)) (w:Wd) (v:V):Prop where
 new:NewC (B1 e bs) H
 cell:nth H (bs.length+2)=some (.cells [v] 93)
 box:nth H (bs.length+3)=some (.cells [.sl 10 (encs l) .lock] 25)
 fo:foCat (l.drop (l.length - k))=some w
 hat:∃ hi,hi<=H.length/\At H w (bs.length+4) hi v
 ed:∀ p∈es,bs.length<=p.1
 len:bs.length+4<=H.length
theorem zo8 (hg:GW gl) {n:Nat} {pl s0 s1 s2 s3 mn mx:Int} {tx:List Nat} {nl:Bool} {l:List E} {bs:List Blk} {es:List (Nat×Nat)} (hn:1<=n) (hl0:l≠[]) (hll:l.length<=2 ^ 40) (ih:∀ a∈l,∀ bs es,yl gl n a bs es):yl gl (n+1) (.mk 5 pl s0 s1 s2 s3 tx mn mx nl l) bs es:=by
 refine zek (zca hg (op:=5) rfl fun env hel e1 e2 e13=>?_);generalize hE:E.mk 5 pl s0 s1 s2 s3 tx mn mx nl l=e;have hec:ecells e=[.int .i64 5,.int .i64 pl,.int .u64 s0,.int .u64 s1,.int .u64 s2,.int .u64 s3,.str tx,.int .i64 mn,.int .i64 mx,zW nl (encs l)]:=by rw [<- hE];rfl
 have hfo:foW e=foCat l:=by rw [<- hE];simp only [foW];rfl
 have hB:(B1 e bs).length=bs.length+2:=zbm e bs;have hl9:∀ bs',NewC (B1 e bs) bs'->∀ es g,zJ Tryz.prog ⟨bs',es⟩ g 25 (.ptr bs.length 9)=some (zW nl (encs l)):=fun bs' hN es g=>zZ (H:=⟨bs',es⟩) ag25 ((hN.nth (by omega)).trans (zkN e bs)) (by rw [hec];rfl)
 have hav:zW nl (encs l)=.sl 10 (encs l) .no:=by
  rcases jd nl (encs l) with h|⟨h,_⟩
  ·exact h
  ·cases l with
   | nil=>exact absurd rfl hl0
   | cons a l=>simp [encs] at h
 have hN0:NewC (B1 e bs) (B1 e bs++[Blk.cells [.ifc 127 (.agg [])] 93]):=(NewC.refl _).push;have h67:∀ bs es,Cx.callF ⟨Tryz.prog,gl.g,zx Tryz.prog gl n,uqw⟩ 67 [zW nl (encs l)] ⟨bs,es⟩=some (.val (bkV bs.length),⟨bs++[.cells [zW nl (encs l)] 25],es⟩):=fun bs es=>z7 Tryz.func67 rfl (by obtain ⟨m,rfl⟩:∃ m,n=m+1:=⟨n - 1,by omega⟩;exact e67 hg)
 have hc2:∀ x:Blk,Hp.get ⟨B1 e bs++[x],[]⟩ (bs.length+2)=some x:=fun x=>by
  have:=Vm.get_at0 (bs:=B1 e bs) (ls:=[x]) (es:=[])
  rwa [hB] at this
 have hst0:∀ env:List V,qQ Tryz.prog 93 ⟨B1 e bs++[Blk.cells [.nili] 93],[]⟩ [] [] (some (.ifc 127 (.agg []),env)) (some (.ptr (bs.length+2) 0))=some (.skip,⟨env,⟨B1 e bs++[Blk.cells [.ifc 127 (.agg [])] 93],[]⟩,[],[]⟩):=fun env=>by
  rw [zjG (H:=⟨B1 e bs++[Blk.cells [.nili] 93],[]⟩) (hc2 _) rfl rfl rfl,kq rfl];have:=Vm.set_at0 (bs:=B1 e bs) (ls:=[Blk.cells [.nili] 93]) (es:=[]) (x:=Blk.cells [.ifc 127 (.agg [])] 93);rw [hB] at this;rw [this];rfl
 simp only [K45X,K45Z,K45,Tryz.f45,zA8,c1,c2,zd];refine zc (tk:=[]) (by kernel_rfl) ?_
 simp only [zi,go_os_nil,zd,zA,zg,Nat.reduceEqDiff,peek,ze,ofVal,zB,zb,zj,opQ_val,zl,zv,zh,zAa,zG,zK,if_true,za,zAN,Nat.reduceLT,if_true,if_false,e13,hel,jj,Int.reduceBEq,zAD,zBA,zBi,zAa]
 refine zc (tk:=[]) (by kernel_rfl) ?_
 simp only [zi,go_os_nil,zd,zA,zg,Nat.reduceEqDiff,peek,ze,ofVal,zB,zb,zj,opQ_val,zl,zv,zh,zAa,zG,zK,if_true,za,zAN,Nat.reduceLT,if_true,if_false,e13,hel,jj,beq_self_eq_true,zAy,zBA,zAa,zBr]
 refine zc (tk:=[]) (by kernel_rfl) ?_
 simp only [zi,go_os_nil,zd,z9,zw,qV,Nat.reduceEqDiff,peek,ze,zb,opQ_val,opQ_skip,zl,qA,zp,zAC,qg,if_true,za,zAN,Nat.reduceLT,if_true,if_false,hel,hB,ziz,xM if127,zol,qp,hst0]
 refine zc (tk:=[]) (by kernel_rfl) ?_
 simp only [zi,go_os_nil,qb,zt,zn,qx,Nat.reduceEqDiff,peeks,zO,peek,zb,opQ_val,zl,zp,zAB,zAC,zu,zX,zR,je,zAX,zAp,zAi,zAS,List.length_nil,zAT,zBj,Nat.reduceAdd,zAb,zAY,zAW,if_true,za,zAN,Nat.reduceLT,if_true,if_false,e1,hel,hB,fo27_6,hl9 _ hN0,qn,h67]
 obtain ⟨cz,⟨hz1,hz2⟩,hz3⟩:=zmA (_env:=env) (_H:=⟨[],[]⟩) (_lk:=[]) (_df:=[]);obtain ⟨HR,hHR⟩:∃ HR,HR=B1 e bs++[Blk.cells [V.ifc 127 (V.agg [])] 93,Blk.cells [zW nl (encs l)] 25]:=⟨_,rfl⟩;have hRl:HR.length=bs.length+4:=by rw [hHR];simp [hB]
 have hR2:nth HR (bs.length+2)=some (.cells [.ifc 127 (.agg [])] 93):=by
  have:=zat (bs:=B1 e bs) (x:=Blk.cells [V.ifc 127 (V.agg [])] 93) (y:=Blk.cells [zW nl (encs l)] 25) (es:=[]);rw [hB] at this;rw [hHR];exact this
 have hR3:nth HR (bs.length+3)=some (.cells [.sl 10 (encs l) .no] 25):=by
  have:=zas (bs:=B1 e bs) (x:=Blk.cells [V.ifc 127 (V.agg [])] 93) (y:=Blk.cells [zW nl (encs l)] 25) (es:=[]);rw [hB] at this;rw [hHR,<- hav];exact this
 have hRn:NewC (B1 e bs) HR:=⟨_,hHR,by simp [Blk.isCells]⟩
 rw [<- hHR];have hil:(ji true (encs l)).length=l.length:=by simp [ji,encs_length]
 have hig:∀ j x,(ji true (encs l))[j]?=some x->∃ a,j<l.length/\l[l.length - 1 - j]?=some a/\x=[.int .i64 ((l.length - 1 - j:Nat):Int),enc a]:=fun j x hx=>by
  simp only [ji,if_true,zAl,zAd,encs_length] at hx;obtain ⟨k,hk,rfl⟩:=hx;have hj:j<l.length:=by have:=(zAG.1 hk).1;simpa using this
  rw [List.getElem?_range hj] at hk;cases hk;refine ⟨l[l.length - 1 - j],hj,by simp,?_⟩
  rw [zq,encs_get,zAV (by omega)]
  rfl
 try simp only [qb,zd]
 refine go_env (fun e=>e.length=125/\nth e 2=some (.ptr (bs.length+1) 0)/\nth e 3=some (.ptr (bs.length+2) 0)/\nth e 31=some (bkV (bs.length+3))) ⟨by simp [hel],by simp [za,e2],by simp [za,hel],by simp [za,hel]⟩ ?_
 clear e1 e2 e13 hel env;rintro env ⟨hel,e2,e3,e31⟩;refine zkO (fun k H E=>∃ w v,CI e bs l k H E w v) (fv:=bkV (bs.length+3)) (by simp only [peek,e31];rfl) (zo7 hR3 (by omega)) (by kernel_rfl) ?_ ?_ ?_
 ·refine ⟨.non,.ifc 127 (.agg []),?_,?_,?_,?_,?_,by simp,by simp [lockBox,hRl]⟩
  ·exact hRn.set (by omega)
  ·unfold lockBox;rw [qf (by omega)];exact hR2
  ·unfold lockBox;rw [qz (by omega)]
  ·rw [Nat.sub_zero,List.drop_length];simp [foCat]
  ·exact ⟨bs.length+4,by simp [lockBox,hRl],zAR _,rfl⟩
 ·rintro H E ⟨w,v,hC⟩;rw [hil] at hC;have hfoc:foCat l=some w:=by have:=hC.fo;rwa [Nat.sub_self,zBo] at this
  have hlenH:=hC.len;refine ⟨⟨H.set (bs.length+3) (.cells [.sl 10 (encs l) .no] 25),E⟩,by simp only [freeBox,hC.box],?_⟩
  obtain ⟨hi,hhi,hat⟩:=hC.hat;obtain ⟨t,u,rfl⟩:=hat.ifc;have hcell:nth (H.set (bs.length+3) (.cells [.sl 10 (encs l) .no] 25)) (bs.length+2)=some (.cells [.ifc t u] 93):=by rw [qf (by omega)];exact hC.cell
  have hc1:nth (H.set (bs.length+3) (.cells [.sl 10 (encs l) .no] 25)) (bs.length+1)=some (.cells [.nili] 93):=by rw [qf (by omega)];exact (hC.new.nth (by omega)).trans (zhP e bs)
  have hld:zJ Tryz.prog ⟨H.set (bs.length+3) (.cells [.sl 10 (encs l) .no] 25),E⟩ gl.g 93 (.ptr (bs.length+2) 0)=some (.ifc t u):=zZ (H:=⟨_,E⟩) ag93 hcell rfl;have hst:∀ (env:List V) (df:List (V×List V)),qQ Tryz.prog 93 ⟨H.set (bs.length+3) (.cells [.sl 10 (encs l) .no] 25),E⟩ [] df (some (.ifc t u,env)) (some (.ptr (bs.length+1) 0))=_:=fun env df=>xN hc1 rfl rfl rfl;simp only [jX,zd]
  have q2:=jr e2;have q3:=jr e3;rw [zp] at q2 q3;refine go_env (fun e=>e.length=125/\nth e 2=some (.ptr (bs.length+1) 0)/\nth e 3=some (.ptr (bs.length+2) 0)) ⟨by simp [hel],q2,q3⟩ ?_
  clear hel e2 e3 e31 q2 q3 env;rintro env ⟨hel,e2,e3⟩;refine zc (tk:=[]) (by kernel_rfl) ?_
  simp only [zi,go_os_nil,zt,zw,Nat.reduceEqDiff,peek,ze,zb,opQ_val,opQ_skip,zl,zp,zAB,zAC,if_true,za,Nat.reduceLT,if_true,if_false,e2,e3,hel,hld,zT,qp,hst]
  simp only [go_ret,zD,qI,jk,xU]
  refine ⟨rfl,[.ifc t u],zel (v:=.ifc t u) (b:=bs.length+1) (by simp [za,e2]) (qz (by simp;omega)),?_,yH (b:=bs.length+1) (v:=.ifc t u) hC.ed (by omega),?_⟩
  ·exact (((yS e bs).trans hC.new).set (by omega)).set (by omega)
  ·rw [hfo,hfoc];refine ⟨hi,by simp;omega,(hat.frame fun i p q=>?_).widen (by omega) (zAR _)⟩
   rw [qf (by omega),qf (by omega)]
 ·rintro j x H E hx ⟨w,v,hC⟩;obtain ⟨a,hj,ha,rfl⟩:=hig j x hx;have ham:a∈l:=zAh ha;have hlenH:=hC.len;have q2:=jr e2;have q3:=jr e3;rw [zp] at q2 q3;refine go_env (fun e=>e.length=125/\nth e 2=some (.ptr (bs.length+1) 0)/\nth e 3=some (.ptr (bs.length+2) 0)/\nth e 33=some (enc a)) ⟨by simp [xQ,hel],by simp [xQ,za,q2],by simp [xQ,za,q3],by simp [xQ,za,hel,yF]⟩ ?_
  clear q2 q3;rintro env' ⟨fel,f2,f3,f33⟩;refine zc (tk:=[]) (by kernel_rfl) ?_
  simp only [zi,go_os_nil,zd,qb,z9,zw,Nat.reduceEqDiff,peek,ze,opQ_val,opQ_skip,zl,zp,qg,if_true,za,Nat.reduceLT,if_true,if_false,f33,fel,hz3,zen,zmz hz1 hz2]
  have hN1:NewC (B1 e bs) (H++[Blk.cells (ecells a) 27]):=hC.new.push;rw [zD]
  dsimp only
  refine ⟨rfl,rfl,zgp hN1 (by omega),?_⟩
  have p2:=jr f2;have p3:=jr f3;rw [zp] at p2 p3;refine go_env (fun e=>e.length=125/\nth e 2=some (.ptr (bs.length+1) 0)/\nth e 3=some (.ptr (bs.length+2) 0)/\nth e 5=some (.ptr H.length 0)) ⟨by simp [fel],?_,?_,?_⟩ ?_
  ·exact jr (v:=.ptr (bs.length+1) 0) (by simp [za,f2])
  ·exact jr (v:=.ptr (bs.length+2) 0) (by simp [za,f3])
  ·exact jr (v:=.ptr H.length 0) (by simp [za,fel])
  clear p2 p3 f2 f3 f33 fel env';rintro env' ⟨fel,f2,f3,f5⟩;obtain ⟨v',bs',es',hc0,hN,hes,hres⟩:=ih a ham (H++[Blk.cells (ecells a) 27]) [];have hcall:Cx.callF ⟨Tryz.prog,gl.g,zx Tryz.prog gl n,uqw⟩ 45 [enc a] ⟨H++[Blk.cells (ecells a) 27],[]⟩=some (.val v',⟨bs',es'++[]⟩):=z7 Tryz.func45 rfl hc0;rw [zA0] at hcall;have hNH:NewC H bs':=(NewC.push (NewC.refl H)).trans hN;have hHb:=hN.len
  have hHb1:H.length+1<=bs'.length:=by simpa using hHb
  have hes':∀ p∈es',bs.length<=p.1:=fun p hp=>by have:=hes p hp;simp at this;omega
  have hNb:NewC (B1 e bs) bs':=hC.new.trans hNH;have hcell1:nth bs' (bs.length+1)=some (.cells [.nili] 93):=(hNb.nth (by omega)).trans (zhP e bs)
  have hcell2:nth bs' (bs.length+2)=some (.cells [v] 93):=(hNH.nth (by omega)).trans hC.cell
  have hboxb:nth bs' (bs.length+3)=some (.cells [.sl 10 (encs l) .lock] 25):=(hNH.nth (by omega)).trans hC.box
  have hdrop:l.drop (l.length - (j+1))=a::l.drop (l.length - j):=by
   have hx:l.length - (j+1)<l.length:=by omega
   rw [zBT hx];have e0:l.length - (j+1)=l.length - 1 - j:=by omega
   have e1:l.length - (j+1)+1=l.length - j:=by omega
   rw [e1];have:l[l.length - (j+1)]=a:=by
    have h5:l[l.length - (j+1)]?=some a:=by rw [e0];exact ha
    rw [zAV hx] at h5;exact zA1 h5
   rw [this]
  try simp only [zd,qb]
  refine zc (tk:=[]) (by kernel_rfl) ?_
  simp only [zi,go_os_nil,zd,zt,zg,qx,Nat.reduceEqDiff,peeks,zO,peek,ze,zb,opQ_val,zl,zp,zAB,zAC,zR,je,zAX,zAp,zAW,if_true,za,zAN,Nat.reduceLT,if_true,if_false,f5,fel,znO,yF,hcall]
  cases hw:foW a with
  | none =>
   rw [hw] at hres;simp only [Res] at hres;subst hres;have hfn:foCat l=none:=foCat_drop l (l.length - (j+1)) (by rw [hdrop];simp only [foCat,hC.fo,hw])
   have tki:∀ env t,jV env t (some V.nili)=some (.nili,env):=fun _ _=>rfl;simp only [tki,zj,opQ_val,zl];have hst:∀ env:List V,qQ Tryz.prog 93 ⟨bs',es'⟩ [] [] (some (.nili,env)) (some (.ptr (bs.length+1) 0))=some (.skip,⟨env,⟨bs',edg (bs.length+1) .nili es'⟩,[],[]⟩):=fun env=>by rw [xN hcell1 rfl rfl rfl,zaO hcell1]
   refine zc (tk:=[]) (by kernel_rfl) ?_
   simp only [zi,go_os_nil,zd,go_skip,zk,zA,Nat.reduceEqDiff,peek,ofVal,zb,opQ_val,zl,zh,zAa,zG,zK,if_true,za,zAN,Nat.reduceLT,if_true,if_false,fel,clr_nili,zgo,zAy,zAa,zBA,zBr]
   refine zc (tk:=[]) (by kernel_rfl) ?_
   simp only [zi,go_os_nil,zw,Nat.reduceEqDiff,peek,zE,ofVal,opQ_skip,zl,zp,zAC,if_true,za,zAN,Nat.reduceLT,if_true,if_false,f2,fel,hst]
   simp only [go_ret,zD,qI,jk]
   have hE3:∀ p∈edg (bs.length+1) .nili es'++E,bs.length<=p.1:=fun p hp=>by
    rcases zAt.1 hp with hp|hp
    ·exact yH (b:=bs.length+1) (v:=.nili) hes' (by omega) p hp
    ·exact hC.ed p (by simpa using hp)
   refine ⟨trivial,zgp hNb (by omega),.inr ⟨trivial,⟨bs'.set (bs.length+3) (.cells [.sl 10 (encs l) .no] 25),edg (bs.length+1) .nili es'++E⟩,by simp only [freeBox,hboxb],?_⟩⟩
   exact zgm (jr (v:=.ptr (bs.length+1) 0) e2) rfl ((qf (by omega)).trans hcell1) (((yS e bs).trans hNb).set (by omega)) hE3 (by rw [hfo,hfn])
  | some x =>
   rw [hw] at hres;obtain ⟨t,u,rfl⟩:=hres.ifc;obtain ⟨hi',hhi',hat'⟩:=hres;simp only [qp,zj,opQ_val,zl];refine zc (tk:=[]) (by kernel_rfl) ?_
   simp only [zi,go_os_nil,zd,go_skip,zk,zA,Nat.reduceEqDiff,peek,ofVal,zb,opQ_val,zl,zh,zAa,zG,zK,if_true,za,zAN,Nat.reduceLT,if_true,if_false,fel,zT,zgn,zAD,zAa,zBA,zBi]
   obtain ⟨hi,hhi,hat⟩:=hC.hat;obtain ⟨t',u',rfl⟩:=hat.ifc;have hatb:At bs' w (bs.length+4) hi (.ifc t' u'):=hat.frame fun i p q=>hNH.nth (by omega)
   have hat'':At bs' x (H.length+1) hi' (.ifc t u):=by simpa using hat'
   have hl3:zJ Tryz.prog ⟨bs',es'⟩ gl.g 93 (.ptr (bs.length+2) 0)=some (.ifc t' u'):=zZ (H:=⟨bs',es'⟩) ag93 hcell2 rfl;have hem:=fun env=>jQ (lk:=[]) (df:=[]) (env:=env) (zcZ hg hat'' (n:=n) hn es');have hem2:=fun env=>jQ (lk:=[]) (df:=[]) (env:=env) (zcZ hg hatb (n:=n) hn es');rw [hg.uq] at hem hem2;obtain ⟨B,hBdef⟩:∃ B,B=xj (.ifc t u) (.ifc t' u') (emW x && emW w) false:=⟨_,rfl⟩
   have hce:nth (bs'++[Blk.cells B 133]) (bs.length+2)=some (.cells [.ifc t' u'] 93):=(get_old (es:=[]) (by omega)).trans hcell2
   have hst:∀ env:List V,qQ Tryz.prog 93 ⟨bs'++[Blk.cells B 133],es'⟩ [] [] (some (.ifc 131 (.ptr bs'.length 0),env)) (some (.ptr (bs.length+2) 0))=_:=fun env=>xN hce rfl rfl rfl;have hla:(V.agg B).laid=B:=by rw [hBdef];rfl
   have hob:okC (V.agg B)=true:=rfl;have fin:∀ env:List V,(True/\jm HR.length ((bs'++[Blk.cells B 133]).set (bs.length+2) (.cells [.ifc 131 (.ptr bs'.length 0)] 93))=true/\(True/\∃ w v,CI e bs l (j+1) ((bs'++[Blk.cells B 133]).set (bs.length+2) (.cells [.ifc 131 (.ptr bs'.length 0)] 93)) (edg (bs.length+2) (.ifc 131 (.ptr bs'.length 0)) es'++E) w v)):=fun env=>by
    have hn2:NewC (B1 e bs) ((bs'++[Blk.cells B 133]).set (bs.length+2) (.cells [.ifc 131 (.ptr bs'.length 0)] 93)):=(hNb.push).set (by omega)
    refine ⟨trivial,zgp hn2 (by omega),trivial,zon x w,.ifc 131 (.ptr bs'.length 0),hn2,qz (by simp;omega),?_,?_,?_,?_,by simp;omega⟩
    ·rw [qf (by omega)];exact (get_old (es:=[]) (by omega)).trans hboxb
    ·rw [hdrop];simp only [foCat,hC.fo,hw,zon]
    ·refine ⟨bs'.length+1,by simp,bs'.length,hi,hi',.ifc t u,.ifc t' u',?_,?_,by omega,by omega,rfl,?_⟩
     ·exact hatb.frame fun i p q=>(qf (by omega)).trans (get_old (es:=[]) (by omega))
     ·exact (hat''.frame fun i p q=>(qf (by omega)).trans (get_old (es:=[]) (by omega))).widen (by omega) (zAR _)
     ·rw [qf (by omega)]
      have:=Vm.get_at0 (bs:=bs') (ls:=[Blk.cells B 133]) (es:=[]);rw [hBdef] at this ⊢;exact this
    ·intro p hp;rcases zAt.1 hp with hp|hp
     ·exact yH (b:=bs.length+2) (v:=.ifc 131 (.ptr bs'.length 0)) hes' (by omega) p hp
     ·exact hC.ed p (by simpa using hp)
   cases hx:emW x with
   | true =>
    rw [hx] at hem hBdef;simp only [zBQ] at hBdef;rw [hBdef] at hst hla hob fin
    refine xg [1] [] [(false,false,false,false),(true,false,false,false),(false,false,false,false),(false,true,false,false),(false,false,false,false),(false,false,false,false),(false,true,false,false),(false,false,false,false),(false,false,false,false),(false,true,false,true),(false,false,false,false),(false,true,false,true)] (tk:=[]) (by kernel_rfl) (by kernel_rfl) ?_
    simp only [jX,zk,zt,kE,zw,qE,qV,Nat.reduceEqDiff,peeks,peek,ze,ofVal,z0,zb,zl,zh,zp,zAB,zAC,zAa,qg,kZ,if_true,ja,za,zAN,Nat.reduceLT,if_true,if_false,ol_cons,znD,qa,zf,zm,jh,wantB_tt,xh,ol_nil,olV_val,olV_valh,olV_valc,olV_skipc,kS,wZ,ke,j6,ag93,f3,fel,hl3,zT,z6,hem,hem2,ja,zmC,zmD,qO hob,hla,xM if131,qp,z0,hst]
    have hpe:peek ((((((env'.set 34 (enc a)).set 35 (V.ifc t u)).set 6 (V.ifc t u)).set 36 (V.ifc t u)).set 37 (V.bool false)).set 38 (V.ifc t u)) (.tmp 3)=some (.ptr (bs.length+2) 0):=by simp [peek,za,f3,clr]
    refine ⟨⟨jq hpe hl3 rfl,trivial⟩,⟨jq hpe hl3 rfl,trivial⟩,?_⟩;rw [zD]
    dsimp only
    exact ⟨rfl,(fin []).2.1,.inl ⟨rfl,(fin []).2.2.2⟩⟩
   | false =>
    rw [hx] at hem hBdef;simp only [zBt] at hBdef;rw [hBdef] at hst hla hob fin
    refine xg [1] [] [(false,false,false,false),(true,false,false,false),(false,false,false,false),(false,true,false,false),(false,false,false,false),(false,false,false,false),(false,true,false,false),(false,false,false,false),(false,false,false,false),(false,true,false,true),(false,false,false,false),(false,true,false,true)] (tk:=[]) (by kernel_rfl) (by kernel_rfl) ?_
    simp only [jX,zk,zt,kE,zw,qE,qV,Nat.reduceEqDiff,peeks,peek,ze,ofVal,z0,zb,zl,zh,zp,zAB,zAC,zAa,qg,kZ,if_true,jb,za,zAN,Nat.reduceLT,if_true,if_false,ol_cons,znD,qa,zf,zm,jh,wantB_tf,xT,ol_nil,olV_val,olV_valh,olV_valc,olV_skipc,kS,wZ,ke,j6,ag93,f3,fel,hl3,zT,z6,hem,hem2,jb,zmC,zmD,qO hob,hla,xM if131,qp,z0,hst]
    have hpe:peek ((((((env'.set 34 (enc a)).set 35 (V.ifc t u)).set 6 (V.ifc t u)).set 36 (V.ifc t u)).set 37 (V.bool false)).set 38 (V.ifc t u)) (.tmp 3)=some (.ptr (bs.length+2) 0):=by simp [peek,za,f3,clr]
    refine ⟨⟨jq hpe hl3 rfl,trivial⟩,?_⟩;rw [zD]
    dsimp only
    exact ⟨rfl,(fin []).2.1,.inl ⟨rfl,(fin []).2.2.2⟩⟩
end Go.Proofs.YtlnijcffanjieaaGreatDoor
namespace Go.Proofs.YtlnijcffanjieaaGreatDoor
set_option maxRecDepth 100000
open Go Go.Vm Go.Vm.Sx
variable {gl:Gl}
mutual
def Cor:E->Prop
 | .mk op pl s0 s1 s2 s3 text mn mx nl args=>leanB (.mk op pl s0 s1 s2 s3 text mn mx nl args)=true/\kindB (.mk op pl s0 s1 s2 s3 text mn mx nl args)=true/\args.length<=65536/\Cors args
def Cors:List E->Prop
 | []=>True
 | a::l=>Cor a/\Cors l
end
mutual
def Rg:E->Prop
 | .mk _ _ s0 s1 s2 s3 _ _ _ _ args=>RgS (s0,s1,s2,s3)/\Rgs args
def Rgs:List E->Prop
 | []=>True
 | a::l=>Rg a/\Rgs l
end
def zaR (e:E):Bool:=(partsM e 1 0 0).1
mutual
theorem pM:∀ (e:E) (d n s:Int),0<=n->n<=65536->(partsM e d n s).1=true->Cor e/\n+1<=(partsM e d n s).2.1/\(partsM e d n s).2.1<=65536
 | .mk op pl s0 s1 s2 s3 text mn mx nl args,d,n,s,h0,h1,h=>by
  have hw:IntKind.i64.wrap (n+1)=n+1:=by rw [w64 (by omega) (by omega)]
  simp only [partsM,hw] at h ⊢;cases hc:(ltz 65536 (n+1) || ltz 4096 d) with
  | true=>simp [hc] at h
  | false =>
   have hn:n+1<=65536:=by
    simp only [zBX] at hc;have:=hc.1;simp only [ltz,decide_eq_false_iff_not] at this;omega
   simp only [hc,zAD,if_false] at h ⊢;cases hl:leanB (.mk op pl s0 s1 s2 s3 text mn mx nl args) with
   | false=>simp [hl] at h
   | true =>
    cases hk:kindB (.mk op pl s0 s1 s2 s3 text mn mx nl args) with
    | false=>simp [hl,hk] at h
    | true =>
     simp only [hl,hk,if_true] at h ⊢;obtain ⟨g1,g2,g3⟩:=pF args _ (n+1) _ (by omega) hn h
     exact ⟨⟨hl,hk,by omega,g1⟩,by omega,g3⟩
theorem pF:∀ (l:List E) (d n s:Int),0<=n->n<=65536->(partsF d l n s).1=true->Cors l/\n+(l.length:Int)<=(partsF d l n s).2.1/\(partsF d l n s).2.1<=65536
 | [],d,n,s,h0,h1,h=>by simp only [partsF];exact ⟨trivial,by simp,h1⟩
 | a::l,d,n,s,h0,h1,h=>by
  simp only [partsF] at h ⊢;cases ha:(partsM a d n s).1 with
  | false=>rw [ha] at h;simp [ha] at h
  | true =>
   simp only [ha,if_true] at h ⊢;obtain ⟨g1,g2,g3⟩:=pM a d n s h0 h1 ha;obtain ⟨k1,k2,k3⟩:=pF l d _ _ (by omega) g3 h
   exact ⟨⟨g1,k1⟩,by simp only [zAS];omega,k3⟩
end
theorem zdm {e:E} (h:zaR e=true):Cor e:=(pM e 1 0 0 (by decide) (by decide) h).1
theorem Cors.mem {a:E}:∀ {l:List E},Cors l->a∈l->Cor a
 | b::l,h,hm=>by
  rcases zAO.1 hm with rfl|hm
  ·exact h.1
  ·exact h.2.mem hm
theorem Rgs.mem {a:E}:∀ {l:List E},Rgs l->a∈l->Rg a
 | b::l,h,hm=>by
  rcases zAO.1 hm with rfl|hm
  ·exact h.1
  ·exact h.2.mem hm
theorem zmE (hg:GW gl):∀ (N:Nat) (e:E),YtlnijcffanjieaaGreatDoor.hg e<=N->Cor e->∀ n,N<=n->∀ bs es,yl gl (n+1) e bs es
 | 0,e,h,hc,n,hn,bs,es=>by cases e;simp only [YtlnijcffanjieaaGreatDoor.hg] at h;omega
 | N+1,.mk op pl s0 s1 s2 s3 text mn mx nl args,h,hc,n,hn,bs,es=>by
  simp only [YtlnijcffanjieaaGreatDoor.hg] at h;obtain ⟨_,hk,hlen,hcs⟩:=hc;have ih:∀ a∈args,∀ bs es,yl gl n a bs es:=fun a ha bs es=>by
   obtain ⟨m,rfl⟩:∃ m,n=m+1:=⟨n - 1,by omega⟩
   have:=zaZ ha;exact zmE hg N a (by omega) (hcs.mem ha) m (by omega) bs es
  by_cases h2:op=2
  ·subst h2;exact zo2 hg
  by_cases h5:op=5
  ·subst h5;refine zo8 hg (by omega) (fun e=>?_) (by omega) ih
   subst e;simp [kindB,ltz] at hk
  by_cases h6:op=6
  ·subst h6;exact zo5 hg (by omega) (by omega) ih
  by_cases h7:op=7
  ·subst h7;cases args with
   | nil=>simp [kindB] at hk
   | cons a l=>exact zo3 hg (by omega) (ih a (by simp))
  ·refine znM hg (op:=op) rfl h2 h5 h6 h7 ?_;simp only [foW,h2,h5,h6,h7,if_false]
theorem foCat_FW:∀ (l:List E) (w:Wd) (m:Nat),(∀ a∈l,∀ x,foW a=some x->FW x<=m)->foCat l=some w->FW w<=m+2 * l.length+1
 | [],w,m,_,h=>by simp only [foCat,zAA] at h;subst h;simp only [FW];omega
 | a::l,w,m,hm,h=>by
  simp only [foCat] at h;split at h<;>try (cases h;done)
  rename_i w' x h1 h2;cases h;have g1:=foCat_FW l w' m (fun b hb=>hm b (zAE _ hb)) h1;have g2:=hm a (zAL ..) x h2;simp only [FW,zAS];omega
theorem foAlt_FW:∀ (l:List E) (m:Nat),(∀ a∈l,∀ x,foW a=some x->FW x<=m)->FWs (foAlt l)<=m/\(foAlt l).length<=l.length
 | [],m,_=>by simp [foAlt,FWs]
 | a::l,m,hm=>by
  obtain ⟨g1,g2⟩:=foAlt_FW l m fun b hb=>hm b (zAE _ hb);simp only [foAlt];cases ha:foW a with
  | none=>simp only [zAS];omega
  | some x =>
   have:=hm a (zAL ..) x ha;simp only [FWs,zAS];omega
theorem foW_FW:∀ (N:Nat) (e:E) (w:Wd),YtlnijcffanjieaaGreatDoor.hg e<=N->foW e=some w->FW w<=2 * YtlnijcffanjieaaGreatDoor.hg e
 | 0,e,w,h,_=>by cases e;simp only [YtlnijcffanjieaaGreatDoor.hg] at h;omega
 | N+1,.mk op pl s0 s1 s2 s3 text mn mx nl args,w,h,hw=>by
  simp only [YtlnijcffanjieaaGreatDoor.hg] at h ⊢;have hm:∀ a∈args,∀ x,foW a=some x->FW x<=2 * (hgs args):=fun a ha x hx=>by
   have h1:=zaZ ha;have:=foW_FW N a x (by omega) hx
   omega
  simp only [foW] at hw;split at hw
  ·split at hw
   ·cases hw
   ·cases hw;simp only [FW];omega
  ·split at hw
   ·have:=foCat_FW args w _ hm hw;omega
   ·split at hw
    ·split at hw
     ·cases hw
     ·cases hw;obtain ⟨g1,g2⟩:=foAlt_FW args _ hm;simp only [FW];omega
    ·split at hw
     ·cases args with
      | nil =>
       simp only [foHead] at hw;split at hw
       ·cases hw
       ·cases hw;simp only [FW];omega
      | cons a l =>
       simp only [foHead] at hw;split at hw
       ·rename_i x hx;cases hw;have:=hm a (by simp) x hx
        simp only [FW];omega
       ·split at hw
        ·cases hw
        ·cases hw;simp only [FW];omega
     ·cases hw;simp only [FW];omega
theorem foCat_rg:∀ (l:List E) (w:Wd),(∀ a∈l,∀ x,foW a=some x->RgW x)->foCat l=some w->RgW w
 | [],w,_,h=>by simp only [foCat,zAA] at h;subst h;trivial
 | a::l,w,hm,h=>by
  simp only [foCat] at h;split at h<;>try (cases h;done)
  rename_i w' x h1 h2;cases h;exact ⟨hm a (zAL ..) x h2,foCat_rg l w' (fun b hb=>hm b (zAE _ hb)) h1⟩
theorem foAlt_rg:∀ (l:List E),(∀ a∈l,∀ x,foW a=some x->RgW x)->RgWs (foAlt l)
 | [],_=>by simp [foAlt,RgWs]
 | a::l,hm=>by
  have g:=foAlt_rg l fun b hb=>hm b (zAE _ hb);simp only [foAlt];cases ha:foW a with
  | none=>exact g
  | some x=>exact ⟨hm a (zAL ..) x ha,g⟩
theorem foW_rg:∀ (N:Nat) (e:E) (w:Wd),YtlnijcffanjieaaGreatDoor.hg e<=N->Cor e->Rg e->foW e=some w->RgW w
 | 0,e,w,h,_,_,_=>by cases e;simp only [YtlnijcffanjieaaGreatDoor.hg] at h;omega
 | N+1,.mk op pl s0 s1 s2 s3 text mn mx nl args,w,h,hc,hr,hw=>by
  simp only [YtlnijcffanjieaaGreatDoor.hg] at h;have hm:∀ a∈args,∀ x,foW a=some x->RgW x:=fun a ha x hx=>by
   have h1:=zaZ ha;exact foW_rg N a x (by omega) (hc.2.2.2.mem ha) (hr.2.mem ha) hx
  simp only [foW] at hw;split at hw
  ·split at hw
   ·cases hw
   ·cases hw;exact hr.1
  ·split at hw
   ·exact foCat_rg args w hm hw
   ·split at hw
    ·split at hw
     ·cases hw
     ·cases hw;refine ⟨foAlt_rg args hm,?_⟩;have:=(foAlt_FW args (FWs (foAlt args)+2 * hgs args+9) (fun a ha x hx=>by have h1:=zaZ ha;have:=foW_FW (YtlnijcffanjieaaGreatDoor.hg a) a x (zAR _) hx;omega)).2
      have:=hc.2.2.1;omega
    ·split at hw
     ·cases args with
      | nil =>
       simp only [foHead] at hw;split at hw
       ·cases hw
       ·cases hw;trivial
      | cons a l =>
       simp only [foHead] at hw;split at hw
       ·rename_i x hx;cases hw;exact hm a (by simp) x hx
       ·split at hw
        ·cases hw
        ·cases hw;trivial
     ·cases hw;trivial
end Go.Proofs.YtlnijcffanjieaaGreatDoor
namespace Go.Proofs.YtlnijcffanjieaaGreatDoor
set_option maxRecDepth 100000
open Go Go.Vm
variable {gl:Gl}
def jo (nl:Bool) (t:List Nat):V:=Sx.lv 1 nl (t.map fun b=>V.int .u8 (b:Nat))
theorem ag5:jG Tryz.prog 5=some false:=by kernel_rfl
theorem sz5:qc Tryz.prog 5=some 1:=by kernel_rfl
theorem r36:RowT Tryz.prog 36 3 1 8:=⟨by kernel_rfl,by kernel_rfl,by kernel_rfl,by decide,by kernel_rfl,by kernel_rfl,by kernel_rfl⟩
theorem kg {nl:Bool} {t:List Nat}:clr (jo nl t)=jo nl t:=Sx.clr_lv ..
theorem zep {H:Hp} {nl:Bool} {t:List Nat}:kO Tryz.prog H 34 (jo nl t)=some (t.length:Int):=by
 rcases Sx.lv_cases 1 nl (t.map fun b=>V.int .u8 (b:Nat)) with h|⟨h0,h⟩<;>rw [jo,h]
 ·simp [kO]
 ·have:t=[]:=by simpa using h0
  subst this;simp [kO]
theorem zoo {nl:Bool} {t:List Nat} {k b:Nat} (h:t[k]?=some b):z8 Tryz.prog 34 (jo nl t) (k:Int)=some (.vp [.int .u8 (b:Nat)]):=by
 have hk:¬ ((k:Int)<0):=by omega
 have hn:nth (t.map fun b=>V.int .u8 (b:Nat)) k=some (.int .u8 (b:Nat)):=by rw [zq,zAl,h];rfl
 rcases Sx.lv_cases 1 nl (t.map fun b=>V.int .u8 (b:Nat)) with h'|⟨h0,_⟩
 ·rw [jo,h'];simp [z8,sz5,hk,hn,V.cells]
 ·rw [h0] at hn;simp [nth] at hn
theorem zop {H:Hp} {g:Nat->Nat->Option V} {v:V}:zJ Tryz.prog H g 5 (.vp [v])=some v:=by simp [zJ,wE,ag5,nth,zcR]
def goEnds:Wd->Nat->List Nat->List Nat
 | _,_,[]=>[]
 | w,i,b::t=>(if (stW w (i == 0) b).2 then [i+1] else [])++goEnds (stW w (i == 0) b).1 (i+1) t
def runE:Wd->Nat->List Nat->Wd
 | w,_,[]=>w
 | w,i,b::t=>runE (stW w (i == 0) b).1 (i+1) t
def ym (w:Wd) (t:List Nat):List Nat:=(if emW w then [0] else [])++goEnds w 0 t
theorem FW_st:∀ (N:Nat) (w:Wd) (bg:Bool) (c:Nat),FW w<=N->FW (stW w bg c).1=FW w
 | 0,w,bg,c,h=>by have:=zbl w;omega
 | N+1,.non,_,_,_=>by simp only [stW]
 | N+1,.one _ _,_,_,_=>by simp only [stW,FW]
 | N+1,.both a b _ _,bg,c,h=>by simp only [FW] at h;simp only [stW,FW,FW_st N a _ c (by omega),FW_st N b _ c (by omega)]
 | N+1,.alt l _ _,bg,c,h=>by
  simp only [FW] at h;simp only [stW,FW,stWs_1,zA2];have:∀ l:List Wd,FWs l<=N->FWs (l.map fun w=>(stW w bg c).1)=FWs l:=by
   intro l
   induction l with
   | nil=>intro _;rfl
   | cons x l ih =>
    intro hl;simp only [FWs] at hl;simp only [zAX,FWs,FW_st N x bg c (by omega),ih (by omega)]
  rw [this l (by omega)]
 | N+1,.rep w _ _,bg,c,h=>by simp only [FW] at h;simp only [stW,FW,FW_st N w _ c (by omega)]
theorem Rg_st:∀ (N:Nat) (w:Wd) (bg:Bool) (c:Nat),FW w<=N->RgW w->RgW (stW w bg c).1
 | 0,w,bg,c,h,_=>by have:=zbl w;omega
 | N+1,.non,_,_,_,h=>by simp only [stW];exact h
 | N+1,.one _ _,_,_,_,h=>by simp only [stW];exact h
 | N+1,.both a b _ _,bg,c,h,hr=>by simp only [FW] at h;simp only [stW];exact ⟨Rg_st N a _ c (by omega) hr.1,Rg_st N b _ c (by omega) hr.2⟩
 | N+1,.alt l _ _,bg,c,h,hr=>by
  simp only [FW] at h;simp only [stW,stWs_1];have:∀ l:List Wd,FWs l<=N->RgWs l->RgWs (l.map fun w=>(stW w bg c).1):=by
   intro l
   induction l with
   | nil=>intro _ _;trivial
   | cons x l ih =>
    intro hl hq;simp only [FWs] at hl;exact ⟨Rg_st N x bg c (by omega) hq.1,ih (by omega) hq.2⟩
  exact ⟨this l (by omega) hr.1,by rw [zA2];exact hr.2⟩
 | N+1,.rep w _ _,bg,c,h,hr=>by simp only [FW] at h;simp only [stW];exact Rg_st N w _ c (by omega) hr
def jD (l:List Nat):List V:=l.map fun n=>V.int .i64 (n:Nat)
theorem znP (hg:GW gl) {n:Nat} {bs:List Blk} {es:List (Nat×Nat)} {nl:Bool} {t:List Nat}:zx Tryz.prog gl (n+1) 44 [.nili,jo nl t] ⟨bs,es⟩=some (.ret .snil,⟨bs,es⟩):=by
 refine qJ (hg.hk _ _ (by decide)) (fun H=>hg.hk2 _ _ _ _) Tryz.func44 rfl ?_
 simp only [Tryz.f44,zd];refine zc (tk:=[]) (by kernel_rfl) ?_
 simp only [zi,go_os_nil,zd,zg,zE,ofVal,zj,opQ_val,zl,zAC,zAS,List.length_nil,zAT,Nat.reduceAdd,zAY,zAW,zAI,zAJ,List.replicate,Nat.reduceSub]
 refine zc (tk:=[]) (by kernel_rfl) ?_
 simp only [zi,go_os_nil,zd,zg,zE,ofVal,zj,opQ_val,zl,zAC,zAI,zAJ]
 refine zc (tk:=[]) (by kernel_rfl) ?_
 simp only [zi,go_os_nil,zd,go_skip,zk,zA,peek,ofVal,zb,opQ_val,zl,zh,zAa,zG,zK,zf,zm,zAI,zAJ,clr_nili,zgo,zAa,zAy,zBA,zBr]
 refine zc (tk:=[]) (by kernel_rfl) ?_
 simp only [zi,go_os_nil,zg,zE,ofVal,zj,opQ_val,zl,zAC,zAI,zAJ]
 simp only [go_ret,zD,qI,Vm.Fin]
 exact ⟨trivial,[.snil],rfl,rfl,(zQ rfl (zAU _)).symm⟩
end Go.Proofs.YtlnijcffanjieaaGreatDoor
