/- Seat 7: slices.Values goes through a list; Seat 7: slices.Backward goes through a list; Seat 7: what the walks stand on: the listed errors' variables, iterators that are known. Conditions: none but those that each theorem names. -/
import Derived.Test.YtlnijcffanjieaaGreatDoorProg
import Derived.RangeFuncBox
import Derived.RangeFuncLeaves
import Derived.Shelf.Abstract
import Derived.WalkKit
import Derived.OwnWalkIn
import Derived.TacticsInMore
import Derived.LoopNIn
import Derived.LoopIn
import Derived.KernelRfl
import Derived.Test.YtlnijcffanjieaaGreatDoorVmC
import Derived.Test.YtlnijcffanjieaaGreatDoorVmF
import Derived.Test.YtlnijcffanjieaaGreatDoorVmG
namespace Go.Proofs.YtlnijcffanjieaaGreatDoor
open Go Go.Vm Go.RowKit Go.Shelf
attribute [local go_sem] Oper.semAt_some
set_option maxRecDepth 100000 in
set_option maxHeartbeats 4000000 in
theorem zol (l box len cap c o:Nat) (f:Nat->Value) (hreach:len<=140737488355328) (Kp:World->World->Prop) (hKp:∀ A B:World,Kp A B->∀ j,j<len->A.cell? ⟨c,o+j,none⟩=some (f j)->B.cell? ⟨c,o+j,none⟩=some (f j)) (J:Nat->World->Prop) (Jx:World->Prop)
  (hY:∀ k W,k<len->J k W->YieldAt Fence.wide 1 Tryz.prog l #[f k] W fun e W'=>(e=.returned (.bool true)/\J (k+1) W'/\Kp W W')\/(e=.returned (.bool false)/\Jx W'))
  (W:World) (hBs:W.cell? ⟨box,0,none⟩=some (.slice (some ⟨c,o,none⟩) len cap)) (hc:∀ j,j<len->W.cell? ⟨c,o+j,none⟩=some (f j)) (h0:J 0 W) :
  CallsIn Fence.wide 2 Tryz.prog 73 #[.func (.yield l) #[] #[],.pointer (some ⟨box,0,none⟩)] W fun e W'=>(∃ v,e=.returned v)/\(J len W'\/Jx W'):=by
 refine callsIn_of_wp Tryz.func73 rfl trivial ?_ rfl;simp only [Tryz.ntmps73,zBU,zAT,List.length_nil,Nat.reduceAdd,Nat.reduceSub,Array.replicate_succ,zBm,List.push_toArray,List.append_toArray,zAV,zAY];have hn:1<=2:=by decide
 have hro:Fence.wide.round=none:=rfl
 gi_wp2
 gi_loopw [7] (fun i wr=>∃ k:Nat,k<=len/\i=.int .i64 k/\J k wr/\∀ j,j<len->wr.cell? ⟨c,o+j,none⟩=some (f j))
  (fun i _=>len - (intOf i).toNat)
 case atStart=>exact ⟨0,zAW _,rfl,h0,hc⟩
 case round =>
  obtain ⟨k,hk,rfl,hJs,hcs⟩:=hrel
  by_cases hlt:k<len
  ·obtain ⟨fn,tmps,assign,body,hy,hR⟩:=hY k wr hlt hJs;have hcx':=hcs k hlt
   gi_wp2
   refine hR.mono ?_;rintro e W3 (⟨rfl,hJ3,hk3⟩|⟨rfl,hJx3⟩)
   ·gi_wp2
    go_roundw
    case rel=>exact ⟨k+1,by omega,by simp,hJ3,fun j hj=>hKp _ _ hk3 j hj (hcs j hj)⟩
    case measure=>simp [intOf];omega
   ·gi_wp2
    refine bodyPost_ret (results_none rfl _ _ _) rfl ?_;exact ⟨⟨_,rfl⟩,.inr hJx3⟩
  ·obtain rfl:k=len:=by omega
   gi_wp2
   go_end0
   exact ⟨⟨_,rfl⟩,.inl hJs⟩
set_option maxRecDepth 100000 in
set_option maxHeartbeats 4000000 in
theorem zmZ (l box cap:Nat) (a:Option Addr) (J:Nat->World->Prop) (W:World) (hBs:W.cell? ⟨box,0,none⟩=some (.slice a 0 cap)) (h0:J 0 W) :
  CallsIn Fence.wide 2 Tryz.prog 73 #[.func (.yield l) #[] #[],.pointer (some ⟨box,0,none⟩)] W fun e W'=>(∃ v,e=.returned v)/\J 0 W':=by
 refine callsIn_of_wp Tryz.func73 rfl trivial ?_ rfl;simp only [Tryz.ntmps73,zBU,zAT,List.length_nil,Nat.reduceAdd,Nat.reduceSub,Array.replicate_succ,zBm,List.push_toArray,List.append_toArray,zAV,zAY]
 gi_wp2
 gi_loopw [7] (fun i wr=>i=.int .i64 0/\J 0 wr) (fun _ _=>0)
 case atStart=>exact ⟨rfl,h0⟩
 case round =>
  obtain ⟨rfl,hJs⟩:=hrel
  gi_wp2
  go_end0
  exact ⟨⟨_,rfl⟩,hJs⟩
theorem zek {f:FuncId} {fn:Func} (hf:Tryz.prog.funcs[f]?=some fn) (hb:fn.body.isSome=true) (hn:(fn.name == "runtime.NumGoroutine")=false):∀ args w,(callFunc f args).run Tryz.prog w=.ok (.enter f args) w:=fun args w=>by
 obtain ⟨body,hb⟩:=Option.isSome_iff_exists.1 hb;have hn':fn.name≠ "runtime.NumGoroutine":=by simpa using hn
 simp [callFunc,hf,hb,hn']
theorem u36:Tryz.prog.underlying 36=some (.slice 3):=by kernel_rfl
theorem s3:qg Tryz.prog 3=some 1:=by kernel_rfl
theorem a3:jE Tryz.prog 3=some false:=by kernel_rfl
theorem vals_spec:ziC Tryz.prog 73 false 36:=by
 refine ⟨zek Tryz.func73 rfl (by kernel_rfl),fun e sz ag hu hs ha _ w box a len cap c o f C hbox hcl hcell haa hcells hC1 hC2 hlen l J Jx W hB hY h0=>?_⟩
 rw [u36] at hu;cases hu;rw [s3] at hs;cases hs;rw [a3] at ha;cases ha;have hbx:=(hB.cell (p:=⟨box,0,none⟩) hbox).trans hcell;rcases zBo len with rfl|hpos
 ·exact (zmZ l box cap a J W hbx h0).mono fun e W' ⟨h1,h2⟩=>⟨h1,.inl h2⟩
 ·rw [haa hpos] at hbx hC1;have he:∀ k,zab false false 1 len f k=#[f k]:=fun k=>by simp [zab,elV]
  refine zol l box len cap c o f hlen (KpC C) (fun A B hK j hj hA=>hK _ _ (hC2 j (by omega)) hA) J Jx (fun k W1 hk hJ=>by have:=hY k W1 hk hJ;rwa [he] at this) W hbx (fun j hj=>?_) h0
  exact (hB.cell (p:=⟨c,o+j,none⟩) (hcl hpos)).trans (hcells j (by omega))
end Go.Proofs.YtlnijcffanjieaaGreatDoor
namespace Go.Proofs.YtlnijcffanjieaaGreatDoor
open Go Go.Vm Go.RowKit Go.Shelf
attribute [local go_sem] Oper.semAt_some
def exV (f:Nat->Value) (i:Nat):Value:=.agg ((List.range 10).map fun r=>f (i * 10+r)).toArray
set_option maxRecDepth 100000 in
set_option maxHeartbeats 4000000 in
theorem zom (l box len cap c o:Nat) (f:Nat->Value) (hreach:len<=140737488355328) (Kp:World->World->Prop) (hKp:∀ A B:World,Kp A B->∀ j,j<len * 10->A.cell? ⟨c,o+j,none⟩=some (f j)->B.cell? ⟨c,o+j,none⟩=some (f j)) (J:Nat->World->Prop) (Jx:World->Prop)
  (hKb:∀ A B:World,Kp A B->A.cell? ⟨box,0,none⟩=some (.slice (some ⟨c,o,none⟩) len cap)->B.cell? ⟨box,0,none⟩=some (.slice (some ⟨c,o,none⟩) len cap))
  (hY:∀ k W,k<len->J k W->YieldAt Fence.wide 1 Tryz.prog l #[.int .i64 ((len - 1 - k:Nat):Int),exV f (len - 1 - k)] W fun e W'=>(e=.returned (.bool true)/\J (k+1) W'/\Kp W W')\/(e=.returned (.bool false)/\Jx W'))
  (W:World) (hBs:W.cell? ⟨box,0,none⟩=some (.slice (some ⟨c,o,none⟩) len cap)) (hc:∀ j,j<len * 10->W.cell? ⟨c,o+j,none⟩=some (f j)) (h0:J 0 W) :
  CallsIn Fence.wide 2 Tryz.prog 98 #[.func (.yield l) #[] #[],.pointer (some ⟨box,0,none⟩)] W fun e W'=>(∃ v,e=.returned v)/\(J len W'\/Jx W'):=by
 refine callsIn_of_wp Tryz.func98 rfl trivial ?_ rfl;simp only [Tryz.ntmps98,zBU,zAT,List.length_nil,Nat.reduceAdd,Nat.reduceSub,Array.replicate_succ,zBm,List.push_toArray,List.append_toArray,zAV,zAY];have hn:1<=2:=by decide
 have hro:Fence.wide.round=none:=rfl
 gi_wp2
 gi_loopw [3] (fun i wr=>∃ k:Nat,k<=len/\i=.int .i64 ((len:Int) - 1 - (k:Int))/\J k wr/\(∀ j,j<len * 10->wr.cell? ⟨c,o+j,none⟩=some (f j))/\wr.cell? ⟨box,0,none⟩=some (.slice (some ⟨c,o,none⟩) len cap))
  (fun i _=>(intOf i+1).toNat)
 case atStart=>exact ⟨0,zAW _,by simp,h0,hc,hBs⟩
 case round =>
  obtain ⟨k,hk,rfl,hJs,hcs,hbs⟩:=hrel
  by_cases hlt:k<len
  ·have hYk:=hY k wr hlt hJs;have hex:exV f (len - 1 - k)=.agg #[f ((len - 1 - k) * 10),f ((len - 1 - k) * 10+1),f ((len - 1 - k) * 10+2),f ((len - 1 - k) * 10+3),f ((len - 1 - k) * 10+4),f ((len - 1 - k) * 10+5),f ((len - 1 - k) * 10+6),f ((len - 1 - k) * 10+7),f ((len - 1 - k) * 10+8),f ((len - 1 - k) * 10+9)]:=rfl;have hi:((len - 1 - k:Nat):Int)=(len:Int) - 1 - (k:Int):=by omega
   rw [hex,hi] at hYk;obtain ⟨fn,tmps,assign,body,hy,hR⟩:=hYk;have hx:∀ r,r<10->wr.cell? ⟨c,o+(len - 1 - k) * 10+r,none⟩=some (f ((len - 1 - k) * 10+r)):=fun r hr=>by
    have:=hcs ((len - 1 - k) * 10+r) (by omega)
    rwa [<- zBk] at this
   have x0:wr.cell? ⟨c,o+(len - 1 - k) * 10,none⟩=some (f ((len - 1 - k) * 10)):=hx 0 (by decide)
   have x1:wr.cell? ⟨c,o+(len - 1 - k) * 10+1,none⟩=some (f ((len - 1 - k) * 10+1)):=hx 1 (by decide)
   have x2:wr.cell? ⟨c,o+(len - 1 - k) * 10+2,none⟩=some (f ((len - 1 - k) * 10+2)):=hx 2 (by decide)
   have x3:wr.cell? ⟨c,o+(len - 1 - k) * 10+3,none⟩=some (f ((len - 1 - k) * 10+3)):=hx 3 (by decide)
   have x4:wr.cell? ⟨c,o+(len - 1 - k) * 10+4,none⟩=some (f ((len - 1 - k) * 10+4)):=hx 4 (by decide)
   have x5:wr.cell? ⟨c,o+(len - 1 - k) * 10+5,none⟩=some (f ((len - 1 - k) * 10+5)):=hx 5 (by decide)
   have x6:wr.cell? ⟨c,o+(len - 1 - k) * 10+6,none⟩=some (f ((len - 1 - k) * 10+6)):=hx 6 (by decide)
   have x7:wr.cell? ⟨c,o+(len - 1 - k) * 10+7,none⟩=some (f ((len - 1 - k) * 10+7)):=hx 7 (by decide)
   have x8:wr.cell? ⟨c,o+(len - 1 - k) * 10+8,none⟩=some (f ((len - 1 - k) * 10+8)):=hx 8 (by decide)
   have x9:wr.cell? ⟨c,o+(len - 1 - k) * 10+9,none⟩=some (f ((len - 1 - k) * 10+9)):=hx 9 (by decide)
   gi_wp2
   refine hR.mono ?_;rintro e W3 (⟨rfl,hJ3,hk3⟩|⟨rfl,hJx3⟩)
   ·gi_wp2
    go_roundw
    case rel=>exact ⟨k+1,by omega,by simp;omega,hJ3,fun j hj=>hKp _ _ hk3 j hj (hcs j hj),hKb _ _ hk3 hbs⟩
    case measure=>simp [intOf];omega
   ·gi_wp2
    refine bodyPost_ret (results_none rfl _ _ _) rfl ?_;exact ⟨⟨_,rfl⟩,.inr hJx3⟩
  ·obtain rfl:k=len:=by omega
   gi_wp2
   go_end0
   exact ⟨⟨_,rfl⟩,.inl hJs⟩
set_option maxRecDepth 100000 in
set_option maxHeartbeats 4000000 in
theorem zm0 (l box cap:Nat) (a:Option Addr) (J:Nat->World->Prop) (W:World) (hBs:W.cell? ⟨box,0,none⟩=some (.slice a 0 cap)) (h0:J 0 W) :
  CallsIn Fence.wide 2 Tryz.prog 98 #[.func (.yield l) #[] #[],.pointer (some ⟨box,0,none⟩)] W fun e W'=>(∃ v,e=.returned v)/\J 0 W':=by
 refine callsIn_of_wp Tryz.func98 rfl trivial ?_ rfl;simp only [Tryz.ntmps98,zBU,zAT,List.length_nil,Nat.reduceAdd,Nat.reduceSub,Array.replicate_succ,zBm,List.push_toArray,List.append_toArray,zAV,zAY]
 gi_wp2
 gi_loopw [3] (fun i wr=>i=.int .i64 (-1)/\J 0 wr) (fun _ _=>0)
 case atStart=>exact ⟨rfl,h0⟩
 case round =>
  obtain ⟨rfl,hJs⟩:=hrel
  gi_wp2
  go_end0
  exact ⟨⟨_,rfl⟩,hJs⟩
theorem u25:Tryz.prog.underlying 25=some (.slice 27):=by kernel_rfl
theorem s27:qg Tryz.prog 27=some 10:=by kernel_rfl
theorem a27:jE Tryz.prog 27=some true:=by kernel_rfl
theorem back_spec:ziC Tryz.prog 98 true 25:=by
 refine ⟨zek Tryz.func98 rfl (by kernel_rfl),fun e sz ag hu hs ha _ w box a len cap c o f C hbox hcl hcell haa hcells hC1 hC2 hlen l J Jx W hB hY h0=>?_⟩
 rw [u25] at hu;cases hu;rw [s27] at hs;cases hs;rw [a27] at ha;cases ha;have hbx:=(hB.cell (p:=⟨box,0,none⟩) hbox).trans hcell;rcases zBo len with rfl|hpos
 ·exact (zm0 l box cap a J W hbx h0).mono fun e W' ⟨h1,h2⟩=>⟨h1,.inl h2⟩
 ·rw [haa hpos] at hbx hC1;have he:∀ k,zab true true 10 len f k=#[.int .i64 ((len - 1 - k:Nat):Int),exV f (len - 1 - k)]:=fun k=>rfl;refine zom l box len cap c o f hlen (KpC C) (fun A B hK j hj hA=>hK _ _ (hC2 j hj) hA) J Jx (fun A B hK hA=>hK _ _ hC1 hA) (fun k W1 hk hJ=>by have:=hY k W1 hk hJ;rwa [he] at this) W hbx (fun j hj=>?_) h0
  exact (hB.cell (p:=⟨c,o+j,none⟩) (hcl hpos)).trans (hcells j hj)
end Go.Proofs.YtlnijcffanjieaaGreatDoor
namespace Go.Proofs.YtlnijcffanjieaaGreatDoor
set_option maxRecDepth 100000
open Go Go.Vm
def uqw (e:TypeId):Bool:=Nat.beq e 1099717148723 || Nat.beq e 1099664719944
theorem itOk:zlR Tryz.prog uqw:=by
 intro gf' back ty hty h;obtain ⟨gf,hgf⟩:∃ n:Nat,n=gf':=⟨_,rfl⟩;subst hgf;simp only [uqw,zAg] at h;rcases h with h|h
 ·have h:=zAO h;cases back with
  | true =>
   simp only [xc,if_true] at h;obtain rfl:ty=25:=by omega
   obtain rfl:gf=98:=by omega
   exact back_spec
  | false=>simp only [xc,zAD,if_false] at h;omega
 ·have h:=zAO h;cases back with
  | true=>simp only [xc,if_true] at h;omega
  | false =>
   simp only [xc,zAD,if_false] at h;obtain rfl:ty=36:=by omega
   obtain rfl:gf=73:=by omega
   exact vals_spec
def ks:List Nat:=[4,1,5,6,7,8,9,2,10,11,12,13,14,0,15,16]
def glw:Nat->Nat->Option V:=zlZ 373 ks
end Go.Proofs.YtlnijcffanjieaaGreatDoor
