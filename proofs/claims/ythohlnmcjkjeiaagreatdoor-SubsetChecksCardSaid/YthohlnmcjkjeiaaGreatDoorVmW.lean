/- Seat 8, subset: the closed run of layer 11: what Build tells, known. Conditions: none but those that each theorem names. -/
import Derived.Test.YthohlnmcjkjeiaaGreatDoorVmO
import Derived.Test.YthohlnmcjkjeiaaGreatDoorVmT
import Derived.Test.YthohlnmcjkjeiaaGreatDoorVmV
namespace Go.Proofs.YthohlnmcjkjeiaaGreatDoor
set_option maxRecDepth 100000
open Go Go.Vm
def f0:A2.F:=⟨(true,[(0,8589934592,0,0)]),(true,[0]),(true,[(true,[0])]),(true,[(true,[1])])⟩
def a0:A2.Ints:=(true,[0])
theorem f0_v:A2.fv f0=wfV:=by kernel_rfl
theorem a0_v:A2.iv a0=waV:=by kernel_rfl
def hooksS:Hooks:=(72,[wfV,waV],.bool true)::hooksK1
theorem zlZ {f:FuncId} {back:Bool} {ty:Nat} {p:Prop} (hty:ty<1048576) (h:uqw (wo f back ty)=true):p:=by rw [znE hty] at h;cases h
theorem okS:wi Tryz.prog glw hooksS:=vv mixed numOk primOk (vv mixed numOk primOk zcf (zjG 0) rfl rfl (hit:=fun _ _ _ hty h=>zlZ hty h)) (zjH 0) rfl rfl (hit:=fun _ _ _ hty h=>zlZ hty h)
def glS:Gl:={ g:=glw,hk:=hkOf hooksS,uq:=uqS }
theorem zqQ {f:FuncId} {back:Bool} {ty:Nat} (h:ty<1048576):uqS (wo f back ty)=false:=by
 have hk:Nat.beq (wo f back ty) lateK=false:=by
  cases hb:Nat.beq (wo f back ty) lateK with
  | false=>rfl
  | true =>
   have:=zAJ hb;simp only [wo,lateK] at this;omega
 simp only [uqS,znE h,hk,Bool.or_self]
theorem hkS':HkOk Tryz.prog glS:=⟨okS.pure,fun n f args H out H' h=>(by cases h),fun _ _ _ hty h=>(by rw [show glS.uq=uqS from rfl,zqQ hty] at h;cases h)⟩
theorem GSs:GS glS where
 uq:=rfl
 hk2:=fun _ _ _ _ _=>rfl
 hk:=fun f args h=>by
  have h1:Nat.beq f 24=false:=by
   cases hb:Nat.beq f 24 with
   | false=>rfl
   | true=>rw [zAJ hb] at h;revert h;decide
  have h2:Nat.beq f 72=false:=by
   cases hb:Nat.beq f 72 with
   | false=>rfl
   | true=>rw [zAJ hb] at h;revert h;decide
  show hkOf hooksS f args=none;simp only [hooksS,hooksK1,hkOf,h1,h2]
theorem fok0:FOk f0 1 2000 where
 mm:=rfl
 hs:=fun q hq=>by
  obtain rfl:q=(0,8589934592,0,0):=by simpa [f0] using hq
  intro i
  match i with
  | 0=>exact ⟨by decide,by decide⟩
  | 1=>exact ⟨by decide,by decide⟩
  | 2=>exact ⟨by decide,by decide⟩
  | i+3=>exact ⟨by show (0:Int)<=0;decide,by show (0:Int)<18446744073709551616;decide⟩
 ns:=by decide
 nf:=by decide
 nl:=rfl
 nr:=fun row hr=>by
  obtain rfl:row=(true,[1]):=by simpa [f0] using hr
  exact ⟨by decide,by decide,fun (z:Int) hz=>by
   obtain rfl:z=1:=by simpa using hz
   decide⟩
 fr:=fun row hr=>by
  obtain rfl:row=(true,[0]):=by simpa [f0] using hr
  exact ⟨by decide,by decide,fun (z:Int) hz=>by
   obtain rfl:z=0:=by simpa using hz
   decide⟩
def nx0:Nat->Nat->Nat:=nxF f0 [(0,2)] 1
def zqR (w:Nat):Int:=vH 1 (j8 1 w) (-1)
theorem sets0:zj nx0 1 3=[1,0,2]:=by kernel_rfl
def den0:A2.D:=((true,[(true,(List.range 256).map fun y=>if y=97 then 2 else 1),(true,List.replicate 256 1),(true,List.replicate 256 1)]),(true,[-1,-1,0]))
theorem den0_eq:A2.dcV (zod nx0 1 zqR 3)=A2.dcV den0:=by kernel_rfl
def wdV:V:=.tup [A2.dcV den0,.nili]
theorem buildW_known:∃ v H',zk Tryz.prog glS 2005 28 [wfV,waV] ⟨[],[]⟩=some (.ret v,H')/\Frz H' v wdV:=by
 obtain ⟨v,H',h,hp⟩:=zlX GSs (n:=2003) (m:=1) (f:=f0) (act:=a0) (ck:=true) (rk:=true) (by decide) (by decide) (by kernel_rfl) (by kernel_rfl) (by kernel_rfl) (by kernel_rfl) (fun _ _=>⟨fok0,fun r hr=>by
  obtain rfl:r=0:=by simpa [a0] using hr
  exact ⟨by decide,by decide⟩,by decide,by decide⟩)
 rw [f0_v,a0_v] at h;rw [if_pos ⟨rfl,rfl⟩] at hp;obtain ⟨nx,hnx,hp⟩:=hp;have e1:nxF f0 nx 1=nx0:=zpG (by rw [hnx];rfl)
 have e2:z7 f0.f.2 a0.2 0=1:=rfl;have e3:(fun w=>vH f0.s.2.length (j8 1 w) (-1))=zqR:=rfl;rw [e1,e2,e3] at hp;have hc:(zj nx0 1 3).length=3:=by rw [sets0];rfl
 refine ⟨v,H',h,?_⟩;rcases hp with ⟨i,b,NB,q1,q2,q3,rfl,q5⟩|⟨i,q1,_⟩
 ·obtain rfl:=zlY q2 hc;have:=zqP (lab:=zqR) (es:=H'.edges) q5 (by decide) hc
  rw [den0_eq] at this;exact this
 ·obtain ⟨rs,e⟩:=zcD (j:=i) hc;have:=ziE (ws:=zj nx0 1 i) (rs:=rs);rw [<- e,sets0] at this;have h3:qc [1,0,2]=3:=rfl;omega
end Go.Proofs.YthohlnmcjkjeiaaGreatDoor
