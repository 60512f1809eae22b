/- Seat 8: what the walks stand on. Conditions: none but those named. -/
import Derived.Test.YthohlnmcjkjeiaaGreatDoorProg
import Derived.KernelRfl
import Derived.Test.YthohlnmcjkjeiaaGreatDoorVmG
set_option linter.defProp false
namespace Go.Proofs.YthohlnmcjkjeiaaGreatDoor
open Go.Proofs.Tryz
set_option maxRecDepth 100000
open Go Go.Vm
def gE(e:aq):Bool:=Nat.beq e 115 || Nat.beq e 157 || Nat.beq e 117 || Nat.beq e (Km 205)
structure GW(gl:Gl):Prop where
 uq:gl.uq=gE
 iA:∀n f args H,gl.iA n f args H=none
 tab:∀o,o<64->gl.g 4 o=nth AN o
 hk:∀f args,([55,56,57,58,59,88,89,90,91,92,93,94,95,96,14].any (Nat.beq f))=true->gl.hk f args=none
def EU:jh prog 48=some 1:=by kernel_rfl
def nu:ka prog 48=some false:=by kernel_rfl
def u60:prog.underlying 115=some (.array 19 48):=by kernel_rfl
def Wd{b off i:Nat}(h:i<19):q7 prog 115 (.ptr b off) i=some (.ptr b (off+i)):=by
 simp only[q7,u60,EU];simp;omega
variable{gl:Gl}
def zl7(hg:GW gl){n:Nat}{bs:List br}{es:bk}{b off:Nat}{pre post:aA}{p:Nat->Bool}{ty:aq}{k:Nat}(hb:nth bs b=some (.cells (pre++pv 19 p++post) ty))(ho:pre.length=off)(hk:k<1216) :
  qt prog gl (n+1) 56 [.ptr b off,.int .i64 k] ⟨bs,es⟩=some (.ret (.bz []),⟨bs.set b (.cells (pre++pv 19 (jz p k)++post) ty),es⟩):=by
 have hi:k / 64<19:=by omega
 have fu:Hp.get ⟨bs,[]⟩ b=some (.cells (pre++pv 19 p++post) ty):=hb;have eC:nth (pre++pv 19 p++post) (off+k / 64)=some (.int .u64 (wi p (k / 64):Nat)):=by
  rw[zV,<- ho,M_ kw hi,xy hi]
 have lR:qJ prog ⟨bs,[]⟩ gl.g 48 (.ptr b (off+k / 64))=some (.int .u64 (wi p (k / 64):Nat)):=by
  rw[Re,fu,xn,wX,nu,EU,OJ,eC]
 have nN:wQ [] b (off+k / 64) 1 ((pre++pv 19 p++post).drop (off+k / 64))=true:=zdX λi h=>by
  obtain rfl:i=0:=by omega
  exact⟨_,by rw[cL,<- zV,eC],rfl⟩
 refine zoU (hg.hk _ _ (by decide)) (λH=>hg.iA _ _ _ _) func56 rfl ?_
 rw[hg.uq];refine wt (tk:=[]) (by kernel_rfl) (by kernel_rfl) ?_
 simp only[f56,List.replicate,List.length,cF,cq]
 simp only[qn,qj,nu,cg,zw,zA,zd,zc,zI,zh,aB,zu,zt,zR,z6,zk,au,qb,dJ,dM,zS,zg,bG,bC,aG,qM,aH,
  znh (show k<2 ^ 60 by omega),Wd hi,lR,zni,zo0 (Nat.mod_lt k (by decide)),zfV wz (N1 (show 1<2 by decide) (Nat.mod_lt k (show 64 > 0 by decide))),zoZ,kI,EU]
 rw[zg7 (n:=1) fu rfl rfl (by simp[kw,<- ho];omega) nN]
 simp only[az,ak,jc,Vm.Fin,V.laid,Vm.storeCells,qb]
 refine⟨trivial,[],rfl,rfl,?_⟩;rw[vY (by simp[V.top]),<- ho,zh8 kw hi,zr3]
 have:=kg (bs:=bs.set b (.cells (pre++pv 19 (jz p k)++post) ty)) (ls:=[]) (es:=es) (t:=0) (ga _);rw[oZ,ee] at this;exact this.symm
end Go.Proofs.YthohlnmcjkjeiaaGreatDoor
