/- Seat 8: what the walks stand on. Conditions: none but those named. -/
import Derived.Test.YthohlnmcjkjeiaaGreatDoorProg
import Derived.KernelRfl
import Derived.Test.YthohlnmcjkjeiaaGreatDoorVmD
namespace Go.Proofs.YthohlnmcjkjeiaaGreatDoor
open Go.Proofs.Tryz
set_option maxRecDepth 100000
open Go Go.Vm
def fG(e:aB):Bool:=Nat.beq e 115 || Nat.beq e 157 || Nat.beq e 117 || Nat.beq e (vg 205)
structure GW(gl:Gl):Prop where
 uq:gl.uq=fG
 eV:∀n f args H,gl.eV n f args H=none
 tab:∀o,o<64->gl.g 4 o=nth BB o
 hk:∀f args,([55,56,57,58,59,88,89,90,91,92,93,94,95,96,14].any (Nat.beq f))=true->gl.hk f args=none
theorem Ep:z8 prog 48=some 1:=by kernel_rfl
theorem ni:qC prog 48=some false:=by kernel_rfl
theorem u60:prog.underlying 115=some (.array 19 48):=by kernel_rfl
theorem Us{b off i:Nat}(h:i<19):zp prog 115 (.ptr b off) i=some (.ptr b (off+i)):=by
 simp only[zp,u60,Ep];simp;omega
variable{gl:Gl}
theorem zjo(hg:GW gl){n:Nat}{bs:List aT}{es:aN}{b off:Nat}{pre post:aC}{p:Nat->Bool}{ty:aB}{k:Nat}(hb:nth bs b=some (.cells (pre++pv 19 p++post) ty))(ho:pre.length=off)(hk:k<1216) :
  zk prog gl (n+1) 56 [.ptr b off,.int .i64 k] ⟨bs,es⟩=some (.ret (.br []),⟨bs.set b (.cells (pre++pv 19 (jQ p k)++post) ty),es⟩):=by
 have hi:k / 64<19:=by omega
 have cQ:Hp.get ⟨bs,[]⟩ b=some (.cells (pre++pv 19 p++post) ty):=hb;have dL:nth (pre++pv 19 p++post) (off+k / 64)=some (.int .u64 (kO p (k / 64):Nat)):=by
  rw[zg,<- ho,xE jF hi,yJ hi]
 have gp:zl prog ⟨bs,[]⟩ gl.g 48 (.ptr b (off+k / 64))=some (.int .u64 (kO p (k / 64):Nat)):=by
  rw[jW,cQ,jy,qu,ni,Ep,T1,dL]
 have oT:wz [] b (off+k / 64) 1 ((pre++pv 19 p++post).drop (off+k / 64))=true:=yq λi h=>by
  obtain rfl:i=0:=by omega
  exact⟨_,by rw[nC,<- zg,dL],rfl⟩
 refine zlH (hg.hk _ _ (by decide)) (λH=>hg.eV _ _ _ _) func56 rfl ?_
 rw[hg.uq];refine qY (tk:=[]) (by kernel_rfl) (by kernel_rfl) ?_
 simp only[f56,List.replicate,List.length,bh,bg]
 simp only[jX,av,ni,lU,zK,zY,zH,zU,qw,zV,ak,zM,qr,zd,ze,zt,aM,aq,bS,bU,qk,zS,aS,aU,aa,aE,aj,
  zkq (show k<2 ^ 60 by omega),Us hi,gp,zkr,zlO (Nat.mod_lt k (by decide)),XF we (HO (show 1<2 by decide) (Nat.mod_lt k (show 64 > 0 by decide))),zlN,qo,Ep]
 rw[zeU (n:=1) cQ rfl rfl (by simp[jF,<- ho];omega) oT]
 simp only[bx,bq,zr,Vm.Fin,V.laid,Vm.storeCells,aq]
 refine⟨trivial,[],rfl,rfl,?_⟩;rw[jT (by simp[V.top]),<- ho,XG jF hi,zpC]
 have:=zW (bs:=bs.set b (.cells (pre++pv 19 (jQ p k)++post) ty)) (ls:=[]) (es:=es) (t:=0) (dU _);rw[mT,bG] at this;exact this.symm
end Go.Proofs.YthohlnmcjkjeiaaGreatDoor
