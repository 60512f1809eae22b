/- Seat 8: what the walks stand on. Conditions: none but those named. -/
import Derived.Test.YthohlnmcjkjeiaaGreatDoorProg
import Derived.KernelRfl
import Derived.Test.YthohlnmcjkjeiaaGreatDoorVmD
namespace Go.Proofs.YthohlnmcjkjeiaaGreatDoor
open Go.Proofs.Tryz
set_option maxRecDepth 100000
open Go Go.Vm
def fy(e:aB):Bool:=Nat.beq e 115 || Nat.beq e 157 || Nat.beq e 117 || Nat.beq e (vd 205)
structure GW(gl:Gl):Prop where
 uq:gl.uq=fy
 fG:∀n f args H,gl.fG n f args H=none
 tab:∀o,o<64->gl.g 4 o=nth Bb o
 hk:∀f args,([55,56,57,58,59,88,89,90,91,92,93,94,95,96,14].any (Nat.beq f))=true->gl.hk f args=none
theorem D4:z4 prog 48=some 1:=by kernel_rfl
theorem mX:qD prog 48=some false:=by kernel_rfl
theorem u60:prog.underlying 115=some (.array 19 48):=by kernel_rfl
theorem TP{b off i:Nat}(h:i<19):zt prog 115 (.ptr b off) i=some (.ptr b (off+i)):=by
 simp only[zt,u60,D4];simp;omega
variable{gl:Gl}
theorem zjo(hg:GW gl){n:Nat}{bs:List aV}{es:aN}{b off:Nat}{pre post:aD}{p:Nat->Bool}{ty:aB}{k:Nat}(hb:nth bs b=some (.cells (pre++pv 19 p++post) ty))(ho:pre.length=off)(hk:k<1216) :
  zj prog gl (n+1) 56 [.ptr b off,.int .i64 k] ⟨bs,es⟩=some (.ret (.bq []),⟨bs.set b (.cells (pre++pv 19 (jQ p k)++post) ty),es⟩):=by
 have hi:k / 64<19:=by omega
 have dy:Hp.get ⟨bs,[]⟩ b=some (.cells (pre++pv 19 p++post) ty):=hb;have dg:nth (pre++pv 19 p++post) (off+k / 64)=some (.int .u64 (kK p (k / 64):Nat)):=by
  rw[zg,<- ho,xE jE hi,yH hi]
 have gw:zk prog ⟨bs,[]⟩ gl.g 48 (.ptr b (off+k / 64))=some (.int .u64 (kK p (k / 64):Nat)):=by
  rw[jW,dy,jv,qy,mX,D4,Tn,dg]
 have oz:wv [] b (off+k / 64) 1 ((pre++pv 19 p++post).drop (off+k / 64))=true:=yp λi h=>by
  obtain rfl:i=0:=by omega
  exact⟨_,by rw[nP,<- zg,dg],rfl⟩
 refine zlF (hg.hk _ _ (by decide)) (λH=>hg.fG _ _ _ _) func56 rfl ?_
 rw[hg.uq];refine qG (tk:=[]) (by kernel_rfl) (by kernel_rfl) ?_
 simp only[f56,List.replicate,List.length,a_,bg]
 simp only[jY,au,mX,iU,zK,zV,zG,zT,qu,zU,ak,zL,qq,zd,ze,zr,aL,aq,bS,bT,qk,zR,aS,aT,aa,aE,aj,
  zko (show k<2 ^ 60 by omega),TP hi,gw,zkp,zlN (Nat.mod_lt k (by decide)),Xe kZ (Hf (show 1<2 by decide) (Nat.mod_lt k (show 64 > 0 by decide))),zlM,qr,D4]
 rw[zeR (n:=1) dy rfl rfl (by simp[jE,<- ho];omega) oz]
 simp only[bu,bk,zp,Vm.Fin,V.laid,Vm.storeCells,aq]
 refine⟨trivial,[],rfl,rfl,?_⟩;rw[jT (by simp[V.top]),<- ho,Xf jE hi,zpo]
 have:=z8 (bs:=bs.set b (.cells (pre++pv 19 (jQ p k)++post) ty)) (ls:=[]) (es:=es) (t:=0) (eg _);rw[mT,bD] at this;exact this.symm
end Go.Proofs.YthohlnmcjkjeiaaGreatDoor
