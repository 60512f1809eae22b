/- Seat 8: what the walks stand on. Conditions: none but those named. -/
import Derived.Test.YthohlnmcjkjeiaaGreatDoorProg
import Derived.KernelRfl
import Derived.Test.YthohlnmcjkjeiaaGreatDoorVmD
namespace Go.Proofs.YthohlnmcjkjeiaaGreatDoor
open Go.Proofs.Tryz
set_option maxRecDepth 100000
open Go Go.Vm
def fu(e:aB):Bool:=Nat.beq e 115 || Nat.beq e 157 || Nat.beq e 117 || Nat.beq e (vi 205)
structure GW(gl:Gl):Prop where
 uq:gl.uq=fu
 fA:∀n f args H,gl.fA n f args H=none
 tab:∀o,o<64->gl.g 4 o=nth Bt o
 hk:∀f args,([55,56,57,58,59,88,89,90,91,92,93,94,95,96,14].any (Nat.beq f))=true->gl.hk f args=none
theorem El:z4 prog 48=some 1:=by kernel_rfl
theorem ng:qz prog 48=some false:=by kernel_rfl
theorem u60:prog.underlying 115=some (.array 19 48):=by kernel_rfl
theorem Uu{b off i:Nat}(h:i<19):zp prog 115 (.ptr b off) i=some (.ptr b (off+i)):=by
 simp only[zp,u60,El];simp;omega
variable{gl:Gl}
theorem zjF(hg:GW gl){n:Nat}{bs:List aY}{es:aO}{b off:Nat}{pre post:aD}{p:Nat->Bool}{ty:aB}{k:Nat}(hb:nth bs b=some (.cells (pre++pv 19 p++post) ty))(ho:pre.length=off)(hk:k<1216) :
  zj prog gl (n+1) 56 [.ptr b off,.int .i64 k] ⟨bs,es⟩=some (.ret (.br []),⟨bs.set b (.cells (pre++pv 19 (jP p k)++post) ty),es⟩):=by
 have hi:k / 64<19:=by omega
 have dy:Hp.get ⟨bs,[]⟩ b=some (.cells (pre++pv 19 p++post) ty):=hb;have cU:nth (pre++pv 19 p++post) (off+k / 64)=some (.int .u64 (kL p (k / 64):Nat)):=by
  rw[zg,<- ho,xG jE hi,yI hi]
 have gx:zk prog ⟨bs,[]⟩ gl.g 48 (.ptr b (off+k / 64))=some (.int .u64 (kL p (k / 64):Nat)):=by
  rw[jU,dy,jx,qu,ng,El,T4,cU]
 have oO:wz [] b (off+k / 64) 1 ((pre++pv 19 p++post).drop (off+k / 64))=true:=yp λi h=>by
  obtain rfl:i=0:=by omega
  exact⟨_,by rw[nZ,<- zg,cU],rfl⟩
 refine zl0 (hg.hk _ _ (by decide)) (λH=>hg.fA _ _ _ _) func56 rfl ?_
 rw[hg.uq];refine ja (tk:=[]) (by kernel_rfl) (by kernel_rfl) ?_
 simp only[f56,List.replicate,List.length,bh,aZ]
 simp only[jV,au,ng,lM,zK,zV,zG,zT,qw,zU,ak,zL,qq,zd,ze,zr,aM,aq,bS,bT,ql,zR,aS,aT,aa,aE,aj,
  zkK (show k<2 ^ 60 by omega),Uu hi,gx,zkL,zl8 (Nat.mod_lt k (by decide)),XQ wd (HP (show 1<2 by decide) (Nat.mod_lt k (show 64 > 0 by decide))),zl7,qr,El]
 rw[ze5 (n:=1) dy rfl rfl (by simp[jE,<- ho];omega) oO]
 simp only[bu,bk,zq,Vm.Fin,V.laid,Vm.storeCells,aq]
 refine⟨trivial,[],rfl,rfl,?_⟩;rw[jR (by simp[V.top]),<- ho,XR jE hi,zpS]
 have:=z9 (bs:=bs.set b (.cells (pre++pv 19 (jP p k)++post) ty)) (ls:=[]) (es:=es) (t:=0) (ec _);rw[m7,bD] at this;exact this.symm
end Go.Proofs.YthohlnmcjkjeiaaGreatDoor
