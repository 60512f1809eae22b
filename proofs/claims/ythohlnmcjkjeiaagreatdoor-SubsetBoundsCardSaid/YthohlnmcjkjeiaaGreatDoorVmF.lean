/- Seat 8: what the walks stand on. Conditions: none but those named. -/
import Derived.Test.YthohlnmcjkjeiaaGreatDoorProg
import Derived.KernelRfl
import Derived.Test.YthohlnmcjkjeiaaGreatDoorVmD
namespace Go.Proofs.YthohlnmcjkjeiaaGreatDoor
open Go.Proofs.Tryz
set_option maxRecDepth 100000
open Go Go.Vm
def eg(e:aD):Bool:=Nat.beq e 115 || Nat.beq e 157 || Nat.beq e 117 || Nat.beq e (w8 205)
structure GW(gl:Gl):Prop where
 uq:gl.uq=eg
 fq:∀n f args H,gl.fq n f args H=none
 tab:∀o,o<64->gl.g 4 o=nth A5 o
 hk:∀f args,([55,56,57,58,59,88,89,90,91,92,93,94,95,96,14].any (Nat.beq f))=true->gl.hk f args=none
theorem DQ:z4 prog 48=some 1:=by kernel_rfl
theorem m_:qG prog 48=some false:=by kernel_rfl
theorem u60:prog.underlying 115=some (.array 19 48):=by kernel_rfl
theorem Tz{b off i:Nat}(h:i<19):zt prog 115 (.ptr b off) i=some (.ptr b (off+i)):=by
 simp only[zt,u60,DQ];simp;omega
variable{gl:Gl}
theorem zjl(hg:GW gl){n:Nat}{bs:List bq}{es:aP}{b off:Nat}{pre post:aG}{p:Nat->Bool}{ty:aD}{k:Nat}(hb:nth bs b=some (.cells (pre++pv 19 p++post) ty))(ho:pre.length=off)(hk:k<1216) :
  zj prog gl (n+1) 56 [.ptr b off,.int .i64 k] ⟨bs,es⟩=some (.ret (.bx []),⟨bs.set b (.cells (pre++pv 19 (jT p k)++post) ty),es⟩):=by
 have hi:k / 64<19:=by omega
 have dJ:Hp.get ⟨bs,[]⟩ b=some (.cells (pre++pv 19 p++post) ty):=hb;have dy:nth (pre++pv 19 p++post) (off+k / 64)=some (.int .u64 (kN p (k / 64):Nat)):=by
  rw[zg,<- ho,xE jH hi,yK hi]
 have gy:zk prog ⟨bs,[]⟩ gl.g 48 (.ptr b (off+k / 64))=some (.int .u64 (kN p (k / 64):Nat)):=by
  rw[jX,dJ,jB,qy,m_,DQ,S5,dy]
 have oV:wr [] b (off+k / 64) 1 ((pre++pv 19 p++post).drop (off+k / 64))=true:=yx λi h=>by
  obtain rfl:i=0:=by omega
  exact⟨_,by rw[om,<- zg,dy],rfl⟩
 refine zlC (hg.hk _ _ (by decide)) (λH=>hg.fq _ _ _ _) func56 rfl ?_
 rw[hg.uq];refine jo (tk:=[]) (by kernel_rfl) (by kernel_rfl) ?_
 simp only[f56,List.replicate,List.length,br,bt]
 simp only[jY,au,m_,lJ,zJ,zW,zG,zU,qr,zV,ak,zL,qo,zd,ze,zq,aN,aq,bX,bY,qj,zS,aW,aV,aa,aF,aj,
  zkp (show k<2 ^ 60 by omega),Tz hi,gy,zkq,zlJ (Nat.mod_lt k (by decide)),WL wd (G2 (show 1<2 by decide) (Nat.mod_lt k (show 64 > 0 by decide))),zlI,qp,DQ]
 rw[zeL (n:=1) dJ rfl rfl (by simp[jH,<- ho];omega) oV]
 simp only[bB,bu,zp,Vm.Fin,V.laid,Vm.storeCells,aq]
 refine⟨trivial,[],rfl,rfl,?_⟩;rw[jV (by simp[V.top]),<- ho,WM jH hi,zpc]
 have:=zY (bs:=bs.set b (.cells (pre++pv 19 (jT p k)++post) ty)) (ls:=[]) (es:=es) (t:=0) (dP _);rw[nk,bI] at this;exact this.symm
end Go.Proofs.YthohlnmcjkjeiaaGreatDoor
