/- Seat 7: Ends is walked; Seat 7: Next is walked; Seat 7: the laws' small functions, out of their trees. Conditions: none but those that each theorem names. -/
import Derived.Test.YtlnijcffanjieaaGreatDoorVmF
import Derived.Test.YtlnijcffanjieaaGreatDoorVmG
import Derived.Test.YtlnijcffanjieaaGreatDoorVmK
namespace Go.Proofs.YtlnijcffanjieaaGreatDoor
set_option maxRecDepth 100000
open Go Go.Vm
variable {gl:Gl}
def erA:V:=.ifc 373 (.obj 0)
structure GWC (gl:Gl):Prop extends GW gl where
 chk:∀ e,Wf e->Can e->gl.hk 11 [enc e]=some (.bool (vC e))
 g0:gl.g 0 0=some erA
 hkN:∀ f args,([14,16].any (Nat.beq f))=true->gl.hk f args=none
theorem e11 (hg:GWC gl) {e:E} (hw:Wf e) (hc:Can e) {n:Nat} (hn:1<=n) (H:Hp):Cx.callF ⟨Tryz.prog,gl.g,callA Tryz.prog gl n,uqw⟩ 11 [.agg (ecells e)] H=some (.val (.bool (vC e)),H):=by
 have:=y6 (n:=n - 1) (H:=H) (hg.chk e hw hc);rw [show n - 1+1=n by omega,qJ] at this
 exact qb Tryz.func11 rfl this
theorem ag38:km Tryz.prog 38=some false:=by kernel_rfl
theorem zpy {H:Hp} {g:Nat->Nat->Option V} {b:Nat} {e:E} (h:H.get b=some (.cells (ecells e) 27)):zM Tryz.prog H g 27 (.ptr b 0)=some (.agg (ecells e)):=by
 rw [yi ag27 sz27 h (by rw [qB];decide),zBg,zBC (by rw [qB];decide)]
def okP (e:E) (t:List Nat):Bool:=vC e && decide (t.length<=65536)
def kR (e:E) (t:List Nat):List Nat:=match foW e with|some w=>yB w t|none=>[]
def zcC (e:E) (t:List Nat):V:=if okP e t then .tup [clr (qZ 1 3 (jW (kR e t))),.nili] else .tup [.snil,erA]
theorem e14 (hg:GWC gl) {e:E} {nl:Bool} {t:List Nat} (hw:Wf e) (hc:Can e) (hr:Rg e) (ht:∀ b∈t,b<256) {n:Nat} (hn:2 * YtlnijcffanjieaaGreatDoor.hg e+t.length+2<=n):∃ H',callA Tryz.prog gl (n+1) 14 [enc e,qP nl t] ⟨[],[]⟩=some (.ret (zcC e t),H'):=by
 suffices hmain:go ⟨Tryz.prog,gl.g,callA Tryz.prog gl n,gl.uq⟩ n (Fx Tryz.prog Tryz.f14.results.toList fun u H1=>u=zcC e t) [.c (Tryz.f14.body.getD .skip)] .normal ⟨[.agg (ecells e),qP nl t]++List.replicate 17 (.tup []),⟨[],[]⟩,[],[]⟩ by
  rw [qJ];obtain ⟨u,H1,h1,rfl⟩:=kM (gl:=gl) (f:=14) (bs:=[]) (es:=[]) (args:=[.agg (ecells e),qP nl t]) (n:=n) (hg.hkN _ _ (by decide)) (fun H=>hg.hk2 _ _ _ _) Tryz.func14 rfl hmain
  exact ⟨_,h1⟩
 rw [hg.uq];have h11:=e11 hg hw hc (n:=n) (by omega)
 simp only [Tryz.f14,zA2,ze];refine zc (tk:=[]) (by kernel_rfl) ?_
 simp only [zl,go_os_nil,ze,q5,zd,zh,zo,ofVal,zW,zf,opQ_val,zr,zAB,qd,List.length_nil,zAV,zAT,zi,zAG,zAH,jf (show okC (.agg (ecells e))=true from rfl),V.laid,y7,List.replicate,List.length_nil]
 have hB:nth ([]++[Blk.cells (ecells e) 27]) 0=some (.cells (ecells e) 27):=rfl;have hld:∀ g,zM Tryz.prog ⟨[.cells (ecells e) 27],[]⟩ g 27 (.ptr 0 0)=some (.agg (ecells e)):=fun g=>zpy rfl;refine zc (tk:=[]) (by kernel_rfl) ?_
 simp only [zl,zj,zn,qM,zV,peeks,zN,peek,zb,opQ_val,zr,zk,jv,zu,zAC,zAB,zF,qo,zAW,zAi,zi,zp,zAG,zAH,hld,h11,unA];have hl0:∀ H,zM Tryz.prog H gl.g 38 (.gptr 0 0)=some erA:=fun H=>by simp [zM,ag38,hg.g0]
 cases hch:vC e
 ·simp only [zl,go_os_nil,ze,go_skip,zj,zv,zS,qq,peek,ofVal,zb,opQ_val,zr,zq,zk,zAC,zAB,zAa,zD,zK,z6,zi,zp,zAG,zAH,jb,zQ,qm,wantB_ft,wG,zAy,qI,za7,wQ]
  refine .inl ?_;refine yh [] [(false,false),(false,false),(false,false)] (tk:=[]) (by kernel_rfl) (by kernel_rfl) ?_
  simp only [zn,zd,peek,zh,zo,ofVal,zb,zf,zr,zAC,zAB,zAa,jg,zi,zp,zAG,zAH,oj_cons,oj_nil,xr,wj,ag38,hl0,erA,qw,qz];simp only [go_ret,zB,qH,Fx]
  refine ⟨trivial,[.snil,erA],rfl,?_⟩;simp only [zcC,okP,hch,tupOf,zBu,zAD,if_false];rfl
 ·simp only [zl,go_os_nil,ze,go_skip,zj,zv,zS,qq,peek,ofVal,zb,opQ_val,zr,zq,zk,zAC,zAB,zD,zK,z7,zi,zp,zAG,zAH,jb,zQ,qm,wantB_ff,wx,zAo,qI,za7,wQ]
  by_cases hlen:(t.length:Int) > 65536
  ·refine .inl ⟨by simpa using hlen,?_⟩
   refine yh [] [(false,false),(false,false),(false,false)] (tk:=[]) (by kernel_rfl) (by kernel_rfl) ?_
   simp only [zn,zd,peek,zh,zo,ofVal,zb,zf,zr,zAC,zAB,zAa,jg,zi,zp,zAG,zAH,oj_cons,oj_nil,xr,wj,ag38,hl0,erA,qw,qz];simp only [go_ret,zB,qH,Fx]
   refine ⟨trivial,[.snil,erA],rfl,?_⟩;have:¬ t.length<=65536:=by omega
   simp only [zcC,okP,hch,tupOf,this,decide_false,zBk,zAD,if_false];rfl
  ·refine .inr ⟨by simpa using hlen,?_⟩
   have hle:t.length<=65536:=by omega
   have hcor:=zdT hch;obtain ⟨v,bs',es',h45,hnew,hes,hres⟩:=zkI hg.toGW _ e (zAQ _) hcor (n - 1) (by omega) [.cells (ecells e) 27] []
   rw [show n - 1+1=n by omega,qJ,zBG] at h45
   have c45:=qb (gl:=gl.g) (uq:=uqw) Tryz.func45 rfl h45;have hcc:∀ l env t,kb env t (some (clr (qZ 1 3 (jW l))))=some (clr (qZ 1 3 (jW l)),env):=fun l _ _=>by cases jW l<;>rfl
   have hc2:∀ l,clr (clr (qZ 1 3 (jW l)))=clr (qZ 1 3 (jW l)):=fun l=>by cases jW l<;>rfl
   have hE:okP e t=true:=by simp [okP,hch,hle]
   cases hfw:foW e with
   | none =>
    rw [hfw] at hres;obtain rfl:v=.nili:=hres;have h44:=zkJ hg.toGW (n:=n - 1) (bs:=bs') (es:=es') (nl:=nl) (t:=t);rw [show n - 1+1=n by omega] at h44
    have c44:=qb (gl:=gl.g) (uq:=uqw) Tryz.func44 rfl h44;refine zc (tk:=[]) (by kernel_rfl) ?_
    simp only [zl,go_os_nil,zj,zn,zd,zV,peeks,zN,peek,zh,zo,ofVal,qi,zb,zf,opQ_val,zr,jv,zu,zAC,zAB,zF,qo,zAW,zAi,zi,zp,zAG,zAH,hld,c45,c44,qI,clr_nili]
    simp only [go_ret,zB,Fx]
    refine ⟨trivial,[.snil,.nili],rfl,?_⟩;simp [zcC,hE,kR,hfw,tupOf,jW,qZ,clr]
   | some w =>
    rw [hfw] at hres;obtain ⟨hi,hhi,hat⟩:=hres;have hFW:=foW_FW _ e w (zAQ _) hfw;obtain ⟨bs2,h44,_,_⟩:=e44 hg.toGW (n:=n - 1) (es:=es') (nl:=nl) (t:=t) hat (foW_rg _ e w (zAQ _) hcor hr hfw) hhi (by omega) (by omega) ht hle
    obtain ⟨vt,vu,rfl⟩:=hat.ifc;rw [show n - 1+1=n by omega] at h44
    have c44:=qb (gl:=gl.g) (uq:=uqw) Tryz.func44 rfl h44;refine zc (tk:=[]) (by kernel_rfl) ?_
    simp only [zl,go_os_nil,zj,zn,zd,zV,peeks,zN,peek,zh,zo,ofVal,zb,zf,opQ_val,zr,jv,zu,zAC,zAB,zF,qo,zAW,zAi,zi,zp,zAG,zAH,hld,c45,c44,qI,qw,hcc]
    simp only [go_ret,zB,Fx]
    refine ⟨trivial,[clr (qZ 1 3 (jW (yB w t))),.nili],?_,?_⟩
    ·simp only [zU,zi,zp]
    ·simp only [zcC,hE,kR,hfw,tupOf,if_true,zAW,zAi,hc2,clr_nili]
end Go.Proofs.YtlnijcffanjieaaGreatDoor
namespace Go.Proofs.YtlnijcffanjieaaGreatDoor
set_option maxRecDepth 100000
open Go Go.Vm
variable {gl:Gl}
def zqi (e:E) (t:List Nat):St4:=match foW e with|some w=>nxW (runE w 0 t) (t.length == 0)|none=>st0
def zg4 (e:E) (t:List Nat):V:=if okP e t then .tup [stV (zqi e t),.nili] else .tup [stV st0,erA]
theorem e16 (hg:GWC gl) {e:E} {nl:Bool} {t:List Nat} (hw:Wf e) (hc:Can e) (hr:Rg e) (ht:∀ b∈t,b<256) {n:Nat} (hn:2 * YtlnijcffanjieaaGreatDoor.hg e+t.length+2<=n):∃ H',callA Tryz.prog gl (n+1) 16 [enc e,qP nl t] ⟨[],[]⟩=some (.ret (zg4 e t),H'):=by
 suffices hmain:go ⟨Tryz.prog,gl.g,callA Tryz.prog gl n,gl.uq⟩ n (Fx Tryz.prog Tryz.f16.results.toList fun u H1=>u=zg4 e t) [.c (Tryz.f16.body.getD .skip)] .normal ⟨[.agg (ecells e),qP nl t]++List.replicate 40 (.tup []),⟨[],[]⟩,[],[]⟩ by
  rw [qJ];obtain ⟨u,H1,h1,rfl⟩:=kM (gl:=gl) (f:=16) (bs:=[]) (es:=[]) (args:=[.agg (ecells e),qP nl t]) (n:=n) (hg.hkN _ _ (by decide)) (fun H=>hg.hk2 _ _ _ _) Tryz.func16 rfl hmain
  exact ⟨_,h1⟩
 rw [hg.uq];have h11:=e11 hg hw hc (n:=n) (by omega)
 simp only [Tryz.f16,zA2,ze];refine zc (tk:=[]) (by kernel_rfl) ?_
 simp only [zl,go_os_nil,ze,q5,qa,zd,zh,zo,ofVal,zW,zf,opQ_val,zr,zAB,qd,zAS,List.length_nil,zAU,zAV,zAT,zi,zAG,zAH,jf (show okC (.agg (ecells e))=true from rfl),V.laid,y7,zeP,List.replicate,List.length_nil]
 have hld:∀ g S,zM Tryz.prog ⟨[.cells (ecells e) 27,S],[]⟩ g 27 (.ptr 0 0)=some (.agg (ecells e)):=fun g S=>zpy rfl;have hst:∀ env s bs es,jY Tryz.prog 24 ⟨Blk.cells (ecells e) 27::Blk.cells (stV st0).cells 24::bs,es⟩ [] [] (some (stV s,env)) (some (.ptr 1 0))=some (.skip,⟨env,⟨Blk.cells (ecells e) 27::.cells (stV s).cells 24::bs,es⟩,[],[]⟩):=fun env s bs es=>by rw [zar rfl];rfl
 have hlr:∀ g s bs es,zM Tryz.prog ⟨Blk.cells (ecells e) 27::.cells (stV s).cells 24::bs,es⟩ g 24 (.ptr 1 0)=some (stV s):=fun g s bs es=>zeO rfl;refine zc (tk:=[]) (by kernel_rfl) ?_
 simp only [zl,zj,zn,qM,zV,peeks,zN,peek,zb,opQ_val,zr,zk,jv,zu,zAC,zAB,zF,qo,zAW,zAi,zi,zp,zAG,zAH,hld,h11,unA]
 have hl0:∀ H,zM Tryz.prog H gl.g 38 (.gptr 0 0)=some erA:=fun H=>by simp [zM,ag38,hg.g0]
 cases hch:vC e
 ·simp only [zl,go_os_nil,ze,go_skip,zj,zv,zS,qq,peek,ofVal,zb,opQ_val,zr,zq,zk,zAC,zAB,zAa,zD,zK,z6,zi,zp,zAG,zAH,jb,zQ,qm,wantB_ft,wG,zAy,qI,za7,wQ]
  refine .inl ?_;refine yh [1] [(false,false),(true,false),(false,true),(false,false)] (tk:=[]) (by kernel_rfl) (by kernel_rfl) ?_
  simp only [zn,zE,ql,zd,peek,zh,zb,zf,zr,zu,zAC,zAB,zAa,jg,zi,zp,zAG,zAH,oj_cons,oj_nil,xr,zeI,wj,vX,ag38,zfY,vA,hl0,erA,qw,qz,hst]
  refine ⟨fun _=>zfX (p:=.gptr 0 0) rfl (hl0 _) rfl,?_⟩;simp only [go_ret,zB,qH,Fx]
  refine ⟨trivial,[stV st0,erA],?_,?_⟩
  ·simp only [zU,zi,zp,hlr];rfl
  ·simp only [zg4,okP,hch,tupOf,zBu,zAD,if_false];rfl
 ·simp only [zl,go_os_nil,ze,go_skip,zj,zv,zS,qq,peek,ofVal,zb,opQ_val,zr,zq,zk,zAC,zAB,zD,zK,z7,zi,zp,zAG,zAH,jb,zQ,qm,wantB_ff,wx,zAo,qI,za7,wQ]
  by_cases hlen:(t.length:Int) > 65536
  ·refine .inl ⟨by simpa using hlen,?_⟩
   refine yh [1] [(false,false),(true,false),(false,true),(false,false)] (tk:=[]) (by kernel_rfl) (by kernel_rfl) ?_
   simp only [zn,zE,ql,zd,peek,zh,zb,zf,zr,zu,zAC,zAB,zAa,jg,zi,zp,zAG,zAH,oj_cons,oj_nil,xr,zeI,wj,vX,ag38,zfY,vA,hl0,erA,qw,qz,hst]
   refine ⟨fun _=>zfX (p:=.gptr 0 0) rfl (hl0 _) rfl,?_⟩;simp only [go_ret,zB,qH,Fx]
   refine ⟨trivial,[stV st0,erA],?_,?_⟩
   ·simp only [zU,zi,zp,hlr];rfl
   ·have:¬ t.length<=65536:=by omega
    simp only [zg4,okP,hch,tupOf,this,decide_false,zBk,zAD,if_false];rfl
  ·refine .inr ⟨by simpa using hlen,?_⟩
   have hle:t.length<=65536:=by omega
   have hcor:=zdT hch;obtain ⟨v,bs',es',h45,hnew,hes,hres⟩:=zkI hg.toGW _ e (zAQ _) hcor (n - 1) (by omega) [.cells (ecells e) 27,.cells (stV st0).cells 24] []
   rw [show n - 1+1=n by omega,qJ,zBG] at h45
   have c45:=qb (gl:=gl.g) (uq:=uqw) Tryz.func45 rfl h45;have hE:okP e t=true:=by simp [okP,hch,hle]
   obtain ⟨l,rfl,hl⟩:=hnew;simp only [zAV,zAT] at c45 hres;cases hfw:foW e with
   | none =>
    rw [hfw] at hres;obtain rfl:v=.nili:=hres;refine zc (tk:=[]) (by kernel_rfl) ?_
    simp only [zl,go_os_nil,ze,zn,zd,zV,peeks,zN,peek,zh,zb,zf,opQ_val,zr,jv,zu,zAC,zAB,zF,qo,zAW,zAi,zi,zp,zAG,zAH,hld,c45,zag]
    refine zc (tk:=[]) (by kernel_rfl) ?_
    simp only [zl,go_os_nil,ze,go_skip,zj,zv,peek,ofVal,zb,opQ_val,zr,zk,zAa,zD,zK,zi,zp,zAG,zAH,clr_nili,zg2,zAa,zA3,zBB,zBx]
    refine zc (tk:=[]) (by kernel_rfl) ?_
    simp only [zl,go_os_nil,zE,ql,zd,peek,zh,zo,ofVal,zb,zf,opQ_val,opQ_skip,zr,zu,zAB,zi,zp,zAG,zAH,zfY,vA,hst]
    simp only [go_ret,zB,qH,Fx]
    refine ⟨trivial,[stV st0,.nili],?_,?_⟩
    ·simp only [zU,zi,zp,hlr];rfl
    ·simp only [zg4,hE,zqi,hfw,tupOf,if_true];rfl
   | some w =>
    rw [hfw] at hres;obtain ⟨hi,hhi,hat⟩:=hres;have hFW:=foW_FW _ e w (zAQ _) hfw;have hrg:=foW_rg _ e w (zAQ _) hcor hr hfw;obtain ⟨vt,vu,rfl⟩:=hat.ifc;refine zc (tk:=[]) (by kernel_rfl) ?_
    simp only [zl,go_os_nil,ze,zn,zd,zV,peeks,zN,peek,zh,zb,zf,opQ_val,zr,jv,zu,zAC,zAB,zF,qo,zAW,zAi,zi,zp,zAG,zAH,hld,c45,qz]
    refine zc (tk:=[]) (by kernel_rfl) ?_
    simp only [zl,go_os_nil,ze,go_skip,zj,zv,peek,ofVal,zb,opQ_val,zr,zk,zAa,zD,zK,zi,zp,zAG,zAH,qw,zg1,zAa,zAD,zBB,zBl]
    refine zc (tk:=[]) (by kernel_rfl) ?_
    simp only [zl,go_os_nil,zO,zj,qq,peek,ofVal,zb,opQ_val,zr,zAC,zAB,zi,zp,zAG,zAH,qI,za7]
    have hnb:∀ k:Nat,((k:Int) == 0)=(k == 0):=fun k=>by
     cases k with
     | zero=>rfl
     | succ k=>exact (beq_false_of_ne (by omega)).trans (beq_false_of_ne (by omega)).symm
    refine yF (fun m s=>∃ k env B w',m+k=t.length/\s=⟨env,⟨B,es'⟩,[],[]⟩/\env.length=42/\nth env 1=some (qP nl t)/\nth env 4=some (.ptr 1 0)/\nth env 6=some (.ifc vt vu)/\nth env 24=some (qP nl t)/\nth env 25=some (.int .i64 t.length)/\nth env 26=some (.int .i64 (k:Nat))/\At B w' 2 hi (.ifc vt vu)/\nth B 1=some (.cells (stV st0).cells 24)/\hi<=B.length/\2<=B.length/\FW w'=FW w/\RgW w'/\runE w 0 t=runE w' k (t.drop k)) t.length (by omega) ⟨0,_,_,w,rfl,rfl,rfl,rfl,rfl,rfl,rfl,rfl,rfl,hat,rfl,hhi,by simp,rfl,hrg,rfl⟩ ?_
    rintro m s ⟨k,env,B,w',hmk,rfl,hel,g1,g4,g6,g24,g25,g26,hat,hB1,hhB,hB2,hFW',hrg',hrun⟩;simp only [ze];refine zc (tk:=[]) (by kernel_rfl) ?_
    simp only [zl,go_os_nil,ze,go_skip,zO,zv,peek,zb,opQ_val,zr,zq,zk,zD,zK,if_true,za,Nat.reduceLT,if_true,g25,g26,hel,wA]
    by_cases hk:k<t.length
    ·refine .inl ⟨by simp;omega,?_⟩
     obtain ⟨b,hb⟩:∃ b,t[k]?=some b:=⟨t[k],by simp [hk]⟩
     have hbl2:b<256:=ht b (zAg hb);have hdr:t.drop k=b::t.drop (k+1):=by
      rw [zBI hk];rw [zAX hk] at hb;rw [zBD hb]
     rw [hdr] at hrun;simp only [runE] at hrun;obtain ⟨bs2,a1,a2,a3,a4⟩:=zfZ hg.toGW (FW w') hat hrg' hhB (zAQ _) (n:=n) (by omega) (k == 0) b hbl2 es'
     have hst:=fun env=>kE (lk:=[]) (df:=[]) (env:=env) a1;rw [hg.uq] at hst
     try simp only [go_skip,ze,zO]
     refine zc (tk:=[]) (by kernel_rfl) ?_
     simp only [zl,go_os_nil,zj,zn,zd,zG,Nat.reduceEqDiff,peek,zh,qn,zb,zf,opQ_val,zr,zq,jd,zAC,zAB,jz,if_true,za,zAR,Nat.reduceLT,if_true,if_false,g24,g26,hel,qI,jz,zpv hb,zpw]
     refine zc (tk:=[]) (by kernel_rfl) ?_
     simp only [zl,go_os_nil,qW,zj,zv,Nat.reduceEqDiff,peeks,zN,peek,ofVal,zb,opQ_val,zr,zq,zk,if_true,za,zAR,Nat.reduceLT,if_true,if_false,g6,hel,qw,jH,hnb,qk,hst]
     refine zc (tk:=[]) (by kernel_rfl) ?_
     simp only [zl,go_os_nil,zj,zv,Nat.reduceEqDiff,peek,ofVal,zb,opQ_val,zr,zq,if_true,za,zAR,Nat.reduceLT,if_true,if_false,g26,hel,jL (show k<2 ^ 60 by omega),zB,thn_normal]
     refine ⟨m - 1,by omega,k+1,_,bs2,_,by omega,rfl,?_,?_,?_,?_,?_,?_,?_,a2,(a4 1 (by omega)).trans hB1,by omega,by omega,(FW_st _ _ _ _ (zAQ _)).trans hFW',Rg_st _ _ _ _ (zAQ _) hrg',hrun⟩
     ·simp [hel]
     ·simp [za,g1]
     ·simp [za,g4]
     ·simp [za,g6]
     ·simp [za,g24]
     ·simp [za,g25]
     ·simp [za,hel]
    ·refine .inr ⟨by simp;omega,?_⟩
     obtain rfl:k=t.length:=by omega
     rw [List.drop_length] at hrun;simp only [runE] at hrun;have hnx:=fun env=>kE (lk:=[]) (df:=[]) (env:=env) (ziv hg.toGW (FW w') hat hrg' hhB (zAQ _) (n:=n) (by omega) (t.length == 0) es')
     rw [hg.uq] at hnx;have hst2:∀ env s,jY Tryz.prog 24 ⟨B,es'⟩ [] [] (some (stV s,env)) (some (.ptr 1 0))=some (.skip,⟨env,Hp.set ⟨B,es'⟩ 1 (.cells (stV s).cells 24),[],[]⟩):=fun env s=>zar hB1;have hlr2:∀ g s,zM Tryz.prog (Hp.set ⟨B,es'⟩ 1 (.cells (stV s).cells 24)) g 24 (.ptr 1 0)=some (stV s):=fun g s=>zeO (by rw [zdR,show Hp.get ⟨B,es'⟩ 1=some _ from hB1];simp)
     simp only [yE,wC,kW,zB,thn_exit,ze,zBO,if_true,zB]
     refine zc (tk:=[]) (by kernel_rfl) ?_
     simp only [zl,go_os_nil,zj,zE,zv,zd,qq,Nat.reduceEqDiff,peeks,zN,peek,zh,zo,ofVal,zb,zf,opQ_val,opQ_skip,zr,zq,zk,zu,zAC,zAB,if_true,za,zAR,Nat.reduceLT,if_true,if_false,g1,g4,g6,hel,qI,za7,qw,jH,hnb,qk,hnx,vA,hst2]
     simp only [go_ret,zB,Fx]
     refine ⟨trivial,[stV (nxW w' (t.length == 0)),.nili],?_,?_⟩
     ·simp [zU,za,hel,g4,hlr2];rfl
     ·simp only [zg4,hE,zqi,hfw,hrun,tupOf,if_true];rfl
end Go.Proofs.YtlnijcffanjieaaGreatDoor
namespace Go.Proofs.YtlnijcffanjieaaGreatDoor
set_option maxRecDepth 10000
open Go Go.Vm Go.Vm.Sx
variable {gl:Gl} [NoU gl]
theorem lent11:wi Tryz.prog Tryz.f11.params.toList=some []:=by kernel_rfl
theorem lent13:wi Tryz.prog Tryz.f13.params.toList=some []:=by kernel_rfl
theorem lent15:wi Tryz.prog Tryz.f15.params.toList=some []:=by kernel_rfl
theorem lent19:wi Tryz.prog Tryz.f19.params.toList=some []:=by kernel_rfl
theorem zrh {x:V}:vy Tryz.prog [34] [.d x] 0:=by
 refine ⟨fun e=>?_,trivial⟩;rw [Tryz.underlying34];simp
theorem zqj {x y:V}:vy Tryz.prog [36,3] [.d x,.d y] 0:=by
 refine ⟨fun e=>?_,fun e=>?_,trivial⟩
 ·rw [Tryz.underlying36];simp
 ·rw [Tryz.underlying3];simp
theorem zqk {x:V}:vy Tryz.prog [25] [.d x] 0:=by
 refine ⟨fun e=>?_,trivial⟩;rw [Tryz.underlying25];simp
theorem zri (hgl:GL gl):∀ (e:E),Wf e->Ev Tryz.prog gl 11 [.d (enc e)] [] (.bool (vC e)) []
 | .mk op pl s0 s1 s2 s3 text mn mx nl args,hw=>by
  refine kx (xs:=[enc (.mk op pl s0 s1 s2 s3 text mn mx nl args)]) hgl.top (hgl.no 11 rfl) tree11_ok Tryz.func11 lent11 zoN (by simp [tops,top_enc]) (N:=1) ?_
  have hc:=wI (zqP hgl (.mk op pl s0 s1 s2 s3 text mn mx nl args) hw 1 0 0);simp only [zis,zgY,zeN,enc] at hc;simp only [tree11,enc,vC];simp only [zZ,qf,ev_opn,qj,qA,qF,qO,qg,ki,yD,kL,ks_nil,zAd,qG,zC,zJ,xq,evI,zA,evC,zH,kG,evA,qp,jP,joinL,sizesOk,zq,qN,zBO,zAS,List.length_nil,yq,hc,jN]
def nvL (l:List Nat):V:=lv 1 true (jW l)
theorem znG (l:List Nat):kOk (.sl 1) (nvL l)=true:=znh ..
theorem zjv (l:List Nat):vL (nvL l)=jW l:=zig ..
theorem xx (l:List Nat):clr (nvL l)=nvL l:=clr_lv ..
theorem tops_intL:∀ l:List Nat,tops (jW l)=0
 | []=>rfl
 | a::l=>by simp only [jW,zAW,tops];exact tops_intL l
theorem zkK (l:List Nat):(nvL l).top=0:=by unfold nvL;rw [zeF];exact tops_intL l
theorem zg5 (l:List Nat):clr (qZ 1 3 (jW l))=nvL l:=by cases l<;>rfl
theorem zeU (l:List Nat):(jW l).length=l.length:=by simp [jW]
theorem znH {l:List Nat} {i n:Nat} (h:l[i]?=some n):nth (jW l) i=some (.int .i64 (n:Nat)):=by rw [zw,jW,zAp,h];rfl
theorem zeV (nl:Bool) (t:List Nat):kOk (.sl 1) (qP nl t)=true:=znh ..
theorem kY (nl:Bool) (t:List Nat):vL (qP nl t)=t.map fun b=>V.int .u8 (b:Nat):=zig ..
theorem zau (nl:Bool) (t:List Nat):(qP nl t).top=0:=by
 unfold qP;rw [zeF]
 induction t with
 | nil=>rfl
 | cons a t ih=>simp only [zAW,tops];exact ih
theorem zkL (nl:Bool) (t:List Nat) (n:Nat):zjh (qP nl t) 0 (n:Int)=qP (nl && t.isEmpty) (t.take n):=by
 rcases lv_cases 1 nl (t.map fun b=>V.int .u8 (b:Nat)) with h|⟨h0,h⟩
 ·rw [qP,h];simp only [zjh,qP,lv,List.map_take,zAs,Int.toNat_zero,zBg];cases nl with
  | false=>simp
  | true =>
   cases t with
   | nil=>simp [lv] at h
   | cons a t=>simp
 ·have:t=[]:=by simpa using h0
  subst this;rw [qP,h];cases nl with
  | false=>simp [lv] at h
  | true=>simp [zjh,qP,lv]
def zeW (t:List Nat):List Nat:=if 40<t.length/\t.length<=65536 then t.take 40 else t
theorem znI (nl:Bool) (t:List Nat):qP nl t=qP (nl && t.isEmpty) t:=by
 cases nl<;>cases t<;>rfl
theorem zrY (hgl:GL gl) (nl:Bool) (t:List Nat):Ev Tryz.prog gl 13 [.d (qP nl t)] [] (qP (nl && t.isEmpty) (zeW t)) []:=by
 refine kx (xs:=[qP nl t]) hgl.top (hgl.no 13 rfl) tree13_ok Tryz.func13 lent13 zrh (by simp [tops,zau]) (N:=1) ?_
 simp only [tree13]
 by_cases h1:40<t.length
 ·by_cases h2:t.length<=65536
  ·have e1:ltz 40 (t.length:Int)=true:=ltz_t (by omega)
   have e2:lez (t.length:Int) 65536=true:=zdu (by omega)
   have e3:lez 40 (t.length:Int)=true:=zdu (by omega)
   have e4:=zkL nl t 40;have hT:zeW t=t.take 40:=if_pos ⟨h1,h2⟩;rw [hT];have e5:zjh (qP nl t) 0 40=qP (nl && t.isEmpty) (t.take 40):=e4;simp only [jV,qj,qF,zAd,evB,evI,evL,za1,kV,zeV,kY,e1,e2,zAj];rw [zaq]
   ·simp only [zZ,qf,qF,qO,zC,zJ,evI,zA,evC,zH,jP,e5]
   ·simp only [qF,Bool.and_true,evB,evI,evL,za1,kY,e3,zAj];rfl
  ·have e1:ltz 40 (t.length:Int)=true:=ltz_t (by omega)
   have e2:lez (t.length:Int) 65536=false:=zkt (by omega)
   have hT:zeW t=t:=if_neg (by omega)
   rw [hT,<- znI];simp only [ky,zZ,qf,qj,qF,qO,zBk,zC,zJ,evB,evI,evL,zA,evC,zH,jP,za1,kV,zeV,kY,e1,e2,zAj,qI]
 ·have e1:ltz 40 (t.length:Int)=false:=zaC (by omega)
  have hT:zeW t=t:=if_neg (by omega)
  rw [hT,<- znI];simp only [ky,zZ,qf,qj,qF,qO,zBu,zC,zJ,evB,evI,evL,zA,evC,zH,jP,za1,kV,zeV,kY,e1,zAj,qI]
theorem zrZ (hgl:GL gl) (l:List Nat) (n:Nat) (hl:l.length<=maxLen):Ev Tryz.prog gl 15 [.d (nvL l),.d (.int .i64 (n:Nat))] [] (.bool (l.contains n)) []:=by
 refine kx (xs:=[nvL l,.int .i64 (n:Nat)]) hgl.top (hgl.no 15 rfl) tree15_ok Tryz.func15 lent15 zqj (by simp [tops,V.top,zkK]) (N:=l.length+1) ?_
 have hml:=maxLen_le;have key:∀ (r:List Nat) (i:Nat),l.drop i=r->∀ k,r.length<k->zcv (phE Tryz.prog gl) gl.g (l.length+1) lp15_1 [nvL l,.int .i64 (n:Nat)] k [.int .i64 (i:Int)]=some (0,[.bool (r.contains n)]):=by
  simp only [lp15_1];intro r
  induction r with
  | nil =>
   intro i hd k hk;obtain ⟨k,rfl⟩:∃ k',k=k'+1:=⟨k - 1,by omega⟩
   refine vP ?_;have h1:=zfR (zc3 hd);simp only [ky,zZ,ev_esc,qf,qF,qO,zC,zJ,evB,evI,evL,zA,evC,zH,jP,zY,qS,zjv,zeU,h1,List.contains_nil]
  | cons a r ih =>
   intro i hd k hk;obtain ⟨k,rfl⟩:∃ k',k=k'+1:=⟨k - 1,by omega⟩
   obtain ⟨ha,hi,hd'⟩:=zc2 hd;have h1:=zdv hi;have h2:=znH ha;have h4:=zir (i:=i) (by omega)
   have hq:((a:Int) == (n:Int))=(n == a):=by
    rw [zBh];simp;omega
   cases hc:n == a with
   | true =>
    refine vP ?_;rw [hc] at hq;simp only [List.contains_cons,hc,zBs];simp only [jV,zZ,ev_esc,qf,jR,qj,qF,qO,ki,wL,zC,zJ,evB,evI,evL,zA,evC,zH,jP,zY,qS,ko,wF,zjv,zeU,h1,h2,hq,zAs]
   | false =>
    rw [hc] at hq;simp only [List.contains_cons,hc,zBK];refine y4 (vs:=[.int .i64 ((i+1:Nat):Int)]) ?_ (ih (i+1) hd' k (by simp at hk;omega))
    simp only [jV,ky,zZ,jR,qj,qF,qO,ki,wL,zC,zJ,evB,evI,evL,zA,evC,zY,qS,ko,biI,wF,zjv,zeU,h1,h2,h4,hq,zAs]
 simp only [tree15];simp only [qj,vV,qF,qO,ki,evI,zA,evC,znG];exact zcw (key l 0 rfl _ (by omega))
def zjw (l:List E):E:=.mk 5 0 0 0 0 0 [] 0 0 false l
theorem zlO (nl:Bool):∀ l:List E,(jM nl (encs l)).top=0:=fun l=>by
 have:=top_enc (.mk 0 0 0 0 0 0 [] 0 0 nl l);simp [enc,V.top,tops] at this;exact this
theorem zr0 (hgl:GL gl) (l:List E):Ev Tryz.prog gl 19 [.d (jM false (encs l))] [] (enc (zjw l)) []:=by
 refine kx (xs:=[jM false (encs l)]) hgl.top (hgl.no 19 rfl) tree19_ok Tryz.func19 lent19 zqk (by simp [tops,zlO]) (N:=1) ?_
 simp only [tree19,enc,zjw];simp only [zZ,qf,qj,qF,qO,zC,zJ,evI,evS,zA,evC,zH,jP,yq,jN]
end Go.Proofs.YtlnijcffanjieaaGreatDoor
