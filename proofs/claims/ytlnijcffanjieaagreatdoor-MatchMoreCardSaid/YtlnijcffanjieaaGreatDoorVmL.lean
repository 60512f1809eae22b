/- Seat 7: Ends is walked; Seat 7: Next is walked; Seat 7: the laws' small functions, out of their trees. Conditions: none but those that each theorem names. -/
import Derived.Test.YtlnijcffanjieaaGreatDoorVmF
import Derived.Test.YtlnijcffanjieaaGreatDoorVmG
import Derived.Test.YtlnijcffanjieaaGreatDoorVmK
namespace Go.Proofs.YtlnijcffanjieaaGreatDoor
set_option maxRecDepth 100000
open Go Go.Vm
variable {gl:Gl}
def erA:V:=.ifc 373 (.obj 0)
structure GWC (gl:Gl):Prop extends GW gl where
 chk:∀ e,Wf e->Can e->gl.hk 11 [enc e]=some (.bool (vd e))
 g0:gl.g 0 0=some erA
 hkN:∀ f args,([14,16].any (Nat.beq f))=true->gl.hk f args=none
theorem e11 (hg:GWC gl) {e:E} (hw:Wf e) (hc:Can e) {n:Nat} (hn:1<=n) (H:Hp):Cx.callF ⟨Tryz.prog,gl.g,callA Tryz.prog gl n,uqw⟩ 11 [.agg (ecells e)] H=some (.val (.bool (vd e)),H):=by
 have:=yB (n:=n - 1) (H:=H) (hg.chk e hw hc);rw [show n - 1+1=n by omega,qt] at this
 exact zV Tryz.func11 rfl this
theorem ag38:jE Tryz.prog 38=some false:=by kernel_rfl
theorem zpa {H:Hp} {g:Nat->Nat->Option V} {b:Nat} {e:E} (h:H.get b=some (.cells (ecells e) 27)):zF Tryz.prog H g 27 (.ptr b 0)=some (.agg (ecells e)):=by
 rw [vF ag27 sz27 h (by rw [qm];decide),zBc,zA6 (by rw [qm];decide)]
def okP (e:E) (t:List Nat):Bool:=vd e && decide (t.length<=65536)
def wQ (e:E) (t:List Nat):List Nat:=match foW e with|some w=>zaa w t|none=>[]
def zeP (e:E) (t:List Nat):V:=if okP e t then .tup [clr (qF 1 3 (jQ (wQ e t))),.nili] else .tup [.snil,erA]
theorem e14 (hg:GWC gl) {e:E} {nl:Bool} {t:List Nat} (hw:Wf e) (hc:Can e) (hr:Rg e) (ht:∀ b∈t,b<256) {n:Nat} (hn:2 * YtlnijcffanjieaaGreatDoor.hg e+t.length+2<=n):∃ H',callA Tryz.prog gl (n+1) 14 [enc e,qD nl t] ⟨[],[]⟩=some (.ret (zeP e t),H'):=by
 suffices hmain:go ⟨Tryz.prog,gl.g,callA Tryz.prog gl n,gl.uq⟩ n (Fx Tryz.prog Tryz.f14.results.toList fun u H1=>u=zeP e t) [.c (Tryz.f14.body.getD .skip)] .normal ⟨[.agg (ecells e),qD nl t]++List.replicate 17 (.tup []),⟨[],[]⟩,[],[]⟩ by
  rw [qt];obtain ⟨u,H1,h1,rfl⟩:=j6 (gl:=gl) (f:=14) (bs:=[]) (es:=[]) (args:=[.agg (ecells e),qD nl t]) (n:=n) (hg.hkN _ _ (by decide)) (fun H=>hg.hk2 _ _ _ _) Tryz.func14 rfl hmain
  exact ⟨_,h1⟩
 rw [hg.uq];have h11:=e11 hg hw hc (n:=n) (by omega)
 simp only [Tryz.f14,zAy,ze];refine zc (tk:=[]) (by kernel_rfl) ?_
 simp only [zj,go_os_nil,ze,kE,zd,zh,zt,ofVal,qB,zg,opQ_val,zm,zAB,qK,List.length_nil,zAY,zAV,zf,zAG,zAH,qM (show okC (.agg (ecells e))=true from rfl),V.laid,yD,List.replicate,List.length_nil]
 have hB:nth ([]++[Blk.cells (ecells e) 27]) 0=some (.cells (ecells e) 27):=rfl;have hld:∀ g,zF Tryz.prog ⟨[.cells (ecells e) 27],[]⟩ g 27 (.ptr 0 0)=some (.agg (ecells e)):=fun g=>zpa rfl;refine zc (tk:=[]) (by kernel_rfl) ?_
 simp only [zj,zi,zo,kO,z7,peeks,zP,peek,zb,opQ_val,zm,zk,vY,zv,zAC,zAB,zI,qE,zAX,zAm,zf,zn,zAG,zAH,hld,h11,unA];have hl0:∀ H,zF Tryz.prog H gl.g 38 (.gptr 0 0)=some erA:=fun H=>by simp [zF,ag38,hg.g0]
 cases hch:vd e
 ·simp only [zj,go_os_nil,ze,go_skip,zi,zw,zX,qY,peek,ofVal,zb,opQ_val,zm,zp,zk,zAC,zAB,zAc,zE,zM,qk,zf,zn,zAG,zAH,qI,zJ,z8,wantB_ft,wd,zBB,q6,zaC,wj]
  refine .inl ?_;refine vE [] [(false,false),(false,false),(false,false)] (tk:=[]) (by kernel_rfl) (by kernel_rfl) ?_
  simp only [zo,zd,peek,zh,zt,ofVal,zb,zg,zm,zAC,zAB,zAc,kV,zf,zn,zAG,zAH,oj_cons,oj_nil,yU,kx,ag38,hl0,erA,qj,qi];simp only [go_ret,zx,qw,Fx]
  refine ⟨trivial,[.snil,erA],rfl,?_⟩;simp only [zeP,okP,hch,tupOf,Bool.false_and,zAD,if_false];rfl
 ·simp only [zj,go_os_nil,ze,go_skip,zi,zw,zX,qY,peek,ofVal,zb,opQ_val,zm,zp,zk,zAC,zAB,zE,zM,ql,zf,zn,zAG,zAH,qI,zJ,z8,wantB_ff,kW,zAq,q6,zaC,wj]
  by_cases hlen:(t.length:Int) > 65536
  ·refine .inl ⟨by simpa using hlen,?_⟩
   refine vE [] [(false,false),(false,false),(false,false)] (tk:=[]) (by kernel_rfl) (by kernel_rfl) ?_
   simp only [zo,zd,peek,zh,zt,ofVal,zb,zg,zm,zAC,zAB,zAc,kV,zf,zn,zAG,zAH,oj_cons,oj_nil,yU,kx,ag38,hl0,erA,qj,qi];simp only [go_ret,zx,qw,Fx]
   refine ⟨trivial,[.snil,erA],rfl,?_⟩;have:¬ t.length<=65536:=by omega
   simp only [zeP,okP,hch,tupOf,this,decide_false,Bool.and_false,zAD,if_false];rfl
  ·refine .inr ⟨by simpa using hlen,?_⟩
   have hle:t.length<=65536:=by omega
   have hcor:=zdq hch;obtain ⟨v,bs',es',h45,hnew,hes,hres⟩:=zkh hg.toGW _ e (zAR _) hcor (n - 1) (by omega) [.cells (ecells e) 27] []
   rw [show n - 1+1=n by omega,qt,zBE] at h45
   have c45:=zV (gl:=gl.g) (uq:=uqw) Tryz.func45 rfl h45;have hcc:∀ l env t,jU env t (some (clr (qF 1 3 (jQ l))))=some (clr (qF 1 3 (jQ l)),env):=fun l _ _=>by cases jQ l<;>rfl
   have hc2:∀ l,clr (clr (qF 1 3 (jQ l)))=clr (qF 1 3 (jQ l)):=fun l=>by cases jQ l<;>rfl
   have hE:okP e t=true:=by simp [okP,hch,hle]
   cases hfw:foW e with
   | none =>
    rw [hfw] at hres;obtain rfl:v=.nili:=hres;have h44:=zki hg.toGW (n:=n - 1) (bs:=bs') (es:=es') (nl:=nl) (t:=t);rw [show n - 1+1=n by omega] at h44
    have c44:=zV (gl:=gl.g) (uq:=uqw) Tryz.func44 rfl h44;refine zc (tk:=[]) (by kernel_rfl) ?_
    simp only [zj,go_os_nil,zi,zo,zd,z7,peeks,zP,peek,zh,zt,ofVal,wX,zb,zg,opQ_val,zm,vY,zv,zAC,zAB,zI,qE,zAX,zAm,zf,zn,zAG,zAH,hld,c45,c44,q6,clr_nili]
    simp only [go_ret,zx,Fx]
    refine ⟨trivial,[.snil,.nili],rfl,?_⟩;simp [zeP,hE,wQ,hfw,tupOf,jQ,qF,clr]
   | some w =>
    rw [hfw] at hres;obtain ⟨hi,hhi,hat⟩:=hres;have hFW:=foW_FW _ e w (zAR _) hfw;obtain ⟨bs2,h44,_,_⟩:=e44 hg.toGW (n:=n - 1) (es:=es') (nl:=nl) (t:=t) hat (foW_rg _ e w (zAR _) hcor hr hfw) hhi (by omega) (by omega) ht hle
    obtain ⟨vt,vu,rfl⟩:=hat.ifc;rw [show n - 1+1=n by omega] at h44
    have c44:=zV (gl:=gl.g) (uq:=uqw) Tryz.func44 rfl h44;refine zc (tk:=[]) (by kernel_rfl) ?_
    simp only [zj,go_os_nil,zi,zo,zd,z7,peeks,zP,peek,zh,zt,ofVal,zb,zg,opQ_val,zm,vY,zv,zAC,zAB,zI,qE,zAX,zAm,zf,zn,zAG,zAH,hld,c45,c44,q6,qj,hcc]
    simp only [go_ret,zx,Fx]
    refine ⟨trivial,[clr (qF 1 3 (jQ (zaa w t))),.nili],?_,?_⟩
    ·simp only [zO,zf,zn]
    ·simp only [zeP,hE,wQ,hfw,tupOf,if_true,zAX,zAm,hc2,clr_nili]
end Go.Proofs.YtlnijcffanjieaaGreatDoor
namespace Go.Proofs.YtlnijcffanjieaaGreatDoor
set_option maxRecDepth 100000
open Go Go.Vm
variable {gl:Gl}
def zpR (e:E) (t:List Nat):St4:=match foW e with|some w=>nxW (runE w 0 t) (t.length == 0)|none=>st0
def zgE (e:E) (t:List Nat):V:=if okP e t then .tup [stV (zpR e t),.nili] else .tup [stV st0,erA]
theorem e16 (hg:GWC gl) {e:E} {nl:Bool} {t:List Nat} (hw:Wf e) (hc:Can e) (hr:Rg e) (ht:∀ b∈t,b<256) {n:Nat} (hn:2 * YtlnijcffanjieaaGreatDoor.hg e+t.length+2<=n):∃ H',callA Tryz.prog gl (n+1) 16 [enc e,qD nl t] ⟨[],[]⟩=some (.ret (zgE e t),H'):=by
 suffices hmain:go ⟨Tryz.prog,gl.g,callA Tryz.prog gl n,gl.uq⟩ n (Fx Tryz.prog Tryz.f16.results.toList fun u H1=>u=zgE e t) [.c (Tryz.f16.body.getD .skip)] .normal ⟨[.agg (ecells e),qD nl t]++List.replicate 40 (.tup []),⟨[],[]⟩,[],[]⟩ by
  rw [qt];obtain ⟨u,H1,h1,rfl⟩:=j6 (gl:=gl) (f:=16) (bs:=[]) (es:=[]) (args:=[.agg (ecells e),qD nl t]) (n:=n) (hg.hkN _ _ (by decide)) (fun H=>hg.hk2 _ _ _ _) Tryz.func16 rfl hmain
  exact ⟨_,h1⟩
 rw [hg.uq];have h11:=e11 hg hw hc (n:=n) (by omega)
 simp only [Tryz.f16,zAy,ze];refine zc (tk:=[]) (by kernel_rfl) ?_
 simp only [zj,go_os_nil,ze,kE,jk,zd,zh,zt,ofVal,qB,zg,opQ_val,zm,zAB,qK,zAT,List.length_nil,zAU,zAY,zAV,zf,zAG,zAH,qM (show okC (.agg (ecells e))=true from rfl),V.laid,yD,zep,List.replicate,List.length_nil]
 have hld:∀ g S,zF Tryz.prog ⟨[.cells (ecells e) 27,S],[]⟩ g 27 (.ptr 0 0)=some (.agg (ecells e)):=fun g S=>zpa rfl;have hst:∀ env s bs es,jq Tryz.prog 24 ⟨Blk.cells (ecells e) 27::Blk.cells (stV st0).cells 24::bs,es⟩ [] [] (some (stV s,env)) (some (.ptr 1 0))=some (.skip,⟨env,⟨Blk.cells (ecells e) 27::.cells (stV s).cells 24::bs,es⟩,[],[]⟩):=fun env s bs es=>by rw [xR rfl];rfl
 have hlr:∀ g s bs es,zF Tryz.prog ⟨Blk.cells (ecells e) 27::.cells (stV s).cells 24::bs,es⟩ g 24 (.ptr 1 0)=some (stV s):=fun g s bs es=>zeo rfl;refine zc (tk:=[]) (by kernel_rfl) ?_
 simp only [zj,zi,zo,kO,z7,peeks,zP,peek,zb,opQ_val,zm,zk,vY,zv,zAC,zAB,zI,qE,zAX,zAm,zf,zn,zAG,zAH,hld,h11,unA];have hl0:∀ H,zF Tryz.prog H gl.g 38 (.gptr 0 0)=some erA:=fun H=>by simp [zF,ag38,hg.g0]
 cases hch:vd e
 ·simp only [zj,go_os_nil,ze,go_skip,zi,zw,zX,qY,peek,ofVal,zb,opQ_val,zm,zp,zk,zAC,zAB,zAc,zE,zM,qk,zf,zn,zAG,zAH,qI,zJ,z8,wantB_ft,wd,zBB,q6,zaC,wj]
  refine .inl ?_;refine vE [1] [(false,false),(true,false),(false,true),(false,false)] (tk:=[]) (by kernel_rfl) (by kernel_rfl) ?_
  simp only [zo,zG,jn,zd,peek,zh,zb,zg,zm,zv,zAC,zAB,zAc,kV,zf,zn,zAG,zAH,oj_cons,oj_nil,yU,zei,kx,vn,ag38,zfw,wP,hl0,erA,qj,qi,hst];refine ⟨fun _=>zfv (p:=.gptr 0 0) rfl (hl0 _) rfl,?_⟩;simp only [go_ret,zx,qw,Fx]
  refine ⟨trivial,[stV st0,erA],?_,?_⟩
  ·simp only [zO,zf,zn,hlr];rfl
  ·simp only [zgE,okP,hch,tupOf,Bool.false_and,zAD,if_false];rfl
 ·simp only [zj,go_os_nil,ze,go_skip,zi,zw,zX,qY,peek,ofVal,zb,opQ_val,zm,zp,zk,zAC,zAB,zE,zM,ql,zf,zn,zAG,zAH,qI,zJ,z8,wantB_ff,kW,zAq,q6,zaC,wj]
  by_cases hlen:(t.length:Int) > 65536
  ·refine .inl ⟨by simpa using hlen,?_⟩
   refine vE [1] [(false,false),(true,false),(false,true),(false,false)] (tk:=[]) (by kernel_rfl) (by kernel_rfl) ?_
   simp only [zo,zG,jn,zd,peek,zh,zb,zg,zm,zv,zAC,zAB,zAc,kV,zf,zn,zAG,zAH,oj_cons,oj_nil,yU,zei,kx,vn,ag38,zfw,wP,hl0,erA,qj,qi,hst];refine ⟨fun _=>zfv (p:=.gptr 0 0) rfl (hl0 _) rfl,?_⟩;simp only [go_ret,zx,qw,Fx]
   refine ⟨trivial,[stV st0,erA],?_,?_⟩
   ·simp only [zO,zf,zn,hlr];rfl
   ·have:¬ t.length<=65536:=by omega
    simp only [zgE,okP,hch,tupOf,this,decide_false,Bool.and_false,zAD,if_false];rfl
  ·refine .inr ⟨by simpa using hlen,?_⟩
   have hle:t.length<=65536:=by omega
   have hcor:=zdq hch;obtain ⟨v,bs',es',h45,hnew,hes,hres⟩:=zkh hg.toGW _ e (zAR _) hcor (n - 1) (by omega) [.cells (ecells e) 27,.cells (stV st0).cells 24] []
   rw [show n - 1+1=n by omega,qt,zBE] at h45
   have c45:=zV (gl:=gl.g) (uq:=uqw) Tryz.func45 rfl h45;have hE:okP e t=true:=by simp [okP,hch,hle]
   obtain ⟨l,rfl,hl⟩:=hnew;simp only [zAY,zAV] at c45 hres;cases hfw:foW e with
   | none =>
    rw [hfw] at hres;obtain rfl:v=.nili:=hres;refine zc (tk:=[]) (by kernel_rfl) ?_
    simp only [zj,go_os_nil,ze,zo,zd,z7,peeks,zP,peek,zh,zb,zg,opQ_val,zm,vY,zv,zAC,zAB,zI,qE,zAX,zAm,zf,zn,zAG,zAH,hld,c45,ziN]
    refine zc (tk:=[]) (by kernel_rfl) ?_
    simp only [zj,go_os_nil,ze,go_skip,zi,zw,peek,ofVal,zb,opQ_val,zm,zk,zAc,zE,zM,zf,zn,zAG,zAH,clr_nili,zgC,zAc,zAz,zA5,zBr]
    refine zc (tk:=[]) (by kernel_rfl) ?_
    simp only [zj,go_os_nil,zG,jn,zd,peek,zh,zt,ofVal,zb,zg,opQ_val,opQ_skip,zm,zv,zAB,zf,zn,zAG,zAH,zfw,wP,hst]
    simp only [go_ret,zx,qw,Fx]
    refine ⟨trivial,[stV st0,.nili],?_,?_⟩
    ·simp only [zO,zf,zn,hlr];rfl
    ·simp only [zgE,hE,zpR,hfw,tupOf,if_true];rfl
   | some w =>
    rw [hfw] at hres;obtain ⟨hi,hhi,hat⟩:=hres;have hFW:=foW_FW _ e w (zAR _) hfw;have hrg:=foW_rg _ e w (zAR _) hcor hr hfw;obtain ⟨vt,vu,rfl⟩:=hat.ifc;refine zc (tk:=[]) (by kernel_rfl) ?_
    simp only [zj,go_os_nil,ze,zo,zd,z7,peeks,zP,peek,zh,zb,zg,opQ_val,zm,vY,zv,zAC,zAB,zI,qE,zAX,zAm,zf,zn,zAG,zAH,hld,c45,qi]
    refine zc (tk:=[]) (by kernel_rfl) ?_
    simp only [zj,go_os_nil,ze,go_skip,zi,zw,peek,ofVal,zb,opQ_val,zm,zk,zAc,zE,zM,zf,zn,zAG,zAH,qj,zgB,zAc,zAD,zA5,zBf]
    refine zc (tk:=[]) (by kernel_rfl) ?_
    simp only [zj,go_os_nil,zY,zi,qY,peek,ofVal,zb,opQ_val,zm,zAC,zAB,zf,zn,zAG,zAH,q6,zaC]
    have hnb:∀ k:Nat,((k:Int) == 0)=(k == 0):=fun k=>by
     cases k with
     | zero=>rfl
     | succ k=>exact (beq_false_of_ne (by omega)).trans (beq_false_of_ne (by omega)).symm
    refine v6 (fun m s=>∃ k env B w',m+k=t.length/\s=⟨env,⟨B,es'⟩,[],[]⟩/\env.length=42/\nth env 1=some (qD nl t)/\nth env 4=some (.ptr 1 0)/\nth env 6=some (.ifc vt vu)/\nth env 24=some (qD nl t)/\nth env 25=some (.int .i64 t.length)/\nth env 26=some (.int .i64 (k:Nat))/\At B w' 2 hi (.ifc vt vu)/\nth B 1=some (.cells (stV st0).cells 24)/\hi<=B.length/\2<=B.length/\FW w'=FW w/\RgW w'/\runE w 0 t=runE w' k (t.drop k)) t.length (by omega) ⟨0,_,_,w,rfl,rfl,rfl,rfl,rfl,rfl,rfl,rfl,rfl,hat,rfl,hhi,by simp,rfl,hrg,rfl⟩ ?_
    rintro m s ⟨k,env,B,w',hmk,rfl,hel,g1,g4,g6,g24,g25,g26,hat,hB1,hhB,hB2,hFW',hrg',hrun⟩;simp only [ze];refine zc (tk:=[]) (by kernel_rfl) ?_
    simp only [zj,go_os_nil,ze,go_skip,zY,zw,peek,zb,opQ_val,zm,zp,zk,zE,zM,if_true,za,Nat.reduceLT,if_true,g25,g26,hel,kQ]
    by_cases hk:k<t.length
    ·refine .inl ⟨by simp;omega,?_⟩
     obtain ⟨b,hb⟩:∃ b,t[k]?=some b:=⟨t[k],by simp [hk]⟩
     have hbl2:b<256:=ht b (zAe hb);have hdr:t.drop k=b::t.drop (k+1):=by
      rw [zBF hk];rw [zAS hk] at hb;rw [zA7 hb]
     rw [hdr] at hrun;simp only [runE] at hrun;obtain ⟨bs2,a1,a2,a3,a4⟩:=zfx hg.toGW (FW w') hat hrg' hhB (zAR _) (n:=n) (by omega) (k == 0) b hbl2 es'
     have hst:=fun env=>jT (lk:=[]) (df:=[]) (env:=env) a1;rw [hg.uq] at hst
     try simp only [go_skip,ze,zY]
     refine zc (tk:=[]) (by kernel_rfl) ?_
     simp only [zj,go_os_nil,zi,zo,zd,zT,Nat.reduceEqDiff,peek,zh,kN,zb,zg,opQ_val,zm,zp,wn,zAC,zAB,jW,if_true,za,zAQ,Nat.reduceLT,if_true,if_false,g24,g26,hel,q6,jW,zo7 hb,zo8]
     refine zc (tk:=[]) (by kernel_rfl) ?_
     simp only [zj,go_os_nil,jO,zi,zw,Nat.reduceEqDiff,peeks,zP,peek,ofVal,zb,opQ_val,zm,zp,zk,if_true,za,zAQ,Nat.reduceLT,if_true,if_false,g6,hel,qj,je,hnb,z6,hst]
     refine zc (tk:=[]) (by kernel_rfl) ?_
     simp only [zj,go_os_nil,zi,zw,Nat.reduceEqDiff,peek,ofVal,zb,opQ_val,zm,zp,if_true,za,zAQ,Nat.reduceLT,if_true,if_false,g26,hel,jh (show k<2 ^ 60 by omega),zx,thn_normal]
     refine ⟨m - 1,by omega,k+1,_,bs2,_,by omega,rfl,?_,?_,?_,?_,?_,?_,?_,a2,(a4 1 (by omega)).trans hB1,by omega,by omega,(FW_st _ _ _ _ (zAR _)).trans hFW',Rg_st _ _ _ _ (zAR _) hrg',hrun⟩
     ·simp [hel]
     ·simp [za,g1]
     ·simp [za,g4]
     ·simp [za,g6]
     ·simp [za,g24]
     ·simp [za,g25]
     ·simp [za,hel]
    ·refine .inr ⟨by simp;omega,?_⟩
     obtain rfl:k=t.length:=by omega
     rw [List.drop_length] at hrun;simp only [runE] at hrun;have hnx:=fun env=>jT (lk:=[]) (df:=[]) (env:=env) (zhX hg.toGW (FW w') hat hrg' hhB (zAR _) (n:=n) (by omega) (t.length == 0) es')
     rw [hg.uq] at hnx;have hst2:∀ env s,jq Tryz.prog 24 ⟨B,es'⟩ [] [] (some (stV s,env)) (some (.ptr 1 0))=some (.skip,⟨env,Hp.set ⟨B,es'⟩ 1 (.cells (stV s).cells 24),[],[]⟩):=fun env s=>xR hB1;have hlr2:∀ g s,zF Tryz.prog (Hp.set ⟨B,es'⟩ 1 (.cells (stV s).cells 24)) g 24 (.ptr 1 0)=some (stV s):=fun g s=>zeo (by rw [zdn,show Hp.get ⟨B,es'⟩ 1=some _ from hB1];simp)
     simp only [vZ,kS,kg,zx,thn_exit,ze,zBJ,if_true,zx];refine zc (tk:=[]) (by kernel_rfl) ?_
     simp only [zj,go_os_nil,zi,zG,zw,zd,qY,Nat.reduceEqDiff,peeks,zP,peek,zh,zt,ofVal,zb,zg,opQ_val,opQ_skip,zm,zp,zk,zv,zAC,zAB,if_true,za,zAQ,Nat.reduceLT,if_true,if_false,g1,g4,g6,hel,q6,zaC,qj,je,hnb,z6,hnx,wP,hst2]
     simp only [go_ret,zx,Fx]
     refine ⟨trivial,[stV (nxW w' (t.length == 0)),.nili],?_,?_⟩
     ·simp [zO,za,hel,g4,hlr2];rfl
     ·simp only [zgE,hE,zpR,hfw,hrun,tupOf,if_true];rfl
end Go.Proofs.YtlnijcffanjieaaGreatDoor
namespace Go.Proofs.YtlnijcffanjieaaGreatDoor
set_option maxRecDepth 10000
open Go Go.Vm Go.Vm.Sx
variable {gl:Gl} [NoU gl]
theorem lent11:wb Tryz.prog Tryz.f11.params.toList=some []:=by kernel_rfl
theorem lent13:wb Tryz.prog Tryz.f13.params.toList=some []:=by kernel_rfl
theorem zqM {x:V}:vU Tryz.prog [34] [.d x] 0:=by
 refine ⟨fun e=>?_,trivial⟩;rw [Tryz.underlying34];simp
theorem zqN (hgl:GL gl):∀ (e:E),Wf e->Ev Tryz.prog gl 11 [.d (enc e)] [] (.bool (vd e)) []
 | .mk op pl s0 s1 s2 s3 text mn mx nl args,hw=>by
  refine kI (xs:=[enc (.mk op pl s0 s1 s2 s3 text mn mx nl args)]) hgl.top (hgl.no 11 rfl) tree11_ok Tryz.func11 lent11 zon (by simp [tops,top_enc]) (N:=1) ?_
  have hc:=kf (zqk hgl (.mk op pl s0 s1 s2 s3 text mn mx nl args) hw 1 0 0);simp only [zhU,zgy,zen,enc] at hc;simp only [tree11,enc,vd];simp only [qb,qa,ev_opn,q9,jN,jf,jo,qc,wN,yG,vV,ks_nil,zAf,jg,zH,zQ,yT,evI,zy,evC,zD,wS,evA,qZ,jD,joinL,sizesOk,zp,vj,zBJ,zAT,List.length_nil,yH,hc,jP]
def nvL (l:List Nat):V:=lv 1 true (jQ l)
theorem tops_intL:∀ l:List Nat,tops (jQ l)=0
 | []=>rfl
 | a::l=>by simp only [jQ,zAX,tops];exact tops_intL l
theorem zot (l:List Nat):(nvL l).top=0:=by unfold nvL;rw [zee];exact tops_intL l
theorem zkj (l:List Nat):clr (qF 1 3 (jQ l))=nvL l:=by cases l<;>rfl
theorem zh1 (nl:Bool) (t:List Nat):kOk (.sl 1) (qD nl t)=true:=zoc ..
theorem zcA (nl:Bool) (t:List Nat):vL (qD nl t)=t.map fun b=>V.int .u8 (b:Nat):=zj2 ..
theorem za0 (nl:Bool) (t:List Nat):(qD nl t).top=0:=by
 unfold qD;rw [zee]
 induction t with
 | nil=>rfl
 | cons a t ih=>simp only [zAX,tops];exact ih
theorem zou (nl:Bool) (t:List Nat) (n:Nat):ziP (qD nl t) 0 (n:Int)=qD (nl && t.isEmpty) (t.take n):=by
 rcases lv_cases 1 nl (t.map fun b=>V.int .u8 (b:Nat)) with h|⟨h0,h⟩
 ·rw [qD,h];simp only [ziP,qD,lv,List.map_take,zBZ,Int.toNat_zero,zBc];cases nl with
  | false=>simp
  | true =>
   cases t with
   | nil=>simp [lv] at h
   | cons a t=>simp
 ·have:t=[]:=by simpa using h0
  subst this;rw [qD,h];cases nl with
  | false=>simp [lv] at h
  | true=>simp [ziP,qD,lv]
def za9 (t:List Nat):List Nat:=if 40<t.length/\t.length<=65536 then t.take 40 else t
theorem znf (nl:Bool) (t:List Nat):qD nl t=qD (nl && t.isEmpty) t:=by
 cases nl<;>cases t<;>rfl
theorem zqO (hgl:GL gl) (nl:Bool) (t:List Nat):Ev Tryz.prog gl 13 [.d (qD nl t)] [] (qD (nl && t.isEmpty) (za9 t)) []:=by
 refine kI (xs:=[qD nl t]) hgl.top (hgl.no 13 rfl) tree13_ok Tryz.func13 lent13 zqM (by simp [tops,za0]) (N:=1) ?_
 simp only [tree13]
 by_cases h1:40<t.length
 ·by_cases h2:t.length<=65536
  ·have e1:ltz 40 (t.length:Int)=true:=ltz_t (by omega)
   have e2:lez (t.length:Int) 65536=true:=zmP (by omega)
   have e3:lez 40 (t.length:Int)=true:=zmP (by omega)
   have e4:=zou nl t 40;have hT:za9 t=t.take 40:=if_pos ⟨h1,h2⟩;rw [hT];have e5:ziP (qD nl t) 0 40=qD (nl && t.isEmpty) (t.take 40):=e4;simp only [kZ,q9,jf,zAf,evB,evI,evL,zec,kY,zh1,zcA,e1,e2,zAo];rw [yS]
   ·simp only [qb,qa,jf,jo,zH,zQ,evI,zy,evC,zD,jD,e5]
   ·simp only [jf,Bool.and_true,evB,evI,evL,zec,zcA,e3,zAo];rfl
  ·have e1:ltz 40 (t.length:Int)=true:=ltz_t (by omega)
   have e2:lez (t.length:Int) 65536=false:=zqf (by omega)
   have hT:za9 t=t:=if_neg (by omega)
   rw [hT,<- znf];simp only [wz,qb,qa,q9,jf,jo,Bool.and_false,zH,zQ,evB,evI,evL,zy,evC,zD,jD,zec,kY,zh1,zcA,e1,e2,zAo,q6]
 ·have e1:ltz 40 (t.length:Int)=false:=zed (by omega)
  have hT:za9 t=t:=if_neg (by omega)
  rw [hT,<- znf];simp only [wz,qb,qa,q9,jf,jo,Bool.false_and,zH,zQ,evB,evI,evL,zy,evC,zD,jD,zec,kY,zh1,zcA,e1,zAo,q6]
def zpS (l:List E):E:=.mk 5 0 0 0 0 0 [] 0 0 false l
end Go.Proofs.YtlnijcffanjieaaGreatDoor
