/- Seat 7: Ends is walked; Seat 7: Next is walked; Seat 7: the laws' small functions, out of their trees. Conditions: none but those that each theorem names. -/
import Derived.Test.YtlnijcffanjieaaGreatDoorVmF
import Derived.Test.YtlnijcffanjieaaGreatDoorVmG
import Derived.Test.YtlnijcffanjieaaGreatDoorVmK
namespace Go.Proofs.YtlnijcffanjieaaGreatDoor
set_option maxRecDepth 100000
open Go Go.Vm
variable {gl:Gl}
def erA:V:=.ifc 373 (.obj 0)
structure GWC (gl:Gl):Prop extends GW gl where
 chk:∀ e,Wf e→Can e→gl.hk 11 [enc e]=some (.bool (zaQ e))
 g0:gl.g 0 0=some erA
 hkN:∀ f args,([14,16].any (Nat.beq f))=true→gl.hk f args=none
theorem e11 (hg:GWC gl) {e:E} (hw:Wf e) (hc:Can e) {n:Nat} (hn:1≤n) (H:Hp):Cx.callF ⟨Tryz.prog,gl.g,zw Tryz.prog gl n,uqw⟩ 11 [.agg (ecells e)] H=some (.val (.bool (zaQ e)),H):=by
 have:=zb5 (n:=n - 1) (H:=H) (hg.chk e hw hc)
 rw [show n - 1+1=n by omega,qf] at this
 exact qk Tryz.func11 rfl this
theorem ag38:jI Tryz.prog 38=some false:=by kernel_rfl
theorem zn7 {H:Hp} {g:Nat→Nat→Option V} {b:Nat} {e:E} (h:H.get b=some (.cells (ecells e) 27)):zL Tryz.prog H g 27 (.ptr b 0)=some (.agg (ecells e)):=by
 rw [xh ag27 sz27 h (by rw [jq];decide),List.drop_zero,List.take_of_length_le (by rw [jq];decide)]
def okP (e:E) (t:List Nat):Bool:=zaQ e && decide (t.length≤65536)
def xm (e:E) (t:List Nat):List Nat:=match foW e with|some w=>we w t|none=>[]
def zcA (e:E) (t:List Nat):V:=if okP e t then .tup [clr (qw 1 3 (ju (xm e t))),.nili] else .tup [.snil,erA]
theorem e14 (hg:GWC gl) {e:E} {nl:Bool} {t:List Nat} (hw:Wf e) (hc:Can e) (hr:Rg e) (ht:∀ b∈t,b<256) {n:Nat} (hn:2 * YtlnijcffanjieaaGreatDoor.hg e+t.length+2≤n):∃ H',zw Tryz.prog gl (n+1) 14 [enc e,jk nl t] ⟨[],[]⟩=some (.ret (zcA e t),H'):=by
 suffices hmain:go ⟨Tryz.prog,gl.g,zw Tryz.prog gl n,gl.uq⟩ n (Fx Tryz.prog Tryz.f14.results.toList fun u H1=>u=zcA e t) [.c (Tryz.f14.body.getD .skip)] .normal ⟨[.agg (ecells e),jk nl t]++List.replicate 17 (.tup []),⟨[],[]⟩,[],[]⟩ by
  rw [qf]
  obtain ⟨u,H1,h1,rfl⟩:=vG (gl:=gl) (f:=14) (bs:=[]) (es:=[]) (args:=[.agg (ecells e),jk nl t]) (n:=n) (hg.hkN _ _ (by decide)) (fun H=>hg.hk2 _ _ _ _) Tryz.func14 rfl hmain
  exact ⟨_,h1⟩
 rw [hg.uq]
 have h11:=e11 hg hw hc (n:=n) (by omega)
 simp only [Tryz.f14,Option.getD_some,zg]
 refine zc (tk:=[]) (by kernel_rfl) ?_
 simp only [zm,go_os_nil,zg,kU,zd,ze,zG,ofVal,qm,zh,opQ_val,zo,Option.map_some,qU,List.length_nil,List.cons_append,List.nil_append,zf,List.set_cons_zero,List.set_cons_succ,qV (show okC (.agg (ecells e))=true from rfl),V.laid,yi,List.replicate,List.length_nil]
 have hB:nth ([]++[Blk.cells (ecells e) 27]) 0=some (.cells (ecells e) 27):=rfl
 have hld:∀ g,zL Tryz.prog ⟨[.cells (ecells e) 27],[]⟩ g 27 (.ptr 0 0)=some (.agg (ecells e)):=fun g=>zn7 rfl
 refine zc (tk:=[]) (by kernel_rfl) ?_
 simp only [zm,zk,zt,zc9,je,peeks,zS,peek,zb,opQ_val,zo,zn,vy,zu,Option.bind_some,Option.map_some,z9,ko,List.map_cons,List.map_nil,zf,zq,List.set_cons_zero,List.set_cons_succ,hld,h11,unA]
 have hl0:∀ H,zL Tryz.prog H gl.g 38 (.gptr 0 0)=some erA:=fun H=>by simp [zL,ag38,hg.g0]
 cases hch:zaQ e
 ·simp only [zm,go_os_nil,zg,go_skip,zk,zE,qq,kV,peek,ofVal,zb,opQ_val,zo,zD,zn,Option.bind_some,Option.map_some,true_and,zN,zT,qS,zf,zq,List.set_cons_zero,List.set_cons_succ,ku,z4,qZ,wantB_ft,xO,Bool.not_false,jM,zem,zbC]
  refine .inl ?_
  refine xf [] [(false,false),(false,false),(false,false)] (tk:=[]) (by kernel_rfl) (by kernel_rfl) ?_
  simp only [zt,zd,peek,ze,zG,ofVal,zb,zh,zo,Option.bind_some,Option.map_some,true_and,wc,zf,zq,List.set_cons_zero,List.set_cons_succ,oj_cons,oj_nil,zaL,kS,ag38,hl0,erA,qi,qj]
  simp only [go_ret,zI,jd,Fx]
  refine ⟨trivial,[.snil,erA],rfl,?_⟩
  simp only [zcA,okP,hch,tupOf,Bool.false_and,Bool.false_eq_true,if_false];rfl
 ·simp only [zm,go_os_nil,zg,go_skip,zk,zE,qq,kV,peek,ofVal,zb,opQ_val,zo,zD,zn,Option.bind_some,Option.map_some,zN,zT,qT,zf,zq,List.set_cons_zero,List.set_cons_succ,ku,z4,qZ,wantB_ff,xi,Bool.not_true,jM,zem,zbC]
  by_cases hlen:(t.length:Int) > 65536
  ·refine .inl ⟨by simpa using hlen,?_⟩
   refine xf [] [(false,false),(false,false),(false,false)] (tk:=[]) (by kernel_rfl) (by kernel_rfl) ?_
   simp only [zt,zd,peek,ze,zG,ofVal,zb,zh,zo,Option.bind_some,Option.map_some,true_and,wc,zf,zq,List.set_cons_zero,List.set_cons_succ,oj_cons,oj_nil,zaL,kS,ag38,hl0,erA,qi,qj]
   simp only [go_ret,zI,jd,Fx]
   refine ⟨trivial,[.snil,erA],rfl,?_⟩
   have:¬ t.length≤65536:=by omega
   simp only [zcA,okP,hch,tupOf,this,decide_false,Bool.and_false,Bool.false_eq_true,if_false];rfl
  ·refine .inr ⟨by simpa using hlen,?_⟩
   have hle:t.length≤65536:=by omega
   have hcor:=zb9 hch
   obtain ⟨v,bs',es',h45,hnew,hes,hres⟩:=zms hg.toGW _ e (Nat.le_refl _) hcor (n - 1) (by omega) [.cells (ecells e) 27] []
   rw [show n - 1+1=n by omega,qf,List.append_nil] at h45
   have c45:=qk (gl:=gl.g) (uq:=uqw) Tryz.func45 rfl h45
   have hcc:∀ l env t,kf env t (some (clr (qw 1 3 (ju l))))=some (clr (qw 1 3 (ju l)),env):=fun l _ _=>by cases ju l<;>rfl
   have hc2:∀ l,clr (clr (qw 1 3 (ju l)))=clr (qw 1 3 (ju l)):=fun l=>by cases ju l<;>rfl
   have hE:okP e t=true:=by simp [okP,hch,hle]
   cases hfw:foW e with
   | none =>
    rw [hfw] at hres
    obtain rfl:v=.nili:=hres
    have h44:=znB hg.toGW (n:=n - 1) (bs:=bs') (es:=es') (nl:=nl) (t:=t)
    rw [show n - 1+1=n by omega] at h44
    have c44:=qk (gl:=gl.g) (uq:=uqw) Tryz.func44 rfl h44
    refine zc (tk:=[]) (by kernel_rfl) ?_
    simp only [zm,go_os_nil,zk,zt,zd,je,peeks,zS,peek,ze,zG,ofVal,wD,zb,zh,opQ_val,zo,vy,zu,Option.bind_some,Option.map_some,z9,ko,List.map_cons,List.map_nil,zf,zq,List.set_cons_zero,List.set_cons_succ,hld,c45,c44,jM,clr_nili]
    simp only [go_ret,zI,Fx]
    refine ⟨trivial,[.snil,.nili],rfl,?_⟩
    simp [zcA,hE,xm,hfw,tupOf,ju,qw,clr]
   | some w =>
    rw [hfw] at hres
    obtain ⟨hi,hhi,hat⟩:=hres
    have hFW:=foW_FW _ e w (Nat.le_refl _) hfw
    obtain ⟨bs2,h44⟩:=e44 hg.toGW (n:=n - 1) (es:=es') (nl:=nl) (t:=t) hat (foW_rg _ e w (Nat.le_refl _) hcor hr hfw) hhi (by omega) (by omega) ht hle
    obtain ⟨vt,vu,rfl⟩:=hat.ifc
    rw [show n - 1+1=n by omega] at h44
    have c44:=qk (gl:=gl.g) (uq:=uqw) Tryz.func44 rfl h44
    refine zc (tk:=[]) (by kernel_rfl) ?_
    simp only [zm,go_os_nil,zk,zt,zd,je,peeks,zS,peek,ze,zG,ofVal,zb,zh,opQ_val,zo,vy,zu,Option.bind_some,Option.map_some,z9,ko,List.map_cons,List.map_nil,zf,zq,List.set_cons_zero,List.set_cons_succ,hld,c45,c44,jM,qi,hcc]
    simp only [go_ret,zI,Fx]
    refine ⟨trivial,[clr (qw 1 3 (ju (we w t))),.nili],?_,?_⟩
    ·simp only [zQ,zf,zq]
    ·simp only [zcA,hE,xm,hfw,tupOf,if_true,List.map_cons,List.map_nil,hc2,clr_nili]
end Go.Proofs.YtlnijcffanjieaaGreatDoor
namespace Go.Proofs.YtlnijcffanjieaaGreatDoor
set_option maxRecDepth 100000
open Go Go.Vm
variable {gl:Gl}
def zhM (e:E) (t:List Nat):St4:=match foW e with|some w=>nxW (runE w 0 t) (t.length == 0)|none=>st0
def zcB (e:E) (t:List Nat):V:=if okP e t then .tup [stV (zhM e t),.nili] else .tup [stV st0,erA]
theorem e16 (hg:GWC gl) {e:E} {nl:Bool} {t:List Nat} (hw:Wf e) (hc:Can e) (hr:Rg e) (ht:∀ b∈t,b<256) {n:Nat} (hn:2 * YtlnijcffanjieaaGreatDoor.hg e+t.length+2≤n):∃ H',zw Tryz.prog gl (n+1) 16 [enc e,jk nl t] ⟨[],[]⟩=some (.ret (zcB e t),H'):=by
 suffices hmain:go ⟨Tryz.prog,gl.g,zw Tryz.prog gl n,gl.uq⟩ n (Fx Tryz.prog Tryz.f16.results.toList fun u H1=>u=zcB e t) [.c (Tryz.f16.body.getD .skip)] .normal ⟨[.agg (ecells e),jk nl t]++List.replicate 40 (.tup []),⟨[],[]⟩,[],[]⟩ by
  rw [qf]
  obtain ⟨u,H1,h1,rfl⟩:=vG (gl:=gl) (f:=16) (bs:=[]) (es:=[]) (args:=[.agg (ecells e),jk nl t]) (n:=n) (hg.hkN _ _ (by decide)) (fun H=>hg.hk2 _ _ _ _) Tryz.func16 rfl hmain
  exact ⟨_,h1⟩
 rw [hg.uq]
 have h11:=e11 hg hw hc (n:=n) (by omega)
 simp only [Tryz.f16,Option.getD_some,zg]
 refine zc (tk:=[]) (by kernel_rfl) ?_
 simp only [zm,go_os_nil,zg,kU,jp,zd,ze,zG,ofVal,qm,zh,opQ_val,zo,Option.map_some,qU,List.length_cons,List.length_nil,Nat.zero_add,List.cons_append,List.nil_append,zf,List.set_cons_zero,List.set_cons_succ,qV (show okC (.agg (ecells e))=true from rfl),V.laid,yi,zeh,List.replicate,List.length_nil]
 have hld:∀ g S,zL Tryz.prog ⟨[.cells (ecells e) 27,S],[]⟩ g 27 (.ptr 0 0)=some (.agg (ecells e)):=fun g S=>zn7 rfl
 have hst:∀ env s bs es,jo Tryz.prog 24 ⟨Blk.cells (ecells e) 27::Blk.cells (stV st0).cells 24::bs,es⟩ [] [] (some (stV s,env)) (some (.ptr 1 0))=some (.skip,⟨env,⟨Blk.cells (ecells e) 27::.cells (stV s).cells 24::bs,es⟩,[],[]⟩):=fun env s bs es=>by rw [xG rfl];rfl
 have hlr:∀ g s bs es,zL Tryz.prog ⟨Blk.cells (ecells e) 27::.cells (stV s).cells 24::bs,es⟩ g 24 (.ptr 1 0)=some (stV s):=fun g s bs es=>zeg rfl
 refine zc (tk:=[]) (by kernel_rfl) ?_
 simp only [zm,zk,zt,zc9,je,peeks,zS,peek,zb,opQ_val,zo,zn,vy,zu,Option.bind_some,Option.map_some,z9,ko,List.map_cons,List.map_nil,zf,zq,List.set_cons_zero,List.set_cons_succ,hld,h11,unA]
 have hl0:∀ H,zL Tryz.prog H gl.g 38 (.gptr 0 0)=some erA:=fun H=>by simp [zL,ag38,hg.g0]
 cases hch:zaQ e
 ·simp only [zm,go_os_nil,zg,go_skip,zk,zE,qq,kV,peek,ofVal,zb,opQ_val,zo,zD,zn,Option.bind_some,Option.map_some,true_and,zN,zT,qS,zf,zq,List.set_cons_zero,List.set_cons_succ,ku,z4,qZ,wantB_ft,xO,Bool.not_false,jM,zem,zbC]
  refine .inl ?_
  refine xf [1] [(false,false),(true,false),(false,true),(false,false)] (tk:=[]) (by kernel_rfl) (by kernel_rfl) ?_
  simp only [zt,zJ,jc,zd,peek,ze,zb,zh,zo,zu,Option.bind_some,Option.map_some,true_and,wc,zf,zq,List.set_cons_zero,List.set_cons_succ,oj_cons,oj_nil,zaL,zec,kS,wM,ag38,zfh,wx,hl0,erA,qi,qj,hst]
  refine ⟨fun _=>zfg (p:=.gptr 0 0) rfl (hl0 _) rfl,?_⟩
  simp only [go_ret,zI,jd,Fx]
  refine ⟨trivial,[stV st0,erA],?_,?_⟩
  ·simp only [zQ,zf,zq,hlr];rfl
  ·simp only [zcB,okP,hch,tupOf,Bool.false_and,Bool.false_eq_true,if_false];rfl
 ·simp only [zm,go_os_nil,zg,go_skip,zk,zE,qq,kV,peek,ofVal,zb,opQ_val,zo,zD,zn,Option.bind_some,Option.map_some,zN,zT,qT,zf,zq,List.set_cons_zero,List.set_cons_succ,ku,z4,qZ,wantB_ff,xi,Bool.not_true,jM,zem,zbC]
  by_cases hlen:(t.length:Int) > 65536
  ·refine .inl ⟨by simpa using hlen,?_⟩
   refine xf [1] [(false,false),(true,false),(false,true),(false,false)] (tk:=[]) (by kernel_rfl) (by kernel_rfl) ?_
   simp only [zt,zJ,jc,zd,peek,ze,zb,zh,zo,zu,Option.bind_some,Option.map_some,true_and,wc,zf,zq,List.set_cons_zero,List.set_cons_succ,oj_cons,oj_nil,zaL,zec,kS,wM,ag38,zfh,wx,hl0,erA,qi,qj,hst]
   refine ⟨fun _=>zfg (p:=.gptr 0 0) rfl (hl0 _) rfl,?_⟩
   simp only [go_ret,zI,jd,Fx]
   refine ⟨trivial,[stV st0,erA],?_,?_⟩
   ·simp only [zQ,zf,zq,hlr];rfl
   ·have:¬ t.length≤65536:=by omega
    simp only [zcB,okP,hch,tupOf,this,decide_false,Bool.and_false,Bool.false_eq_true,if_false];rfl
  ·refine .inr ⟨by simpa using hlen,?_⟩
   have hle:t.length≤65536:=by omega
   have hcor:=zb9 hch
   obtain ⟨v,bs',es',h45,hnew,hes,hres⟩:=zms hg.toGW _ e (Nat.le_refl _) hcor (n - 1) (by omega) [.cells (ecells e) 27,.cells (stV st0).cells 24] []
   rw [show n - 1+1=n by omega,qf,List.append_nil] at h45
   have c45:=qk (gl:=gl.g) (uq:=uqw) Tryz.func45 rfl h45
   have hE:okP e t=true:=by simp [okP,hch,hle]
   obtain ⟨l,rfl,hl⟩:=hnew
   simp only [List.cons_append,List.nil_append] at c45 hres
   cases hfw:foW e with
   | none =>
    rw [hfw] at hres
    obtain rfl:v=.nili:=hres
    refine zc (tk:=[]) (by kernel_rfl) ?_
    simp only [zm,go_os_nil,zg,zt,zd,je,peeks,zS,peek,ze,zb,zh,opQ_val,zo,vy,zu,Option.bind_some,Option.map_some,z9,ko,List.map_cons,List.map_nil,zf,zq,List.set_cons_zero,List.set_cons_succ,hld,c45,zig]
    refine zc (tk:=[]) (by kernel_rfl) ?_
    simp only [zm,go_os_nil,zg,go_skip,zk,zE,peek,ofVal,zb,opQ_val,zo,zn,true_and,zN,zT,zf,zq,List.set_cons_zero,List.set_cons_succ,clr_nili,zgl,true_and,Bool.true_eq_false,false_and,or_false]
    refine zc (tk:=[]) (by kernel_rfl) ?_
    simp only [zm,go_os_nil,zJ,jc,zd,peek,ze,zG,ofVal,zb,zh,opQ_val,opQ_skip,zo,zu,Option.map_some,zf,zq,List.set_cons_zero,List.set_cons_succ,zfh,wx,hst]
    simp only [go_ret,zI,jd,Fx]
    refine ⟨trivial,[stV st0,.nili],?_,?_⟩
    ·simp only [zQ,zf,zq,hlr];rfl
    ·simp only [zcB,hE,zhM,hfw,tupOf,if_true];rfl
   | some w =>
    rw [hfw] at hres
    obtain ⟨hi,hhi,hat⟩:=hres
    have hFW:=foW_FW _ e w (Nat.le_refl _) hfw
    have hrg:=foW_rg _ e w (Nat.le_refl _) hcor hr hfw
    obtain ⟨vt,vu,rfl⟩:=hat.ifc
    refine zc (tk:=[]) (by kernel_rfl) ?_
    simp only [zm,go_os_nil,zg,zt,zd,je,peeks,zS,peek,ze,zb,zh,opQ_val,zo,vy,zu,Option.bind_some,Option.map_some,z9,ko,List.map_cons,List.map_nil,zf,zq,List.set_cons_zero,List.set_cons_succ,hld,c45,qj]
    refine zc (tk:=[]) (by kernel_rfl) ?_
    simp only [zm,go_os_nil,zg,go_skip,zk,zE,peek,ofVal,zb,opQ_val,zo,zn,true_and,zN,zT,zf,zq,List.set_cons_zero,List.set_cons_succ,qi,zgk,true_and,Bool.false_eq_true,false_and,false_or]
    refine zc (tk:=[]) (by kernel_rfl) ?_
    simp only [zm,go_os_nil,qu,zk,kV,peek,ofVal,zb,opQ_val,zo,Option.bind_some,Option.map_some,zf,zq,List.set_cons_zero,List.set_cons_succ,jM,zem]
    have hnb:∀ k:Nat,((k:Int) == 0)=(k == 0):=fun k=>by
     cases k with
     | zero=>rfl
     | succ k=>exact (beq_false_of_ne (by omega)).trans (beq_false_of_ne (by omega)).symm
    refine zbY (fun m s=>∃ k env B w',m+k=t.length∧s=⟨env,⟨B,es'⟩,[],[]⟩∧env.length=42∧nth env 1=some (jk nl t)∧nth env 4=some (.ptr 1 0)∧nth env 6=some (.ifc vt vu)∧nth env 24=some (jk nl t)∧nth env 25=some (.int .i64 t.length)∧nth env 26=some (.int .i64 (k:Nat))∧At B w' 2 hi (.ifc vt vu)∧nth B 1=some (.cells (stV st0).cells 24)∧hi≤B.length∧2≤B.length∧FW w'=FW w∧RgW w'∧runE w 0 t=runE w' k (t.drop k)) t.length (by omega) ⟨0,_,_,w,rfl,rfl,rfl,rfl,rfl,rfl,rfl,rfl,rfl,hat,rfl,hhi,by simp,rfl,hrg,rfl⟩ ?_
    rintro m s ⟨k,env,B,w',hmk,rfl,hel,g1,g4,g6,g24,g25,g26,hat,hB1,hhB,hB2,hFW',hrg',hrun⟩
    simp only [zg]
    refine zc (tk:=[]) (by kernel_rfl) ?_
    simp only [zm,go_os_nil,zg,go_skip,qu,zE,peek,zb,opQ_val,zo,zD,zn,zN,zT,if_true,za,Nat.reduceLT,if_true,g25,g26,hel,xx]
    by_cases hk:k<t.length
    ·refine .inl ⟨by simp;omega,?_⟩
     obtain ⟨b,hb⟩:∃ b,t[k]?=some b:=⟨t[k],by simp [hk]⟩
     have hbl2:b<256:=ht b (List.mem_of_getElem? hb)
     have hdr:t.drop k=b::t.drop (k+1):=by
      rw [List.drop_eq_getElem_cons hk]
      rw [List.getElem?_eq_getElem hk] at hb
      rw [Option.some.inj hb]
     rw [hdr] at hrun
     simp only [runE] at hrun
     obtain ⟨bs2,a1,a2,a3,a4⟩:=zfi hg.toGW (FW w') hat hrg' hhB (Nat.le_refl _) (n:=n) (by omega) (k == 0) b hbl2 es'
     have hst:=fun env=>jG (lk:=[]) (df:=[]) (env:=env) a1
     rw [hg.uq] at hst
     try simp only [go_skip,zg,qu]
     refine zc (tk:=[]) (by kernel_rfl) ?_
     simp only [zm,go_os_nil,zk,zt,zd,qI,Nat.reduceEqDiff,peek,ze,zeX,zb,zh,opQ_val,zo,zD,zco,Option.bind_some,Option.map_some,yk,if_true,za,List.length_set,Nat.reduceLT,if_true,if_false,g24,g26,hel,jM,yk,zn4 hb,zn5]
     refine zc (tk:=[]) (by kernel_rfl) ?_
     simp only [zm,go_os_nil,wz,zk,zE,Nat.reduceEqDiff,peeks,zS,peek,ofVal,zb,opQ_val,zo,zD,zn,if_true,za,List.length_set,Nat.reduceLT,if_true,if_false,g6,hel,qi,q7,hnb,zW,hst]
     refine zc (tk:=[]) (by kernel_rfl) ?_
     simp only [zm,go_os_nil,zk,zE,Nat.reduceEqDiff,peek,ofVal,zb,opQ_val,zo,zD,if_true,za,List.length_set,Nat.reduceLT,if_true,if_false,g26,hel,ka (show k<2 ^ 60 by omega),zI,thn_normal]
     refine ⟨m - 1,by omega,k+1,_,bs2,_,by omega,rfl,?_,?_,?_,?_,?_,?_,?_,a2,(a4 1 (by omega)).trans hB1,by omega,by omega,(FW_st _ _ _ _ (Nat.le_refl _)).trans hFW',Rg_st _ _ _ _ (Nat.le_refl _) hrg',hrun⟩
     ·simp [hel]
     ·simp [za,g1]
     ·simp [za,g4]
     ·simp [za,g6]
     ·simp [za,g24]
     ·simp [za,g25]
     ·simp [za,hel]
    ·refine .inr ⟨by simp;omega,?_⟩
     obtain rfl:k=t.length:=by omega
     rw [List.drop_length] at hrun
     simp only [runE] at hrun
     have hnx:=fun env=>jG (lk:=[]) (df:=[]) (env:=env) (zhI hg.toGW (FW w') hat hrg' hhB (Nat.le_refl _) (n:=n) (by omega) (t.length == 0) es')
     rw [hg.uq] at hnx
     have hst2:∀ env s,jo Tryz.prog 24 ⟨B,es'⟩ [] [] (some (stV s,env)) (some (.ptr 1 0))=some (.skip,⟨env,Hp.set ⟨B,es'⟩ 1 (.cells (stV s).cells 24),[],[]⟩):=fun env s=>xG hB1
     have hlr2:∀ g s,zL Tryz.prog (Hp.set ⟨B,es'⟩ 1 (.cells (stV s).cells 24)) g 24 (.ptr 1 0)=some (stV s):=fun g s=>zeg (by rw [zdj,show Hp.get ⟨B,es'⟩ 1=some _ from hB1];simp)
     simp only [zbX,xe,ye,zI,thn_exit,zg,Nat.beq_refl,if_true,zI]
     refine zc (tk:=[]) (by kernel_rfl) ?_
     simp only [zm,go_os_nil,zk,zJ,zE,zd,kV,Nat.reduceEqDiff,peeks,zS,peek,ze,zG,ofVal,zb,zh,opQ_val,opQ_skip,zo,zD,zn,zu,Option.bind_some,Option.map_some,if_true,za,List.length_set,Nat.reduceLT,if_true,if_false,g1,g4,g6,hel,jM,zem,qi,q7,hnb,zW,hnx,wx,hst2]
     simp only [go_ret,zI,Fx]
     refine ⟨trivial,[stV (nxW w' (t.length == 0)),.nili],?_,?_⟩
     ·simp [zQ,za,hel,g4,hlr2];rfl
     ·simp only [zcB,hE,zhM,hfw,hrun,tupOf,if_true];rfl
end Go.Proofs.YtlnijcffanjieaaGreatDoor
namespace Go.Proofs.YtlnijcffanjieaaGreatDoor
set_option maxRecDepth 10000
open Go Go.Vm Go.Vm.Sx
variable {gl:Gl} [NoU gl]
theorem lent11:kH Tryz.prog Tryz.f11.params.toList=some []:=by kernel_rfl
theorem lent13:kH Tryz.prog Tryz.f13.params.toList=some []:=by kernel_rfl
theorem lent18:kH Tryz.prog Tryz.f18.params.toList=some []:=by kernel_rfl
theorem lent19:kH Tryz.prog Tryz.f19.params.toList=some []:=by kernel_rfl
theorem lent20:kH Tryz.prog Tryz.f20.params.toList=some []:=by kernel_rfl
theorem lent21:kH Tryz.prog Tryz.f21.params.toList=some []:=by kernel_rfl
theorem zpN {x:V}:wY Tryz.prog [34] [.d x] 0:=by
 refine ⟨fun e=>?_,trivial⟩
 rw [Tryz.underlying34];simp
theorem znC {x y:V}:wY Tryz.prog [36,36] [.d x,.d y] 0:=by
 refine ⟨fun e=>?_,fun e=>?_,trivial⟩<;>rw [Tryz.underlying36]<;>simp
theorem zmv {x:V}:wY Tryz.prog [25] [.d x] 0:=by
 refine ⟨fun e=>?_,trivial⟩
 rw [Tryz.underlying25];simp
theorem zoT {x y z:V}:wY Tryz.prog [3,3,27] [.d x,.d y,.d z] 0:=by
 refine ⟨fun e=>?_,fun e=>?_,fun e=>?_,trivial⟩
 ·rw [Tryz.underlying3];simp
 ·rw [Tryz.underlying3];simp
 ·rw [Tryz.underlying27];simp
theorem zpO (hgl:GL gl):∀ (e:E),Wf e→Ev Tryz.prog gl 11 [.d (enc e)] [] (.bool (zaQ e)) []
 | .mk op pl s0 s1 s2 s3 text mn mx nl args,hw=>by
  refine j9 (xs:=[enc (.mk op pl s0 s1 s2 s3 text mn mx nl args)]) hgl.top (hgl.no 11 rfl) tree11_ok Tryz.func11 lent11 zoJ (by simp [tops,top_enc]) (N:=1) ?_
  have hc:=jU (zpl hgl (.mk op pl s0 s1 s2 s3 text mn mx nl args) hw 1 0 0)
  simp only [zhF,zgh,zef,enc] at hc
  simp only [tree11,enc,zaQ]
  simp only [zY,zX,ev_opn,qn,jf,qK,qL,qd,kN,xF,yy,ks_nil,Bool.and_self,q8,zH,zM,yA,evI,zp,evC,zy,kz,evA,qx,jt,joinL,sizesOk,zD,wJ,Nat.beq_refl,List.length_cons,List.length_nil,yf,hc,q5]
def nvL (l:List Nat):V:=lv 1 true (ju l)
theorem zmw (l:List Nat):kOk (.sl 1) (nvL l)=true:=zoC ..
theorem zen (l:List Nat):vL (nvL l)=ju l:=zl4 ..
theorem znD (l:List Nat):clr (nvL l)=nvL l:=clr_lv ..
theorem tops_intL:∀ l:List Nat,tops (ju l)=0
 | []=>rfl
 | a::l=>by simp only [ju,List.map_cons,tops];exact tops_intL l
theorem zjE (l:List Nat):(nvL l).top=0:=by unfold nvL;rw [zit];exact tops_intL l
theorem zjF (l:List Nat):clr (qw 1 3 (ju l))=nvL l:=by cases l<;>rfl
theorem zap (l:List Nat):(ju l).length=l.length:=by simp [ju]
theorem zhN {l:List Nat} {i n:Nat} (h:l[i]?=some n):nth (ju l) i=some (.int .i64 (n:Nat)):=by rw [zl,ju,List.getElem?_map,h];rfl
theorem zhO (nl:Bool) (t:List Nat):kOk (.sl 1) (jk nl t)=true:=zoC ..
theorem zaq (nl:Bool) (t:List Nat):vL (jk nl t)=t.map fun b=>V.int .u8 (b:Nat):=zl4 ..
theorem zdm (nl:Bool) (t:List Nat):(jk nl t).top=0:=by
 unfold jk;rw [zit]
 induction t with
 | nil=>rfl
 | cons a t ih=>simp only [List.map_cons,tops];exact ih
theorem znE (nl:Bool) (t:List Nat) (n:Nat):zii (jk nl t) 0 (n:Int)=jk (nl && t.isEmpty) (t.take n):=by
 rcases lv_cases 1 nl (t.map fun b=>V.int .u8 (b:Nat)) with h|⟨h0,h⟩
 ·rw [jk,h]
  simp only [zii,jk,lv,List.map_take,Int.toNat_natCast,Int.toNat_zero,List.drop_zero]
  cases nl with
  | false=>simp
  | true =>
   cases t with
   | nil=>simp [lv] at h
   | cons a t=>simp
 ·have:t=[]:=by simpa using h0
  subst this
  rw [jk,h]
  cases nl with
  | false=>simp [lv] at h
  | true=>simp [zii,jk,lv]
def zeo (t:List Nat):List Nat:=if 40<t.length∧t.length≤65536 then t.take 40 else t
theorem zmx (nl:Bool) (t:List Nat):jk nl t=jk (nl && t.isEmpty) t:=by
 cases nl<;>cases t<;>rfl
theorem zqy (hgl:GL gl) (nl:Bool) (t:List Nat):Ev Tryz.prog gl 13 [.d (jk nl t)] [] (jk (nl && t.isEmpty) (zeo t)) []:=by
 refine j9 (xs:=[jk nl t]) hgl.top (hgl.no 13 rfl) tree13_ok Tryz.func13 lent13 zpN (by simp [tops,zdm]) (N:=1) ?_
 simp only [tree13]
 by_cases h1:40<t.length
 ·by_cases h2:t.length≤65536
  ·have e1:ltz 40 (t.length:Int)=true:=ltz_t (by omega)
   have e2:lez (t.length:Int) 65536=true:=zl2 (by omega)
   have e3:lez 40 (t.length:Int)=true:=zl2 (by omega)
   have e4:=znE nl t 40
   have hT:zeo t=t.take 40:=if_pos ⟨h1,h2⟩
   rw [hT]
   have e5:zii (jk nl t) 0 40=jk (nl && t.isEmpty) (t.take 40):=e4
   simp only [kK,qn,qK,Bool.and_self,evB,evI,evL,zgd,jW,zhO,zaq,e1,e2,List.length_map]
   rw [zbW]
   ·simp only [zY,zX,qK,qL,zH,zM,evI,zp,evC,zy,jt,e5]
   ·simp only [qK,Bool.and_true,evB,evI,evL,zgd,zaq,e3,List.length_map]
    rfl
  ·have e1:ltz 40 (t.length:Int)=true:=ltz_t (by omega)
   have e2:lez (t.length:Int) 65536=false:=zpf (by omega)
   have hT:zeo t=t:=if_neg (by omega)
   rw [hT,← zmx]
   simp only [kE,zY,zX,qn,qK,qL,Bool.and_false,zH,zM,evB,evI,evL,zp,evC,zy,jt,zgd,jW,zhO,zaq,e1,e2,List.length_map,jM]
 ·have e1:ltz 40 (t.length:Int)=false:=zbT (by omega)
  have hT:zeo t=t:=if_neg (by omega)
  rw [hT,← zmx]
  simp only [kE,zY,zX,qn,qK,qL,Bool.false_and,zH,zM,evB,evI,evL,zp,evC,zy,jt,zgd,jW,zhO,zaq,e1,List.length_map,jM]
def eqR:List Nat→List Nat→Bool
 | [],_=>true
 | a::r,b::q=>(a == b) && eqR r q
 | _::_,[]=>true
theorem eqR_dec:∀ {a b:List Nat},a.length=b.length→eqR a b=decide (a=b)
 | [],[],_=>rfl
 | a::r,b::q,h=>by
  simp only [eqR,eqR_dec (a:=r) (b:=q) (by simpa using h),List.cons.injEq]
  by_cases h1:a=b<;>simp [h1]
theorem zqz (hgl:GL gl) (a b:List Nat) (hl:a.length≤maxLen):Ev Tryz.prog gl 21 [.d (nvL a),.d (nvL b)] [] (.bool (decide (a=b))) []:=by
 refine j9 (xs:=[nvL a,nvL b]) hgl.top (hgl.no 21 rfl) tree21_ok Tryz.func21 lent21 znC (by simp [tops,zjE]) (N:=a.length+1) ?_
 have hml:=maxLen_le
 simp only [tree21]
 by_cases hlen:a.length=b.length
 ·rw [← eqR_dec hlen]
  have key:∀ (r q:List Nat) (i:Nat),a.drop i=r→b.drop i=q→r.length=q.length→∀ k,r.length<k→zbU (phE Tryz.prog gl) gl.g (a.length+1) lp21_1 [nvL a,nvL b] k [.int .i64 (i:Int)]=some (0,[.bool (eqR r q)]):=by
   simp only [lp21_1]
   intro r
   induction r with
   | nil =>
    intro q i hd hq hl k hk
    obtain ⟨k,rfl⟩:∃ k',k=k'+1:=⟨k - 1,by omega⟩
    refine wH ?_
    have h1:=zl3 (zcw hd)
    simp only [kE,zY,ev_esc,zX,qK,qL,zH,zM,evB,evI,evL,zp,evC,zy,jt,z0,jV,zen,zap,h1,eqR]
   | cons x r ih =>
    intro q i hd hq hl k hk
    obtain ⟨k,rfl⟩:∃ k',k=k'+1:=⟨k - 1,by omega⟩
    cases q with
    | nil=>simp at hl
    | cons y q =>
     obtain ⟨ha,hi,hd'⟩:=zaJ hd
     obtain ⟨hb,hi2,hq'⟩:=zaJ hq
     have h1:=zjn hi
     have h2:=zhN ha
     have h3:=zhN hb
     have h4:=zmf (i:=i) (by omega)
     have he:((x:Int) == (y:Int))=(x == y):=by
      rw [Bool.eq_iff_iff];simp;omega
     cases hc:x == y with
     | true =>
      rw [hc] at he
      simp only [eqR,hc,Bool.true_and]
      refine yb (vs:=[.int .i64 ((i+1:Nat):Int)]) ?_ (ih q (i+1) hd' hq' (by simpa using hl) k (by simp at hk;omega))
      simp only [kK,kE,zY,yz,qn,qK,qL,kN,Bool.not_true,zcW,zH,zM,evB,evI,evL,zp,evC,z0,jV,jv,biI,zcX,zen,zap,h1,h2,h3,h4,he,Int.toNat_natCast]
     | false =>
      rw [hc] at he
      simp only [eqR,hc,Bool.false_and]
      refine wH ?_
      simp only [kK,zY,ev_esc,zX,yz,qn,qK,qL,kN,Bool.not_false,zcW,zH,zM,evB,evI,evL,zp,evC,zy,jt,z0,jV,jv,zcX,zen,zap,h1,h2,h3,he,Int.toNat_natCast]
  have he:((a.length:Int) == (b.length:Int))=true:=by rw [hlen];simp
  simp only [kE,qn,zaI,qK,qL,Bool.not_true,evB,evI,evL,zp,evC,jv,zmw,zen,zap,he]
  exact zbV (key a b 0 rfl rfl hlen _ (by omega))
 ·have he:((a.length:Int) == (b.length:Int))=false:=beq_false_of_ne (by omega)
  have hne:decide (a=b)=false:=decide_eq_false (fun h=>hlen (by rw [h]))
  rw [hne]
  simp only [kK,zY,zX,qn,qK,qL,Bool.not_false,zH,zM,evB,evI,evL,zp,evC,zy,jt,jv,zmw,zen,zap,he]
def vm (mn mx:Int) (e:E):E:=.mk 7 0 0 0 0 0 [] mn mx false [e]
def jY (l:List E):E:=.mk 5 0 0 0 0 0 [] 0 0 false l
def jK (l:List E):E:=.mk 6 0 0 0 0 0 [] 0 0 false l
theorem zfj (nl:Bool):∀ l:List E,(qW nl (encs l)).top=0:=fun l=>by
 have:=top_enc (.mk 0 0 0 0 0 0 [] 0 0 nl l)
 simp [enc,V.top,tops] at this
 exact this
theorem zqA (hgl:GL gl) (mn mx:Int):∀ (e:E),Ev Tryz.prog gl 18 [.d (.int .i64 mn),.d (.int .i64 mx),.d (enc e)] [] (enc (vm mn mx e)) []
 | .mk op pl s0 s1 s2 s3 text mn' mx' nl args=>by
  refine j9 (xs:=[.int .i64 mn,.int .i64 mx,enc (.mk op pl s0 s1 s2 s3 text mn' mx' nl args)]) hgl.top (hgl.no 18 rfl) tree18_ok Tryz.func18 lent18 zoT (by simp [tops,V.top,top_enc]) (N:=1) ?_
  have hf:∀ l,qW false l=.sl 10 l .no:=fun _=>rfl
  simp only [tree18,enc,vm,encs,hf]
  simp only [zY,zX,ev_opn,qn,qK,qL,qd,kN,xF,ks_nil,Bool.and_self,q8,zH,zM,evI,evS,evL,zp,evC,zy,jt,zD,wJ,yf,q5]
theorem zqB (hgl:GL gl) (l:List E):Ev Tryz.prog gl 19 [.d (qW false (encs l))] [] (enc (jY l)) []:=by
 refine j9 (xs:=[qW false (encs l)]) hgl.top (hgl.no 19 rfl) tree19_ok Tryz.func19 lent19 zmv (by simp [tops,zfj]) (N:=1) ?_
 simp only [tree19,enc,jY]
 simp only [zY,zX,qn,qK,qL,zH,zM,evI,evS,zp,evC,zy,jt,yf,q5]
theorem zpP (hgl:GL gl) (l:List E):Ev Tryz.prog gl 20 [.d (qW false (encs l))] [] (enc (jK l)) []:=by
 refine j9 (xs:=[qW false (encs l)]) hgl.top (hgl.no 20 rfl) tree20_ok Tryz.func20 lent20 zmv (by simp [tops,zfj]) (N:=1) ?_
 simp only [tree20,enc,jK]
 simp only [zY,zX,qn,qK,qL,zH,zM,evI,evS,zp,evC,zy,jt,yf,q5]
end Go.Proofs.YtlnijcffanjieaaGreatDoor
