/- Seat 7: Ends is walked; Seat 7: Next is walked; Seat 7: the laws' small functions, out of their trees. Conditions: none but those that each theorem names. -/
import Derived.Test.YtlnijcffanjieaaGreatDoorVmF
import Derived.Test.YtlnijcffanjieaaGreatDoorVmG
import Derived.Test.YtlnijcffanjieaaGreatDoorVmK
namespace Go.Proofs.YtlnijcffanjieaaGreatDoor
set_option maxRecDepth 100000
open Go Go.Vm
variable {gl:Gl}
def erA:V:=.ifc 373 (.obj 0)
structure GWC (gl:Gl):Prop extends GW gl where
 chk:∀ e,Wf e→Can e→gl.hk 11 [enc e]=some (.bool (chkP e))
 g0:gl.g 0 0=some erA
 hkN:∀ f args,([14,16].any (Nat.beq f))=true→gl.hk f args=none
theorem e11 (hg:GWC gl) {e:E} (hw:Wf e) (hc:Can e) {n:Nat} (hn:1≤n) (H:Hp):Cx.callF ⟨Tryz.prog,gl.g,callA Tryz.prog gl n,uqw⟩ 11 [.agg (ecells e)] H=some (.val (.bool (chkP e)),H):=by
 have:=callA_hk (n:=n - 1) (H:=H) (hg.chk e hw hc)
 rw [show n - 1+1=n by omega,enc_cells] at this
 exact callF_run Tryz.func11 rfl this
theorem ag38:aggT Tryz.prog 38=some false:=by kernel_rfl
theorem ld27p {H:Hp} {g:Nat→Nat→Option V} {b:Nat} {e:E} (h:H.get b=some (.cells (ecells e) 27)):loadA Tryz.prog H g 27 (.ptr b 0)=some (.agg (ecells e)):=by
 rw [load_agg ag27 sz27 h (by rw [ecells_len];decide),List.drop_zero,List.take_of_length_le (by rw [ecells_len];decide)]
def okP (e:E) (t:List Nat):Bool:=chkP e && decide (t.length≤65536)
def goodE (e:E) (t:List Nat):List Nat:=match foW e with|some w=>endsM w t|none=>[]
def endV (e:E) (t:List Nat):V:=if okP e t then .tup [clr (ownL 1 3 (intL (goodE e t))),.nili] else .tup [.snil,erA]
theorem e14 (hg:GWC gl) {e:E} {nl:Bool} {t:List Nat} (hw:Wf e) (hc:Can e) (hr:Rg e) (ht:∀ b∈t,b<256) {n:Nat} (hn:2 * YtlnijcffanjieaaGreatDoor.hg e+t.length+2≤n):∃ H',callA Tryz.prog gl (n+1) 14 [enc e,bytV nl t] ⟨[],[]⟩=some (.ret (endV e t),H'):=by
 suffices hmain:go ⟨Tryz.prog,gl.g,callA Tryz.prog gl n,gl.uq⟩ n (Fx Tryz.prog Tryz.f14.results.toList fun u H1=>u=endV e t) [.c (Tryz.f14.body.getD .skip)] .normal ⟨[.agg (ecells e),bytV nl t]++List.replicate 17 (.tup []),⟨[],[]⟩,[],[]⟩ by
  rw [enc_cells]
  obtain ⟨u,H1,h1,rfl⟩:=go_intro' (gl:=gl) (f:=14) (bs:=[]) (es:=[]) (args:=[.agg (ecells e),bytV nl t]) (n:=n) (hg.hkN _ _ (by decide)) (fun H=>hg.hk2 _ _ _ _) Tryz.func14 rfl hmain
  exact ⟨_,h1⟩
 rw [hg.uq]
 have h11:=e11 hg hw hc (n:=n) (by omega)
 simp only [Tryz.f14,Option.getD_some,go_seq]
 refine go_reg' (tk:=[]) (by kernel_rfl) ?_
 simp only [go_os,go_os_nil,go_seq,op_box,op_assign,take_tmp,take_const,ofVal,takeV_agg,tkQ_some,opQ_val,putA,Option.map_some,push_mk,List.length_nil,List.cons_append,List.nil_append,nth_cons0,List.set_cons_zero,List.set_cons_succ,boxQ_some (show okC (.agg (ecells e))=true from rfl),V.laid,ecells_clr,List.replicate,List.length_nil]
 have hB:nth ([]++[Blk.cells (ecells e) 27]) 0=some (.cells (ecells e) 27):=rfl
 have hld:∀ g,loadA Tryz.prog ⟨[.cells (ecells e) 27],[]⟩ g 27 (.ptr 0 0)=some (.agg (ecells e)):=fun g=>ld27p rfl
 refine go_reg' (tk:=[]) (by kernel_rfl) ?_
 simp only [go_os,op_move0,op_load0,op_unOp,op_call,peeks,fV_eq,peek,rdQ_some,opQ_val,putA,clr_bool,clr_agg,clr_ptr,Option.bind_some,Option.map_some,callG_some,callQ,List.map_cons,List.map_nil,nth_cons0,nth_cons,List.set_cons_zero,List.set_cons_succ,hld,h11,unA]
 have hl0:∀ H,loadA Tryz.prog H gl.g 38 (.gptr 0 0)=some erA:=fun H=>by simp [loadA,ag38,hg.g0]
 cases hch:chkP e
 ·simp only [go_os,go_os_nil,go_seq,go_skip,op_move0,op_binOp,op_pick,op_len,peek,ofVal,rdQ_some,opQ_val,putA,clr_int,clr_bool,Option.bind_some,Option.map_some,true_and,go_cond',condQ_b,pickV_t,nth_cons0,nth_cons,List.set_cons_zero,List.set_cons_succ,go_osg,wanted_nth,wantO_s,wantB_ft,gdQ_f,Bool.not_false,clr_byt,len34,bin_gtr]
  refine .inl ?_
  refine go_drawJ [] [(false,false),(false,false),(false,false)] (tk:=[]) (by kernel_rfl) (by kernel_rfl) ?_
  simp only [op_load0,op_assign,peek,take_tmp,take_const,ofVal,rdQ_some,tkQ_some,putA,Option.bind_some,Option.map_some,true_and,ldChk,nth_cons0,nth_cons,List.set_cons_zero,List.set_cons_succ,oj_cons,oj_nil,ojV_val,pendA_f,ag38,hl0,erA,clr_ifc,takeV_ifc]
  simp only [go_ret,go_nil,go_c_ret,Fx]
  refine ⟨trivial,[.snil,erA],rfl,?_⟩
  simp only [endV,okP,hch,tupOf,Bool.false_and,Bool.false_eq_true,if_false];rfl
 ·simp only [go_os,go_os_nil,go_seq,go_skip,op_move0,op_binOp,op_pick,op_len,peek,ofVal,rdQ_some,opQ_val,putA,clr_int,clr_bool,Option.bind_some,Option.map_some,go_cond',condQ_b,pickV_f,nth_cons0,nth_cons,List.set_cons_zero,List.set_cons_succ,go_osg,wanted_nth,wantO_s,wantB_ff,gdQ_t,Bool.not_true,clr_byt,len34,bin_gtr]
  by_cases hlen:(t.length:Int) > 65536
  ·refine .inl ⟨by simpa using hlen,?_⟩
   refine go_drawJ [] [(false,false),(false,false),(false,false)] (tk:=[]) (by kernel_rfl) (by kernel_rfl) ?_
   simp only [op_load0,op_assign,peek,take_tmp,take_const,ofVal,rdQ_some,tkQ_some,putA,Option.bind_some,Option.map_some,true_and,ldChk,nth_cons0,nth_cons,List.set_cons_zero,List.set_cons_succ,oj_cons,oj_nil,ojV_val,pendA_f,ag38,hl0,erA,clr_ifc,takeV_ifc]
   simp only [go_ret,go_nil,go_c_ret,Fx]
   refine ⟨trivial,[.snil,erA],rfl,?_⟩
   have:¬ t.length≤65536:=by omega
   simp only [endV,okP,hch,tupOf,this,decide_false,Bool.and_false,Bool.false_eq_true,if_false];rfl
  ·refine .inr ⟨by simpa using hlen,?_⟩
   have hle:t.length≤65536:=by omega
   have hcor:=chk_cor hch
   obtain ⟨v,bs',es',h45,hnew,hes,hres⟩:=fo_ok hg.toGW _ e (Nat.le_refl _) hcor (n - 1) (by omega) [.cells (ecells e) 27] []
   rw [show n - 1+1=n by omega,enc_cells,List.append_nil] at h45
   have c45:=callF_run (gl:=gl.g) (uq:=uqw) Tryz.func45 rfl h45
   have hcc:∀ l env t,takeV env t (some (clr (ownL 1 3 (intL l))))=some (clr (ownL 1 3 (intL l)),env):=fun l _ _=>by cases intL l<;>rfl
   have hc2:∀ l,clr (clr (ownL 1 3 (intL l)))=clr (ownL 1 3 (intL l)):=fun l=>by cases intL l<;>rfl
   have hE:okP e t=true:=by simp [okP,hch,hle]
   cases hfw:foW e with
   | none =>
    rw [hfw] at hres
    obtain rfl:v=.nili:=hres
    have h44:=e44_nil hg.toGW (n:=n - 1) (bs:=bs') (es:=es') (nl:=nl) (t:=t)
    rw [show n - 1+1=n by omega] at h44
    have c44:=callF_run (gl:=gl.g) (uq:=uqw) Tryz.func44 rfl h44
    refine go_reg' (tk:=[]) (by kernel_rfl) ?_
    simp only [go_os,go_os_nil,op_move0,op_load0,op_assign,op_call,peeks,fV_eq,peek,take_tmp,take_const,ofVal,takeV_snil,rdQ_some,tkQ_some,opQ_val,putA,clr_agg,clr_ptr,Option.bind_some,Option.map_some,callG_some,callQ,List.map_cons,List.map_nil,nth_cons0,nth_cons,List.set_cons_zero,List.set_cons_succ,hld,c45,c44,clr_byt,clr_nili]
    simp only [go_ret,go_nil,Fx]
    refine ⟨trivial,[.snil,.nili],rfl,?_⟩
    simp [endV,hE,goodE,hfw,tupOf,intL,ownL,clr]
   | some w =>
    rw [hfw] at hres
    obtain ⟨hi,hhi,hat⟩:=hres
    have hFW:=foW_FW _ e w (Nat.le_refl _) hfw
    obtain ⟨bs2,h44⟩:=e44 hg.toGW (n:=n - 1) (es:=es') (nl:=nl) (t:=t) hat (foW_rg _ e w (Nat.le_refl _) hcor hr hfw) hhi (by omega) (by omega) ht hle
    obtain ⟨vt,vu,rfl⟩:=hat.ifc
    rw [show n - 1+1=n by omega] at h44
    have c44:=callF_run (gl:=gl.g) (uq:=uqw) Tryz.func44 rfl h44
    refine go_reg' (tk:=[]) (by kernel_rfl) ?_
    simp only [go_os,go_os_nil,op_move0,op_load0,op_assign,op_call,peeks,fV_eq,peek,take_tmp,take_const,ofVal,rdQ_some,tkQ_some,opQ_val,putA,clr_agg,clr_ptr,Option.bind_some,Option.map_some,callG_some,callQ,List.map_cons,List.map_nil,nth_cons0,nth_cons,List.set_cons_zero,List.set_cons_succ,hld,c45,c44,clr_byt,clr_ifc,hcc]
    simp only [go_ret,go_nil,Fx]
    refine ⟨trivial,[clr (ownL 1 3 (intL (endsM w t))),.nili],?_,?_⟩
    ·simp only [resultsA,nth_cons0,nth_cons]
    ·simp only [endV,hE,goodE,hfw,tupOf,if_true,List.map_cons,List.map_nil,hc2,clr_nili]
end Go.Proofs.YtlnijcffanjieaaGreatDoor
namespace Go.Proofs.YtlnijcffanjieaaGreatDoor
set_option maxRecDepth 100000
open Go Go.Vm
variable {gl:Gl}
def nxtE (e:E) (t:List Nat):St4:=match foW e with|some w=>nxW (runE w 0 t) (t.length == 0)|none=>st0
def nxtV (e:E) (t:List Nat):V:=if okP e t then .tup [stV (nxtE e t),.nili] else .tup [stV st0,erA]
theorem e16 (hg:GWC gl) {e:E} {nl:Bool} {t:List Nat} (hw:Wf e) (hc:Can e) (hr:Rg e) (ht:∀ b∈t,b<256) {n:Nat} (hn:2 * YtlnijcffanjieaaGreatDoor.hg e+t.length+2≤n):∃ H',callA Tryz.prog gl (n+1) 16 [enc e,bytV nl t] ⟨[],[]⟩=some (.ret (nxtV e t),H'):=by
 suffices hmain:go ⟨Tryz.prog,gl.g,callA Tryz.prog gl n,gl.uq⟩ n (Fx Tryz.prog Tryz.f16.results.toList fun u H1=>u=nxtV e t) [.c (Tryz.f16.body.getD .skip)] .normal ⟨[.agg (ecells e),bytV nl t]++List.replicate 40 (.tup []),⟨[],[]⟩,[],[]⟩ by
  rw [enc_cells]
  obtain ⟨u,H1,h1,rfl⟩:=go_intro' (gl:=gl) (f:=16) (bs:=[]) (es:=[]) (args:=[.agg (ecells e),bytV nl t]) (n:=n) (hg.hkN _ _ (by decide)) (fun H=>hg.hk2 _ _ _ _) Tryz.func16 rfl hmain
  exact ⟨_,h1⟩
 rw [hg.uq]
 have h11:=e11 hg hw hc (n:=n) (by omega)
 simp only [Tryz.f16,Option.getD_some,go_seq]
 refine go_reg' (tk:=[]) (by kernel_rfl) ?_
 simp only [go_os,go_os_nil,go_seq,op_box,op_alloc_z,op_assign,take_tmp,take_const,ofVal,takeV_agg,tkQ_some,opQ_val,putA,Option.map_some,push_mk,List.length_cons,List.length_nil,Nat.zero_add,List.cons_append,List.nil_append,nth_cons0,List.set_cons_zero,List.set_cons_succ,boxQ_some (show okC (.agg (ecells e))=true from rfl),V.laid,ecells_clr,alc24,List.replicate,List.length_nil]
 have hld:∀ g S,loadA Tryz.prog ⟨[.cells (ecells e) 27,S],[]⟩ g 27 (.ptr 0 0)=some (.agg (ecells e)):=fun g S=>ld27p rfl
 have hst:∀ env s bs es,storX Tryz.prog 24 ⟨Blk.cells (ecells e) 27::Blk.cells (stV st0).cells 24::bs,es⟩ [] [] (some (stV s,env)) (some (.ptr 1 0))=some (.skip,⟨env,⟨Blk.cells (ecells e) 27::.cells (stV s).cells 24::bs,es⟩,[],[]⟩):=fun env s bs es=>by rw [sto_st rfl];rfl
 have hlr:∀ g s bs es,loadA Tryz.prog ⟨Blk.cells (ecells e) 27::.cells (stV s).cells 24::bs,es⟩ g 24 (.ptr 1 0)=some (stV s):=fun g s bs es=>ld_st rfl
 refine go_reg' (tk:=[]) (by kernel_rfl) ?_
 simp only [go_os,op_move0,op_load0,op_unOp,op_call,peeks,fV_eq,peek,rdQ_some,opQ_val,putA,clr_bool,clr_agg,clr_ptr,Option.bind_some,Option.map_some,callG_some,callQ,List.map_cons,List.map_nil,nth_cons0,nth_cons,List.set_cons_zero,List.set_cons_succ,hld,h11,unA]
 have hl0:∀ H,loadA Tryz.prog H gl.g 38 (.gptr 0 0)=some erA:=fun H=>by simp [loadA,ag38,hg.g0]
 cases hch:chkP e
 ·simp only [go_os,go_os_nil,go_seq,go_skip,op_move0,op_binOp,op_pick,op_len,peek,ofVal,rdQ_some,opQ_val,putA,clr_int,clr_bool,Option.bind_some,Option.map_some,true_and,go_cond',condQ_b,pickV_t,nth_cons0,nth_cons,List.set_cons_zero,List.set_cons_succ,go_osg,wanted_nth,wantO_s,wantB_ft,gdQ_f,Bool.not_false,clr_byt,len34,bin_gtr]
  refine .inl ?_
  refine go_drawJ [1] [(false,false),(true,false),(false,true),(false,false)] (tk:=[]) (by kernel_rfl) (by kernel_rfl) ?_
  simp only [op_load0,op_store_x,op_build,op_assign,peek,take_tmp,rdQ_some,tkQ_some,putA,clr_ptr,Option.bind_some,Option.map_some,true_and,ldChk,nth_cons0,nth_cons,List.set_cons_zero,List.set_cons_succ,oj_cons,oj_nil,ojV_val,ojV_skip,pendA_f,pendA_t,ag38,bld24,take_st,hl0,erA,clr_ifc,takeV_ifc,hst]
  refine ⟨fun _=>pend_load (p:=.gptr 0 0) rfl (hl0 _) rfl,?_⟩
  simp only [go_ret,go_nil,go_c_ret,Fx]
  refine ⟨trivial,[stV st0,erA],?_,?_⟩
  ·simp only [resultsA,nth_cons0,nth_cons,hlr];rfl
  ·simp only [nxtV,okP,hch,tupOf,Bool.false_and,Bool.false_eq_true,if_false];rfl
 ·simp only [go_os,go_os_nil,go_seq,go_skip,op_move0,op_binOp,op_pick,op_len,peek,ofVal,rdQ_some,opQ_val,putA,clr_int,clr_bool,Option.bind_some,Option.map_some,go_cond',condQ_b,pickV_f,nth_cons0,nth_cons,List.set_cons_zero,List.set_cons_succ,go_osg,wanted_nth,wantO_s,wantB_ff,gdQ_t,Bool.not_true,clr_byt,len34,bin_gtr]
  by_cases hlen:(t.length:Int) > 65536
  ·refine .inl ⟨by simpa using hlen,?_⟩
   refine go_drawJ [1] [(false,false),(true,false),(false,true),(false,false)] (tk:=[]) (by kernel_rfl) (by kernel_rfl) ?_
   simp only [op_load0,op_store_x,op_build,op_assign,peek,take_tmp,rdQ_some,tkQ_some,putA,clr_ptr,Option.bind_some,Option.map_some,true_and,ldChk,nth_cons0,nth_cons,List.set_cons_zero,List.set_cons_succ,oj_cons,oj_nil,ojV_val,ojV_skip,pendA_f,pendA_t,ag38,bld24,take_st,hl0,erA,clr_ifc,takeV_ifc,hst]
   refine ⟨fun _=>pend_load (p:=.gptr 0 0) rfl (hl0 _) rfl,?_⟩
   simp only [go_ret,go_nil,go_c_ret,Fx]
   refine ⟨trivial,[stV st0,erA],?_,?_⟩
   ·simp only [resultsA,nth_cons0,nth_cons,hlr];rfl
   ·have:¬ t.length≤65536:=by omega
    simp only [nxtV,okP,hch,tupOf,this,decide_false,Bool.and_false,Bool.false_eq_true,if_false];rfl
  ·refine .inr ⟨by simpa using hlen,?_⟩
   have hle:t.length≤65536:=by omega
   have hcor:=chk_cor hch
   obtain ⟨v,bs',es',h45,hnew,hes,hres⟩:=fo_ok hg.toGW _ e (Nat.le_refl _) hcor (n - 1) (by omega) [.cells (ecells e) 27,.cells (stV st0).cells 24] []
   rw [show n - 1+1=n by omega,enc_cells,List.append_nil] at h45
   have c45:=callF_run (gl:=gl.g) (uq:=uqw) Tryz.func45 rfl h45
   have hE:okP e t=true:=by simp [okP,hch,hle]
   obtain ⟨l,rfl,hl⟩:=hnew
   simp only [List.cons_append,List.nil_append] at c45 hres
   cases hfw:foW e with
   | none =>
    rw [hfw] at hres
    obtain rfl:v=.nili:=hres
    refine go_reg' (tk:=[]) (by kernel_rfl) ?_
    simp only [go_os,go_os_nil,go_seq,op_load0,op_assign,op_call,peeks,fV_eq,peek,take_tmp,rdQ_some,tkQ_some,opQ_val,putA,clr_agg,clr_ptr,Option.bind_some,Option.map_some,callG_some,callQ,List.map_cons,List.map_nil,nth_cons0,nth_cons,List.set_cons_zero,List.set_cons_succ,hld,c45,takeV_nili]
    refine go_reg' (tk:=[]) (by kernel_rfl) ?_
    simp only [go_os,go_os_nil,go_seq,go_skip,op_move0,op_binOp,peek,ofVal,rdQ_some,opQ_val,putA,clr_bool,true_and,go_cond',condQ_b,nth_cons0,nth_cons,List.set_cons_zero,List.set_cons_succ,clr_nili,eql_nil,true_and,Bool.true_eq_false,false_and,or_false]
    refine go_reg' (tk:=[]) (by kernel_rfl) ?_
    simp only [go_os,go_os_nil,op_store_x,op_build,op_assign,peek,take_tmp,take_const,ofVal,rdQ_some,tkQ_some,opQ_val,opQ_skip,putA,clr_ptr,Option.map_some,nth_cons0,nth_cons,List.set_cons_zero,List.set_cons_succ,bld24,take_st,hst]
    simp only [go_ret,go_nil,go_c_ret,Fx]
    refine ⟨trivial,[stV st0,.nili],?_,?_⟩
    ·simp only [resultsA,nth_cons0,nth_cons,hlr];rfl
    ·simp only [nxtV,hE,nxtE,hfw,tupOf,if_true];rfl
   | some w =>
    rw [hfw] at hres
    obtain ⟨hi,hhi,hat⟩:=hres
    have hFW:=foW_FW _ e w (Nat.le_refl _) hfw
    have hrg:=foW_rg _ e w (Nat.le_refl _) hcor hr hfw
    obtain ⟨vt,vu,rfl⟩:=hat.ifc
    refine go_reg' (tk:=[]) (by kernel_rfl) ?_
    simp only [go_os,go_os_nil,go_seq,op_load0,op_assign,op_call,peeks,fV_eq,peek,take_tmp,rdQ_some,tkQ_some,opQ_val,putA,clr_agg,clr_ptr,Option.bind_some,Option.map_some,callG_some,callQ,List.map_cons,List.map_nil,nth_cons0,nth_cons,List.set_cons_zero,List.set_cons_succ,hld,c45,takeV_ifc]
    refine go_reg' (tk:=[]) (by kernel_rfl) ?_
    simp only [go_os,go_os_nil,go_seq,go_skip,op_move0,op_binOp,peek,ofVal,rdQ_some,opQ_val,putA,clr_bool,true_and,go_cond',condQ_b,nth_cons0,nth_cons,List.set_cons_zero,List.set_cons_succ,clr_ifc,eql_ifc,true_and,Bool.false_eq_true,false_and,false_or]
    refine go_reg' (tk:=[]) (by kernel_rfl) ?_
    simp only [go_os,go_os_nil,go_block,op_move0,op_len,peek,ofVal,rdQ_some,opQ_val,putA,Option.bind_some,Option.map_some,nth_cons0,nth_cons,List.set_cons_zero,List.set_cons_succ,clr_byt,len34]
    have hnb:∀ k:Nat,((k:Int) == 0)=(k == 0):=fun k=>by
     cases k with
     | zero=>rfl
     | succ k=>exact (beq_false_of_ne (by omega)).trans (beq_false_of_ne (by omega)).symm
    refine go_loop (fun m s=>∃ k env B w',m+k=t.length∧s=⟨env,⟨B,es'⟩,[],[]⟩∧env.length=42∧nth env 1=some (bytV nl t)∧nth env 4=some (.ptr 1 0)∧nth env 6=some (.ifc vt vu)∧nth env 24=some (bytV nl t)∧nth env 25=some (.int .i64 t.length)∧nth env 26=some (.int .i64 (k:Nat))∧At B w' 2 hi (.ifc vt vu)∧nth B 1=some (.cells (stV st0).cells 24)∧hi≤B.length∧2≤B.length∧FW w'=FW w∧RgW w'∧runE w 0 t=runE w' k (t.drop k)) t.length (by omega) ⟨0,_,_,w,rfl,rfl,rfl,rfl,rfl,rfl,rfl,rfl,rfl,hat,rfl,hhi,by simp,rfl,hrg,rfl⟩ ?_
    rintro m s ⟨k,env,B,w',hmk,rfl,hel,g1,g4,g6,g24,g25,g26,hat,hB1,hhB,hB2,hFW',hrg',hrun⟩
    simp only [go_seq]
    refine go_reg' (tk:=[]) (by kernel_rfl) ?_
    simp only [go_os,go_os_nil,go_seq,go_skip,go_block,op_binOp,peek,rdQ_some,opQ_val,putA,clr_int,clr_bool,go_cond',condQ_b,if_true,nth_set,Nat.reduceLT,if_true,g25,g26,hel,bin_lss]
    by_cases hk:k<t.length
    ·refine .inl ⟨by simp;omega,?_⟩
     obtain ⟨b,hb⟩:∃ b,t[k]?=some b:=⟨t[k],by simp [hk]⟩
     have hbl2:b<256:=ht b (List.mem_of_getElem? hb)
     have hdr:t.drop k=b::t.drop (k+1):=by
      rw [List.drop_eq_getElem_cons hk]
      rw [List.getElem?_eq_getElem hk] at hb
      rw [Option.some.inj hb]
     rw [hdr] at hrun
     simp only [runE] at hrun
     obtain ⟨bs2,a1,a2,a3,a4⟩:=st_ok hg.toGW (FW w') hat hrg' hhB (Nat.le_refl _) (n:=n) (by omega) (k == 0) b hbl2 es'
     have hst:=fun env=>invG_M (lk:=[]) (df:=[]) (env:=env) a1
     rw [hg.uq] at hst
     try simp only [go_skip,go_seq,go_block]
     refine go_reg' (tk:=[]) (by kernel_rfl) ?_
     simp only [go_os,go_os_nil,op_move0,op_load0,op_assign,op_indexAddr,Nat.reduceEqDiff,peek,take_tmp,takeV_int,rdQ_some,tkQ_some,opQ_val,putA,clr_int,clr_vp,Option.bind_some,Option.map_some,idxV,if_true,nth_set,List.length_set,Nat.reduceLT,if_true,if_false,g24,g26,hel,clr_byt,idxV,idx34 hb,ldvp5]
     refine go_reg' (tk:=[]) (by kernel_rfl) ?_
     simp only [go_os,go_os_nil,go_eb,op_move0,op_binOp,Nat.reduceEqDiff,peeks,fV_eq,peek,ofVal,rdQ_some,opQ_val,putA,clr_int,clr_bool,if_true,nth_set,List.length_set,Nat.reduceLT,if_true,if_false,g6,hel,clr_ifc,bin_eql,hnb,op_invoke,hst]
     refine go_reg' (tk:=[]) (by kernel_rfl) ?_
     simp only [go_os,go_os_nil,op_move0,op_binOp,Nat.reduceEqDiff,peek,ofVal,rdQ_some,opQ_val,putA,clr_int,if_true,nth_set,List.length_set,Nat.reduceLT,if_true,if_false,g26,hel,bin_addk (show k<2 ^ 60 by omega),go_nil,thn_normal]
     refine ⟨m - 1,by omega,k+1,_,bs2,_,by omega,rfl,?_,?_,?_,?_,?_,?_,?_,a2,(a4 1 (by omega)).trans hB1,by omega,by omega,(FW_st _ _ _ _ (Nat.le_refl _)).trans hFW',Rg_st _ _ _ _ (Nat.le_refl _) hrg',hrun⟩
     ·simp [hel]
     ·simp [nth_set,g1]
     ·simp [nth_set,g4]
     ·simp [nth_set,g6]
     ·simp [nth_set,g24]
     ·simp [nth_set,g25]
     ·simp [nth_set,hel]
    ·refine .inr ⟨by simp;omega,?_⟩
     obtain rfl:k=t.length:=by omega
     rw [List.drop_length] at hrun
     simp only [runE] at hrun
     have hnx:=fun env=>invG_M (lk:=[]) (df:=[]) (env:=env) (nx_ok hg.toGW (FW w') hat hrg' hhB (Nat.le_refl _) (n:=n) (by omega) (t.length == 0) es')
     rw [hg.uq] at hnx
     have hst2:∀ env s,storX Tryz.prog 24 ⟨B,es'⟩ [] [] (some (stV s,env)) (some (.ptr 1 0))=some (.skip,⟨env,Hp.set ⟨B,es'⟩ 1 (.cells (stV s).cells 24),[],[]⟩):=fun env s=>sto_st hB1
     have hlr2:∀ g s,loadA Tryz.prog (Hp.set ⟨B,es'⟩ 1 (.cells (stV s).cells 24)) g 24 (.ptr 1 0)=some (stV s):=fun g s=>ld_st (by rw [get_set,show Hp.get ⟨B,es'⟩ 1=some _ from hB1];simp)
     simp only [go_exit,go_c_exit,go_eb_exit,go_nil,thn_exit,go_seq,Nat.beq_refl,if_true,go_nil]
     refine go_reg' (tk:=[]) (by kernel_rfl) ?_
     simp only [go_os,go_os_nil,op_move0,op_store_x,op_binOp,op_assign,op_len,Nat.reduceEqDiff,peeks,fV_eq,peek,take_tmp,take_const,ofVal,rdQ_some,tkQ_some,opQ_val,opQ_skip,putA,clr_int,clr_bool,clr_ptr,Option.bind_some,Option.map_some,if_true,nth_set,List.length_set,Nat.reduceLT,if_true,if_false,g1,g4,g6,hel,clr_byt,len34,clr_ifc,bin_eql,hnb,op_invoke,hnx,take_st,hst2]
     simp only [go_ret,go_nil,Fx]
     refine ⟨trivial,[stV (nxW w' (t.length == 0)),.nili],?_,?_⟩
     ·simp [resultsA,nth_set,hel,g4,hlr2];rfl
     ·simp only [nxtV,hE,nxtE,hfw,hrun,tupOf,if_true];rfl
end Go.Proofs.YtlnijcffanjieaaGreatDoor
namespace Go.Proofs.YtlnijcffanjieaaGreatDoor
set_option maxRecDepth 10000
open Go Go.Vm Go.Vm.Sx
variable {gl:Gl} [NoU gl]
theorem lent11:lentP Tryz.prog Tryz.f11.params.toList=some []:=by kernel_rfl
theorem lent13:lentP Tryz.prog Tryz.f13.params.toList=some []:=by kernel_rfl
theorem lent15:lentP Tryz.prog Tryz.f15.params.toList=some []:=by kernel_rfl
theorem par34 {x:V}:ParOk Tryz.prog [34] [.d x] 0:=by
 refine ⟨fun e=>?_,trivial⟩
 rw [Tryz.underlying34];simp
theorem par36I {x y:V}:ParOk Tryz.prog [36,3] [.d x,.d y] 0:=by
 refine ⟨fun e=>?_,fun e=>?_,trivial⟩
 ·rw [Tryz.underlying36];simp
 ·rw [Tryz.underlying3];simp
theorem ev11 (hgl:GL gl):∀ (e:E),Wf e→Ev Tryz.prog gl 11 [.d (enc e)] [] (.bool (chkP e)) []
 | .mk op pl s0 s1 s2 s3 text mn mx nl args,hw=>by
  refine fun_pure (xs:=[enc (.mk op pl s0 s1 s2 s3 text mn mx nl args)]) hgl.top (hgl.no 11 rfl) tree11_ok Tryz.func11 lent11 parE (by simp [tops,top_enc]) (N:=1) ?_
  have hc:=phE_eq (ev41 hgl (.mk op pl s0 s1 s2 s3 text mn mx nl args) hw 1 0 0)
  simp only [av41,fp41,out41,enc] at hc
  simp only [tree11,enc,chkP]
  simp only [ev_out,ev_letv,ev_opn,ev_kin,ev_call,at_z,at_s,ks_cons,kInt,kStr,kBool,ks_nil,Bool.and_self,bif_t,cons_app,nil_app,app_nil,evI,evCs,evC,evSC,evAs,evA,evLent,evVE,joinL,sizesOk,clr_int,clr_str,Nat.beq_refl,List.length_cons,List.length_nil,kArg,hc,clr_argV]
def nvL (l:List Nat):V:=lv 1 true (intL l)
theorem k_nvL (l:List Nat):kOk (.sl 1) (nvL l)=true:=k_lv ..
theorem vL_nvL (l:List Nat):vL (nvL l)=intL l:=vL_lv ..
theorem clr_nvL (l:List Nat):clr (nvL l)=nvL l:=clr_lv ..
theorem tops_intL:∀ l:List Nat,tops (intL l)=0
 | []=>rfl
 | a::l=>by simp only [intL,List.map_cons,tops];exact tops_intL l
theorem top_nvL (l:List Nat):(nvL l).top=0:=by unfold nvL;rw [top_lv];exact tops_intL l
theorem own_nvL (l:List Nat):clr (ownL 1 3 (intL l))=nvL l:=by cases l<;>rfl
theorem len_intL (l:List Nat):(intL l).length=l.length:=by simp [intL]
theorem nth_intL {l:List Nat} {i n:Nat} (h:l[i]?=some n):nth (intL l) i=some (.int .i64 (n:Nat)):=by rw [nth_eq,intL,List.getElem?_map,h];rfl
theorem k_byt (nl:Bool) (t:List Nat):kOk (.sl 1) (bytV nl t)=true:=k_lv ..
theorem vL_byt (nl:Bool) (t:List Nat):vL (bytV nl t)=t.map fun b=>V.int .u8 (b:Nat):=vL_lv ..
theorem top_byt (nl:Bool) (t:List Nat):(bytV nl t).top=0:=by
 unfold bytV;rw [top_lv]
 induction t with
 | nil=>rfl
 | cons a t ih=>simp only [List.map_cons,tops];exact ih
theorem slc_byt (nl:Bool) (t:List Nat) (n:Nat):slcV (bytV nl t) 0 (n:Int)=bytV (nl && t.isEmpty) (t.take n):=by
 rcases lv_cases 1 nl (t.map fun b=>V.int .u8 (b:Nat)) with h|⟨h0,h⟩
 ·rw [bytV,h]
  simp only [slcV,bytV,lv,List.map_take,Int.toNat_natCast,Int.toNat_zero,List.drop_zero]
  cases nl with
  | false=>simp
  | true =>
   cases t with
   | nil=>simp [lv] at h
   | cons a t=>simp
 ·have:t=[]:=by simpa using h0
  subst this
  rw [bytV,h]
  cases nl with
  | false=>simp [lv] at h
  | true=>simp [slcV,bytV,lv]
def textM (t:List Nat):List Nat:=if 40<t.length∧t.length≤65536 then t.take 40 else t
theorem byt_nl (nl:Bool) (t:List Nat):bytV nl t=bytV (nl && t.isEmpty) t:=by
 cases nl<;>cases t<;>rfl
theorem ev13 (hgl:GL gl) (nl:Bool) (t:List Nat):Ev Tryz.prog gl 13 [.d (bytV nl t)] [] (bytV (nl && t.isEmpty) (textM t)) []:=by
 refine fun_pure (xs:=[bytV nl t]) hgl.top (hgl.no 13 rfl) tree13_ok Tryz.func13 lent13 par34 (by simp [tops,top_byt]) (N:=1) ?_
 simp only [tree13]
 by_cases h1:40<t.length
 ·by_cases h2:t.length≤65536
  ·have e1:ltz 40 (t.length:Int)=true:=ltz_t (by omega)
   have e2:lez (t.length:Int) 65536=true:=lez_t (by omega)
   have e3:lez 40 (t.length:Int)=true:=lez_t (by omega)
   have e4:=slc_byt nl t 40
   have hT:textM t=t.take 40:=if_pos ⟨h1,h2⟩
   rw [hT]
   have e5:slcV (bytV nl t) 0 40=bytV (nl && t.isEmpty) (t.take 40):=e4
   simp only [ev_t,ev_kin,at_z,Bool.and_self,evB,evI,evL,cm_leq,cm_gtr,k_byt,vL_byt,e1,e2,List.length_map]
   rw [ev_need]
   ·simp only [ev_out,ev_letv,at_z,at_s,cons_app,nil_app,evI,evCs,evC,evSC,evVE,e5]
   ·simp only [at_z,Bool.and_true,evB,evI,evL,cm_leq,vL_byt,e3,List.length_map]
    rfl
  ·have e1:ltz 40 (t.length:Int)=true:=ltz_t (by omega)
   have e2:lez (t.length:Int) 65536=false:=lez_f (by omega)
   have hT:textM t=t:=if_neg (by omega)
   rw [hT,← byt_nl]
   simp only [ev_f,ev_out,ev_letv,ev_kin,at_z,at_s,Bool.and_false,cons_app,nil_app,evB,evI,evL,evCs,evC,evSC,evVE,cm_leq,cm_gtr,k_byt,vL_byt,e1,e2,List.length_map,clr_byt]
 ·have e1:ltz 40 (t.length:Int)=false:=ltz_f (by omega)
  have hT:textM t=t:=if_neg (by omega)
  rw [hT,← byt_nl]
  simp only [ev_f,ev_out,ev_letv,ev_kin,at_z,at_s,Bool.false_and,cons_app,nil_app,evB,evI,evL,evCs,evC,evSC,evVE,cm_leq,cm_gtr,k_byt,vL_byt,e1,List.length_map,clr_byt]
theorem ev15 (hgl:GL gl) (l:List Nat) (n:Nat) (hl:l.length≤maxLen):Ev Tryz.prog gl 15 [.d (nvL l),.d (.int .i64 (n:Nat))] [] (.bool (l.contains n)) []:=by
 refine fun_pure (xs:=[nvL l,.int .i64 (n:Nat)]) hgl.top (hgl.no 15 rfl) tree15_ok Tryz.func15 lent15 par36I (by simp [tops,V.top,top_nvL]) (N:=l.length+1) ?_
 have hml:=maxLen_le
 have key:∀ (r:List Nat) (i:Nat),l.drop i=r→∀ k,r.length<k→loopI (phE Tryz.prog gl) gl.g (l.length+1) lp15_1 [nvL l,.int .i64 (n:Nat)] k [.int .i64 (i:Int)]=some (0,[.bool (r.contains n)]):=by
  simp only [lp15_1]
  intro r
  induction r with
  | nil =>
   intro i hd k hk
   obtain ⟨k,rfl⟩:∃ k',k=k'+1:=⟨k - 1,by omega⟩
   refine loopI_end ?_
   have h1:=ltn_f (drop_none hd)
   simp only [ev_f,ev_out,ev_esc,ev_letv,at_z,at_s,cons_app,nil_app,evB,evI,evL,evCs,evC,evSC,evVE,vI_int,cm_lss,vL_nvL,len_intL,h1,List.contains_nil]
  | cons a r ih =>
   intro i hd k hk
   obtain ⟨k,rfl⟩:∃ k',k=k'+1:=⟨k - 1,by omega⟩
   obtain ⟨ha,hi,hd'⟩:=drop_cons hd
   have h1:=ltn_t hi
   have h2:=nth_intL ha
   have h4:=w64s (i:=i) (by omega)
   have hq:((a:Int) == (n:Int))=(n == a):=by
    rw [Bool.eq_iff_iff];simp;omega
   cases hc:n == a with
   | true =>
    refine loopI_end ?_
    rw [hc] at hq
    simp only [List.contains_cons,hc,Bool.true_or]
    simp only [ev_t,ev_out,ev_esc,ev_letv,ev_elem,ev_kin,at_z,at_s,kInt,bif_f,cons_app,nil_app,evB,evI,evL,evCs,evC,evSC,evVE,vI_int,cm_lss,cm_eql,ltn_0,vL_nvL,len_intL,h1,h2,hq,Int.toNat_natCast]
   | false =>
    rw [hc] at hq
    simp only [List.contains_cons,hc,Bool.false_or]
    refine loopI_go (vs:=[.int .i64 ((i+1:Nat):Int)]) ?_ (ih (i+1) hd' k (by simp at hk;omega))
    simp only [ev_t,ev_f,ev_out,ev_elem,ev_kin,at_z,at_s,kInt,bif_f,cons_app,nil_app,evB,evI,evL,evCs,evC,vI_int,cm_lss,cm_eql,biI,ltn_0,vL_nvL,len_intL,h1,h2,h4,hq,Int.toNat_natCast]
 simp only [tree15]
 simp only [ev_kin,ev_loop,at_z,at_s,kInt,evI,evCs,evC,k_nvL]
 exact loopT_I (key l 0 rfl _ (by omega))
end Go.Proofs.YtlnijcffanjieaaGreatDoor
