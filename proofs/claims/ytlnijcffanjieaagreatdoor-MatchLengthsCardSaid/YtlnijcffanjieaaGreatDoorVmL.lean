/- Seat 7: ends: walked; Seat 7: expressions told apart by their values; Seat 7: Ends is walked; and what follows from it. Conditions: none but those that each theorem names. -/
import Derived.Test.YtlnijcffanjieaaGreatDoorVmF
import Derived.Test.YtlnijcffanjieaaGreatDoorVmG
import Derived.Test.YtlnijcffanjieaaGreatDoorVmJ
import Derived.Test.YtlnijcffanjieaaGreatDoorVmK
namespace Go.Proofs.YtlnijcffanjieaaGreatDoor
set_option maxRecDepth 100000
open Go Go.Vm
variable {gl:Gl}
theorem zmF {v:V} (h:okC v=true) (h2:v.cells.length=1):zkH Tryz.prog 36 (some v)=some (.sl 1 [v] (.yes 3)):=r36.bsl h h2
theorem zoq {H:Hp} {xs:List V} {v:V} {o:Vm.Own} (h:xs.length<=65538):qL Tryz.prog H 36 (qt 1 3 xs) (.sl 1 [v] o)=some (qt 1 3 (xs++[v])):=zbj r36 (by simp) (roomA_of (by simp;omega) (by simp;omega))
theorem e44 (hg:GW gl) {n:Nat} {w:Wd} {bs:List Blk} {es:List (Nat×Nat)} {lo hi:Nat} {v:V} {nl:Bool} {t:List Nat} (hat:At bs w lo hi v) (hr:RgW w) (hh:hi<=bs.length) (hn:FW w<=n) (hn2:t.length<n) (ht:∀ b∈t,b<256) (htl:t.length<=65536) :
  ∃ bs',zx Tryz.prog gl (n+1) 44 [v,jo nl t] ⟨bs,es⟩=some (.ret (clr (qt 1 3 (jD (ym w t)))),⟨bs',es⟩)/\bs'.length=bs.length/\∀ i,¬ (lo<=i/\i<hi)->nth bs' i=nth bs i:=by
 obtain ⟨vt,vu,rfl⟩:=hat.ifc;have hem:=fun env=>jQ (lk:=[]) (df:=[]) (env:=env) (zcZ hg hat (n:=n) (by have:=zbl w;omega) [])
 have hint:∀ a b:List Nat,jD a++jD b=jD (a++b):=fun a b=>by simp [jD]
 suffices hmain:go ⟨Tryz.prog,gl.g,zx Tryz.prog gl n,gl.uq⟩ n (Fx Tryz.prog Tryz.f44.results.toList fun u H1=>∃ bs',u=clr (qt 1 3 (jD (ym w t)))/\H1=⟨bs',[]⟩/\bs'.length=bs.length/\∀ i,¬ (lo<=i/\i<hi)->nth bs' i=nth bs i) [.c (Tryz.f44.body.getD .skip)] .normal ⟨[.ifc vt vu,jo nl t]++List.replicate 32 (.tup []),⟨bs,[]⟩,[],[]⟩ by
  obtain ⟨u,H1,h1,bs',rfl,rfl,h3,h4⟩:=kR (gl:=gl) (f:=44) (bs:=bs) (es:=es) (args:=[.ifc vt vu,jo nl t]) (n:=n) (hg.hk _ _ (by decide)) (fun H=>hg.hk2 _ _ _ _) Tryz.func44 rfl hmain
  refine ⟨bs',?_,h3,h4⟩;rw [h1];have htop:(clr (qt 1 3 (jD (ym w t)))).top=0:=by
   rw [top_clr];have:∀ l:List Nat,tops (jD l)=0:=fun l=>by induction l with|nil=>rfl|cons a l ih=>simp only [jD,zAX,tops] at ih ⊢;rw [ih];rfl
   unfold qt;split
   ·rfl
   ·exact this _
  rw [htop];exact congrArg some (congrArg (Prod.mk _) (zQ h3.symm (zAU _)))
 rw [hg.uq] at hem ⊢;simp only [Tryz.f44,zA8,zd];refine zc (tk:=[]) (by kernel_rfl) ?_
 simp only [zi,go_os_nil,zd,zg,zE,ofVal,zj,opQ_val,zl,zAC,zAY,zAW,zAI,zAJ,List.replicate]
 refine zc (tk:=[]) (by kernel_rfl) ?_
 simp only [zi,go_os_nil,zd,zg,zE,ofVal,zj,opQ_val,zl,zAC,zAI,zAJ]
 refine zc (tk:=[]) (by kernel_rfl) ?_
 simp only [zi,go_os_nil,zd,go_skip,zk,zA,peek,ofVal,zb,opQ_val,zl,zh,zAa,zG,zK,zf,zm,zAI,zAJ,zT,zgn,zAa,zAD,zBA,zBi]
 rw [<- zd];refine zmh (fun s=>∃ env,s=⟨env,⟨bs,[]⟩,[],[]⟩/\env.length=34/\nth env 0=some (.ifc vt vu)/\nth env 1=some (jo nl t)/\nth env 5=some (qt 1 3 (jD (if emW w then [0] else [])))) ?_ ?_
 ·simp only [zd];refine zc (tk:=[]) (by kernel_rfl) ?_
  simp only [zi,go_os_nil,go_skip,zk,peeks,peek,zb,opQ_val,zl,zh,zG,zK,zf,zm,zAI,zAJ,zT,z6,hem]
  cases hw:emW w with
  | true =>
   refine .inl ⟨rfl,?_⟩;have hcl:∀ x,clr (V.sl 1 [x] (.yes 3))=.sl 1 [x] .no:=fun _=>rfl;have hap:∀ H,qL Tryz.prog H 36 .snil (.sl 1 [.int .i64 0] .no)=some (qt 1 3 [.int .i64 0]):=fun H=>zoq (xs:=[]) (by simp)
   have tko:∀ env t,jV env t (some (qt 1 3 [V.int .i64 0]))=some (qt 1 3 [.int .i64 0],env.set t (.sl 1 [.int .i64 0] .no)):=fun _ _=>rfl;refine zc (tk:=[12]) (by kernel_rfl) ?_
   simp only [zi,go_os_nil,kr,zg,zaN,peek,ze,ofVal,kC,zb,zj,opQ_val,zl,zAB,if_true,zf,zm,zAI,zAJ,kC,kr,zmF (show okC (.int .i64 0)=true from rfl) rfl,hcl,zdO,hap,tko,wP (cx:=⟨Tryz.prog,gl.g,zx Tryz.prog gl n,uqw⟩) (show uqT Tryz.prog uqw 36=false by kernel_rfl)]
   exact ⟨_,rfl,rfl,rfl,rfl,rfl⟩
  | false =>
   refine .inr ⟨rfl,?_⟩;simp only [zD,zbi,zAD,if_false,zbi];exact ⟨_,rfl,rfl,rfl,rfl,rfl⟩
 ·rintro s ⟨env,rfl,hel,e0,e1,e5⟩;simp only [zd];refine zc (tk:=[]) (by kernel_rfl) ?_
  simp only [zi,go_os_nil,qb,zk,kF,peek,ofVal,zb,opQ_val,zl,zAB,zAC,if_true,za,Nat.reduceLT,if_true,e1,hel,kg,zep]
  refine xI (fun m s=>∃ k env bs' w' A,m+k=t.length/\s=⟨env,⟨bs',[]⟩,[],[]⟩/\env.length=34/\nth env 0=some (.ifc vt vu)/\nth env 5=some (qt 1 3 (jD A))/\nth env 15=some (jo nl t)/\nth env 16=some (.int .i64 t.length)/\nth env 17=some (.int .i64 (k:Nat))/\At bs' w' lo hi (.ifc vt vu)/\bs'.length=bs.length/\(∀ i,¬ (lo<=i/\i<hi)->nth bs' i=nth bs i)/\FW w'=FW w/\RgW w'/\A.length<=k+1/\ym w t=A++goEnds w' k (t.drop k)) t.length hn2 ⟨0,_,bs,w,if emW w then [0] else [],rfl,rfl,?_,?_,?_,?_,?_,?_,hat,rfl,fun _ _=>rfl,rfl,hr,?_,rfl⟩ ?_
  ·simp [hel]
  ·simp [za,e0]
  ·simp [za,e5]
  ·simp [za,hel]
  ·simp [za,hel]
  ·simp [za,hel]
  ·split<;>simp
  clear hel e0 e1 e5 env hem hat hr;rintro m s ⟨k,env,bs',w',A,hmk,rfl,hel,e0,e5,e15,e16,e17,hat,hbl,hfr,hFW,hr,hAl,hA⟩;simp only [zd];refine zc (tk:=[]) (by kernel_rfl) ?_
  simp only [zi,go_os_nil,zd,go_skip,qb,zA,peek,zb,opQ_val,zl,zv,zh,zG,zK,if_true,za,Nat.reduceLT,if_true,e16,e17,hel,vQ]
  by_cases hk:k<t.length
  ·refine .inl ⟨by simp;omega,?_⟩
   obtain ⟨b,hb⟩:∃ b,t[k]?=some b:=⟨t[k],by simp [hk]⟩
   have hbl2:b<256:=ht b (zAh hb);have hdr:t.drop k=b::t.drop (k+1):=by
    rw [zBT hk];rw [zAV hk] at hb;rw [zA1 hb]
   rw [hdr] at hA;simp only [goEnds] at hA;obtain ⟨bs2,a1,a2,a3,a4⟩:=zfl hg (FW w') hat hr (by omega) (zAR _) (n:=n) (by omega) (k == 0) b hbl2 []
   have hst:=fun env=>jQ (lk:=[]) (df:=[]) (env:=env) a1;rw [hg.uq] at hst;have hk0:((k:Int) == 0)=(k == 0):=by
    cases k with
    | zero=>rfl
    | succ k=>exact (beq_false_of_ne (by omega)).trans (beq_false_of_ne (by omega)).symm
   have hN:∀ env',env'.length=34->nth env' 0=some (.ifc vt vu)->∀ A',nth env' 5=some (qt 1 3 (jD A'))->nth env' 15=some (jo nl t)->nth env' 16=some (.int .i64 t.length)->nth env' 17=some (.int .i64 ((k+1:Nat):Int))->A'.length<=k+2->ym w t=A'++goEnds (stW w' (k == 0) b).1 (k+1) (t.drop (k+1)) ->
     ∃ i,i<m/\∃ k env bs' w' A,i+k=t.length/\(⟨env',⟨bs2,[]⟩,[],[]⟩:St)=⟨env,⟨bs',[]⟩,[],[]⟩/\env.length=34/\nth env 0=some (.ifc vt vu)/\nth env 5=some (qt 1 3 (jD A))/\nth env 15=some (jo nl t)/\nth env 16=some (.int .i64 t.length)/\nth env 17=some (.int .i64 (k:Nat))/\At bs' w' lo hi (.ifc vt vu)/\bs'.length=bs.length/\(∀ i,¬ (lo<=i/\i<hi)->nth bs' i=nth bs i)/\FW w'=FW w/\RgW w'/\A.length<=k+1/\ym w t=A++goEnds w' k (t.drop k) :=
    fun env' g0 g1 A' g2 g3 g4 g5 g6 g7=>⟨m - 1,by omega,k+1,env',bs2,_,A',by omega,rfl,g0,g1,g2,g3,g4,g5,a2,by omega,fun i hi=>(a4 i hi).trans (hfr i hi),(FW_st _ _ _ _ (zAR _)).trans hFW,Rg_st _ _ _ _ (zAR _) hr,by omega,g7⟩
   try simp only [go_skip,zd,qb]
   refine zc (tk:=[]) (by kernel_rfl) ?_
   simp only [zi,go_os_nil,zd,zk,zt,zg,qh,Nat.reduceEqDiff,peek,ze,zeX,zb,zj,opQ_val,zl,zv,yL,zAB,zAC,wv,if_true,za,zAN,Nat.reduceLT,if_true,if_false,e15,e17,hel,kg,wv,zoo hb,zop]
   refine zc (tk:=[]) (by kernel_rfl) ?_
   simp only [zi,go_os_nil,go_skip,jX,zk,zA,Nat.reduceEqDiff,peeks,zO,peek,ofVal,zb,opQ_val,zl,zv,zh,zG,zK,if_true,za,zAN,Nat.reduceLT,if_true,if_false,e0,hel,zT,jj,hk0,z6,hst]
   cases hr2:(stW w' (k == 0) b).2 with
   | false =>
    rw [hr2] at hA;simp only [zAD,if_false,zAW] at hA;simp only [zAD,zBA,zBi,zAa];refine zc (tk:=[]) (by kernel_rfl) ?_
    simp only [zi,go_os_nil,zk,zA,Nat.reduceEqDiff,peek,ofVal,zb,opQ_val,zl,zv,if_true,za,zAN,Nat.reduceLT,if_true,if_false,e17,hel,jy (show k<2 ^ 60 by omega),zD,thn_normal]
    refine hN _ ?_ ?_ A ?_ ?_ ?_ ?_ (by omega) hA
    ·simp [hel]
    ·simp [za,e0]
    ·simp [za,e5]
    ·simp [za,e15]
    ·simp [za,e16]
    ·simp [za,hel]
   | true =>
    rw [hr2] at hA;simp only [if_true,<- zAb] at hA;simp only [zAa,zAy,zBA,zBr];have hcl:∀ x,clr (V.sl 1 [x] (.yes 3))=.sl 1 [x] .no:=fun _=>rfl;have hAl':(jD A).length<=65538:=by simp [jD];omega
    have hap:∀ H,qL Tryz.prog H 36 (qt 1 3 (jD A)) (.sl 1 [.int .i64 ((k+1:Nat):Int)] .no)=some (qt 1 3 (jD (A++[k+1]))):=fun H=>by rw [zoq hAl',<- hint];rfl
    obtain ⟨x0,xl,hX⟩:∃ x0 xl,jD (A++[k+1])=x0::xl:=by
     cases A with
     | nil=>exact ⟨_,_,rfl⟩
     | cons a A=>exact ⟨_,_,rfl⟩
    have hX2:qt 1 3 (jD (A++[k+1]))=.sl 1 (x0::xl) (.yes 3):=by rw [hX];rfl
    have tko:∀ env t,jV env t (some (qt 1 3 (jD (A++[k+1]))))=some (qt 1 3 (jD (A++[k+1])),env.set t (.sl 1 (x0::xl) .no)):=fun _ _=>by rw [hX2];rfl
    cases hAc:jD A with
    | nil =>
     rw [hAc] at e5 hap;have e5':nth env 5=some .snil:=e5;have hap':∀ H,qL Tryz.prog H 36 .snil (.sl 1 [.int .i64 ((k+1:Nat):Int)] .no)=some (qt 1 3 (jD (A++[k+1]))):=hap;refine zc (tk:=[27]) (by kernel_rfl) ?_
     simp only [zi,go_os_nil,jX,zed,kr,zA,zg,zaN,ne_eq,Nat.reduceEqDiff,zBs,peek,ze,ofVal,kC,zb,zj,opQ_val,zl,zv,zAB,if_true,za,zAN,Nat.reduceLT,if_true,if_false,e5',hel,kC,kr,jy (show k<2 ^ 60 by omega),zmF (show okC (.int .i64 ((k+1:Nat):Int))=true from rfl) rfl,hcl,zdO,hap',tko,wP (cx:=⟨Tryz.prog,gl.g,zx Tryz.prog gl n,uqw⟩) (show uqT Tryz.prog uqw 36=false by kernel_rfl)]
     refine zc (tk:=[]) (by kernel_rfl) ?_
     simp only [zi,go_os_nil,zk,zA,Nat.reduceEqDiff,peek,ofVal,zb,opQ_val,zl,zv,if_true,za,zAN,Nat.reduceLT,if_true,if_false,e17,hel,jy (show k<2 ^ 60 by omega),zD,thn_normal]
     refine hN _ ?_ ?_ (A++[k+1]) ?_ ?_ ?_ ?_ (by simp;omega) hA
     ·simp [hel]
     ·simp [za,e0]
     ·simp [za,hel]
     ·simp [za,e15]
     ·simp [za,e16]
     ·simp [za,hel]
    | cons a0 al =>
     rw [hAc] at e5 hap;have e5':nth env 5=some (.sl 1 (a0::al) (.yes 3)):=e5;have hap':∀ H,qL Tryz.prog H 36 (.sl 1 (a0::al) (.yes 3)) (.sl 1 [.int .i64 ((k+1:Nat):Int)] .no)=some (qt 1 3 (jD (A++[k+1]))):=hap;have tk5:∀ env t,jV env t (some (V.sl 1 (a0::al) (.yes 3)))=some (.sl 1 (a0::al) (.yes 3),env.set t (.sl 1 (a0::al) .no)):=fun _ _=>rfl;refine zc (tk:=[27]) (by kernel_rfl) ?_
     simp only [zi,go_os_nil,jX,zed,kr,zA,zg,zaN,ne_eq,Nat.reduceEqDiff,zBs,peek,ze,ofVal,zb,zj,opQ_val,zl,zv,zAB,if_true,za,zAN,Nat.reduceLT,if_true,if_false,e5',hel,tk5,kr,jy (show k<2 ^ 60 by omega),zmF (show okC (.int .i64 ((k+1:Nat):Int))=true from rfl) rfl,hcl,zdO,hap',tko,wP (cx:=⟨Tryz.prog,gl.g,zx Tryz.prog gl n,uqw⟩) (show uqT Tryz.prog uqw 36=false by kernel_rfl)]
     refine zc (tk:=[]) (by kernel_rfl) ?_
     simp only [zi,go_os_nil,zk,zA,Nat.reduceEqDiff,peek,ofVal,zb,opQ_val,zl,zv,if_true,za,zAN,Nat.reduceLT,if_true,if_false,e17,hel,jy (show k<2 ^ 60 by omega),zD,thn_normal]
     refine hN _ ?_ ?_ (A++[k+1]) ?_ ?_ ?_ ?_ (by simp;omega) hA
     ·simp [hel]
     ·simp [za,e0]
     ·simp [za,hel]
     ·simp [za,e15]
     ·simp [za,e16]
     ·simp [za,hel]
  ·refine .inr ⟨by simp;omega,?_⟩
   obtain rfl:k=t.length:=by omega
   rw [List.drop_length] at hA;simp only [goEnds,zA0] at hA;rw [hA];simp only [xH,wT,wj,zD,thn_exit,zd,zBS,if_true,zD];refine zc (tk:=[]) (by kernel_rfl) ?_
   have hcc:∀ env t,jV env t (some (clr (qt 1 3 (jD A))))=some (clr (qt 1 3 (jD A)),env):=fun _ _=>by cases jD A<;>rfl
   simp only [zi,go_os_nil,zk,zg,Nat.reduceEqDiff,peek,ze,zb,zj,opQ_val,zl,if_true,za,zAN,Nat.reduceLT,if_true,if_false,e5,hel,hcc]
   simp only [go_ret,zD,Fx]
   refine ⟨trivial,[clr (qt 1 3 (jD A))],?_,bs',rfl,rfl,hbl,hfr⟩;simp [zM,za,hel]
end Go.Proofs.YtlnijcffanjieaaGreatDoor
namespace Go.Proofs.YtlnijcffanjieaaGreatDoor
set_option maxRecDepth 10000
open Go Go.Vm Go.Vm.Sx
mutual
def Can:E->Prop
 | .mk _ _ _ _ _ _ _ _ _ nl args=>(nl=true->args=[])/\Cans args
def Cans:List E->Prop
 | []=>True
 | e::l=>Can e/\Cans l
end
theorem zmG {nl nl':Bool} {a b:List V} (h1:nl=true->a=[]) (h2:nl'=true->b=[]) (h:zW nl a=zW nl' b):a=b/\nl=nl':=by
 unfold zW at h;cases nl with
 | true =>
  have:=h1 rfl;subst this;cases nl' with
  | true=>exact ⟨(h2 rfl).symm,rfl⟩
  | false=>simp at h
 | false =>
  cases nl' with
  | true =>
   have:=h2 rfl;subst this;simp at h
  | false =>
   simp only [zBt,zAD,if_false] at h;injection h with _ h;exact ⟨h,rfl⟩
mutual
theorem enc_inj:∀ (e e':E),Can e->Can e'->enc e=enc e'->e=e'
 | .mk op pl s0 s1 s2 s3 tx mn mx nl args,.mk op' pl' s0' s1' s2' s3' tx' mn' mx' nl' args',h,h',he=>by
  simp only [enc] at he;injection he with he;simp only [zAm,V.int.injEq,V.str.injEq,zAa,zBF] at he;obtain ⟨e1,e2,e3,e4,e5,e6,e7,e8,e9,e10⟩:=he;obtain ⟨f1,f2⟩:=zmG (fun hn=>by rw [h.1 hn];rfl) (fun hn=>by rw [h'.1 hn];rfl) e10
  have:=encs_inj args args' h.2 h'.2 f1;subst e1 e2 e3 e4 e5 e6 e7 e8 e9 f2 this;rfl
theorem encs_inj:∀ (l l':List E),Cans l->Cans l'->encs l=encs l'->l=l'
 | [],[],_,_,_=>rfl
 | [],_::_,_,_,h=>by simp [encs] at h
 | _::_,[],_,_,h=>by simp [encs] at h
 | a::l,b::l',h,h',he=>by
  simp only [encs,zAm] at he;rw [enc_inj a b h.1 h'.1 he.1,encs_inj l l' h.2 h'.2 he.2]
end
end Go.Proofs.YtlnijcffanjieaaGreatDoor
namespace Go.Proofs.YtlnijcffanjieaaGreatDoor
set_option maxRecDepth 100000
open Go Go.Vm
variable {gl:Gl}
def erA:V:=.ifc 373 (.obj 0)
structure GWC (gl:Gl):Prop extends GW gl where
 chk:∀ e,Wf e->Can e->gl.hk 11 [enc e]=some (.bool (zaR e))
 g0:gl.g 0 0=some erA
 hkN:∀ f args,([14,16].any (Nat.beq f))=true->gl.hk f args=none
theorem e11 (hg:GWC gl) {e:E} (hw:Wf e) (hc:Can e) {n:Nat} (hn:1<=n) (H:Hp):Cx.callF ⟨Tryz.prog,gl.g,zx Tryz.prog gl n,uqw⟩ 11 [.agg (ecells e)] H=some (.val (.bool (zaR e)),H):=by
 have:=xi (n:=n - 1) (H:=H) (hg.chk e hw hc);rw [show n - 1+1=n by omega,qw] at this
 exact z7 Tryz.func11 rfl this
theorem ag38:jG Tryz.prog 38=some false:=by kernel_rfl
theorem zjK {H:Hp} {g:Nat->Nat->Option V} {b:Nat} {e:E} (h:H.get b=some (.cells (ecells e) 27)):zJ Tryz.prog H g 27 (.ptr b 0)=some (.agg (ecells e)):=by
 rw [wI ag27 sz27 h (by rw [kf];decide),zBo,zBM (by rw [kf];decide)]
def okP (e:E) (t:List Nat):Bool:=zaR e && decide (t.length<=65536)
def vO (e:E) (t:List Nat):List Nat:=match foW e with|some w=>ym w t|none=>[]
def zcA (e:E) (t:List Nat):V:=if okP e t then .tup [clr (qt 1 3 (jD (vO e t))),.nili] else .tup [.snil,erA]
theorem e14 (hg:GWC gl) {e:E} {nl:Bool} {t:List Nat} (hw:Wf e) (hc:Can e) (hr:Rg e) (ht:∀ b∈t,b<256) {n:Nat} (hn:2 * YtlnijcffanjieaaGreatDoor.hg e+t.length+2<=n):∃ H',zx Tryz.prog gl (n+1) 14 [enc e,jo nl t] ⟨[],[]⟩=some (.ret (zcA e t),H'):=by
 suffices hmain:go ⟨Tryz.prog,gl.g,zx Tryz.prog gl n,gl.uq⟩ n (Fx Tryz.prog Tryz.f14.results.toList fun u H1=>u=zcA e t) [.c (Tryz.f14.body.getD .skip)] .normal ⟨[.agg (ecells e),jo nl t]++List.replicate 17 (.tup []),⟨[],[]⟩,[],[]⟩ by
  rw [qw];obtain ⟨u,H1,h1,rfl⟩:=kR (gl:=gl) (f:=14) (bs:=[]) (es:=[]) (args:=[.agg (ecells e),jo nl t]) (n:=n) (hg.hkN _ _ (by decide)) (fun H=>hg.hk2 _ _ _ _) Tryz.func14 rfl hmain
  exact ⟨_,h1⟩
 rw [hg.uq];have h11:=e11 hg hw hc (n:=n) (by omega)
 simp only [Tryz.f14,zA8,zd];refine zc (tk:=[]) (by kernel_rfl) ?_
 simp only [zi,go_os_nil,zd,kE,zg,ze,zE,ofVal,z0,zj,opQ_val,zl,zAC,qg,List.length_nil,zAY,zAW,zf,zAI,zAJ,qO (show okC (.agg (ecells e))=true from rfl),V.laid,wV,List.replicate,List.length_nil]
 have hB:nth ([]++[Blk.cells (ecells e) 27]) 0=some (.cells (ecells e) 27):=rfl;have hld:∀ g,zJ Tryz.prog ⟨[.cells (ecells e) 27],[]⟩ g 27 (.ptr 0 0)=some (.agg (ecells e)):=fun g=>zjK rfl;refine zc (tk:=[]) (by kernel_rfl) ?_
 simp only [zi,zk,zt,zbK,qx,peeks,zO,peek,zb,opQ_val,zl,zh,qA,zp,zAB,zAC,zR,je,zAX,zAp,zf,zm,zAI,zAJ,hld,h11,unA];have hl0:∀ H,zJ Tryz.prog H gl.g 38 (.gptr 0 0)=some erA:=fun H=>by simp [zJ,ag38,hg.g0]
 cases hch:zaR e
 ·simp only [zi,go_os_nil,zd,go_skip,zk,zA,qE,kF,peek,ofVal,zb,opQ_val,zl,zv,zh,zAB,zAC,zAa,zG,zK,ja,zf,zm,zAI,zAJ,kL,qa,jh,wantB_ft,xT,zAw,kg,zep,zbL]
  refine .inl ?_;refine yj [] [(false,false),(false,false),(false,false)] (tk:=[]) (by kernel_rfl) (by kernel_rfl) ?_
  simp only [zt,zg,peek,ze,zE,ofVal,zb,zj,zl,zAB,zAC,zAa,kZ,zf,zm,zAI,zAJ,oj_cons,oj_nil,xJ,kS,ag38,hl0,erA,zT,qp];simp only [go_ret,zD,qI,Fx]
  refine ⟨trivial,[.snil,erA],rfl,?_⟩;simp only [zcA,okP,hch,tupOf,zBt,zAD,if_false];rfl
 ·simp only [zi,go_os_nil,zd,go_skip,zk,zA,qE,kF,peek,ofVal,zb,opQ_val,zl,zv,zh,zAB,zAC,zG,zK,jb,zf,zm,zAI,zAJ,kL,qa,jh,wantB_ff,xh,zAs,kg,zep,zbL]
  by_cases hlen:(t.length:Int) > 65536
  ·refine .inl ⟨by simpa using hlen,?_⟩
   refine yj [] [(false,false),(false,false),(false,false)] (tk:=[]) (by kernel_rfl) (by kernel_rfl) ?_
   simp only [zt,zg,peek,ze,zE,ofVal,zb,zj,zl,zAB,zAC,zAa,kZ,zf,zm,zAI,zAJ,oj_cons,oj_nil,xJ,kS,ag38,hl0,erA,zT,qp];simp only [go_ret,zD,qI,Fx]
   refine ⟨trivial,[.snil,erA],rfl,?_⟩;have:¬ t.length<=65536:=by omega
   simp only [zcA,okP,hch,tupOf,this,decide_false,Bool.and_false,zAD,if_false];rfl
  ·refine .inr ⟨by simpa using hlen,?_⟩
   have hle:t.length<=65536:=by omega
   have hcor:=zdm hch;obtain ⟨v,bs',es',h45,hnew,hes,hres⟩:=zmE hg.toGW _ e (zAR _) hcor (n - 1) (by omega) [.cells (ecells e) 27] []
   rw [show n - 1+1=n by omega,qw,zA0] at h45
   have c45:=z7 (gl:=gl.g) (uq:=uqw) Tryz.func45 rfl h45;have hcc:∀ l env t,jV env t (some (clr (qt 1 3 (jD l))))=some (clr (qt 1 3 (jD l)),env):=fun l _ _=>by cases jD l<;>rfl
   have hc2:∀ l,clr (clr (qt 1 3 (jD l)))=clr (qt 1 3 (jD l)):=fun l=>by cases jD l<;>rfl
   have hE:okP e t=true:=by simp [okP,hch,hle]
   cases hfw:foW e with
   | none =>
    rw [hfw] at hres;obtain rfl:v=.nili:=hres;have h44:=znP hg.toGW (n:=n - 1) (bs:=bs') (es:=es') (nl:=nl) (t:=t);rw [show n - 1+1=n by omega] at h44
    have c44:=z7 (gl:=gl.g) (uq:=uqw) Tryz.func44 rfl h44;refine zc (tk:=[]) (by kernel_rfl) ?_
    simp only [zi,go_os_nil,zk,zt,zg,qx,peeks,zO,peek,ze,zE,ofVal,kC,zb,zj,opQ_val,zl,qA,zp,zAB,zAC,zR,je,zAX,zAp,zf,zm,zAI,zAJ,hld,c45,c44,kg,clr_nili]
    simp only [go_ret,zD,Fx]
    refine ⟨trivial,[.snil,.nili],rfl,?_⟩;simp [zcA,hE,vO,hfw,tupOf,jD,qt,clr]
   | some w =>
    rw [hfw] at hres;obtain ⟨hi,hhi,hat⟩:=hres;have hFW:=foW_FW _ e w (zAR _) hfw;obtain ⟨bs2,h44,_,_⟩:=e44 hg.toGW (n:=n - 1) (es:=es') (nl:=nl) (t:=t) hat (foW_rg _ e w (zAR _) hcor hr hfw) hhi (by omega) (by omega) ht hle
    obtain ⟨vt,vu,rfl⟩:=hat.ifc;rw [show n - 1+1=n by omega] at h44
    have c44:=z7 (gl:=gl.g) (uq:=uqw) Tryz.func44 rfl h44;refine zc (tk:=[]) (by kernel_rfl) ?_
    simp only [zi,go_os_nil,zk,zt,zg,qx,peeks,zO,peek,ze,zE,ofVal,zb,zj,opQ_val,zl,qA,zp,zAB,zAC,zR,je,zAX,zAp,zf,zm,zAI,zAJ,hld,c45,c44,kg,zT,hcc]
    simp only [go_ret,zD,Fx]
    refine ⟨trivial,[clr (qt 1 3 (jD (ym w t))),.nili],?_,?_⟩
    ·simp only [zM,zf,zm]
    ·simp only [zcA,hE,vO,hfw,tupOf,if_true,zAX,zAp,hc2,clr_nili]
end Go.Proofs.YtlnijcffanjieaaGreatDoor
namespace Go.Proofs.YtlnijcffanjieaaGreatDoor
set_option maxRecDepth 100000
open Go Go.Vm
variable {gl:Gl}
def zeq (e:E) (t:List Nat):St4:=match foW e with|some w=>nxW (runE w 0 t) (t.length == 0)|none=>st0
def zcB (e:E) (t:List Nat):V:=if okP e t then .tup [stV (zeq e t),.nili] else .tup [stV st0,erA]
theorem e16 (hg:GWC gl) {e:E} {nl:Bool} {t:List Nat} (hw:Wf e) (hc:Can e) (hr:Rg e) (ht:∀ b∈t,b<256) {n:Nat} (hn:2 * YtlnijcffanjieaaGreatDoor.hg e+t.length+2<=n):∃ H',zx Tryz.prog gl (n+1) 16 [enc e,jo nl t] ⟨[],[]⟩=some (.ret (zcB e t),H'):=by
 suffices hmain:go ⟨Tryz.prog,gl.g,zx Tryz.prog gl n,gl.uq⟩ n (Fx Tryz.prog Tryz.f16.results.toList fun u H1=>u=zcB e t) [.c (Tryz.f16.body.getD .skip)] .normal ⟨[.agg (ecells e),jo nl t]++List.replicate 40 (.tup []),⟨[],[]⟩,[],[]⟩ by
  rw [qw];obtain ⟨u,H1,h1,rfl⟩:=kR (gl:=gl) (f:=16) (bs:=[]) (es:=[]) (args:=[.agg (ecells e),jo nl t]) (n:=n) (hg.hkN _ _ (by decide)) (fun H=>hg.hk2 _ _ _ _) Tryz.func16 rfl hmain
  exact ⟨_,h1⟩
 rw [hg.uq];have h11:=e11 hg hw hc (n:=n) (by omega)
 simp only [Tryz.f16,zA8,zd];refine zc (tk:=[]) (by kernel_rfl) ?_
 simp only [zi,go_os_nil,zd,kE,z9,zg,ze,zE,ofVal,z0,zj,opQ_val,zl,zAC,qg,zAS,List.length_nil,zAT,zAY,zAW,zf,zAI,zAJ,qO (show okC (.agg (ecells e))=true from rfl),V.laid,wV,zei,List.replicate,List.length_nil]
 have hld:∀ g S,zJ Tryz.prog ⟨[.cells (ecells e) 27,S],[]⟩ g 27 (.ptr 0 0)=some (.agg (ecells e)):=fun g S=>zjK rfl;have hst:∀ env s bs es,qQ Tryz.prog 24 ⟨Blk.cells (ecells e) 27::Blk.cells (stV st0).cells 24::bs,es⟩ [] [] (some (stV s,env)) (some (.ptr 1 0))=some (.skip,⟨env,⟨Blk.cells (ecells e) 27::.cells (stV s).cells 24::bs,es⟩,[],[]⟩):=fun env s bs es=>by rw [xL rfl];rfl
 have hlr:∀ g s bs es,zJ Tryz.prog ⟨Blk.cells (ecells e) 27::.cells (stV s).cells 24::bs,es⟩ g 24 (.ptr 1 0)=some (stV s):=fun g s bs es=>zeh rfl;refine zc (tk:=[]) (by kernel_rfl) ?_
 simp only [zi,zk,zt,zbK,qx,peeks,zO,peek,zb,opQ_val,zl,zh,qA,zp,zAB,zAC,zR,je,zAX,zAp,zf,zm,zAI,zAJ,hld,h11,unA];have hl0:∀ H,zJ Tryz.prog H gl.g 38 (.gptr 0 0)=some erA:=fun H=>by simp [zJ,ag38,hg.g0]
 cases hch:zaR e
 ·simp only [zi,go_os_nil,zd,go_skip,zk,zA,qE,kF,peek,ofVal,zb,opQ_val,zl,zv,zh,zAB,zAC,zAa,zG,zK,ja,zf,zm,zAI,zAJ,kL,qa,jh,wantB_ft,xT,zAw,kg,zep,zbL]
  refine .inl ?_;refine yj [1] [(false,false),(true,false),(false,true),(false,false)] (tk:=[]) (by kernel_rfl) (by kernel_rfl) ?_
  simp only [zt,zw,qV,zg,peek,ze,zb,zj,zl,zp,zAB,zAC,zAa,kZ,zf,zm,zAI,zAJ,oj_cons,oj_nil,xJ,zb6,kS,wZ,ag38,zej,wJ,hl0,erA,zT,qp,hst];refine ⟨fun _=>zfi (p:=.gptr 0 0) rfl (hl0 _) rfl,?_⟩;simp only [go_ret,zD,qI,Fx]
  refine ⟨trivial,[stV st0,erA],?_,?_⟩
  ·simp only [zM,zf,zm,hlr];rfl
  ·simp only [zcB,okP,hch,tupOf,zBt,zAD,if_false];rfl
 ·simp only [zi,go_os_nil,zd,go_skip,zk,zA,qE,kF,peek,ofVal,zb,opQ_val,zl,zv,zh,zAB,zAC,zG,zK,jb,zf,zm,zAI,zAJ,kL,qa,jh,wantB_ff,xh,zAs,kg,zep,zbL]
  by_cases hlen:(t.length:Int) > 65536
  ·refine .inl ⟨by simpa using hlen,?_⟩
   refine yj [1] [(false,false),(true,false),(false,true),(false,false)] (tk:=[]) (by kernel_rfl) (by kernel_rfl) ?_
   simp only [zt,zw,qV,zg,peek,ze,zb,zj,zl,zp,zAB,zAC,zAa,kZ,zf,zm,zAI,zAJ,oj_cons,oj_nil,xJ,zb6,kS,wZ,ag38,zej,wJ,hl0,erA,zT,qp,hst];refine ⟨fun _=>zfi (p:=.gptr 0 0) rfl (hl0 _) rfl,?_⟩;simp only [go_ret,zD,qI,Fx]
   refine ⟨trivial,[stV st0,erA],?_,?_⟩
   ·simp only [zM,zf,zm,hlr];rfl
   ·have:¬ t.length<=65536:=by omega
    simp only [zcB,okP,hch,tupOf,this,decide_false,Bool.and_false,zAD,if_false];rfl
  ·refine .inr ⟨by simpa using hlen,?_⟩
   have hle:t.length<=65536:=by omega
   have hcor:=zdm hch;obtain ⟨v,bs',es',h45,hnew,hes,hres⟩:=zmE hg.toGW _ e (zAR _) hcor (n - 1) (by omega) [.cells (ecells e) 27,.cells (stV st0).cells 24] []
   rw [show n - 1+1=n by omega,qw,zA0] at h45
   have c45:=z7 (gl:=gl.g) (uq:=uqw) Tryz.func45 rfl h45;have hE:okP e t=true:=by simp [okP,hch,hle]
   obtain ⟨l,rfl,hl⟩:=hnew;simp only [zAY,zAW] at c45 hres;cases hfw:foW e with
   | none =>
    rw [hfw] at hres;obtain rfl:v=.nili:=hres;refine zc (tk:=[]) (by kernel_rfl) ?_
    simp only [zi,go_os_nil,zd,zt,zg,qx,peeks,zO,peek,ze,zb,zj,opQ_val,zl,qA,zp,zAB,zAC,zR,je,zAX,zAp,zf,zm,zAI,zAJ,hld,c45,zik]
    refine zc (tk:=[]) (by kernel_rfl) ?_
    simp only [zi,go_os_nil,zd,go_skip,zk,zA,peek,ofVal,zb,opQ_val,zl,zh,zAa,zG,zK,zf,zm,zAI,zAJ,clr_nili,zgo,zAa,zAy,zBA,zBr]
    refine zc (tk:=[]) (by kernel_rfl) ?_
    simp only [zi,go_os_nil,zw,qV,zg,peek,ze,zE,ofVal,zb,zj,opQ_val,opQ_skip,zl,zp,zAC,zf,zm,zAI,zAJ,zej,wJ,hst]
    simp only [go_ret,zD,qI,Fx]
    refine ⟨trivial,[stV st0,.nili],?_,?_⟩
    ·simp only [zM,zf,zm,hlr];rfl
    ·simp only [zcB,hE,zeq,hfw,tupOf,if_true];rfl
   | some w =>
    rw [hfw] at hres;obtain ⟨hi,hhi,hat⟩:=hres;have hFW:=foW_FW _ e w (zAR _) hfw;have hrg:=foW_rg _ e w (zAR _) hcor hr hfw;obtain ⟨vt,vu,rfl⟩:=hat.ifc;refine zc (tk:=[]) (by kernel_rfl) ?_
    simp only [zi,go_os_nil,zd,zt,zg,qx,peeks,zO,peek,ze,zb,zj,opQ_val,zl,qA,zp,zAB,zAC,zR,je,zAX,zAp,zf,zm,zAI,zAJ,hld,c45,qp]
    refine zc (tk:=[]) (by kernel_rfl) ?_
    simp only [zi,go_os_nil,zd,go_skip,zk,zA,peek,ofVal,zb,opQ_val,zl,zh,zAa,zG,zK,zf,zm,zAI,zAJ,zT,zgn,zAa,zAD,zBA,zBi]
    refine zc (tk:=[]) (by kernel_rfl) ?_
    simp only [zi,go_os_nil,qb,zk,kF,peek,ofVal,zb,opQ_val,zl,zAB,zAC,zf,zm,zAI,zAJ,kg,zep]
    have hnb:∀ k:Nat,((k:Int) == 0)=(k == 0):=fun k=>by
     cases k with
     | zero=>rfl
     | succ k=>exact (beq_false_of_ne (by omega)).trans (beq_false_of_ne (by omega)).symm
    refine xI (fun m s=>∃ k env B w',m+k=t.length/\s=⟨env,⟨B,es'⟩,[],[]⟩/\env.length=42/\nth env 1=some (jo nl t)/\nth env 4=some (.ptr 1 0)/\nth env 6=some (.ifc vt vu)/\nth env 24=some (jo nl t)/\nth env 25=some (.int .i64 t.length)/\nth env 26=some (.int .i64 (k:Nat))/\At B w' 2 hi (.ifc vt vu)/\nth B 1=some (.cells (stV st0).cells 24)/\hi<=B.length/\2<=B.length/\FW w'=FW w/\RgW w'/\runE w 0 t=runE w' k (t.drop k)) t.length (by omega) ⟨0,_,_,w,rfl,rfl,rfl,rfl,rfl,rfl,rfl,rfl,rfl,hat,rfl,hhi,by simp,rfl,hrg,rfl⟩ ?_
    rintro m s ⟨k,env,B,w',hmk,rfl,hel,g1,g4,g6,g24,g25,g26,hat,hB1,hhB,hB2,hFW',hrg',hrun⟩;simp only [zd];refine zc (tk:=[]) (by kernel_rfl) ?_
    simp only [zi,go_os_nil,zd,go_skip,qb,zA,peek,zb,opQ_val,zl,zv,zh,zG,zK,if_true,za,Nat.reduceLT,if_true,g25,g26,hel,vQ]
    by_cases hk:k<t.length
    ·refine .inl ⟨by simp;omega,?_⟩
     obtain ⟨b,hb⟩:∃ b,t[k]?=some b:=⟨t[k],by simp [hk]⟩
     have hbl2:b<256:=ht b (zAh hb);have hdr:t.drop k=b::t.drop (k+1):=by
      rw [zBT hk];rw [zAV hk] at hb;rw [zA1 hb]
     rw [hdr] at hrun;simp only [runE] at hrun;obtain ⟨bs2,a1,a2,a3,a4⟩:=zfl hg.toGW (FW w') hat hrg' hhB (zAR _) (n:=n) (by omega) (k == 0) b hbl2 es'
     have hst:=fun env=>jQ (lk:=[]) (df:=[]) (env:=env) a1;rw [hg.uq] at hst
     try simp only [go_skip,zd,qb]
     refine zc (tk:=[]) (by kernel_rfl) ?_
     simp only [zi,go_os_nil,zk,zt,zg,qh,Nat.reduceEqDiff,peek,ze,zeX,zb,zj,opQ_val,zl,zv,yL,zAB,zAC,wv,if_true,za,zAN,Nat.reduceLT,if_true,if_false,g24,g26,hel,kg,wv,zoo hb,zop]
     refine zc (tk:=[]) (by kernel_rfl) ?_
     simp only [zi,go_os_nil,jX,zk,zA,Nat.reduceEqDiff,peeks,zO,peek,ofVal,zb,opQ_val,zl,zv,zh,if_true,za,zAN,Nat.reduceLT,if_true,if_false,g6,hel,zT,jj,hnb,z6,hst]
     refine zc (tk:=[]) (by kernel_rfl) ?_
     simp only [zi,go_os_nil,zk,zA,Nat.reduceEqDiff,peek,ofVal,zb,opQ_val,zl,zv,if_true,za,zAN,Nat.reduceLT,if_true,if_false,g26,hel,jy (show k<2 ^ 60 by omega),zD,thn_normal]
     refine ⟨m - 1,by omega,k+1,_,bs2,_,by omega,rfl,?_,?_,?_,?_,?_,?_,?_,a2,(a4 1 (by omega)).trans hB1,by omega,by omega,(FW_st _ _ _ _ (zAR _)).trans hFW',Rg_st _ _ _ _ (zAR _) hrg',hrun⟩
     ·simp [hel]
     ·simp [za,g1]
     ·simp [za,g4]
     ·simp [za,g6]
     ·simp [za,g24]
     ·simp [za,g25]
     ·simp [za,hel]
    ·refine .inr ⟨by simp;omega,?_⟩
     obtain rfl:k=t.length:=by omega
     rw [List.drop_length] at hrun;simp only [runE] at hrun;have hnx:=fun env=>jQ (lk:=[]) (df:=[]) (env:=env) (zhN hg.toGW (FW w') hat hrg' hhB (zAR _) (n:=n) (by omega) (t.length == 0) es')
     rw [hg.uq] at hnx;have hst2:∀ env s,qQ Tryz.prog 24 ⟨B,es'⟩ [] [] (some (stV s,env)) (some (.ptr 1 0))=some (.skip,⟨env,Hp.set ⟨B,es'⟩ 1 (.cells (stV s).cells 24),[],[]⟩):=fun env s=>xL hB1;have hlr2:∀ g s,zJ Tryz.prog (Hp.set ⟨B,es'⟩ 1 (.cells (stV s).cells 24)) g 24 (.ptr 1 0)=some (stV s):=fun g s=>zeh (by rw [zdk,show Hp.get ⟨B,es'⟩ 1=some _ from hB1];simp)
     simp only [xH,wT,wj,zD,thn_exit,zd,zBS,if_true,zD];refine zc (tk:=[]) (by kernel_rfl) ?_
     simp only [zi,go_os_nil,zk,zw,zA,zg,kF,Nat.reduceEqDiff,peeks,zO,peek,ze,zE,ofVal,zb,zj,opQ_val,opQ_skip,zl,zv,zh,zp,zAB,zAC,if_true,za,zAN,Nat.reduceLT,if_true,if_false,g1,g4,g6,hel,kg,zep,zT,jj,hnb,z6,hnx,wJ,hst2]
     simp only [go_ret,zD,Fx]
     refine ⟨trivial,[stV (nxW w' (t.length == 0)),.nili],?_,?_⟩
     ·simp [zM,za,hel,g4,hlr2];rfl
     ·simp only [zcB,hE,zeq,hfw,hrun,tupOf,if_true];rfl
end Go.Proofs.YtlnijcffanjieaaGreatDoor
namespace Go.Proofs.YtlnijcffanjieaaGreatDoor
set_option maxRecDepth 10000
open Go Go.Vm Go.Vm.Sx
variable {gl:Gl} [NoU gl]
theorem lent11:jR Tryz.prog Tryz.f11.params.toList=some []:=by kernel_rfl
theorem lent13:jR Tryz.prog Tryz.f13.params.toList=some []:=by kernel_rfl
theorem zp7 {x:V}:vJ Tryz.prog [34] [.d x] 0:=by
 refine ⟨fun e=>?_,trivial⟩;rw [Tryz.underlying34];simp
theorem zo9 (hgl:GL gl):∀ (e:E),Wf e->Ev Tryz.prog gl 11 [.d (enc e)] [] (.bool (zaR e)) []
 | .mk op pl s0 s1 s2 s3 text mn mx nl args,hw=>by
  refine jc (xs:=[enc (.mk op pl s0 s1 s2 s3 text mn mx nl args)]) hgl.top (hgl.no 11 rfl) tree11_ok Tryz.func11 lent11 znI (by simp [tops,top_enc]) (N:=1) ?_
  have hc:=kW (zpG hgl (.mk op pl s0 s1 s2 s3 text mn mx nl args) hw 1 0 0);simp only [zhJ,zgk,zeg,enc] at hc;simp only [tree11,enc,zaR];simp only [zP,zN,ev_opn,qZ,jg,qC,qH,zU,jL,vD,kK,ks_nil,zAc,qm,zy,zI,vR,evI,zr,evC,zC,kX,evA,qD,qR,joinL,sizesOk,zv,kP,zBS,zAS,List.length_nil,wa,hc,qn]
def nvL (l:List Nat):V:=lv 1 true (jD l)
theorem zor (l:List Nat):kOk (.sl 1) (nvL l)=true:=zoU ..
theorem zbn (l:List Nat):vL (nvL l)=jD l:=zmg ..
theorem tops_intL:∀ l:List Nat,tops (jD l)=0
 | []=>rfl
 | a::l=>by simp only [jD,zAX,tops];exact tops_intL l
theorem znQ (l:List Nat):(nvL l).top=0:=by unfold nvL;rw [ziw];exact tops_intL l
theorem zjL (l:List Nat):clr (qt 1 3 (jD l))=nvL l:=by cases l<;>rfl
theorem yn (l:List Nat):(jD l).length=l.length:=by simp [jD]
theorem zmH {l:List Nat} {i n:Nat} (h:l[i]?=some n):nth (jD l) i=some (.int .i64 (n:Nat)):=by rw [zq,jD,zAl,h];rfl
theorem zhQ (nl:Bool) (t:List Nat):kOk (.sl 1) (jo nl t)=true:=zoU ..
theorem zau (nl:Bool) (t:List Nat):vL (jo nl t)=t.map fun b=>V.int .u8 (b:Nat):=zmg ..
theorem zdn (nl:Bool) (t:List Nat):(jo nl t).top=0:=by
 unfold jo;rw [ziw]
 induction t with
 | nil=>rfl
 | cons a t ih=>simp only [zAX,tops];exact ih
theorem znR (nl:Bool) (t:List Nat) (n:Nat):zil (jo nl t) 0 (n:Int)=jo (nl && t.isEmpty) (t.take n):=by
 rcases lv_cases 1 nl (t.map fun b=>V.int .u8 (b:Nat)) with h|⟨h0,h⟩
 ·rw [jo,h];simp only [zil,jo,lv,List.map_take,zBd,Int.toNat_zero,zBo];cases nl with
  | false=>simp
  | true =>
   cases t with
   | nil=>simp [lv] at h
   | cons a t=>simp
 ·have:t=[]:=by simpa using h0
  subst this;rw [jo,h];cases nl with
  | false=>simp [lv] at h
  | true=>simp [zil,jo,lv]
def zer (t:List Nat):List Nat:=if 40<t.length/\t.length<=65536 then t.take 40 else t
theorem zmI (nl:Bool) (t:List Nat):jo nl t=jo (nl && t.isEmpty) t:=by
 cases nl<;>cases t<;>rfl
theorem zqW (hgl:GL gl) (nl:Bool) (t:List Nat):Ev Tryz.prog gl 13 [.d (jo nl t)] [] (jo (nl && t.isEmpty) (zer t)) []:=by
 refine jc (xs:=[jo nl t]) hgl.top (hgl.no 13 rfl) tree13_ok Tryz.func13 lent13 zp7 (by simp [tops,zdn]) (N:=1) ?_
 simp only [tree13]
 by_cases h1:40<t.length
 ·by_cases h2:t.length<=65536
  ·have e1:ltz 40 (t.length:Int)=true:=zcW (by omega)
   have e2:lez (t.length:Int) 65536=true:=zju (by omega)
   have e3:lez 40 (t.length:Int)=true:=zju (by omega)
   have e4:=znR nl t 40;have hT:zer t=t.take 40:=if_pos ⟨h1,h2⟩;rw [hT];have e5:zil (jo nl t) 0 40=jo (nl && t.isEmpty) (t.take 40):=e4;simp only [jC,qZ,qC,zAc,evB,evI,evL,zgh,kc,zhQ,zau,e1,e2,zA2];rw [zb3]
   ·simp only [zP,zN,qC,qH,zy,zI,evI,zr,evC,zC,qR,e5]
   ·simp only [qC,Bool.and_true,evB,evI,evL,zgh,zau,e3,zA2];rfl
  ·have e1:ltz 40 (t.length:Int)=true:=zcW (by omega)
   have e2:lez (t.length:Int) 65536=false:=zoi (by omega)
   have hT:zer t=t:=if_neg (by omega)
   rw [hT,<- zmI];simp only [jM,zP,zN,qZ,qC,qH,Bool.and_false,zy,zI,evB,evI,evL,zr,evC,zC,qR,zgh,kc,zhQ,zau,e1,e2,zA2,kg]
 ·have e1:ltz 40 (t.length:Int)=false:=zb2 (by omega)
  have hT:zer t=t:=if_neg (by omega)
  rw [hT,<- zmI];simp only [jM,zP,zN,qZ,qC,qH,zBt,zy,zI,evB,evI,evL,zr,evC,zC,qR,zgh,kc,zhQ,zau,e1,zA2,kg]
end Go.Proofs.YtlnijcffanjieaaGreatDoor
namespace Go.Proofs.YtlnijcffanjieaaGreatDoor
open Go Go.Vm Go.Vm.Sx
mutual
def nodes:E->Nat
 | .mk _ _ _ _ _ _ _ _ _ _ args=>1+nodesF args
def nodesF:List E->Nat
 | []=>0
 | a::l=>nodes a+nodesF l
end
def Bd (d:Int):Int:=1048576 * (5003 - d)
mutual
theorem size_bd:∀ (e:E) (d:Int),Wf e->0<=d->d<=5001->1<=sizeM e d/\sizeM e d<=Bd d
 | .mk _ _ _ _ _ _ _ _ _ _ args,d,hw,h0,h1=>by
  simp only [sizeM];cases hd:ltz 5000 d with
  | true=>simp only [if_true,Bd];omega
  | false =>
   have hd':d<=5000:=by
    rcases Int.lt_or_le 5000 d with h|h
    ·rw [zcW h] at hd;cases hd
    ·exact h
   simp only [zAD,if_false];rw [w64 (x:=d+1) (by omega) (by omega)]
   have:=sizeF_bd args (d+1) 1 hw.2.2 (by omega) (by omega) (by omega) (by simp only [Bd];omega)
   refine ⟨by omega,?_⟩
   have:=this.2;simp only [Bd] at this ⊢;omega
theorem sizeF_bd:∀ (l:List E) (d n:Int),Wfs l->0<=d->d<=5001->1<=n->n<=Bd (d - 1)->n<=sizeF d n l/\sizeF d n l<=Bd (d - 1)
 | [],d,n,_,h0,h1,hn,hb=>by simp only [sizeF];omega
 | a::l,d,n,hw,h0,h1,hn,hb=>by
  obtain ⟨a1,a2⟩:=size_bd a d hw.1 h0 h1;simp only [sizeF];cases hc:ltz n 1048576 with
  | false=>simp only [zAD,if_false];omega
  | true =>
   have hc':=ltz_i.1 hc;simp only [if_true];simp only [Bd] at a2 hb;rw [w64 (by omega) (by omega)]
   have:=sizeF_bd l d (n+sizeM a d) hw.2 h0 h1 (by omega) (by simp only [Bd];omega)
   exact ⟨by omega,this.2⟩
end
mutual
theorem size_nodes:∀ (e:E) (d:Int),Wf e->0<=d->d<=5001->sizeM e d<=20000->(nodes e:Int)<=sizeM e d
 | .mk _ _ _ _ _ _ _ _ _ _ args,d,hw,h0,h1,hs=>by
  simp only [sizeM] at hs ⊢;cases hd:ltz 5000 d with
  | true=>rw [hd] at hs;simp only [if_true] at hs;omega
  | false =>
   rw [hd] at hs;have hd':d<=5000:=by
    rcases Int.lt_or_le 5000 d with h|h
    ·rw [zcW h] at hd;cases hd
    ·exact h
   simp only [zAD,if_false] at hs ⊢;rw [w64 (x:=d+1) (by omega) (by omega)] at hs ⊢
   have g1:=sizeF_nodes args (d+1) 1 hw.2.2 (by omega) (by omega) (by omega) (by simp only [Bd];omega) hs
   simp only [nodes];omega
theorem sizeF_nodes:∀ (l:List E) (d n:Int),Wfs l->0<=d->d<=5001->1<=n->n<=Bd (d - 1)->sizeF d n l<=20000->n+(nodesF l:Int)<=sizeF d n l
 | [],d,n,hw,h0,h1,hn,hb,hs=>by simp only [sizeF,nodesF] at hs ⊢;omega
 | a::l,d,n,hw,h0,h1,hn,hb,hs=>by
  obtain ⟨a1,a2⟩:=size_bd a d hw.1 h0 h1;simp only [sizeF] at hs ⊢;cases hc:ltz n 1048576 with
  | false =>
   rw [hc] at hs;simp only [zAD,if_false] at hs;rw [zcW (by omega)] at hc;cases hc
  | true =>
   have hc':=ltz_i.1 hc;rw [hc] at hs;simp only [if_true] at hs ⊢;simp only [Bd] at a2 hb;rw [w64 (by omega) (by omega)] at hs ⊢
   have hb':n+sizeM a d<=Bd (d - 1):=by simp only [Bd];omega
   have:=(sizeF_bd l d (n+sizeM a d) hw.2 h0 h1 (by omega) hb').1
   have g1:=sizeF_nodes l d (n+sizeM a d) hw.2 h0 h1 (by omega) hb' hs
   have f1:=size_nodes a d hw.1 h0 h1 (by omega)
   simp only [nodesF];omega
end
theorem ziB {e:E} (hw:Wf e) (h:sizeM e 0<=20000):(nodes e:Int)<=sizeM e 0:=size_nodes e 0 hw (by decide) (by decide) h
end Go.Proofs.YtlnijcffanjieaaGreatDoor
namespace Go.Proofs.YtlnijcffanjieaaGreatDoor
set_option maxRecDepth 10000
open Go Go.Vm Go.Vm.Sx
structure Ln where
 no:Bool
 le:Int
 mo:Int
def lnV (x:Ln):V:=.agg [.bool x.no,.int .i64 x.le,.int .i64 x.mo]
theorem znS (x:Ln):(lnV x).top=0:=rfl
theorem wK (x:Ln):clr (lnV x)=lnV x:=rfl
def noL:Ln:=⟨true,0,0⟩
def zes (a b:Ln):Ln:=bif a.no || b.no then noL else bif ltz a.mo 0 || ltz b.mo 0 then ⟨false,IntKind.i64.wrap (a.le+b.le),-1⟩ else ⟨false,IntKind.i64.wrap (a.le+b.le),IntKind.i64.wrap (a.mo+b.mo)⟩
def zbo (a b:Ln):Ln:=bif a.no then b else bif b.no then a else bif ltz a.mo 0 || ltz b.mo 0 then ⟨false,bif ltz b.le a.le then b.le else a.le,-1⟩ else ⟨false,bif ltz b.le a.le then b.le else a.le,bif ltz a.mo b.mo then b.mo else a.mo⟩
def xo (lo hi:Int) (x:Ln):Ln :=
 bif hi == -1 && !x.no && !(x.mo == 0) then (bif lo == 0 then zbo ⟨x.no,x.le,-1⟩ ⟨false,0,0⟩ else ⟨x.no,x.le,-1⟩) else (bif lo == 0 then zbo x ⟨false,0,0⟩ else x)
def formV:E->V
 | .mk op _ s0 s1 s2 s3 _ mn mx nl args =>
  bif op == 2 then .ifc 149 (.agg [.int .u64 s0,.int .u64 s1,.int .u64 s2,.int .u64 s3])
  else bif op == 5 then .ifc 152 (.agg [zW nl (encs args)])
  else bif op == 6 then .ifc 155 (.agg [zW nl (encs args)])
  else bif op == 7 then .ifc 157 (.agg [.int .i64 mn,.int .i64 mx,zW nl (encs args)])
  else .ifc 207 (.agg [])
variable {gl:Gl} [NoU gl]
theorem lent74:jR Tryz.prog Tryz.f74.params.toList=some []:=by kernel_rfl
theorem lent75:jR Tryz.prog Tryz.f75.params.toList=some []:=by kernel_rfl
theorem lent77:jR Tryz.prog Tryz.f77.params.toList=some []:=by kernel_rfl
theorem lent78:jR Tryz.prog Tryz.f78.params.toList=some []:=by kernel_rfl
theorem lent79:jR Tryz.prog Tryz.f79.params.toList=some []:=by kernel_rfl
theorem zos {x y:V}:vJ Tryz.prog [63,63] [.d x,.d y] 0:=by
 refine ⟨fun e=>?_,fun e=>?_,trivial⟩<;>rw [Tryz.underlying63]<;>simp
theorem zpa {x y:V}:vJ Tryz.prog [157,63] [.d x,.d y] 0:=by
 refine ⟨fun e=>?_,fun e=>?_,trivial⟩
 ·rw [Tryz.underlying157];simp
 ·rw [Tryz.underlying63];simp
theorem zp8 (hgl:GL gl) (h75:∀ args,gl.hk 75 args=none):Ev Tryz.prog gl 75 [] [] (lnV noL) []:=by
 refine jc (xs:=[]) hgl.top h75 tree75_ok Tryz.func75 lent75 trivial rfl (N:=1) ?_;simp only [tree75,lnV,noL];simp only [zP,zN,qC,zI,evB,evI,zr,evC,zC,qR]
theorem zqX (hgl:GL gl) (h75:∀ args,gl.hk 75 args=none) (h77:∀ args,gl.hk 77 args=none) (a b:Ln):Ev Tryz.prog gl 77 [.d (lnV a),.d (lnV b)] [] (lnV (zes a b)) []:=by
 obtain ⟨an,al,am⟩:=a;obtain ⟨bn,bl,bm⟩:=b;refine jc (xs:=[lnV ⟨an,al,am⟩,lnV ⟨bn,bl,bm⟩]) hgl.top h77 tree77_ok Tryz.func77 lent77 zos rfl (N:=1) ?_;have d1:=kW (zp8 hgl h75);simp only [tree77,lnV,zes,noL] at *;cases h1:(an || bn) with
 | true=>simp only [jC,zP,zN,ev_opn,jg,qC,qH,zU,jL,kK,ks_nil,zAc,qm,zy,zI,evB,zr,evC,zC,kX,qD,qR,qY,joinL,sizesOk,zv,zh,h1,d1]
 | false=>cases h2:(ltz am 0 || ltz bm 0)<;>simp only [jC,jM,zP,zN,ev_opn,qC,qH,zU,jL,kK,ks_nil,zAc,qm,vK,zy,zI,evB,evI,zr,evC,zC,qR,zY,qY,j9,biI,h1,h2]
theorem zpb (hgl:GL gl) (h78:∀ args,gl.hk 78 args=none) (a b:Ln):Ev Tryz.prog gl 78 [.d (lnV a),.d (lnV b)] [] (lnV (zbo a b)) []:=by
 obtain ⟨an,al,am⟩:=a;obtain ⟨bn,bl,bm⟩:=b;refine jc (xs:=[lnV ⟨an,al,am⟩,lnV ⟨bn,bl,bm⟩]) hgl.top h78 tree78_ok Tryz.func78 lent78 zos rfl (N:=1) ?_;simp only [tree78,lnV,zbo];cases an with
 | true=>simp only [jC,zP,zN,ev_opn,qC,qH,zU,jL,kK,ks_nil,zAc,qm,zy,zI,evB,zr,evC,zC,qR,qY,zv,zh]
 | false=>cases bn with
  | true=>simp only [jC,jM,zP,zN,ev_opn,qC,qH,zU,jL,kK,ks_nil,zAc,qm,vK,zy,zI,evB,zr,evC,zC,qR,qY,zv,zh]
  | false=>cases h2:(ltz am 0 || ltz bm 0)<;>simp only [jC,jM,zP,zN,ev_opn,qC,qH,zU,jL,kK,ks_nil,zAc,qm,vK,zy,zI,evB,evI,zr,evC,zC,qR,zY,qY,j9,kc,h2]
theorem zqY (hgl:GL gl) (h78:∀ args,gl.hk 78 args=none) (h79:∀ args,gl.hk 79 args=none) (mn mx:Int) (nl:Bool) (args:List V) (h:tops args=0) (b:Ln):Ev Tryz.prog gl 79 [.d (.agg [.int .i64 mn,.int .i64 mx,zW nl args]),.d (lnV b)] [] (lnV (xo mn mx b)) []:=by
 obtain ⟨bn,bl,bm⟩:=b;refine jc (xs:=[.agg [.int .i64 mn,.int .i64 mx,zW nl args],lnV ⟨bn,bl,bm⟩]) hgl.top h79 tree79_ok Tryz.func79 lent79 zpa (by simp [tops,V.top,jA,lnV,h]) (N:=1) ?_
 have d1:=kW (zpb hgl h78 ⟨bn,bl,bm⟩ ⟨false,0,0⟩);have d2:=kW (zpb hgl h78 ⟨bn,bl,-1⟩ ⟨false,0,0⟩);simp only [tree79,xo,lnV] at *;cases h1:(mx == -1 && !bn && !(bm == 0))<;>cases h2:(mn == 0)
 ·simp only [jM,zP,zN,ev_opn,qC,qH,zU,jL,kK,ks_nil,zAc,qm,vK,zy,zI,evB,evI,zr,evC,zC,qR,zY,qY,qX,zv,zh,h1,h2,wa]
 ·simp only [jC,jM,zP,zN,ev_opn,jg,qC,qH,zU,jL,kK,ks_nil,zAc,qm,vK,zy,zI,evB,evI,zr,evC,zC,kX,evA,qD,qR,zY,qY,qX,joinL,sizesOk,zv,zh,h1,h2,wa,d1]
 ·simp only [jC,jM,zP,zN,ev_opn,qC,qH,zU,jL,kK,ks_nil,zAc,qm,vK,zy,zI,evB,evI,zr,evC,zC,qR,zY,qY,qX,zv,zh,h1,h2,wa]
 ·simp only [jC,zP,zN,ev_opn,jg,qC,qH,zU,jL,kK,ks_nil,zAc,qm,zy,zI,evB,evI,zr,evC,zC,kX,evA,qD,qR,zY,qY,qX,joinL,sizesOk,zv,zh,h1,h2,wa,d2]
theorem zqZ (hgl:GL gl) (h74:∀ args,gl.hk 74 args=none):∀ (e:E),Ev Tryz.prog gl 74 [.d (enc e)] [] (formV e) []
 | .mk op pl s0 s1 s2 s3 text mn mx nl args=>by
  refine jc (xs:=[enc (.mk op pl s0 s1 s2 s3 text mn mx nl args)]) hgl.top h74 tree74_ok Tryz.func74 lent74 znI (by simp [tops,top_enc]) (N:=1) ?_
  simp only [tree74,enc,formV];cases h2:(op == 2) with
  | true=>simp only [jC,zP,zN,ev_opn,qC,qH,zU,jL,vD,ks_nil,zAc,qm,zy,zI,evB,evI,zr,evC,zC,qR,zY,qX,zv,h2,wa]
  | false=>cases h5:(op == 5) with
   | true=>simp only [jC,jM,zP,zN,ev_opn,qC,qH,zU,jL,vD,ks_nil,zAc,qm,vK,zy,zI,evB,evI,zr,evC,zC,qR,zY,qX,h2,h5,wa,qn]
   | false=>cases h6:(op == 6) with
    | true=>simp only [jC,jM,zP,zN,ev_opn,qC,qH,zU,jL,vD,ks_nil,zAc,qm,vK,zy,zI,evB,evI,zr,evC,zC,qR,zY,qX,h2,h5,h6,wa,qn]
    | false=>cases h7:(op == 7)<;>simp only [jC,jM,zP,zN,ev_opn,qC,qH,zU,jL,vD,ks_nil,zAc,qm,vK,zy,zI,evB,evI,zr,evC,zC,qR,zY,qX,zv,h2,h5,h6,h7,wa,qn]
theorem lent292:jR Tryz.prog Tryz.f292.params.toList=some []:=by kernel_rfl
theorem lent293:jR Tryz.prog Tryz.f293.params.toList=some []:=by kernel_rfl
theorem lent294:jR Tryz.prog Tryz.f294.params.toList=some []:=by kernel_rfl
theorem lent295:jR Tryz.prog Tryz.f295.params.toList=some []:=by kernel_rfl
theorem lent304:jR Tryz.prog Tryz.f304.params.toList=some []:=by kernel_rfl
theorem zp9 (hgl:GL gl) (h292:∀ args,gl.hk 292 args=none) (s0 s1 s2 s3:Int):Ev Tryz.prog gl 292 [.d (.agg [.int .u64 s0,.int .u64 s1,.int .u64 s2,.int .u64 s3])] [] .snil []:=by
 refine jc (xs:=[.agg [.int .u64 s0,.int .u64 s1,.int .u64 s2,.int .u64 s3]]) hgl.top h292 tree292_ok Tryz.func292 lent292 ⟨fun e=>by rw [Tryz.underlying149];simp,trivial⟩ rfl (N:=1) ?_
 simp only [tree292];simp only [zP,zN,ev_opn,qC,qH,zU,jL,ks_nil,zAc,qm,zy,zI,zr,evC,zC,qR]
theorem zqa (hgl:GL gl) (h293:∀ args,gl.hk 293 args=none) (nl:Bool) (l:List E):Ev Tryz.prog gl 293 [.d (.agg [zW nl (encs l)])] [] (zW nl (encs l)) []:=by
 refine jc (xs:=[.agg [zW nl (encs l)]]) hgl.top h293 tree293_ok Tryz.func293 lent293 ⟨fun e=>by rw [Tryz.underlying152];simp,trivial⟩ (by simp [tops,V.top,jA,tops_encs]) (N:=1) ?_
 simp only [tree293];simp only [zP,zN,ev_opn,qC,qH,zU,ks_nil,zAc,qm,zy,zI,zr,evC,zC,qR,wa,qn]
theorem zqb (hgl:GL gl) (h294:∀ args,gl.hk 294 args=none) (nl:Bool) (l:List E):Ev Tryz.prog gl 294 [.d (.agg [zW nl (encs l)])] [] (zW nl (encs l)) []:=by
 refine jc (xs:=[.agg [zW nl (encs l)]]) hgl.top h294 tree294_ok Tryz.func294 lent294 ⟨fun e=>by rw [Tryz.underlying155];simp,trivial⟩ (by simp [tops,V.top,jA,tops_encs]) (N:=1) ?_
 simp only [tree294];simp only [zP,zN,ev_opn,qC,qH,zU,ks_nil,zAc,qm,zy,zI,zr,evC,zC,qR,wa,qn]
theorem zqc (hgl:GL gl) (h295:∀ args,gl.hk 295 args=none) (mn mx:Int) (nl:Bool) (l:List E):Ev Tryz.prog gl 295 [.d (.agg [.int .i64 mn,.int .i64 mx,zW nl (encs l)])] [] (zW nl (encs l)) []:=by
 refine jc (xs:=[.agg [.int .i64 mn,.int .i64 mx,zW nl (encs l)]]) hgl.top h295 tree295_ok Tryz.func295 lent295 ⟨fun e=>by rw [Tryz.underlying157];simp,trivial⟩ (by simp [tops,V.top,jA,tops_encs]) (N:=1) ?_
 simp only [tree295];simp only [zP,zN,ev_opn,qC,qH,zU,jL,ks_nil,zAc,qm,zy,zI,zr,evC,zC,qR,wa,qn]
theorem zqd (hgl:GL gl) (h304:∀ args,gl.hk 304 args=none):Ev Tryz.prog gl 304 [.d (.agg [])] [] .snil []:=by
 refine jc (xs:=[.agg []]) hgl.top h304 tree304_ok Tryz.func304 lent304 ⟨fun e=>by rw [Tryz.underlying207];simp,trivial⟩ rfl (N:=1) ?_
 simp only [tree304];simp only [zP,zN,ev_opn,qC,qH,ks_nil,qm,zy,zI,vR,zr,evC,zC,qR]
end Go.Proofs.YtlnijcffanjieaaGreatDoor
