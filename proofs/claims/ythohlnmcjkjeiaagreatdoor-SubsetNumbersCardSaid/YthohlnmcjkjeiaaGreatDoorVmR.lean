/- Seat 8, subset: All, walked at the empty heap. Conditions: none but those named. -/
import Derived.Test.YthohlnmcjkjeiaaGreatDoorVmE
import Derived.Test.YthohlnmcjkjeiaaGreatDoorVmO
import Derived.Test.YthohlnmcjkjeiaaGreatDoorVmQ
namespace Go.Proofs.YthohlnmcjkjeiaaGreatDoor
open Go Go.Vm
open Go.Proofs.Tryz
set_option maxRecDepth 100000
section
set_option pp.deepTerms true
set_option pp.maxSteps 200000
variable{gl:Gl}
inductive AW(aK:Nat->Nat->Nat)(lab:Nat->Int)(B:List aT):bL->Nat->aC->Prop
 |nil:AW aK lab B [] 0 []
 |snoc {ss:bL} {c s0 i b:Nat} {NB:bL} {vs:aC} (h:AW aK lab B ss c vs) (hi:0<i) (hl:(zj aK s0 i).length=i) (hr:RW aK s0 B b i NB) (iB:aI vs<=b):AW aK lab B (ss++[s0]) (c+jd (zj aK s0 i)) (vs++[tn b NB ((zj aK s0 i).map lab)])
theorem AW.app{aK:Nat->Nat->Nat}{lab:Nat->Int}{B:List aT}{ss:bL}{c:Nat}{vs:aC}(h:AW aK lab B ss c vs)(xs:List aT):AW aK lab (B++xs) ss c vs:=by
 induction h with
 | nil=>exact .nil
 | snoc h hi hl hr iB ih=>exact .snoc ih hi hl (hr.mono λk x _ e=>vz e) iB
theorem AW.len{aK:Nat->Nat->Nat}{lab:Nat->Int}{B:List aT}{ss:bL}{c:Nat}{vs:aC}(h:AW aK lab B ss c vs):vs.length=ss.length:=by
 induction h with
 | nil=>rfl
 | snoc _ _ _ _ _ ih=>simp[ih]
theorem zm1{aK:Nat->Nat->Nat}{s0 b i:Nat}{B:List aT}{NB:bL}{dh:List Int}(h:RW aK s0 B b i NB)(hi:0<i):0<(tn b NB dh).top:=by
 obtain⟨k,hk⟩:∃k,k∈NB:=by
  cases NB with
  | nil=>have:=h.len;simp at this;omega
  | cons k l=>exact⟨k,eT ..⟩
 have h1:(fA b k).top<=aI (NB.map (fA b)):=zn (iH.2 ⟨k,hk,rfl⟩);have h2:(aW (zm 1 27 (NB.map (fA b)))).top=aI (NB.map (fA b)):=by rw[ji,vy]
 simp only[fA,V.top] at h1;simp only[tn,V.top,aI,h2];omega
theorem AW.top{aK:Nat->Nat->Nat}{lab:Nat->Int}{B:List aT}{ss:bL}{c:Nat}{vs:aC}(h:AW aK lab B ss c vs)(hs:0<ss.length):0<aI vs:=by
 cases h with
 | nil=>simp at hs
 | snoc h hi hl hr _=>exact r9 (zm1 hr hi) (zn (Ba _ (List.mem_singleton_self _)))
theorem AW.le{aK:Nat->Nat->Nat}{lab:Nat->Int}{B:List aT}{ss:bL}{c:Nat}{vs:aC}(h:AW aK lab B ss c vs):aI vs<=B.length:=by
 induction h with
 | nil=>exact dU _
 | @snoc ss c s0 i b NB vs h hi hl hr iB ih =>
  refine qq λx hx=>?_;rcases oM.1 hx with hx|hx
  ·exact cU (zn hx) ih
  ·rw[mF.1 hx];have h2:(aW (zm 1 27 (NB.map (fA b)))).top=aI (NB.map (fA b)):=by rw[ji,vy]
   have h3:∀l:List Int,(aW (zm 1 3 (l.map A2.ie))).top=0:=λl=>by
    rw[ji,vy];exact Nat.le_zero.1 (qq λy hy=>by obtain⟨z,_,rfl⟩:=iH.1 hy;exact dB _)
   simp only[tn,V.top,aI,h2,h3];refine ua.2 ⟨qq λy hy=>?_,by omega⟩
   obtain⟨k,hk,rfl⟩:=iH.1 hy;have:=hr.lt k hk;simp only[fA,V.top];omega
theorem zoF{cx:Cx}{n:Nat}{Q:Ex->St->Prop}{k:List It}{s:St}{c:Code}(P:aC->Hp->Prop)(h1:∀Q':Ex->St->Prop,(∀env H lk,P env H->Q' .normal ⟨env,H,lk,[]⟩)->go cx n Q' [.c c] .normal s)(h2:∀env H lk,P env H->go cx n Q k .normal ⟨env,H,lk,[]⟩):go cx n Q (.c c::k) .normal s:=by
 have:=h1 (go cx n Q k) h2;simp only[go] at this ⊢;exact this
theorem r61:mY prog 61 66 2 48:=⟨by kernel_rfl,by kernel_rfl,by kernel_rfl,by decide,by kernel_rfl,by kernel_rfl,by kernel_rfl⟩
def D1(ck:Bool)(rk:A2.cO->Bool)(l:List A2.cO):Bool:=ck && (decide (1<=l.length) && (decide (l.length<=16) && l.all rk))
def AlP(f:A2.F)(aK:Nat->Nat->Nat)(lab:Nat->Int)(l:List A2.cO)(v:V)(B:List aT):Prop :=
 (∃c vs,AW aK lab B (l.map λa=>qi f.f.2 a.2 0) c vs/\c<=600/\v=.br [aW (zm 2 66 vs),.bT]) \/
 (∃j a c vs i B',l[j]?=some a/\AW aK lab B' ((l.take j).map λa=>qi f.f.2 a.2 0) c vs/\600<c+jd (zj aK (qi f.f.2 a.2 0) i)/\v=.br [.aG,.ec 396 (.obj 2)])
set_option maxHeartbeats 1000000 in
theorem zoG(hg:GS gl){n m:Nat}{f:A2.F}{cT:A2.gZ}{ck:Bool}{rk:A2.cO->Bool}(hn:m+1000<=n)(AV:m<2 ^ 36)(DT:gl.hk 24 [A2.fv f]=some (.bool ck))(SX:∀a∈cT.2,gl.hk 72 [A2.fv f,A2.iv a]=some (.bool (rk a)))(R9:gl.g 0 0=some (.ec 396 (.obj 0)))(Ak:gl.g 2 0=some (.ec 396 (.obj 2)))
  (sM:cT.2.length<n) (SZ:cT.2.length<2 ^ 60) (hF:ck=true->GI f m (n - 3)) (hA:∀a∈cT.2,rk a=true->(∀r∈a.2,0<=r/\r.toNat<f.f.2.length)/\a.2.length<n - 3/\a.2.length<2 ^ 60) :
  ∃v H',zk prog gl (n+1+1) 30 [A2.fv f,A2.rv cT] ⟨[],[]⟩=some (.ret v,H') /\
   if D1 ck rk cT.2=true then ∃nx:aN,nx.map (·.2)=f.n.2.map xu/\AlP f (tj f nx m) (λw=>wm f.s.2.length (wl m w) (-1)) cT.2 v H'.au else v=.br [.aG,.ec 396 (.obj 0)]:=by
 suffices bK:(go ⟨prog,gl,zk prog gl (n+1),eC⟩ (n+1) (Fx prog f30.results.toList λv H1=>if D1 ck rk cT.2=true then ∃nx:aN,nx.map (·.2)=f.n.2.map xu/\AlP f (tj f nx m) (λw=>wm f.s.2.length (wl m w) (-1)) cT.2 v H1.au else v=.br [.aG,.ec 396 (.obj 0)]) [.c (f30.body.getD .skip)] .normal ⟨[A2.fv f,A2.rv cT]++List.replicate 72 (.br []),⟨[],[]⟩,[],[]⟩) by
  obtain⟨v,H1,h0,hp⟩:=zJ (gl:=gl) (f:=30) (bs:=[]) (es:=[]) (args:=[A2.fv f,A2.rv cT]) (n:=n+1) (hg.hk _ _ (by decide)) (λH=>hg.eV _ _ _ _ (by decide)) func30 rfl (by rw[hg.uq];exact bK)
  refine⟨v,_,h0,?_⟩;cases hk:D1 ck rk cT.2 with
  | false=>rw[hk] at hp;exact hp
  | true =>
   rw[hk] at hp;simp only[aF] at hp ⊢;obtain⟨nx,h1,hp⟩:=hp;refine⟨nx,h1,?_⟩;rcases hp with⟨c,vs,q1,q2,rfl⟩|hp
   ·refine .inl ⟨c,vs,?_,q2,rfl⟩
    rw[show zX ([]:List aT).length [] _ H1=⟨H1.au,H1.bC++[]⟩ from vZ (by
     have hl:0<(cT.2.map λa=>qi f.f.2 a.2 0).length:=by
      simp only[D1,ei,decide_eq_true_eq] at hk;rw[gk];omega
     have h2:=q1.top hl;simp only[V.top,aI,ji,vy,List.length_nil]
     omega)]
    exact q1
   ·obtain⟨j,a,c,vs,i,B',q⟩:=hp;exact .inr ⟨j,a,c,vs,i,B',q⟩
 have J4:dD (A2.fv f)=true:=rfl;have G4:∀env t,qE env t (some (A2.fv f))=some (A2.fv f,env):=λ_ _=>rfl;have Az:aW (A2.fv f)=A2.fv f:=rfl;have Hr:∀H,Cx.bD ⟨prog,gl.g,zk prog gl (n+1),eC⟩ 24 [A2.fv f] H=some (.val (.bool ck),H):=λH=>zq func24 rfl (vY DT)
 have VC:∀a,a∈cT.2->∀H,Cx.bD ⟨prog,gl.g,zk prog gl (n+1),eC⟩ 72 [A2.fv f,A2.iv a] H=some (.val (.bool (rk a)),H):=λa ha H=>zq func72 rfl (vY (SX a ha));have EI:∀r e,zl prog ⟨.cells (A2.fc f) 30::r,e⟩ gl.g 30 (.ptr 0 0)=some (A2.fv f):=λr e=>by
  rw[jW,show Hp.get ⟨.cells (A2.fc f) 30::r,e⟩ 0=some (.cells (A2.fc f) 30) from rfl,jy,qu,Gw,Gx];simp[wV,A2.fv,A2.fc]
 have OU:∀H,zl prog H gl.g 37 (.eN 0 0)=some (.ec 396 (.obj 0)):=λH=>by simp[zl,u7,R9]
 have VD:∀H,zl prog H gl.g 37 (.eN 2 0)=some (.ec 396 (.obj 2)):=λH=>by simp[zl,u7,Ak]
 have tv:∀k,aW (V.ec 396 (.obj k))=.ec 396 (.obj k):=λ_=>rfl;simp only[f30,ga,zh];refine zi ?_;simp only[BA,aj,aq,zc,zd,bS,bU,List.replicate,G4,qc J4,fcl];obtain⟨L,hL⟩:∃L,L=cT.2.length:=⟨_,rfl⟩
 obtain⟨Cb,iP⟩:∃b:Bool,b=!(ck && (decide (1<=L) && decide (L<=16))):=⟨_,rfl⟩
 let PB:aC->Hp->Prop:=λenv H=>H=⟨[.cells (A2.fc f) 30],[]⟩/\env.length=74/\nth env 1=some (A2.rv cT)/\nth env 2=some (.ptr 0 0)/\nth env 6=some (.bool Cb)
 have EP:∀H,qV prog H 28 (A2.rv cT)=some ((L:Nat):Int):=λH=>by rw[hL];exact RY
 refine zoF PB (λQ' hQ=>?_) ?_
 ·refine zi ?_;cases ck with
  | false =>
   simp only[BA,az,ak,aj,aq,aA,zd,ze,bS,bU,j5,qj,jm,cC,wL,oN,EI,Az,Hr,iI,oN,zr];exact hQ _ _ _ ⟨rfl,rfl,rfl,rfl,by rw[iP];rfl⟩
  | true =>
   rcases eI L 1 with uf|uf
   ·have LS:decide (((L:Nat):Int)<1)=true:=by simp;omega
    simp only[BA,az,ak,aj,aq,aA,zd,ze,bS,bU,j5,qj,jm,cC,cE,wK,wL,mG,EI,Az,Hr,iI,mG,A2.bM,EP,qT,LS,zr];exact hQ _ _ _ ⟨rfl,rfl,rfl,rfl,by rw[iP,decide_eq_false (show ¬1<=L by omega)];rfl⟩
   have LS:decide (((L:Nat):Int)<1)=false:=by simp;omega
   rcases eI 16 L with Dq|Dq
   ·have AT:decide ((16:Int)<((L:Nat):Int))=true:=by simp;omega
    simp only[BA,az,ak,aj,aq,aA,zd,ze,bS,bU,j5,qj,jm,cE,wK,mG,EI,Az,Hr,iI,mG,A2.bM,EP,qT,w6,gt_iff_lt,LS,AT,zr]
    exact hQ _ _ _ ⟨rfl,rfl,rfl,rfl,by rw[iP,decide_eq_false (show ¬L<=16 by omega),Bool.and_false,Bool.and_false];rfl⟩
   ·have AT:decide ((16:Int)<((L:Nat):Int))=false:=by simp;omega
    simp only[BA,az,ak,aj,aq,aA,zd,ze,bS,bU,j5,qj,jm,cE,wK,mG,EI,Az,Hr,iI,mG,A2.bM,EP,qT,w6,gt_iff_lt,LS,AT,zr]
    exact hQ _ _ _ ⟨rfl,rfl,rfl,rfl,by rw[iP,decide_eq_true Dq,decide_eq_true (show 1<=L by omega)];rfl⟩
 rintro env H lk ⟨rfl,hlen,e1,e2,e6⟩;simp only[zh];refine zi ?_;simp only[BA,ak,aj,aq,za,Nat.reduceLT,hlen,e1,A2.bM,EP]
 refine qd (λk2 s=>∃(j:Nat)(env:aC),k2+j=L/\s=⟨env,⟨[.cells (A2.fc f) 30],[]⟩,[],[]⟩/\env.length=74/\nth env 1=some (A2.rv cT)/\nth env 2=some (.ptr 0 0)/\nth env 6=some (.bool (Cb || !((cT.2.take j).all rk)))/\nth env 30=some (A2.rv cT)/\nth env 31=some (.int .i64 (L:Nat))/\nth env 32=some (.int .i64 (j:Nat))) L (by omega) ?_ ?_
 ·exact⟨0,_,rfl,rfl,by simp[hlen],by simp[za,e1],by simp[za,e2],by simp[za,e6],by simp[za,hlen],by simp[za,hlen],by simp[za,hlen]⟩
 clear hlen e1 e2 e6 env;rintro k2 s ⟨j,env,eV,rfl,hlen,e1,e2,e6,GA,A7,Ay⟩;simp only[zh];refine zi ?_;simp only[BA,ak,aq,za,Nat.reduceLT,hlen,A7,Ay,qT]
 by_cases hj:j<L
 ·refine .inl ⟨by simp;omega,?_⟩
  obtain⟨a,ha⟩:∃a,cT.2[j]?=some a:=⟨_,fQ (by omega)⟩
  have M8:=m8 ha;have mH:(cT.2.take (j+1)).all rk=((cT.2.take j).all rk && rk a):=by
   rw[List.take_add_one,ha];simp
  refine zi ?_;simp only[BA,Nat.reduceEqDiff,ak,aq,aE,za,bG,Nat.reduceLT,bz,hlen,GA,Ay,A2.bM,Vd ha,Ve,zee,A2.bH];refine zi ?_;cases hb:(Cb || !((cT.2.take j).all rk)) with
  | true =>
   rw[hb] at e6;simp only[BA,Nat.reduceEqDiff,az,ak,aj,aq,aA,za,bG,Nat.reduceLT,bz,zd,ze,j5,qj,jm,cC,wL,hlen,e6];refine zi ?_
   simp only[BA,Nat.reduceEqDiff,ak,aj,aq,za,bG,Nat.reduceLT,bz,hlen,Ay,zQ (show j<2 ^ 60 by omega),zr,aO]
   refine⟨L - 1 - j,by omega,j+1,_,by omega,rfl,by simp[hlen],by simp[za,e1],by simp[za,e2],?_,by simp[za,GA],by simp[za,A7],by simp[za,hlen]⟩
   rw[mH];have:(Cb || !((cT.2.take j).all rk && rk a))=true:=by
    revert hb;cases Cb<;>cases (cT.2.take j).all rk<;>simp
   rw[this];simp[za,hlen]
  | false =>
   rw[hb] at e6;simp only[BA,Nat.reduceEqDiff,az,ak,aj,aq,aA,za,bG,Nat.reduceLT,bz,zd,ze,j5,qj,jm,cE,wK,hlen,e6,e2,EI,Az,VC a M8,A2.bH,iI];refine zi ?_
   simp only[BA,Nat.reduceEqDiff,ak,aj,aq,za,bG,Nat.reduceLT,bz,hlen,Ay,zQ (show j<2 ^ 60 by omega),zr,aO]
   refine⟨L - 1 - j,by omega,j+1,_,by omega,rfl,by simp[hlen],by simp[za,e1],by simp[za,e2],?_,by simp[za,GA],by simp[za,A7],by simp[za,hlen]⟩
   rw[mH];have:(Cb || !((cT.2.take j).all rk && rk a))=!(rk a):=by
    revert hb;cases Cb<;>cases (cT.2.take j).all rk<;>simp
   rw[this];simp[za,hlen]
 ·obtain rfl:L=j:=by omega
  refine .inr ⟨by simp,?_⟩
  simp only[ql,zO,zG,zr,bJ,zh,lu,aF]
  have dH:cT.2.take L=cT.2:=rM (by omega)
  rw[dH] at e6;have Ju:(Cb || !(cT.2.all rk))=!(D1 ck rk cT.2):=by
   rw[iP,D1,<- hL];cases ck<;>cases decide (1<=L)<;>cases decide (L<=16)<;>cases cT.2.all rk<;>rfl
  rw[Ju] at e6;refine zi ?_;simp only[BA,Nat.reduceEqDiff,ak,aq,za,bG,Nat.reduceLT,bz,hlen,e6];cases hk:D1 ck rk cT.2 with
  | false =>
   rw[hk] at e6;refine .inl ⟨by simp,?_⟩
   refine qY (tk:=[]) (by kernel_rfl) (by kernel_rfl) ?_
   simp only[BA,Nat.reduceEqDiff,ak,aj,aq,av,za,bG,Nat.reduceLT,bz,hlen,OU,tv,u7];simp only[go_ret,zr,Fx,wi]
   refine⟨rfl,[.aG,.ec 396 (.obj 0)],?_,by first|rfl|simp⟩
   simp only[aq,tv,zy,za,bG,hlen,Nat.reduceLT,Nat.reduceEqDiff,aF,bz]
  | true =>
   refine .inr ⟨by simp,?_⟩
   have od:=hk;simp only[D1,ei,decide_eq_true_eq] at od;obtain⟨rfl,Ee,eV,C3⟩:=od;have OO:∀a∈cT.2,rk a=true:=λa ha=>Cy.1 C3 a ha;have pE:=hF rfl;obtain⟨n',rfl⟩:∃n',n=n'+1:=⟨n - 1,by omega⟩
   obtain⟨ee,rI,Bn⟩:=zbX hg (n:=n') (f:=f) (m:=m) (bs:=[.cells (A2.fc f) 30]) (es:=[]) pE.ns.2 pE.nf (by rw[pE.nl];exact pE.ns.2) pE.mm (by rw[pE.nl];have:=pE.ns.1;omega) (by have:=pE.ns.1;omega) (by omega) (λrow bZ=>⟨by have:=(pE.nr row bZ).1;omega,(pE.nr row bZ).2⟩) pE.hs
   have HJ:=zpc pE (bs:=[.cells (A2.fc f) 30]) (ee:=ee);obtain⟨HB,tV⟩:∃HB,HB=eS [.cells (A2.fc f) 30] f (yQ m ([aT.cells (A2.fc f) 30].length+2) f.n.2.length) (xb (th f) 256) (uB (th f) 256) (yO m f.n.2++ee):=⟨_,rfl⟩;rw[<- tV] at HJ;have NF:Cx.bD ⟨prog,gl.g,zk prog gl (n'+1+1),eC⟩ 73 [A2.fv f] ⟨[.cells (A2.fc f) 30],[]⟩=some (.val (.ptr 2 0),⟨HB,rI⟩):=by
    rw[tV];exact zq func73 rfl Bn
   have Df:=zjS (f:=f) (m:=m) (b:=[aT.cells (A2.fc f) 30].length+2);generalize KT f m ([aT.cells (A2.fc f) 30].length+2)=nx at HJ Df;obtain⟨aK,uD⟩:∃x,x=tj f nx m:=⟨_,rfl⟩;obtain⟨lab,AH⟩:∃x:Nat->Int,x=λw=>wm f.s.2.length (wl m w) (-1):=⟨_,rfl⟩;have htp:∀b o env t,qE env t (some (.ptr b o))=some (.ptr b o,env):=λ_ _ _ _=>rfl;refine zi ?_
   simp only[BA,Nat.reduceEqDiff,az,ak,aq,aA,Nat.reduceAdd,za,bG,Nat.reduceLT,bz,hlen,e2,EI,Az,NF,htp];refine zi ?_
   simp only[BA,aj,aq];refine zi ?_
   simp only[BA,aj,aq];refine zi ?_
   simp only[BA,Nat.reduceEqDiff,ak,aj,aq,za,bG,Nat.reduceLT,bz,hlen,e1,A2.bM,EP]
   refine qd (λk2 s=>∃(j:Nat)(env:aC)(B:List aT)(es lk:aN)(c:Nat)(vs:aC),k2+j=L/\s=⟨env,⟨HB++B,es⟩,lk,[]⟩/\env.length=74/\nth env 9=some (.ptr 2 0)/\nth env 10=some (zm 2 66 vs)/\nth env 11=some (.int .i64 ((600 - c:Nat):Int))/\nth env 48=some (A2.rv cT)/\nth env 49=some (.int .i64 (L:Nat))/\nth env 50=some (.int .i64 (j:Nat))/\c<=600/\AW aK lab (HB++B) ((cT.2.take j).map λa=>qi f.f.2 a.2 0) c vs) L (by omega) ?_ ?_
   ·exact⟨0,_,[],rI,_,0,[],rfl,by rw[mT],by simp[hlen],by simp[za,hlen],by simp[za,hlen,zm],by simp[za,hlen],by simp[za,hlen],by simp[za,hlen],by simp[za,hlen],by omega,.nil⟩
   clear hlen e1 e2 e6 GA A7 Ay env;rintro k2 s ⟨j,env,B,es,lk,c,vs,arK,rfl,hlen,e9,sG,lp,KS,Jr,E4,MD,Pa⟩;simp only[zh];refine zi ?_;simp only[BA,ak,aq,za,Nat.reduceLT,hlen,Jr,E4,qT]
   by_cases hj:j<L
   ·refine .inl ⟨by simp;omega,?_⟩
    obtain⟨a,ha⟩:∃a,cT.2[j]?=some a:=⟨_,fQ (by omega)⟩
    have M8:=m8 ha;obtain⟨NC,abg,ND⟩:=hA a M8 (OO a M8);have mH:(cT.2.take (j+1)).map (λa=>qi f.f.2 a.2 0)=(cT.2.take j).map (λa=>qi f.f.2 a.2 0)++[qi f.f.2 a.2 0]:=by
     rw[List.take_add_one,ha];simp
    have hMB:MM f m nx (HB++B) 2:={ HJ with M:=vz HJ.M,X:=λp hp=>⟨vz (HJ.X p hp).1,(HJ.X p hp).2⟩ };obtain⟨u,Hb,hb,Ca⟩:=zen hg (n:=n'+1) (bm:=2) (m:=m) (most:=600 - c) (act:=a) (es:=es) (by omega) AV (by omega) hMB NC (λrow bZ=>⟨by have:=(pE.fr row bZ).1;omega,(pE.fr row bZ).2⟩) (by omega) ND
    rw[<- uD,<- AH] at Ca;have dg:Cx.bD ⟨prog,gl.g,zk prog gl (n'+1+1),eC⟩ 74 [.ptr 2 0,A2.iv a,.int .i64 ((600 - c:Nat):Int)] ⟨HB++B,es⟩=some (.val u,Hb):=zq func74 rfl hb
    obtain⟨DL,BL,ot,cn,ok,rfl,rfl,HH,HI,DZ⟩:∃(DL:aC)(BL:List aT)(ot:aN)(cn:Int)(ok:Bool),u=.br [.agg DL,.int .i64 cn,.bool ok]/\Hb=⟨HB++B++BL,ot⟩/\DL.map aW=DL/\DL.length=2/\(if ok=true then ∃i NB,0<i/\(zj aK (qi f.f.2 a.2 0) i).length=i/\jd (zj aK (qi f.f.2 a.2 0) i)<=600 - c/\cn=(jd (zj aK (qi f.f.2 a.2 0) i):Nat)/\V.agg DL=tn ((HB++B).length+7) NB ((zj aK (qi f.f.2 a.2 0) i).map lab)/\RW aK (qi f.f.2 a.2 0) (HB++B++BL) ((HB++B).length+7) i NB else ∃i,600 - c<jd (zj aK (qi f.f.2 a.2 0) i)):=by
     rcases Ca with⟨i,NB,bl,ot,q1,q2,q3,rfl,rfl,q6⟩|⟨i,dh,bl,ot,z,q1,rfl,rfl⟩
     ·exact⟨_,bl,ot,_,true,rfl,rfl,by simp[qS],rfl,by rw[if_pos rfl];exact⟨i,NB,q1,q2,by omega,rfl,rfl,q6⟩⟩
     ·exact⟨_,bl,ot,_,false,rfl,rfl,by simp[qS],rfl,by rw[if_neg (by simp)];exact⟨i,by omega⟩⟩
    have O9:∀env t,qE env t (some (.agg DL))=some (.agg DL,env):=λ_ _=>rfl;obtain⟨B5,hB5⟩:∃B5,B5=HB++(B++BL):=⟨_,rfl⟩;obtain⟨B6,KV⟩:∃B6,B6=B5++[aT.cells DL 66]:=⟨_,rfl⟩;have abn:∀x:aT,HB++(B++(BL++[x]))=B5++[x]:=λx=>by rw[hB5];simp
    have abo:HB.length+(B.length+BL.length)=B5.length:=by rw[hB5];simp
    obtain⟨e6,he6⟩:∃e6,e6=vi ot B5.length (.agg DL):=⟨_,rfl⟩;have NG:∀env,qo prog 66 ⟨B5++[aT.cells [.aG,.aG] 66],ot⟩ [] [] (some (.agg DL,env)) (some (.ptr B5.length 0))=some (.skip,⟨env,⟨B6,e6⟩,[],[]⟩):=λenv=>by
     have rZ:Hp.get ⟨B5++[aT.cells [.aG,.aG] 66],ot⟩ B5.length=some (.cells [.aG,.aG] 66):=by
      show nth _ _=_;rw[zg,eM (dB _),Bb];rfl
     rw[zA mS rZ rfl (by show(DL.map aW).length=2;rw[HH,HI]) (by simp) rfl]
     have h1:(B5++[aT.cells [V.aG,.aG] 66]).set B5.length (.cells DL 66)=B6:=by
      rw[tW _ _ (dB _),Bb,KV];rfl
     have h2:Vm.storeCells [V.aG,.aG] 0 DL=DL:=by
      match DL,HI with
      | [a,b],_=>rfl
     rw[show V.laid (.agg DL)=DL from HH,h2];show some (OR.skip,St.mk env (Hp.bQ ⟨(B5++[aT.cells [V.aG,.aG] 66]).set B5.length (.cells DL 66),ot⟩ _ _) [] [])=_;rw[h1,gK,he6]
    have hl6:zl prog ⟨B6,e6⟩ gl.g 66 (.ptr B5.length 0)=some (.agg DL):=by
     have rZ:Hp.get ⟨B6,e6⟩ B5.length=some (.cells DL 66):=by
      show nth _ _=_;rw[KV,zg,eM (dB _),Bb];rfl
     rw[jW,rZ,jy,qu,pY,mS,wV,if_pos (by omega),iW,rM (by omega)]
    refine zi ?_;simp only[BA,Nat.reduceEqDiff,ak,aq,aE,za,bG,Nat.reduceLT,bz,hlen,KS,E4,A2.bM,Vd ha,Ve,zee,A2.bH];refine zi ?_
    simp only[qx,aH,zh,zK,qM,zV,z9,ki,Nat.reduceEqDiff,az,qm,ak,zM,qr,jn,zt,qg,aM,bx,aq,zS,qQ,qU,qk,aU,aS,qL,aA,a_,bt,zc,aV,aY,aF,za,bG,Nat.reduceLT,aF,bz,hlen,e9,lp,A2.bH,dg,kY,zd,ze,ew,Sz,zL (show dD (V.agg [.aG,.aG])=true from rfl),V.cells,O9,abn,abo,NG]
    refine vN (P:=λenv H=>H=⟨B6,e6⟩/\env.length=74/\nth env 9=some (.ptr 2 0)/\nth env 10=some (zm 2 66 vs)/\nth env 11=some (.int .i64 ((600 - c:Nat):Int))/\nth env 48=some (A2.rv cT)/\nth env 49=some (.int .i64 (L:Nat))/\nth env 50=some (.int .i64 (j:Nat))/\nth env 14=some (.ptr B5.length 0)/\nth env 15=some (.int .i64 cn)/\nth env 16=some (.bool ok)) ?_ ⟨rfl,by simp[hlen],by simp[za,e9],by simp[za,sG],by simp[za,lp],by simp[za,KS],by simp[za,Jr],by simp[za,E4],by simp[za,hlen],by simp[za,hlen],by simp[za,hlen]⟩
    clear hlen e9 sG lp KS Jr E4 env;rintro env H lk ⟨rfl,hlen,e9,sG,lp,KS,Jr,E4,s7,uy,u6⟩;refine zi ?_;cases ok with
    | false =>
     rw[if_neg (by simp)] at DZ
     obtain⟨i9,DZ⟩:=DZ;simp only[BA,Nat.reduceEqDiff,ak,aq,za,bG,Nat.reduceLT,bz,hlen,u6,iI,oN];refine .inl ?_;refine qY (tk:=[]) (by kernel_rfl) (by kernel_rfl) ?_
     simp only[BA,Nat.reduceEqDiff,ak,aj,aq,av,za,bG,Nat.reduceLT,bz,hlen,VD,tv,u7];simp only[go_ret,zr,Fx,wi,wo,mu]
     refine⟨rfl,[.aG,.ec 396 (.obj 2)],?_,?_⟩
     ·simp only[aq,tv,zy,za,bG,hlen,Nat.reduceLT,Nat.reduceEqDiff,aF,bz]
     ·refine⟨nx,Df,?_⟩;rw[<- uD,<- AH];exact .inr ⟨j,a,c,vs,i9,HB++B,ha,Pa,by omega,rfl⟩
    | true =>
     rw[if_pos rfl] at DZ;obtain⟨i,NB,q1,q2,q3,rfl,q5,q6⟩:=DZ;simp only[BA,Nat.reduceEqDiff,ak,aq,za,bG,Nat.reduceLT,bz,hlen,u6,iI,mG];refine .inr ?_;obtain⟨cc,rj⟩:∃cc,cc=jd (zj aK (qi f.f.2 a.2 0) i):=⟨_,rfl⟩;rw[<- rj] at q3 uy;refine zi ?_
     simp only[BA,Nat.reduceEqDiff,ak,aq,za,bG,Nat.reduceLT,bz,hlen,lp,uy,XP (show 600 - c<2 ^ 60 by omega) q3]
     have Ch:=Pa.len;have arM:vs.length<=16:=by rw[Ch,gk,uJ];omega
     have l_:=r61.Ck (v:=.agg DL) rfl HI;have fH:∀H,kf prog H 61 (zm 2 66 vs) (.sl 2 [.agg DL] .no)=some (zm 2 66 (vs++[.agg DL])):=λH=>jE r61 (by simp) (dJ (by simp;omega) (by simp;omega))
     refine wd (tk:=[68]) (by kernel_rfl) ?_
     simp only[BA,Nat.reduceEqDiff,ak,aq,za,bG,Nat.reduceLT,bz,hlen,sG,s7,hl6,l_,xR,fH,jV (cx:=⟨prog,gl.g,zk prog gl (n'+2),eC⟩) (show q_ prog eC 61=false by kernel_rfl)]
     refine zi ?_;simp only[BA,Nat.reduceEqDiff,ak,aj,aq,za,bG,Nat.reduceLT,bz,hlen,E4,zQ (show j<2 ^ 60 by omega),zr,aO]
     have abp:B6=HB++(B++BL++[aT.cells DL 66]):=by rw[KV,hB5];simp
     have abq:AW aK lab (HB++(B++BL++[aT.cells DL 66])) ((cT.2.take (j+1)).map λa=>qi f.f.2 a.2 0) (c+cc) (vs++[.agg DL]):=by
      rw[mH,q5,rj];refine .snoc ?_ q1 q2 (q6.mono λk x _ h=>?_) (cU Pa.le (by omega))
      ·have:=Pa.app (BL++[aT.cells DL 66]);rw[show HB++(B++BL++[aT.cells DL 66])=HB++B++(BL++[aT.cells DL 66]) by simp]
       exact this
      ·rw[show HB++(B++BL++[aT.cells DL 66])=HB++B++BL++[aT.cells DL 66] by simp]
       exact vz h
     rw[abp];exact⟨L - 1 - j,by omega,j+1,_,B++BL++[aT.cells DL 66],e6,_,c+cc,vs++[.agg DL],by omega,rfl,by simp[hlen],by simp[za,e9],by simp[za,hlen],by rw[show 600 - (c+cc)=600 - c - cc by omega];simp[za,hlen],by simp[za,KS],by simp[za,Jr],by simp[za,hlen],by omega,abq⟩
   ·obtain rfl:L=j:=by omega
    refine .inr ⟨by simp,?_⟩
    simp only[ql,zO,zG,zr,bJ,zh,lu,aF]
    rw[dH] at Pa;refine zi ?_;simp only[BA,Nat.reduceEqDiff,ak,aj,aq,za,bG,Nat.reduceLT,bz,hlen,sG];simp only[go_ret,zr,Fx]
    refine⟨trivial,[aW (zm 2 66 vs),.bT],?_,nx,Df,?_⟩
    ·simp only[zy,za,bG,hlen,Nat.reduceLT,Nat.reduceEqDiff,aF,bz]
    ·rw[<- uD,<- AH];refine .inl ⟨c,vs,Pa,MD,?_⟩;show V.br [aW (aW (zm 2 66 vs)),aW .bT]=_;rw[qS];rfl
end
section
set_option maxRecDepth 1000000
def NI:aC:=[(.str [114,117,108,101,32,34,97,34,32,61,62,32,116])]
def VE:V:=(.br [(.agg [.aG,.aG,(.sl 26 [(.agg [(.int .i64 (0)),(.bool false),.aG,(.int .i64 (3)),(.int .i64 (5)),(.int .u64 (0)),(.int .u64 (0)),(.int .u64 (0)),(.int .u64 (0)),(.str [97]),(.int .i64 (0)),(.int .i64 (0)),.aG,(.bool false),(.int .i64 (0)),(.int .i64 (0)),(.int .u64 (0)),(.int .u64 (0)),(.int .u64 (0)),(.int .u64 (0)),(.str []),(.int .i64 (0)),(.int .i64 (0)),.aG,(.str [116]),.aG])] .no)]),.bT])
def S0:V:=(.sl 21 [(.agg [(.int .i64 (2)),(.int .i64 (0)),(.int .u64 (0)),(.int .u64 (8589934592)),(.int .u64 (0)),(.int .u64 (0)),(.str []),(.int .i64 (0)),(.int .i64 (0)),.aG,(.bool false),(.int .i64 (0)),(.int .i64 (0)),(.int .u64 (0)),(.int .u64 (0)),(.int .u64 (0)),(.int .u64 (0)),(.str []),(.int .i64 (0)),(.int .i64 (0)),.aG])] .no)
def Jv:dM:=[(66,NI,VE)]
theorem ziJ(n:Nat):zk prog { g:=mE,hk:=dK [],uq:=fG } (n+60) 66 NI ⟨[],[]⟩=some (.ret VE,⟨[],[]⟩):=by kernel_rfl
end
section
set_option maxRecDepth 1000000
def E5:V:=(.agg [(.sl 4 [(.agg [(.int .u64 (0)),(.int .u64 (8589934592)),(.int .u64 (0)),(.int .u64 (0))])] .no),(.sl 1 [(.int .i64 (0))] .no),(.sl 1 [(.sl 1 [(.int .i64 (0))] .no)] .no),(.sl 1 [(.sl 1 [(.int .i64 (1))] .no)] .no)])
def S1:V:=(.sl 1 [(.int .i64 (0))] .no)
def isW:Option (Out×Hp)->Bool
 | some (.ret (.br [.agg [a,b,c,.sl 1 [.sr k 0 1 _cap] .no],.bT]),H)=>match nth H.au k,E5 with
  | some (.cells cs _),.agg [a',b',c',.sl _ [.sl _ r _] _]=>fB [a,b,c] [a',b',c'] && fB cs r
  | _,_=>false
 | _=>false
theorem ziK(n:Nat):isW (zk prog { g:=mE,hk:=dK [],uq:=fG } (n+60) 14 [S0] ⟨[],[]⟩)=true:=by kernel_rfl
theorem ziL(n:Nat):zk prog { g:=mE,hk:=dK [],uq:=fG } (n+60) 24 [E5] ⟨[],[]⟩=some (.ret (.bool true),⟨[],[]⟩):=by kernel_rfl
def AI:dM:=[(24,[E5],.bool true)]
theorem ziM(n:Nat):zk prog { g:=mE,hk:=dK AI,uq:=fG } (n+60) 72 [E5,S1] ⟨[],[]⟩=some (.ret (.bool true),⟨[],[]⟩):=by kernel_rfl
end
def f0:A2.F:=⟨(true,[(0,8589934592,0,0)]),(true,[0]),(true,[(true,[0])]),(true,[(true,[1])])⟩
def a0:A2.cO:=(true,[0])
theorem abt:A2.fv f0=E5:=by kernel_rfl
theorem abu:A2.iv a0=S1:=by kernel_rfl
def AJ:dM:=(72,[E5,S1],.bool true)::AI
theorem Pb{f:FuncId}{back:Bool}{ty:Nat}{p:Prop}(sw:ty<1048576)(h:fG (xe f back ty)=true):p:=by rw[ZI sw] at h;cases h
theorem okS:ju prog mE AJ:=yH mixed iE fN (yH mixed iE fN xj (ziL 0) rfl rfl (hit:=λ_ _ _ sw h=>Pb sw h)) (ziM 0) rfl rfl (hit:=λ_ _ _ sw h=>Pb sw h)
def VF:Gl:={ g:=mE,hk:=dK AJ,uq:=eC }
theorem zm2{f:FuncId}{back:Bool}{ty:Nat}(h:ty<1048576):eC (xe f back ty)=false:=by
 have hk:Nat.beq (xe f back ty) mJ=false:=by
  cases hb:Nat.beq (xe f back ty) mJ with
  | false=>rfl
  | true =>
   have:=eR hb;simp only[xe,mJ] at this;omega
 simp only[eC,ZI h,hk,Bool.or_self]
theorem abv:mX prog VF:=⟨okS.pure,λn f args H out H' h=>(by cases h),λ_ _ _ sw h=>(by rw[show VF.uq=eC from rfl,zm2 sw] at h;cases h)⟩
theorem GSs:GS VF where
 uq:=rfl
 eV:=λ_ _ _ _ _=>rfl
 hk:=λf args h=>by
  have h1:Nat.beq f 24=false:=by
   cases hb:Nat.beq f 24 with
   | false=>rfl
   | true=>rw[eR hb] at h;revert h;decide
  have h2:Nat.beq f 72=false:=by
   cases hb:Nat.beq f 72 with
   | false=>rfl
   | true=>rw[eR hb] at h;revert h;decide
  show dK AJ f args=none;simp only[AJ,AI,dK,h1,h2]
theorem abw:GI f0 1 2000 where
 mm:=rfl
 hs:=λq hq=>by
  obtain rfl:q=(0,8589934592,0,0):=by simpa[f0] using hq
  intro i
  match i with
  | 0=>exact⟨by decide,by decide⟩
  | 1=>exact⟨by decide,by decide⟩
  | 2=>exact⟨by decide,by decide⟩
  | i+3=>exact⟨by show(0:Int)<=0;decide,by show(0:Int)<18446744073709551616;decide⟩
 ns:=by decide
 nf:=by decide
 nl:=rfl
 nr:=λrow hr=>by
  obtain rfl:row=(true,[1]):=by simpa[f0] using hr
  exact⟨by decide,by decide,λ(z:Int) hz=>by
   obtain rfl:z=1:=by simpa using hz
   decide⟩
 fr:=λrow hr=>by
  obtain rfl:row=(true,[0]):=by simpa[f0] using hr
  exact⟨by decide,by decide,λ(z:Int) hz=>by
   obtain rfl:z=0:=by simpa using hz
   decide⟩
def S2:Nat->Nat->Nat:=tj f0 [(0,2)] 1
def zp7(w:Nat):Int:=wm 1 (wl 1 w) (-1)
theorem KX:zj S2 1 3=[1,0,2]:=by kernel_rfl
def uE:A2.D:=((true,[(true,(List.range 256).map λy=>if y=97 then 2 else 1),(true,List.replicate 256 1),(true,List.replicate 256 1)]),(true,[-1,-1,0]))
theorem Jw:A2.rK (v7 S2 1 zp7 3)=A2.rK uE:=by kernel_rfl
def wdV:V:=.br [A2.rK uE,.bT]
theorem AK:∃v H',zk prog VF 2005 28 [E5,S1] ⟨[],[]⟩=some (.ret v,H')/\nh H' v wdV:=by
 obtain⟨v,H',h,hp⟩:=zkU GSs (n:=2003) (m:=1) (f:=f0) (act:=a0) (ck:=true) (rk:=true) (by decide) (by decide) (by kernel_rfl) (by kernel_rfl) (by kernel_rfl) (by kernel_rfl) (λ_ _=>⟨abw,λr hr=>by
  obtain rfl:r=0:=by simpa[a0] using hr
  exact⟨by decide,by decide⟩,by decide,by decide⟩)
 rw[abt,abu] at h;rw[if_pos ⟨rfl,rfl⟩] at hp;obtain⟨nx,Kd,hp⟩:=hp;have e1:tj f0 nx 1=S2:=zjT (by rw[Kd];rfl)
 have e2:qi f0.f.2 a0.2 0=1:=rfl;have e3:(λw=>wm f0.s.2.length (wl 1 w) (-1))=zp7:=rfl;rw[e1,e2,e3] at hp;have hc:(zj S2 1 3).length=3:=by rw[KX];rfl
 refine⟨v,H',h,?_⟩;rcases hp with⟨i,b,NB,q1,q2,q3,rfl,q5⟩|⟨i,q1,_⟩
 ·obtain rfl:=zcA q2 hc;have:=zmZ (lab:=zp7) (es:=H'.bC) q5 (by decide) hc
  rw[Jw] at this;exact this
 ·obtain⟨rs,e⟩:=xw (j:=i) hc;have:=zhL (ws:=zj S2 1 i) (rs:=rs);rw[<- e,KX] at this;have h3:jd [1,0,2]=3:=rfl;omega
section
set_option maxRecDepth 1000000
theorem zkW(n:Nat):zk prog { g:=mE,hk:=dK Jv,uq:=fG } (n+60) 45 NI ⟨[],[]⟩=some (.ret S0,⟨[],[]⟩):=by kernel_rfl
end
section
open Go.RowKit Go.ChangeAt Go.WideShapes
set_option maxRecDepth 1000000
theorem vj{P:aQ}{g0:Nat->Nat->bY}{l:dM}(hl:ju P g0 l){f:FuncId}{args:aC}{v:V}
  (h:∀(d:Nat)(H:Hp)(g:Gh)(w:aP)(bp:dF)(lc:Go.Vm.Loc),gF P g0 g->nu g H.au w->dI g H.au.length args bp->Calls P f bp w (ef d H g w lc (.ret v) H)):ju P g0 ((f,args,v)::l):=by
 refine⟨λf' ys u hu d H g w bp lc h1 h2 h3=>?_,λn f args H out H' h=>(by cases h),λ_ _ _ _ h=>(by cases h)⟩
 simp only[dK] at hu;split at hu
 ·rename_i hf;obtain rfl:=eR hf;split at hu
  next hs=>cases hu;rw[xk hs] at h3;exact h d H g w bp lc h1 h2 h3
  ·exact hl.pure _ _ _ hu d H g w bp lc h1 h2 h3
 ·exact hl.pure _ _ _ hu d H g w bp lc h1 h2 h3
theorem zrs{H:Hp}{k cap:Nat}{ty:aB}(h:nth H.au k=some (.cells [.int .i64 1] ty)) :
  nh H (.br [.agg [.sl 4 [.agg [.int .u64 0,.int .u64 8589934592,.int .u64 0,.int .u64 0]] .no,.sl 1 [.int .i64 0] .no,.sl 1 [.sl 1 [.int .i64 0] .no] .no,.sl 1 [.sr k 0 1 cap] .no],.bT]) (.br [E5,.bT]):=by
 have hk:nh H (.sr k 0 1 cap) (.sl 1 [.int .i64 1] .no):=by
  have:=nh.sr (H:=H) (b:=k) (off:=0) (len:=1) (cap:=cap) (cs:=[.int .i64 1]) (t:=ty) (by rw[zg] at h;exact h) rfl (dB _)
  exact this
 have hr:nh H (.sl 1 [.sr k 0 1 cap] .no) (.sl 1 [.sl 1 [.int .i64 1] .no] .no):=by
  refine .sl rfl (λj x hj=>?_) (λj y hj=>?_) (λj x y hj hy=>?_)
  ·match j,hj with
   | 0,hj=>cases hj;exact⟨rfl,rfl⟩
   | j+1,hj=>simp at hj
  ·match j,hj with
   | 0,hj=>cases hj;exact⟨rfl,rfl⟩
   | j+1,hj=>simp at hj
  ·match j,hj,hy with
   | 0,hj,hy=>cases hj;cases hy;exact hk
   | j+1,hj,hy=>simp at hj
 refine .br rfl λj x y hj hy=>?_
 match j,hj,hy with
 | 0,hj,hy =>
  cases hj;cases hy;refine .agg rfl (λj y hj=>?_) λj x y hj hy=>?_
  ·match j,hj with
   | 0,hj=>cases hj;rfl
   | 1,hj=>cases hj;rfl
   | 2,hj=>cases hj;rfl
   | 3,hj=>cases hj;rfl
   | j+4,hj=>simp at hj
  ·match j,hj,hy with
   | 0,hj,hy=>cases hj;cases hy;exact .same rfl
   | 1,hj,hy=>cases hj;cases hy;exact .same rfl
   | 2,hj,hy=>cases hj;cases hy;exact .same rfl
   | 3,hj,hy=>cases hj;cases hy;exact hr
   | j+4,hj,hy=>simp at hj
 | 1,hj,hy=>cases hj;cases hy;exact .same rfl
 | j+2,hj,hy=>simp at hj
theorem zp8{x:Option (Out×Hp)}(h:isW x=true):∃u H',x=some (.ret u,H')/\nh H' u (.br [E5,.bT]):=by
 unfold isW at h;split at h
 ·rename_i a b c k cap H;refine⟨_,_,rfl,?_⟩;cases hk:nth H.au k with
  | none=>rw[hk] at h;cases h
  | some y =>
   rw[hk] at h;cases y with
   | cells cs ty =>
    simp only[E5,ei] at h;have e1:=xk h.1;have e2:=xk h.2;simp only[List.cons.injEq,Ce] at e1;obtain⟨rfl,rfl,rfl⟩:=e1;subst e2;exact zrs hk
   | _=>cases h
 ·cases h
end
section
section
variable{aK:Nat->Nat->Nat}{s0:Nat}{lab:Nat->Int}
theorem zkX{i j y w:Nat}(h:(zj aK s0 i).length=i)(hw:(zj aK s0 j)[j]?=some w)(hy:y<256):∃k,ky (aK w y) 0 (zj aK s0 (j+1))=some k/\k<i/\(zj aK s0 i)[k]?=some (aK w y):=by
 obtain⟨k,_,hk⟩:=zhK (ws:=zj aK s0 j) (g:=aK w) hy;have od:ky (aK w y) 0 (zj aK s0 (j+1))=some k:=by
  simp only[zj,hw];exact hk
 obtain⟨rs,LO⟩:=xw (j:=j+1) h;have h2:=Vq (rs:=rs) od;rw[<- LO] at h2;obtain⟨_,h3⟩:=Vp h2;rw[Nat.sub_zero] at h3;refine⟨k,od,?_,h3⟩;have:=(cP.1 h3).1;omega
theorem zm3{i j w:Nat}(_h:(zj aK s0 i).length=i)(hj:j<i)(_hw:(zj aK s0 j)[j]?=some w):A2.gr (A2.rowsOf (v7 aK s0 lab i).1) j=wU aK s0 j:=by
 refine A2.pq (q:=(true,wU aK s0 j)) ?_;simp only[v7];rw[gj,uG hj];rfl
end
theorem VG{α:Type}{g:α->Nat}{q:Nat}:∀{l:List α}{z:Nat},(l.foldl (λz k=>z ||| g k) z).testBit q=(z.testBit q || l.any λk=>(g k).testBit q)
 | [],z=>by simp
 | x::l,z=>by
  rw[List.foldl_cons,VG,AO,List.any_cons,Bool.or_assoc]
def S3(f:A2.F)(nx:aN)(b k:Nat):Nat:=match f.s.2[k]?,nx[k]? with
 | some s,some p=>if EE s b then p.2 else 0
 | _,_=>0
theorem zoH{f:A2.F}{nx:aN}{b k q:Nat}:xa f nx b k q=q ||| S3 f nx b k:=by
 unfold xa S3;cases f.s.2[k]? with
 | none=>simp
 | some s =>
  cases nx[k]? with
  | none=>simp
  | some p =>
   simp only[];split<;>simp
theorem zoI{f:A2.F}{nx:aN}{b:Nat}{l:bL}{q:Nat}:Cs f nx b l q=l.foldl (λz k=>z ||| S3 f nx b k) q:=by
 unfold Cs
 congr 1
 funext z k
 exact zoH
theorem zm5{m w:Nat}{p:Nat->Bool}:(wl m w).any p=(List.range (8 * m)).any λk=>w.testBit k && p k:=by
 rw[wl,List.any_filter]
theorem zoJ{f:A2.F}{nx:aN}{m w y q:Nat}:(tj f nx m w y).testBit q=(List.range (8 * m)).any λk=>w.testBit k && (S3 f nx y k).testBit q:=by
 rw[tj,zoI,VG,zm5];simp
theorem zcB{l:List Int}{z q:Nat}:(wW l z).testBit q=(z.testBit q || l.any λn=>(2 ^ n.toNat).testBit q):=VG
theorem zm6{l:List Int}{z:Nat}:wW l z=z ||| wW l 0:=by
 refine Nat.eq_of_testBit_eq λq=>?_;rw[AO,zcB,zcB];simp
def zp9(rows:List A2.cO)(r:Int):Nat:=wW ((rows[r.toNat]?).map (·.2) |>.getD []) 0
theorem zhO{rows:List A2.cO}{l:List Int}{z q:Nat}:(qi rows l z).testBit q=(z.testBit q || l.any λr=>(zp9 rows r).testBit q):=by
 rw[qi,show(λq r=>wW ((rows[r.toNat]?).map (·.2) |>.getD []) q)=(λ(z:Nat)(r:Int)=>z ||| zp9 rows r) from funext λz=>funext λr=>zm6,VG]
def u_(ns m w:Nat)(r:Int):Prop :=
 (r = -1/\∀k,k<8 * m->ns<=k->w.testBit k=false) \/
 ∃k:Nat,r=(k:Int) - ns/\ns<=k/\k<8 * m/\w.testBit k=true/\∀j,ns<=j->j<k->w.testBit j=false
theorem ze9{ns:Nat}:∀{l:bL}{z:Int},0<=z->wm ns l z=z
 | [],z,_=>rfl
 | k::l,z,h=>by
  show wm ns l (E1 ns k z)=z;rw[show E1 ns k z=z from if_neg (by omega)]
  exact ze9 h
theorem zm7{ns:Nat}{l l':bL}{z:Int}:wm ns (l++l') z=wm ns l' (wm ns l z):=by simp[wm]
theorem zhP{ns w:Nat}:∀n:Nat,(wm ns ((List.range n).filter λj=>w.testBit j) (-1) = -1/\∀k,k<n->ns<=k->w.testBit k=false) \/
  ∃k:Nat,wm ns ((List.range n).filter λj=>w.testBit j) (-1)=(k:Int) - ns/\ns<=k/\k<n/\w.testBit k=true/\∀j,ns<=j->j<k->w.testBit j=false
 | 0=>.inl ⟨rfl,λk h=>by omega⟩
 | n+1=>by
  rw[List.range_succ,List.filter_append,zm7];rcases zhP (ns:=ns) (w:=w) n with⟨e,h⟩|⟨k,e,h1,h2,h3,h4⟩
  ·rw[e];cases hn:w.testBit n with
   | false =>
    refine .inl ⟨by simp[hn,wm],λk hk oS=>?_⟩
    rcases eI k n with h'|h'
    ·exact h k h' oS
    ·rwa [show k=n by omega]
   | true =>
    by_cases oS:ns<=n
    ·refine .inr ⟨n,?_,oS,HT _,hn,λj h1 h2=>h j h2 h1⟩;simp only[List.filter_cons,hn,aF,List.filter_nil,wm,List.foldl_cons,List.foldl_nil];exact if_pos ⟨oS,by omega⟩
    ·refine .inl ⟨?_,λk hk h'=>?_⟩
     ·simp only[List.filter_cons,hn,aF,List.filter_nil,wm,List.foldl_cons,List.foldl_nil];exact if_neg (by omega)
     ·exact absurd h' (by omega)
  ·rw[e];exact .inr ⟨k,ze9 (by omega),h1,by omega,h3,h4⟩
theorem zqa{ns m w:Nat}:u_ ns m w (wm ns (wl m w) (-1)):=zhP (8 * m)
theorem u_.or{ns m v w:Nat}{a b c:Int}(ha:u_ ns m v a)(hb:u_ ns m w b)(hc:u_ ns m (v ||| w) c):c=if a<0\/(0<=b/\b<a) then b else a:=by
 have Aj:∀k,(v ||| w).testBit k=(v.testBit k || w.testBit k):=λk=>AO ..
 rcases ha with⟨rfl,ha⟩|⟨x,rfl,a1,a2,a3,a4⟩
 ·rw[if_pos (.inl (by omega))]
  rcases hb with⟨rfl,hb⟩|⟨y,rfl,b1,b2,b3,b4⟩
  ·rcases hc with⟨rfl,_⟩|⟨z,rfl,c1,c2,c3,c4⟩
   ·rfl
   ·rw[Aj,ha z c2 c1,hb z c2 c1] at c3;cases c3
  ·rcases hc with⟨rfl,hc⟩|⟨z,rfl,c1,c2,c3,c4⟩
   ·have:=hc y b2 b1;rw[Aj,b3,Bool.or_true] at this;cases this
   ·have h1:¬z<y:=λh=>by rw[Aj,ha z c2 c1,b4 z c1 h] at c3;cases c3
    have h2:¬y<z:=λh=>by have:=c4 y b1 h;rw[Aj,b3,Bool.or_true] at this;cases this
    omega
 ·rcases hb with⟨rfl,hb⟩|⟨y,rfl,b1,b2,b3,b4⟩
  ·rw[if_neg (by omega)]
   rcases hc with⟨rfl,hc⟩|⟨z,rfl,c1,c2,c3,c4⟩
   ·have:=hc x a2 a1;rw[Aj,a3] at this;cases this
   ·have h1:¬z<x:=λh=>by rw[Aj,hb z c2 c1,a4 z c1 h] at c3;cases c3
    have h2:¬x<z:=λh=>by have:=c4 x a1 h;rw[Aj,a3] at this;cases this
    omega
  ·rcases hc with⟨rfl,hc⟩|⟨z,rfl,c1,c2,c3,c4⟩
   ·have:=hc x a2 a1;rw[Aj,a3] at this;cases this
   ·have h1:¬x<z:=λh=>by have:=c4 x a1 h;rw[Aj,a3] at this;cases this
    have h2:¬y<z:=λh=>by have:=c4 y b1 h;rw[Aj,b3,Bool.or_true] at this;cases this
    have h3:¬(z<x/\z<y):=λh=>by rw[Aj,a4 z c1 h.1,b4 z c1 h.2] at c3;cases c3
    split<;>omega
end
section
def S4(l:dM):Gl:={ g:=mE,hk:=dK l,uq:=eC }
theorem hkO{l:dM}(hl:ju prog mE l):mX prog (S4 l):=⟨hl.pure,λn f args H out H' h=>(by cases h),λ_ _ _ sw h=>(by rw[show(S4 l).uq=eC from rfl,zm2 sw] at h;cases h)⟩
theorem yW{f:FuncId}{args:aC}:∀{l:dM},(∀x∈l,Nat.beq f x.1=false)->dK l f args=none
 | [],_=>rfl
 | (f',xs,v)::r,h=>by
  have h1:Nat.beq f f'=false:=h _ (eT ..);simp only[dK,h1];exact yW λx hx=>h x (d_ _ hx)
theorem GSO{l:dM}(h:∀x∈l,x.1=24\/x.1=72):GS (S4 l) where
 uq:=rfl
 eV:=λ_ _ _ _ _=>rfl
 hk:=λf args hf=>yW λx hx=>by
  cases hb:Nat.beq f x.1 with
  | false=>rfl
  | true =>
   have e:=eR hb;rcases h x hx with e'|e'
   ·rw[e'] at e;subst e;revert hf;decide
   ·rw[e'] at e;subst e;revert hf;decide
theorem ziN{l:dM}{OQ:Gl}(hl:ju prog mE l)(FZ:mX prog OQ)(hg:OQ.g=mE){f:FuncId}{xs:aC}{v:V}(he:Kn prog OQ f xs v)(ht:aI xs=0)(hv:v.top=0):ju prog mE ((f,xs,v)::l):=by
 obtain⟨k,h⟩:=he;exact vj hl λd H g w bp lc h1 h2 h3=>Oa mixed iE fN FZ (h k (dB _) ⟨[],[]⟩) ht hv (by rw[hg];exact h1) h2 h3
theorem VH{f:FuncId}{xs:aC}{v:V}{l:dM}:dK ((f,xs,v)::l) f xs=some v:=by
 simp only[dK,lu,dO]
def mP(f:A2.F):Nat:=(f.s.2.length+f.f.2.length) / 8+1
def Jx(f:A2.F):Nat->Nat->Nat:=tj f (f.n.2.map λr=>(0,xu r)) (mP f)
def HK(f:A2.F)(w:Nat):Int:=wm f.s.2.length (wl (mP f) w) (-1)
def KY(f:A2.F)(act:List Int):Nat:=qi f.f.2 act 0
theorem zqb{f:A2.F}{nx:aN}(h:nx.map (·.2)=f.n.2.map xu):tj f nx (mP f)=Jx f:=zjT (by rw[h,List.map_map];rfl)
inductive AD(aK:Nat->Nat->Nat)(lab:Nat->Int):bL->Nat->aC->Prop
 |nil:AD aK lab [] 0 []
 |snoc {ss:bL} {c s0 i:Nat} {vs:aC} (h:AD aK lab ss c vs) (hi:0<i) (hl:(zj aK s0 i).length=i):AD aK lab (ss++[s0]) (c+jd (zj aK s0 i)) (vs++[A2.rK (v7 aK s0 lab i)])
section
variable{l l1:dM}{f:A2.F}{n:Nat}
theorem zqc:(S4 l).g 0 0=some (.ec 396 (.obj 0)):=by kernel_rfl
theorem zqd:(S4 l).g 2 0=some (.ec 396 (.obj 2)):=by kernel_rfl
theorem zoK{H:Hp}{x1 x2 y1 y2 e e':V}(h:nh H (.br [.agg [x1,x2],e]) (.br [.agg [y1,y2],e']))(ht:0<(V.agg [x1,x2]).top):nh H x1 y1/\nh H x2 y2/\y1.one=true/\y2.one=true/\aI [y1,y2]=0:=by
 cases h with
 | same h' =>
  simp only[V.top,aI] at h' ht;omega
 | br k1 k2 =>
  have k0:=k2 0 _ _ rfl rfl;have kt:=k0.top;cases k0 with
  | same h' =>
   simp only[V.top,aI] at h' ht;omega
  | agg m1 m2 m3=>exact⟨m3 0 _ _ rfl rfl,m3 1 _ _ rfl rfl,m2 0 _ rfl,m2 1 _ rfl,kt⟩
theorem zoL{aK:Nat->Nat->Nat}{s0:Nat}{lab:Nat->Int}{B:List aT}{es:aN}{b i:Nat}{NB:bL}(h:RW aK s0 B b i NB)(hi:0<i)(hc:(zj aK s0 i).length=i) :
  ∃x1 x2 y1 y2,tn b NB ((zj aK s0 i).map lab)=.agg [x1,x2]/\A2.rK (v7 aK s0 lab i)=.agg [y1,y2]/\nh ⟨B,es⟩ x1 y1/\nh ⟨B,es⟩ x2 y2/\y1.one=true/\y2.one=true/\aI [y1,y2]=0 :=
 ⟨_,_,_,_,rfl,rfl,zoK (zmZ (lab:=lab) (es:=es) h hi hc) (zm1 (dh:=(zj aK s0 i).map lab) h hi)⟩
theorem AW.frz{aK:Nat->Nat->Nat}{lab:Nat->Int}{H:Hp}{ss:bL}{c:Nat}{vs:aC}(h:AW aK lab H.au ss c vs) :
  ∃ds,AD aK lab ss c ds/\vs.length=ds.length/\(zw vs).length=(zw ds).length/\(∀y∈ds,y.cells.length=2)/\(∀(j:Nat)(y:V),(zw ds)[j]?=some y->y.one=true)/\(∀(j:Nat)(x y:V),(zw vs)[j]?=some x->(zw ds)[j]?=some y->nh H x y)/\aI ds=0:=by
 induction h with
 | nil=>exact⟨[],.nil,rfl,rfl,λy hy=>(by cases hy),λj y hy=>(by simp[zw] at hy),λj x y hx=>(by simp[zw] at hx),rfl⟩
 | @snoc ss c s0 i b NB vs h hi hl hr iB ih =>
  obtain⟨ds,q1,q2,q3,q4,q5,q6,q7⟩:=ih;obtain⟨x1,x2,y1,y2,e1,e2,z1,z2,o1,o2,t0⟩:=zoL (lab:=lab) (es:=H.bC) hr hi hl;have f1:zw (vs++[tn b NB ((zj aK s0 i).map lab)])=zw vs++[x1,x2]:=by rw[e1];simp[zw,V.cells]
  have f2:zw (ds++[A2.rK (v7 aK s0 lab i)])=zw ds++[y1,y2]:=by rw[e2];simp[zw,V.cells]
  refine⟨_,.snoc q1 hi hl,by simp[q2],by rw[f1,f2];simp[q3],λy hy=>?_,λj y hy=>?_,λj x y hx hy=>?_,?_⟩
  ·rcases oM.1 hy with h'|h'
   ·exact q4 y h'
   ·rw[mF] at h';rw[h',e2];rfl
  ·rw[f2] at hy;rcases eI j (zw ds).length with hj|hj
   ·rw[fI hj] at hy;exact q5 j y hy
   ·rw[eM hj] at hy
    match j - (zw ds).length,hy with
    | 0,hy=>cases hy;exact o1
    | 1,hy=>cases hy;exact o2
    | k+2,hy=>simp at hy
  ·rw[f1] at hx;rw[f2] at hy;rcases eI j (zw ds).length with hj|hj
   ·rw[fI hj] at hy;rw[fI (by omega)] at hx
    exact q6 j x y hx hy
   ·rw[eM hj] at hy;rw[eM (by omega),q3] at hx
    match j - (zw ds).length,hx,hy with
    | 0,hx,hy=>cases hx;cases hy;exact z1
    | 1,hx,hy=>cases hx;cases hy;exact z2
    | k+2,hx,hy=>simp at hy
  ·refine Nat.le_zero.1 (wC (by omega) ?_)
   rw[e2];simp only[aI,V.top] at t0 ⊢;omega
end
end
end Go.Proofs.YthohlnmcjkjeiaaGreatDoor
namespace Go.Vm
set_option maxRecDepth 100000
theorem BE.mono{gR:bL}{n:Nat}{v v':V}(h:BE gR n v v')(s2:bL):BE (gR++s2) n v v':=by
 induction h with
 | same h=>exact .same h
 | sr h=>exact .sr (by rw[fI (cP.1 h).1];exact h)
 | sl h1 h2 h3 h4 _ ih=>exact .sl h1 h2 h3 h4 ih
 | agg h1 h2 _ ih=>exact .agg h1 h2 ih
 | br h1 _ ih=>exact .br h1 ih
end Go.Vm
namespace Go.Proofs.YthohlnmcjkjeiaaGreatDoor
open Go Go.Vm
open Go.Proofs.Tryz
def nH(n i:Nat):aC:=(List.range i).map λj=>.sr (n+j) 0 256 256
def Dg(n i:Nat)(dh:List Int):V:=.agg [.sl 1 (nH n i) .no,A2.iv (true,dh)]
def GL(aK:Nat->Nat->Nat)(s0 i:Nat):List aT:=(List.range i).map λj=>.cells ((wU aK s0 j).map A2.ie) 3
inductive AB(aK:Nat->Nat->Nat)(lab:Nat->Int)(n:Nat):bL->Nat->List aT->aC->Prop
 |nil:AB aK lab n [] 0 [] []
 |snoc {ss:bL} {c:Nat} {bs:List aT} {ds:aC} {s0 i:Nat} (h:AB aK lab n ss c bs ds) (hi:0<i) (hl:(zj aK s0 i).length=i):AB aK lab n (ss++[s0]) (c+jd (zj aK s0 i)) (bs++GL aK s0 i) (ds++[Dg (n+bs.length) i ((zj aK s0 i).map lab)])
theorem tw:∀l:List Int,sk (l.map A2.ie)=true
 | []=>rfl
 | _::l=>by simp only[a_,sk,tw l,Lc];rfl
theorem RW.nodup{aK:Nat->Nat->Nat}{s0 b i:Nat}{B:List aT}{NB:bL}(h:RW aK s0 B b i NB):NB.Nodup:=by
 induction h with
 | nil=>exact List.nodup_nil
 | snoc h hk hb ih=>exact List.nodup_append.2 ⟨ih,by simp,λa ha c hc e=>by rw[mF.1 hc] at e;have:=hk a ha;omega⟩
theorem RW.gR{aK:Nat->Nat->Nat}{_lab:Nat->Int}{H':Hp}{s0 b i:Nat}{NB:bL}(h:RW aK s0 H'.au b i NB):FJ (NB.map (b + ·)) H' (GL aK s0 i) where
 nodup:=List.Pairwise.map _ (λx y b_ e=>b_ (by simpa using e)) h.nodup
 len:=by simp[GL,h.len]
 get:=λj k hk=>by
  rw[gj] at hk;obtain⟨k0,h0,rfl⟩:=mA.1 hk;have hj:j<i:=by rw[<- h.len];exact(cP.1 h0).1
  obtain⟨k1,e1,e2⟩:=h.get j hj;rw[h0] at e1;cases e1;refine⟨_,3,by rw[<- zg];exact e2,?_,tw _⟩
  simp only[GL,gj,uG hj,aS]
theorem FJ.app{gR s2:bL}{H':Hp}{bs b2:List aT}(h:FJ gR H' bs)(h2:FJ s2 H' b2)(hd:∀x∈gR,∀y∈s2,x≠y):FJ (gR++s2) H' (bs++b2) where
 nodup:=List.nodup_append.2 ⟨h.nodup,h2.nodup,hd⟩
 len:=by simp[h.len,h2.len]
 get:=λj k hk=>by
  rcases eI j gR.length with hj|hj
  ·rw[fI hj] at hk;obtain⟨cs,t,e1,e2,e3⟩:=h.get j k hk;exact⟨cs,t,e1,by rw[fI (by rw[<- h.len];exact hj)];exact e2,e3⟩
  ·rw[eM hj] at hk;obtain⟨cs,t,e1,e2,e3⟩:=h2.get _ k hk;exact⟨cs,t,e1,by rw[eM (by rw[<- h.len];exact hj),<- h.len];exact e2,e3⟩
theorem AW.fD{aK:Nat->Nat->Nat}{lab:Nat->Int}{H':Hp}{ss:bL}{c:Nat}{vs:aC}(h:AW aK lab H'.au ss c vs) :
  ∃gR bs,FJ gR H' bs/\(∀k∈gR,k<aI vs)/\∀n,∃ds,AB aK lab n ss c bs ds/\vs.length=ds.length/\(zw vs).length=(zw ds).length/\(∀y∈ds,y.cells.length=2)/\(∀(j:Nat)(y:V),(zw ds)[j]?=some y->y.one=true)/\(∀(j:Nat)(x y:V),(zw vs)[j]?=some x->(zw ds)[j]?=some y->BE gR n x y)/\aI ds<=n+bs.length:=by
 induction h with
 | nil=>exact⟨[],[],⟨List.nodup_nil,rfl,λj k h=>by cases h⟩,λk h=>(by cases h),λn=>⟨[],.nil,rfl,rfl,λy hy=>(by cases hy),λj y hy=>(by simp[zw] at hy),λj x y hx=>(by simp[zw] at hx),dU _⟩⟩
 | @snoc ss c s0 i b NB vs h hi hl hr iB ih =>
  obtain⟨gR,bs,q1,q2,q3⟩:=ih;have dy:(aW (zm 1 27 (NB.map (fA b)))).top=aI (NB.map (fA b)):=by rw[ji,vy]
  have Aa:∀k∈NB.map (b + ·),b<=k/\k<(tn b NB ((zj aK s0 i).map lab)).top:=λk hk=>by
   obtain⟨k0,h0,rfl⟩:=iH.1 hk;have h1:(fA b k0).top<=aI (NB.map (fA b)):=zn (iH.2 ⟨k0,h0,rfl⟩);simp only[fA,V.top] at h1;simp only[tn,V.top,aI,dy];omega
  refine⟨gR++NB.map (b + ·),bs++GL aK s0 i,FJ.app q1 (RW.gR (_lab:=lab) hr) λx hx y hy=>?_,λk hk=>?_,λn=>?_⟩
  ·have:=q2 x hx;have:=(Aa y hy).1;omega
  ·rcases oM.1 hk with hk|hk
   ·exact r9 (q2 k hk) (qq λy hy=>zn (w_ _ hy))
   ·exact r9 (Aa k hk).2 (zn (Ba _ (List.mem_singleton_self _)))
  obtain⟨ds,p1,p2,p3,p4,p5,p6,p7⟩:=q3 n;have e1:aW (zm 1 27 (NB.map (fA b)))=.sl 1 (NB.map (fA b)) .no:=by rw[SY,O_ (by rw[gk,hr.len];exact hi)]
  have e3:aW (zm 1 3 (((zj aK s0 i).map lab).map A2.ie))=A2.iv (true,(zj aK s0 i).map lab):=SY;have f1:zw (vs++[tn b NB ((zj aK s0 i).map lab)])=zw vs++[.sl 1 (NB.map (fA b)) .no,A2.iv (true,(zj aK s0 i).map lab)]:=by
   rw[show tn b NB ((zj aK s0 i).map lab)=.agg [.sl 1 (NB.map (fA b)) .no,A2.iv (true,(zj aK s0 i).map lab)] from by unfold tn;rw[e1,e3]]
   simp[zw,V.cells]
  have f2:zw (ds++[Dg (n+bs.length) i ((zj aK s0 i).map lab)])=zw ds++[.sl 1 (nH (n+bs.length) i) .no,A2.iv (true,(zj aK s0 i).map lab)]:=by simp[zw,V.cells,Dg]
  have fr1:zw (NB.map (fA b))=NB.map (fA b):=gw λj x hx=>by
   rw[gj] at hx;obtain⟨k,_,rfl⟩:=mA.1 hx;rfl
  have fr2:zw (nH (n+bs.length) i)=nH (n+bs.length) i:=gw λj x hx=>by
   rw[nH,gj] at hx;obtain⟨k,_,rfl⟩:=mA.1 hx;rfl
  have ET:BE (gR++NB.map (b + ·)) n (.sl 1 (NB.map (fA b)) .no) (.sl 1 (nH (n+bs.length) i) .no):=by
   refine .sl (by simp[nH,hr.len]) (by rw[fr1,fr2];simp[nH,hr.len]) (λy hy=>?_) (λj y hy=>?_) (λj x y hx hy=>?_)
   ·obtain⟨k,_,rfl⟩:=iH.1 hy;rfl
   ·rw[fr2,nH,gj] at hy;obtain⟨k,_,rfl⟩:=mA.1 hy;rfl
   ·rw[fr1,gj] at hx;obtain⟨k,hk,rfl⟩:=mA.1 hx;have hj:j<i:=by rw[<- hr.len];exact(cP.1 hk).1
    rw[fr2,nH,gj,uG hj] at hy;simp only[aS,bu] at hy;rw[<- hy,oO,<- q1.len];refine .sr ?_;rw[eM (by omega),E8,gj,hk];rfl
  refine⟨_,.snoc p1 hi hl,by simp[p2],by rw[f1,f2];simp[p3],λy hy=>?_,λj y hy=>?_,λj x y hx hy=>?_,?_⟩
  ·rcases oM.1 hy with h'|h'
   ·exact p4 y h'
   ·rw[mF.1 h'];rfl
  ·rw[f2] at hy;rcases eI j (zw ds).length with hj|hj
   ·rw[fI hj] at hy;exact p5 j y hy
   ·rw[eM hj] at hy
    match j - (zw ds).length,hy with
    | 0,hy=>cases hy;rfl
    | 1,hy=>cases hy;cases (zj aK s0 i).map lab<;>rfl
    | k+2,hy=>simp at hy
  ·rw[f1] at hx;rw[f2] at hy;rcases eI j (zw ds).length with hj|hj
   ·rw[fI hj] at hy;rw[fI (by omega)] at hx
    exact(p6 j x y hx hy).mono _
   ·rw[eM hj] at hy;rw[eM (by omega),p3] at hx
    match j - (zw ds).length,hx,hy with
    | 0,hx,hy=>cases hx;cases hy;exact ET
    | 1,hx,hy=>cases hx;cases hy;exact .same (A2.mD _)
    | k+2,hx,hy=>simp at hy
  ·refine qq λy hy=>?_;rcases oM.1 hy with hy|hy
   ·have:=zn hy;rw[aV];omega
   ·rw[mF.1 hy];have h1:aI (nH (n+bs.length) i)<=n+(bs++GL aK s0 i).length:=qq λz hz=>by
     obtain⟨k,hk,rfl⟩:=iH.1 hz;have:=Cd.1 hk;simp only[V.top,aV,GL,gk,Lb];omega
    simp only[Dg,V.top,aI,A2.mD];omega
theorem AB.len{aK:Nat->Nat->Nat}{lab:Nat->Int}{n:Nat}{ss:bL}{c:Nat}{bs:List aT}{ds:aC}(h:AB aK lab n ss c bs ds):ds.length=ss.length:=by
 induction h with
 | nil=>rfl
 | snoc _ _ _ ih=>simp[ih]
theorem AB.one{aK:Nat->Nat->Nat}{lab:Nat->Int}{n m:Nat}{ss:bL}{c c':Nat}{bs sL:List aT}{ds KZ:aC}(h:AB aK lab n ss c bs ds):AB aK lab m ss c' sL KZ->c=c'/\bs=sL/\ds.length=KZ.length/\(zw ds).length=(zw KZ).length/\(∀y∈KZ,y.cells.length=2)/\(∀(j:Nat)(y:V),(zw KZ)[j]?=some y->y.one=true)/\(∀gR:bL,(∀j,j<bs.length->gR[j]?=some (n+j))->∀(j:Nat)(x y:V),(zw ds)[j]?=some x->(zw KZ)[j]?=some y->BE gR m x y)/\aI KZ<=m+sL.length:=by
 induction h generalizing c' sL KZ with
 | nil =>
  intro h';generalize hs:([]:bL)=ss at h';cases h' with
  | nil=>exact⟨rfl,rfl,rfl,rfl,λy hy=>(by cases hy),λj y hy=>(by simp[zw] at hy),λ_ _ j x y hx=>(by simp[zw] at hx),dU _⟩
  | snoc _ _ _=>simp at hs
 | @snoc ss c bs ds s0 i h hi hl ih =>
  intro h';generalize hs:ss++[s0]=ss' at h';cases h' with
  | nil=>simp at hs
  | @snoc ss2 c2 pJ VI s2 i2 h2 TM Dq =>
   obtain⟨rfl,e⟩:=List.append_inj' hs rfl;cases e;obtain rfl:=zcA hl Dq;obtain⟨rfl,rfl,p2,p3,p4,p5,p6,p7⟩:=ih h2;have f1:∀k (l:aC),zw (l++[Dg k i ((zj aK s0 i).map lab)])=zw l++[.sl 1 (nH k i) .no,A2.iv (true,(zj aK s0 i).map lab)]:=λk l=>by simp[zw,V.cells,Dg]
   have fr:∀k,zw (nH k i)=nH k i:=λk=>gw λj x hx=>by
    rw[nH,gj] at hx;obtain⟨k,_,rfl⟩:=mA.1 hx;rfl
   refine⟨rfl,rfl,by simp[p2],by rw[f1,f1];simp[p3],λy hy=>?_,λj y hy=>?_,λgR Jy j x y hx hy=>?_,?_⟩
   ·rcases oM.1 hy with h'|h'
    ·exact p4 y h'
    ·rw[mF.1 h'];rfl
   ·rw[f1] at hy;rcases eI j (zw VI).length with hj|hj
    ·rw[fI hj] at hy;exact p5 j y hy
    ·rw[eM hj] at hy
     match j - (zw VI).length,hy with
     | 0,hy=>cases hy;rfl
     | 1,hy=>cases hy;cases (zj aK s0 i).map lab<;>rfl
     | k+2,hy=>simp at hy
   ·rw[f1] at hx hy;rcases eI j (zw VI).length with hj|hj
    ·rw[fI hj] at hy;rw[fI (by omega)] at hx
     exact p6 gR (λj hj=>Jy j (by rw[aV];omega)) j x y hx hy
    ·rw[eM hj] at hy;rw[eM (by omega),p3] at hx
     match j - (zw VI).length,hx,hy with
     | 0,hx,hy =>
      cases hx;cases hy;refine .sl (by simp[nH]) (by rw[fr,fr];simp[nH]) (λy hy=>?_) (λj y hy=>?_) (λj x y hx hy=>?_)
      ·obtain⟨k,_,rfl⟩:=iH.1 hy;rfl
      ·rw[fr,nH,gj] at hy;obtain⟨k,_,rfl⟩:=mA.1 hy;rfl
      ·have hj:j<i:=by
        have:=(cP.1 hy).1;rw[fr] at this;simpa[nH] using this
       rw[fr,nH,gj,uG hj] at hx hy;simp only[aS,bu] at hx hy;rw[<- hx,<- hy,oO,oO];exact .sr (Jy _ (by simp[GL];omega))
     | 1,hx,hy=>cases hx;cases hy;exact .same (A2.mD _)
     | k+2,hx,hy=>simp at hy
   ·refine qq λy hy=>?_;rcases oM.1 hy with hy|hy
    ·have:=zn hy;rw[aV];omega
    ·rw[mF.1 hy];have h1:aI (nH (m+bs.length) i)<=m+(bs++GL aK s0 i).length:=qq λz hz=>by
      obtain⟨k,hk,rfl⟩:=iH.1 hz;have:=Cd.1 hk;simp only[V.top,aV,GL,gk,Lb];omega
     simp only[Dg,V.top,aI,A2.mD];omega
def Md(aK:Nat->Nat->Nat)(lab:Nat->Int)(ss:bL)(B:List aT)(v:V):Prop:=∃s0 i b,s0∈ss/\0<i/\i<=600/\jd (zj aK s0 i)<=600/\(zj aK s0 i).length=i/\v=Dg b i ((zj aK s0 i).map lab)/\∀j,j<i->nth B (b+j)=some (.cells ((wU aK s0 j).map A2.ie) 3)
theorem AB.md{aK:Nat->Nat->Nat}{lab:Nat->Int}{hd:List aT}{ss:bL}{c:Nat}{bs:List aT}{ds:aC}(h:AB aK lab hd.length ss c bs ds)(hc:c<=600):(∀v∈ds,Md aK lab ss (hd++bs) v)/\(∀x∈bs,∃cs t,x=.cells cs t/\sk cs=true)/\(0<ss.length->hd.length<aI ds):=by
 induction h with
 | nil=>exact⟨λv h=>(by cases h),λx h=>(by cases h),λh=>(by cases h)⟩
 | @snoc ss c bs ds s0 i h hi hl ih =>
  obtain⟨h1,h2,h3⟩:=ih (by omega)
  refine⟨λv hv=>?_,λx hx=>?_,λ_=>?_⟩
  ·rcases oM.1 hv with hv|hv
   ·obtain⟨s1,i1,b1,q0,q1,q2,q2',q3,q4,q5⟩:=h1 v hv;exact⟨s1,i1,b1,w_ _ q0,q1,q2,q2',q3,q4,λj hj=>by rw[<- aY];exact vz (q5 j hj)⟩
   ·rw[mF.1 hv];have:=Su (v6 (aK:=aK) (s0:=s0) i);refine⟨s0,i,_,Ba _ (List.mem_singleton_self _),hi,by omega,by omega,hl,rfl,λj hj=>?_⟩
    rw[zg,<- aY,eM (by simp),aV,E8,GL,gj,uG hj]
    rfl
  ·rcases oM.1 hx with hx|hx
   ·exact h2 x hx
   ·obtain⟨j,_,rfl⟩:=iH.1 hx;exact⟨_,_,rfl,tw _⟩
  ·have h5:(V.sr (hd.length+bs.length+0) 0 256 256).top<=aI (nH (hd.length+bs.length) i):=zn (iH.2 ⟨0,Cd.2 hi,rfl⟩);have h6:(Dg (hd.length+bs.length) i ((zj aK s0 i).map lab)).top<=aI (ds++[Dg (hd.length+bs.length) i ((zj aK s0 i).map lab)]):=zn (Ba _ (List.mem_singleton_self _));simp only[Dg,V.top,aI] at h5 h6 ⊢;omega
theorem Md.frz{aK:Nat->Nat->Nat}{lab:Nat->Int}{ss:bL}{H:Hp}{v:V}(h:Md aK lab ss H.au v):∃s0 i,s0∈ss/\0<i/\(zj aK s0 i).length=i/\jd (zj aK s0 i)<=600/\nh H v (A2.rK (v7 aK s0 lab i)):=by
 obtain⟨s0,i,b,q0,q1,_,q2,q3,rfl,q5⟩:=h;refine⟨s0,i,q0,q1,q3,q2,?_⟩;have bZ:∀j,j<i->A2.iv (true,wU aK s0 j)=.sl 1 ((wU aK s0 j).map A2.ie) .no:=λj hj=>by
  obtain⟨w,hw⟩:=wO q3 hj;exact zpd (by rw[xx hw];exact Nat.succ_pos _)
 have e2:A2.rv (v7 aK s0 lab i).1=.sl 1 (((List.range i).map λj=>(true,wU aK s0 j)).map A2.iv) .no:=O_ (by simpa[v7] using q1)
 have f1:nh H (.sl 1 (nH b i) .no) (.sl 1 (((List.range i).map λj=>(true,wU aK s0 j)).map A2.iv) .no):=by
  have bR:∀{α:Type}{f:Nat->α}{j:Nat}{x:α},((List.range i).map f)[j]?=some x->j<i/\f j=x:=λ{α f j x} hj=>by
   have h1:j<i:=by have:=(cP.1 hj).1;simpa using this
   rw[gj,uG h1] at hj;exact⟨h1,by simpa using hj⟩
  refine .sl (by simp[nH]) (λj x hj=>?_) (λj y hj=>?_) (λj x y hj hy=>?_)
  ·obtain⟨_,rfl⟩:=bR hj;exact⟨rfl,rfl⟩
  ·rw[List.map_map] at hj;obtain⟨CO,rfl⟩:=bR hj;show(A2.iv (true,wU aK s0 j)).cells=_/\_;rw[Function.comp,bZ j CO];exact⟨rfl,rfl⟩
  ·rw[List.map_map] at hy;obtain⟨CO,rfl⟩:=bR hj;obtain⟨_,rfl⟩:=bR hy;rw[Function.comp,bZ j CO];obtain⟨w,hw⟩:=wO q3 CO;have NH:((wU aK s0 j).map A2.ie).length=256:=by rw[gk,xx hw]
   have:=nh.sr (H:=H) (b:=b+j) (off:=0) (len:=256) (cap:=256) (cs:=(wU aK s0 j).map A2.ie) (t:=3) (by rw[<- zg];exact q5 j CO) (A2.gT (λ_=>rfl) _) (by omega)
   rw[iW,rM (by omega)] at this
   exact this
 refine .agg rfl (λj y hj=>?_) λj x y hj hy=>?_
 ·match j,hj with
  | 0,hj=>cases hj;rw[e2];rfl
  | 1,hj=>cases hj;show(A2.iv (true,(zj aK s0 i).map lab)).one=true;cases (zj aK s0 i).map lab<;>rfl
  | j+2,hj=>simp at hj
 ·match j,hj,hy with
  | 0,hj,hy=>cases hj;cases hy;rw[e2];exact f1
  | 1,hj,hy=>cases hj;cases hy;exact .same (A2.mD _)
  | j+2,hj,hy=>simp at hj
section
variable{aK:Nat->Nat->Nat}{s0 i w:Nat}
def D2(aK:Nat->Nat->Nat)(s0 i c:Nat):Nat:=match (zj aK s0 i)[i]? with
 | some w=>(jt (zj aK s0 i) (aK w) c).length
 | none=>0
theorem zoM(hw:(zj aK s0 i)[i]?=some w){c:Nat}(hc:c<256):∃e:Nat,(wU aK s0 i)[c]?=some (e:Int)/\e<=D2 aK s0 i c/\D2 aK s0 i (c+1)=if e=D2 aK s0 i c then D2 aK s0 i c+1 else D2 aK s0 i c:=by
 have hs:zj aK s0 (i+1)=jt (zj aK s0 i) (aK w) 256:=by simp only[zj,hw]
 obtain⟨k,k1,k2⟩:=zhK (ws:=zj aK s0 i) (g:=aK w) (y:=256) (b:=c) hc;refine⟨k,?_,?_⟩
 ·simp only[wU,hw,hs];rw[gj,uG hc];simp only[aS,k2,ga]
 ·simp only[D2,hw];rw[show jt (zj aK s0 i) (aK w) (c+1)=v5 (jt (zj aK s0 i) (aK w) c) (aK w c) from rfl] at k1 ⊢;unfold v5 at k1 ⊢;split at k1
  ·rename_i k' od;rw[od] at k1;cases k1;have h1:=(Vp od).2;have h2:=(cP.1 h1).1;simp only[Nat.sub_zero] at h2;rw[if_neg (by omega)]
   exact⟨by omega,rfl⟩
  next od=>rw[Vr od,nI] at k1;cases k1;rw[if_pos rfl];exact⟨dB _,by simp⟩
theorem zpe(hw:(zj aK s0 i)[i]?=some w):D2 aK s0 i 0=(zj aK s0 i).length:=by simp only[D2,hw,jt]
theorem zoN(hw:(zj aK s0 i)[i]?=some w):D2 aK s0 i 256=(zj aK s0 (i+1)).length:=by simp only[D2,zj,hw]
end
end Go.Proofs.YthohlnmcjkjeiaaGreatDoor
namespace Go.Proofs.YthohlnmcjkjeiaaGreatDoor.A2
open Go.Proofs.Tryz
set_option maxRecDepth 100000
set_option maxHeartbeats 2000000
open Go Go.Vm Go.Vm.Sx
variable{gl:Gl}
theorem zqX{H:Hp}{b c:Nat}:qV prog H 27 (.sr b 0 256 c)=some 256:=by simp[qV]
theorem zrt{b c y:Nat}(h:y<256):zp prog 27 (.sr b 0 256 c) (y:Int)=some (.ptr b y):=by
 simp[zp,ux];omega
theorem S5{H:Hp}{g:Nat->Nat->bY}{v:V}{r:aC}:zl prog H g 28 (.vp (v::r))=some v:=by
 simp[zl,qu,gU,nth,wV]
theorem zpf{vs:aC}{i:Nat}{x y:V}(h:nth vs i=some (.agg [x,y])):zp prog 61 (.sl 2 vs .no) (i:Int)=some (.vp [x,y]):=by
 have hk:¬((i:Int)<0):=by omega
 simp[zp,Gp,hk,h,V.cells]
theorem zqe{H:Hp}{g:Nat->Nat->bY}{x y:V}:zl prog H g 66 (.vp [x,y])=some (.agg [x,y]):=by
 simp[zl,qu,KB,Gp,Od]
theorem Pc(b i:Nat):(nH b i).length=i:=by simp[nH]
theorem zjU{b i j:Nat}(h:j<i):nth (nH b i) j=some (.sr (b+j) 0 256 256):=by
 rw[zg,nH,gj,uG h];rfl
theorem Jz(hu:gl.uq=u3)(h5:∀xs,gl.hk 5 xs=none)(h5':∀n xs H,gl.eV n 5 xs H=none)(h17:∀xs,gl.hk 17 xs=none)(abC:∀n xs H,gl.eV n 17 xs H=none)(rL:gl.hk 26 []=some (.bool true))(p:A8)
  (hB:gl.hk 25 [.agg (jb p)]=some (.br [.aG,.bool false])\/∃aK lab ss ds bk,(∀n,zk prog gl (n+1) 25 [.agg (jb p)] ⟨[.cells (jb p) 60],[]⟩=some (.ret (.br [.sl 2 ds .no,.bool true]),⟨.cells (jb p) 60::bk,[]⟩))/\ds.length<=600/\(∀v∈ds,Md aK lab ss (.cells (jb p) 60::bk) v) /\
   ∀v∈ds,∀n,zk prog gl (n+1) 27 [v] ⟨.cells (jb p) 60::bk,[]⟩=some (.ret (.bool true),⟨.cells (jb p) 60::bk,[]⟩)):∃n,zk prog gl n 5 [.agg (jb p)] ⟨[],[]⟩=some (.ret (.bool true),⟨[],[]⟩):=by
 obtain⟨n,hn⟩:∃n,n=5000+1:=⟨_,rfl⟩;refine⟨n+1,?_⟩
 suffices bK:go ⟨prog,gl,zk prog gl n,u3⟩ n (Fx prog f5.results.toList λw H1=>w=.bool true/\∃ls,H1=⟨([]:List aT)++ls,[]⟩) [.c (f5.body.getD .skip)] .normal ⟨[.agg (jb p)]++List.replicate 100 (.br []),⟨[],[]⟩,[],[]⟩ by
  obtain⟨w,H1,h0,rfl,ls,rfl⟩:=zJ (bs:=[]) (es:=[]) (h5 _) (λH=>h5' _ _ H) func5 rfl (by rw[hu];exact bK)
  rw[h0];exact congrArg (λx=>some (Out.ret _,x)) (zW (dU _))
 have c26:∀H,Cx.bD ⟨prog,gl.g,zk prog gl n,u3⟩ 26 [] H=some (.val (.bool true),H):=λH=>zq func26 rfl (by rw[hn];exact vY rL)
 have tS:∀vs env s,qE env s (some (.sl 2 vs .no))=some (.sl 2 vs .no,env):=λ_ _ _=>rfl;have tS1:∀vs env s,qE env s (some (.sl 1 vs .no))=some (.sl 1 vs .no,env):=λ_ _ _=>rfl;have cS:∀z vs,aW (.sl z vs .no)=.sl z vs .no:=λ_ _=>rfl;have lP:∀g,zl prog ⟨[.cells (jb p) 60],[]⟩ g 60 (.ptr 0 0)=some (.agg (jb p)):=λg=>zro (bs:=[]);simp only[f5,ga,zh];refine rg ?_
 simp only[BW,List.replicate,qc (zgb p),zcx];refine rg ?_;rcases hB with A9|⟨aK,lab,ss,ds,bk,A9,tL,hmd,Vc⟩
 ·have Rm:∀H,Cx.bD ⟨prog,gl.g,zk prog gl n,u3⟩ 25 [.agg (jb p)] H=some (.val (.br [.aG,.bool false]),H):=λH=>zq func25 rfl (by rw[hn];exact vY A9)
  simp only[BW,lP,Rm,ew];refine rg ?_;simp only[BW,iI];refine rg ?_;simp only[BW,c26];exact fY rfl ⟨rfl,_,rfl⟩
 have Rm:Cx.bD ⟨prog,gl.g,zk prog gl n,u3⟩ 25 [.agg (jb p)] ⟨[.cells (jb p) 60],[]⟩=some (.val (.br [.sl 2 ds .no,.bool true]),⟨.cells (jb p) 60::bk,[]⟩):=zq func25 rfl (by rw[hn];exact A9 _)
 simp only[BW,lP,Rm,ew,cS,tS];generalize aT.cells (jb p) 60::bk=B at hmd Vc ⊢;have ML:∀v∈ds,Cx.bD ⟨prog,gl.g,zk prog gl n,u3⟩ 27 [v] ⟨B,[]⟩=some (.val (.bool true),⟨B,[]⟩):=λv hv=>zq func27 rfl (by rw[hn];exact Vc v hv _)
 refine rg ?_;simp only[BW,iI];refine rg ?_;simp only[BW];obtain⟨M,hM⟩:∃M,M=ds.length:=⟨_,rfl⟩;have cQ:∀k,k<M->∃s0 i b,nth ds k=some (Dg b i ((zj aK s0 i).map lab))/\0<i/\i<=600/\(zj aK s0 i).length=i/\∀j,j<i->nth B (b+j)=some (.cells ((wU aK s0 j).map A2.ie) 3):=λk hk=>by
  have hx:ds[k]?=some ds[k]:=fQ (by omega)
  obtain⟨s0,i,b,_,q1,q2,_,q3,q4,q5⟩:=hmd _ (m8 hx);exact⟨s0,i,b,by rw[zg,hx,q4],q1,q2,q3,q5⟩
 refine qd (λm st=>∃k env,m+k=M/\st=⟨env,⟨B,[]⟩,[],[]⟩/\Ks 101 [(3,.sl 2 ds .no),(5,.int .i64 (k:Nat))] env) M (by omega) ⟨0,_,nC _,rfl,fZ rfl⟩ ?_
 rintro m st ⟨k,env,Bn,rfl,⟨j,rfl⟩⟩;simp only[sh,pV,Nat.reduceBEq,Nat.reduceAdd,mh,nD];simp only[zh];refine rg ?_;simp only[BW,qh,cS,Va,<- hM]
 by_cases hk:k<M
 ·refine .inl ⟨by simp;omega,?_⟩
  obtain⟨s0,i,b,hd,Pt,hi6,HG,bZ⟩:=cQ k hk;have dG:Dg b i ((zj aK s0 i).map lab)∈ds:=by rw[zg] at hd;exact m8 hd
  have q27:=ML _ dG;generalize (zj aK s0 i).map lab=dh at hd q27;simp only[Dg] at hd q27;have sD:=zpf hd;have cL:aW (iv (true,dh))=iv (true,dh):=bH _;have cV:aW (.vp [.sl 1 (nH b i) .no,iv (true,dh)])=.vp [.sl 1 (nH b i) .no,iv (true,dh)]:=rfl;have cG:aW (.agg [.sl 1 (nH b i) .no,iv (true,dh)])=.agg [.sl 1 (nH b i) .no,iv (true,dh)]:=by simp only[qU]
  have sQ:=λj (hj:j<i)=>wO HG hj;refine rg ?_;simp only[BW,cS,sD,cV,zqe,cG,q27,iI];refine rg ?_;simp only[BW];refine rg ?_;simp only[BW]
  refine qd (λm st=>∃r env,m+r=i/\st=⟨env,⟨B,[]⟩,[],[]⟩/\Ks 101 [(3,.sl 2 ds .no),(5,.int .i64 (k:Nat)),(6,.int .i64 ((zj aK s0 r).length:Nat)),(7,.int .i64 (r:Nat))] env) i (by omega) ⟨0,_,nC _,rfl,fZ rfl⟩ ?_
  rintro m2 st ⟨r,env,hmr,rfl,⟨j2,rfl⟩⟩;simp only[sh,pV,Nat.reduceBEq,Nat.reduceAdd,mh,nD];simp only[zh];refine rg ?_;simp only[BW,qh,cS,sD,cV,mR,iW,S5,U0,Pc]
  by_cases hr:r<i
  ·refine .inl ⟨by simp;omega,?_⟩
   obtain⟨w,hw⟩:=sQ r hr;have OH:r<(zj aK s0 r).length:=(cP.1 hw).1;have abE:¬((zj aK s0 r).length:Int)<=(r:Nat):=by omega
   have hS:(zj aK s0 r).length<=700:=by
    obtain⟨rs,e⟩:=xw (j:=r) HG;have:=congrArg List.length e;rw[aV] at this;omega
   have K0:=zjU (b:=b) hr;have hq:aW (V.sr (b+r) 0 256 256)=.sr (b+r) 0 256 256:=rfl;have lW:=bZ r hr;have NH:((256:Int) != 256)=false:=rfl;refine rg ?_;simp only[BW,ge_iff_le,abE,cS,sD,cV,mR,iW,S5,RO K0 rfl,KC,hq,zqX,NH];refine rg ?_;simp only[BW]
   have TQ:((zj aK s0 r).length:Int)=(D2 aK s0 r 0:Nat):=by rw[zpe hw]
   rw[TQ];refine qd (λm st=>∃c env,m+c=256/\st=⟨env,⟨B,[]⟩,[],[]⟩/\D2 aK s0 r c<=700+c/\Ks 101 [(3,.sl 2 ds .no),(5,.int .i64 (k:Nat)),(6,.int .i64 (D2 aK s0 r c:Nat)),(7,.int .i64 (r:Nat)),(8,.int .i64 (c:Nat))] env) 256 (by omega) ⟨0,_,rfl,rfl,by rw[zpe hw];omega,fZ rfl⟩ ?_
   rintro m3 st ⟨c,env,Xj,rfl,hfb,⟨j3,rfl⟩⟩;simp only[sh,pV,Nat.reduceBEq,Nat.reduceAdd,mh,nD];simp only[zh];refine rg ?_;simp only[BW,qh]
   by_cases hc:c<256
   ·refine .inl ⟨by simp;omega,?_⟩
    obtain⟨e,e1,e2,e3⟩:=zoM hw hc;have gp:∀g,zl prog ⟨B,[]⟩ g 3 (.ptr (b+r) c)=some (.int .i64 (e:Nat)):=λg=>zu fo lW (by rw[zg,gj,e1];rfl)
    generalize D2 aK s0 r c=F at e2 e3 hfb ⊢;have OY:¬((F:Int)<(e:Nat)):=by omega
    refine rg ?_;simp only[BW,cS,sD,cV,mR,iW,S5,RO K0 rfl,KC,hq,zrt hc,gp];refine rg ?_;simp only[BW,gt_iff_lt,OY];refine rg ?_
    by_cases he:e=F
    ·rw[if_pos he] at e3;have Ak:((e:Nat):Int) == (F:Nat):=by simp[he]
     simp only[BW,Ak];refine rg ?_;simp only[BW,zQ (show F<2 ^ 60 by omega)]
     refine rg ?_;simp only[BW,zQ (show c<2 ^ 60 by omega)]
     refine⟨m3 - 1,by omega,c+1,_,by omega,rfl,by omega,?_⟩
     rw[e3];exact fZ rfl
    ·rw[if_neg he] at e3;have Ak:(((e:Nat):Int) == (F:Nat))=false:=by simp;omega
     simp only[BW,Ak];refine rg ?_;simp only[BW,zQ (show c<2 ^ 60 by omega)]
     refine⟨m3 - 1,by omega,c+1,_,by omega,rfl,by omega,?_⟩
     rw[e3];exact fZ rfl
   ·obtain rfl:c=256:=by omega
    refine .inr ⟨by simp,?_⟩
    refine rg ?_;simp only[BW,zQ (show r<2 ^ 60 by omega)]
    refine⟨m2 - 1,by omega,r+1,_,by omega,rfl,?_⟩
    rw[zoN hw];exact fZ rfl
  ·obtain rfl:r=i:=by omega
   refine .inr ⟨by simp,?_⟩
   rw[HG];have RH:∀z:Int,(z != z)=false:=λz=>by simp
   refine rg ?_;simp only[BW,cS,sD,cV,mR,iW,S5,U0,Pc,RH];refine rg ?_;simp only[BW,zQ (show k<2 ^ 60 by omega)]
   exact⟨m - 1,by omega,k+1,_,by omega,rfl,fZ rfl⟩
 ·obtain rfl:k=M:=by omega
  refine .inr ⟨by simp,?_⟩
  refine rg ?_;simp only[BW];refine qd (λm st=>∃q env,m+q=k/\st=⟨env,⟨B,[]⟩,[],[]⟩/\Ks 101 [(3,.sl 2 ds .no),(10,.int .i64 (q:Nat))] env) k (by omega) ⟨0,_,nC _,rfl,fZ rfl⟩ ?_
  rintro m st ⟨q,env,hmq,rfl,⟨j,rfl⟩⟩;simp only[sh,pV,Nat.reduceBEq,Nat.reduceAdd,mh,nD];simp only[zh];refine rg ?_;simp only[BW,qh,cS,Va,<- hM]
  by_cases hq:q<k
  ·refine .inl ⟨by simp;omega,?_⟩
   obtain⟨s0,i,b,hd,Pt,hi6,HG,bZ⟩:=cQ q hq;generalize (zj aK s0 i).map lab=dh at hd;simp only[Dg] at hd;have sD:=zpf hd;have cV:aW (.vp [.sl 1 (nH b i) .no,iv (true,dh)])=.vp [.sl 1 (nH b i) .no,iv (true,dh)]:=rfl
   have r17:=zqP hu h17 abC (rows:=nH b i) (bs:=B) (es:=[]) (n:=5000) (λj hj=>by
    rw[Pc] at hj;obtain⟨w,hw⟩:=wO HG hj;refine⟨b+j,_,zjU hj,bZ j hj,by rw[gk,xx hw],by simp[A2.ie,aW],λv hv=>?_⟩
    obtain⟨z,_,rfl⟩:=iH.1 hv;rfl) (by rw[Pc];exact Pt) (by rw[Pc];omega) (by rw[Pc];omega)
   have c17:Cx.bD ⟨prog,gl.g,zk prog gl n,u3⟩ 17 [.sl 1 (nH b i) .no] ⟨B,[]⟩=some (.val (.bool true),⟨B,[]⟩):=zq func17 rfl (by rw[hn];exact r17)
   refine rg ?_;simp only[BW,cS,sD,cV,mR,iW,S5,c17,iI];refine rg ?_;simp only[BW,zQ (show q<2 ^ 60 by omega)]
   exact⟨m - 1,by omega,q+1,_,by omega,rfl,fZ rfl⟩
  ·obtain rfl:q=k:=by omega
   refine .inr ⟨by simp,?_⟩
   refine rg ?_;simp only[BW,c26];exact fY rfl ⟨rfl,_,rfl⟩
end Go.Proofs.YthohlnmcjkjeiaaGreatDoor.A2
namespace Go.Proofs.YthohlnmcjkjeiaaGreatDoor
open Go Go.Vm
open Go.Proofs.Tryz
set_option maxRecDepth 100000
section
open Go.Vm.Sx
theorem zpg{l:List Int}(h0:∀i,i<l.length->0<=A2.gi l i)(VJ:∀i,0<i->i<l.length->A2.gi l (i - 1)<A2.gi l i):∀i,i<l.length->(i:Int)<=A2.gi l i
 | 0,h=>h0 0 h
 | i+1,h=>by
  have h1:=zpg h0 VJ i (by omega)
  have h2:=VJ (i+1) (Nat.succ_pos _) h;rw[Nat.add_sub_cancel] at h2;omega
theorem zm8{l:List Int}{b:Nat}(h0:∀i,i<l.length->0<=A2.gi l i)(VJ:∀i,0<i->i<l.length->A2.gi l (i - 1)<A2.gi l i)(hb:∀i,i<l.length->A2.gi l i<b):l.length<=b:=by
 rcases JD l.length with h|h
 ·omega
 ·have h1:=zpg h0 VJ (l.length - 1) (by omega)
  have h2:=hb (l.length - 1) (by omega)
  omega
theorem ziO{l:List Int}{z:Int}(h:z∈l):∃i,i<l.length/\A2.gi l i=z:=by
 obtain⟨i,hi,e⟩:=List.getElem_of_mem h;exact⟨i,hi,by simp[A2.gi,hi,e]⟩
theorem zjV{n:Nat}{l:List Int}(h:wM (A2.A6 n l) l.length=true):(∀r∈l,0<=r/\r.toNat<n)/\l.length<=n:=by
 have hk:∀i,i<l.length->0<=A2.gi l i/\A2.gi l i<n/\(0<i->A2.gi l (i - 1)<A2.gi l i):=λi hi=>by
  have:=cI.1 h i hi;simp only[A2.A6,c_,nA,ei,tX,EK,decide_eq_false_iff_not,beq_iff_eq] at this;exact⟨by omega,by omega,λh0=>by omega⟩
 refine⟨λr hr=>?_,zm8 (λi hi=>(hk i hi).1) (λi h0 hi=>(hk i hi).2.2 h0) λi hi=>(hk i hi).2.1⟩;obtain⟨i,hi,rfl⟩:=ziO hr;have:=hk i hi;omega
theorem zhQ{n R:Nat}{r:List Int}{rule:Int}{l:List Int}(h:wM (A2.pF n r rule l) l.length=true)(h0:0<=rule)(h1:rule<R):(∀z∈l,0<=z/\z.toNat<n+R)/\l.length<=n+R:=by
 have hk:∀i,i<l.length->0<=A2.gi l i/\A2.gi l i<((n+R:Nat):Int)/\(0<i->A2.gi l (i - 1)<A2.gi l i):=λi hi=>by
  have:=cI.1 h i hi;unfold A2.pF at this;cases hc:(i == 0 || !nA (A2.gi l i) (A2.gi l (i - 1))) && !c_ (A2.gi l i) 0 with
  | false=>rw[hc] at this;cases this
  | true =>
   rw[hc] at this;simp only[c_,nA,ei,tX,EK,decide_eq_false_iff_not,beq_iff_eq] at hc;refine⟨by omega,?_,λh0=>by omega⟩
   cases h2:A2.gi l i == (n:Int)+rule with
   | true =>
    have:=eq_of_beq h2;omega
   | false =>
    rw[h2] at this;cases h3:nA (n:Int) (A2.gi l i) with
    | true=>rw[h3] at this;cases this
    | false =>
     simp only[nA,decide_eq_false_iff_not] at h3;omega
 refine⟨λz hz=>?_,zm8 (λi hi=>(hk i hi).1) (λi h0 hi=>(hk i hi).2.2 h0) λi hi=>(hk i hi).2.1⟩;obtain⟨i,hi,rfl⟩:=ziO hz;have:=hk i hi;omega
theorem zjW{f:A2.F}(hq:∀q∈f.s.2,ED q)(h:A2.EG f.s.2.length f.r.2 (A2.rowsOf f.f) (A2.rowsOf f.n)=true){n:Nat}(hn:2000<=n):GI f ((f.s.2.length+f.f.2.length) / 8+1) n/\f.s.2.length<=1000/\f.f.2.length<=200:=by
 unfold A2.EG at h;cases hh:(((c_ 1000 (f.s.2.length:Int) || c_ 200 ((A2.rowsOf f.f).length:Int)) || !((f.r.2.length:Int) == (f.s.2.length:Int))) || !(((A2.rowsOf f.n).length:Int) == (f.s.2.length:Int))) with
 | true=>rw[hh] at h;cases h
 | false =>
 rw[hh] at h;simp only[c_,A2.eB,HN,Bool.not_eq_false',beq_iff_eq,decide_eq_false_iff_not] at hh;obtain⟨⟨⟨g1,g2⟩,g3⟩,g4⟩:=hh;simp only[nD] at h;cases hs:A2.nX f.r.2 with
 | false=>rw[hs] at h;cases h
 | true =>
 rw[hs] at h;simp only[mh] at h;have hr:(∀i,i<f.s.2.length->0<=A2.gi f.r.2 i/\A2.gi f.r.2 i<f.f.2.length)/\A2.nZ f.s.2.length f.r.2 (A2.rowsOf f.f) (A2.rowsOf f.n)=true:=by
  cases h0:c_ 0 (f.s.2.length:Int) with
  | false =>
   rw[h0] at h;simp only[c_,decide_eq_false_iff_not] at h0;exact⟨λi hi=>by omega,h⟩
  | true =>
   rw[h0] at h;simp only[mh] at h;cases h1:c_ (A2.gi f.r.2 0) 0 with
   | true=>rw[h1] at h;cases h
   | false =>
   rw[h1] at h;simp only[oN,mh] at h;cases h2:nA ((A2.rowsOf f.f).length:Int) (A2.gi f.r.2 (f.s.2.length - 1)) with
   | true=>rw[h2] at h;cases h
   | false =>
   rw[h2] at h;simp only[c_,nA,A2.eB,decide_eq_false_iff_not] at h1 h2;refine⟨λi hi=>?_,h⟩;have k1:=A2.pW hs (i:=0) (j:=i) (dU _) (by omega)
   have k2:=A2.pW hs (i:=i) (j:=f.s.2.length - 1) (by omega) (by omega)
   omega
 obtain⟨hr,h⟩:=hr;unfold A2.nZ at h;cases hA:wM (λi=>wM (A2.pF f.s.2.length f.r.2 (i:Int) (A2.gr (A2.rowsOf f.f) i)) (A2.gr (A2.rowsOf f.f) i).length) (A2.rowsOf f.f).length with
 | false=>rw[hA] at h;cases h
 | true =>
 rw[hA] at h;simp only[mh] at h;rw[A2.eB] at hA;have rn:∀row∈f.n.2,(∀z∈row.2,0<=z/\z.toNat<f.s.2.length+f.f.2.length)/\row.2.length<=f.s.2.length+f.f.2.length:=λrow Dr=>by
  obtain⟨i,hi,e⟩:=List.getElem_of_mem Dr;have hg:A2.gr (A2.rowsOf f.n) i=row.2:=A2.pq (by rw[fQ hi,e])
  have h1:=cI.1 h i (by omega)
  rw[hg] at h1;obtain⟨k1,k2⟩:=hr i (by omega)
  exact zhQ h1 k1 k2
 have rf:∀row∈f.f.2,(∀z∈row.2,0<=z/\z.toNat<f.s.2.length+f.f.2.length)/\row.2.length<=f.s.2.length+f.f.2.length:=λrow Dr=>by
  obtain⟨i,hi,e⟩:=List.getElem_of_mem Dr;have hg:A2.gr (A2.rowsOf f.f) i=row.2:=A2.pq (by rw[fQ hi,e])
  have h1:=cI.1 hA i hi;rw[hg] at h1;exact zhQ h1 (by omega) (by omega)
 refine⟨⟨rfl,hq,⟨by omega,by omega⟩,by omega,by omega,λrow Dr=>?_,λrow Dr=>?_⟩,by omega,by omega⟩
 ·obtain⟨k1,k2⟩:=rn row Dr;exact⟨by omega,by omega,k1⟩
 ·obtain⟨k1,k2⟩:=rf row Dr;exact⟨by omega,by omega,k1⟩
end
section
open Go.Vm.Sx
def S6:Gl:={ g:=mE,hk:=dK [] }
theorem NJ:mX prog S6:=xj (P:=prog) (g0:=mE)
theorem NK:GK S6 []:=⟨λ_ _ _=>rfl,λ_ _ _ _ _=>rfl,λ_=>rfl⟩
theorem zqf{sz:Nat}{a b:Bool}{xs ys:aC}(h:lv sz a xs=lv sz b ys):xs=ys:=by
 rcases cJ sz a xs with h1|⟨e1,h1⟩<;>rcases cJ sz b ys with h2|⟨e2,h2⟩<;>rw[h1,h2] at h
 ·injection h
 ·cases h
 ·cases h
 ·rw[e1,e2]
theorem zqg{a b:A2.cO}(h:A2.iv a=A2.iv b):a.2=b.2:=(List.map_inj_right λx y e=>by injection e).1 (zqf h)
def VK(f:A2.F):Bool:=A2.EG f.s.2.length f.r.2 (A2.rowsOf f.f) (A2.rowsOf f.n)
def Pd(f:A2.F)(a:A2.cO):Bool:=wM (A2.A6 f.f.2.length a.2) a.2.length
def S7(f:A2.F)(l:List A2.cO):dM:=l.map λa=>(72,[A2.fv f,A2.iv a],.bool (Pd f a))
def Pe(f:A2.F)(l:List A2.cO):dM:=(24,[A2.fv f],.bool (VK f))::S7 f l
theorem zm9{f:A2.F}(hf:A2.WF f):∀{l:List A2.cO},(∀a∈l,a.2.length * 8<=reachBytes)->ju prog mE (S7 f l)
 | [],_=>xj
 | a::l,h=>ziN (zm9 hf λb hb=>h b (d_ _ hb)) NJ rfl (xs:=[A2.fv f,A2.iv a]) ⟨_,A2.Zc NK rfl f a (by have:=h a (eT ..);have:=A2.fm;omega)⟩ (by simp[aI,A2.Av,A2.mD]) rfl
theorem zna{f:A2.F}(hf:A2.WF f){l:List A2.cO}(h:∀a∈l,a.2.length * 8<=reachBytes):ju prog mE (Pe f l) :=
 ziN (zm9 hf h) NJ rfl (xs:=[A2.fv f]) (A2.Z8 NK rfl f hf) (by simp[aI,A2.Av]) rfl
theorem znb{f:A2.F}{l:List A2.cO}:∀x∈Pe f l,x.1=24\/x.1=72:=λx hx=>by
 rcases dN.1 hx with rfl|h
 ·exact .inl rfl
 ·obtain⟨a,_,rfl⟩:=iH.1 h;exact .inr rfl
theorem zjX{f:A2.F}{a:A2.cO}:∀{l:List A2.cO},a∈l->dK (S7 f l) 72 [A2.fv f,A2.iv a]=some (.bool (Pd f a))
 | b::l,h=>by
  show(match Nat.beq 72 72 with|true=>(match fB [A2.fv f,A2.iv a] [A2.fv f,A2.iv b] with|true=>some (V.bool (Pd f b))|false=>dK (S7 f l) 72 [A2.fv f,A2.iv a])|false=>dK (S7 f l) 72 [A2.fv f,A2.iv a])=_
  simp only[];cases hs:fB [A2.fv f,A2.iv a] [A2.fv f,A2.iv b] with
  | true =>
   have e:=xk hs;simp only[List.cons.injEq,Ce,lU] at e;have e':=zqg e;simp only[Pd,e']
  | false =>
   rcases dN.1 h with rfl|h'
   ·rw[dO] at hs;cases hs
   ·exact zjX h'
theorem znc{f:A2.F}{l:List A2.cO}{a:A2.cO}(h:a∈l):dK (Pe f l) 72 [A2.fv f,A2.iv a]=some (.bool (Pd f a)):=zjX h
theorem znd{f:A2.F}{l:List A2.cO}:dK (Pe f l) 24 [A2.fv f]=some (.bool (VK f)):=VH
section
variable{l:dM}{f:A2.F}
theorem zph(hs:f.s.2.length<2 ^ 30)(hf:f.f.2.length<2 ^ 30):mP f<2 ^ 36:=by
 simp only[mP];omega
end
end
section
def Br(f:FuncId)(xs:aC)(T:Nat->V)(bs:List aT):Prop :=
 ∀(d:Nat)(H:Hp)(g:Gh)(w:aP)(bp:dF)(l:Vm.Loc),gF prog mE g->nu g H.au w->dI g H.au.length xs bp->Calls prog f bp w (ef d H g w l (.ret (T H.au.length)) ⟨H.au++bs,H.bC⟩)
open Classical in
noncomputable def K1(f:FuncId)(xs:aC)(T:Nat->V)(bs:List aT)(_n:Nat)(f':FuncId)(tK:aC)(H:Hp):Option (Out×Hp):=if f'=f/\tK=xs then some (.ret (T H.au.length),⟨H.au++bs,H.bC⟩) else none
theorem zjY{f:FuncId}{xs:aC}{T:Nat->V}{bs:List aT}{n:Nat}{H:Hp}:K1 f xs T bs n f xs H=some (.ret (T H.au.length),⟨H.au++bs,H.bC⟩):=if_pos ⟨rfl,rfl⟩
theorem zne{f f':FuncId}{xs tK:aC}{T:Nat->V}{bs:List aT}{n:Nat}{H:Hp}(h:f'≠f):K1 f xs T bs n f' tK H=none:=if_neg λe=>h e.1
theorem znf{f:FuncId}{xs:aC}{T:Nat->V}{bs:List aT}(h:Br f xs T bs){n:Nat}{f':FuncId}{tK:aC}{H H':Hp}{out:Out}(e:K1 f xs T bs n f' tK H=some (out,H'))(d:Nat)(g:Gh)(w:aP)(bp:dF)(l:Vm.Loc)(h1:gF prog mE g)(h2:nu g H.au w)(h3:dI g H.au.length tK bp):Calls prog f' bp w (ef d H g w l out H'):=by
 unfold K1 at e;split at e
 next he=>obtain⟨rfl,rfl⟩:=he;cases e;exact h d H g w bp l h1 h2 h3
 ·cases e
theorem zfa{l1:dM}(uf:ju prog mE l1)(h1:∀x∈l1,x.1=24\/x.1=72){f:A2.F}{n:Nat}{cT:A2.gZ}{ck:Bool}{rk:A2.cO->Bool}(hn:mP f+1000<=n)(AV:mP f<2 ^ 36)
  (DT:dK l1 24 [A2.fv f]=some (.bool ck)) (SX:∀a∈cT.2,dK l1 72 [A2.fv f,A2.iv a]=some (.bool (rk a)))
  (sM:cT.2.length<n) (SZ:cT.2.length<2 ^ 60) (hF:ck=true->GI f (mP f) (n - 3)) (hA:∀a∈cT.2,rk a=true->(∀r∈a.2,0<=r/\r.toNat<f.f.2.length)/\a.2.length<n - 3/\a.2.length<2 ^ 60) :
  (∃k,Br 30 [A2.fv f,A2.rv cT] (λ_=>.br [.aG,.ec 396 (.obj k)]) []) \/
  (D1 ck rk cT.2=true/\∃(T:Nat->aC)(bs:List aT),Br 30 [A2.fv f,A2.rv cT] (λm=>.br [.sl 2 (T m) .no,.bT]) bs/\∃c,c<=600/\∀m,AB (Jx f) (HK f) m (cT.2.map λa=>KY f a.2) c bs (T m)):=by
 obtain⟨v,H',hc,hp⟩:=zoG (GSO h1) hn AV DT SX zqc zqd sM SZ hF hA;have ht:aI [A2.fv f,A2.rv cT]=0:=by simp[aI,A2.Av,A2.Au]
 have iP:∀k,v=.br [.aG,.ec 396 (.obj k)]->Br 30 [A2.fv f,A2.rv cT] (λ_=>.br [.aG,.ec 396 (.obj k)]) []:=λk hv d H g w bp l q1 q2 q3=>by
  subst hv;have:=XU (d:=d) (l:=l) (H:=H) mixed iE fN (hkO uf) hc ht (gR:=[]) (pJ:=[]) (v':=.br [.aG,.ec 396 (.obj k)]) ⟨List.nodup_nil,rfl,λj k h=>by cases h⟩ (.same rfl) (λ_ _ _ e=>by cases e) (dU _) q1 q2 q3
  exact this
 split at hp
 ·rename_i tP;obtain⟨nx,Kd,hp⟩:=hp;rw[zqb Kd] at hp;rcases hp with⟨c,vs,q1,q2,rfl⟩|⟨j,a,c,vs,i,B',q1,q2,q3,rfl⟩
  ·have h0:0<vs.length:=by
    rw[q1.len,gk];simp only[D1,ei,decide_eq_true_eq] at tP;omega
   have e:aW (zm 2 66 vs)=.sl 2 vs .no:=by rw[SY,O_ h0]
   rw[e] at hc;obtain⟨gR,bs,s1,_,s3⟩:=q1.fD;refine .inr ⟨tP,λm=>(s3 m).choose,bs,λd H g w bp l k1 k2 k3=>?_,c,q2,λm=>(s3 m).choose_spec.1⟩;obtain⟨_,p2,p3,p4,p5,p6,p7⟩:=(s3 H.au.length).choose_spec
   refine XU mixed iE fN (hkO uf) hc ht s1 (v':=.br [.sl 2 (s3 H.au.length).choose .no,.bT]) (.br rfl λj x y hx hy=>?_) (λ_ _ _ e=>by cases e) (by simp only[V.top,aI];omega) k1 k2 k3
   match j,hx,hy with
   | 0,hx,hy=>cases hx;cases hy;exact .sl p2 p3 p4 p5 p6
   | 1,hx,hy=>cases hx;cases hy;exact .same rfl
   | j+2,hx,hy=>simp at hx
  ·exact .inl ⟨2,iP 2 rfl⟩
 ·exact .inl ⟨0,iP 0 hp⟩
theorem zqh{f:A2.F}(hw:A2.WF f)(hq:∀q∈f.s.2,ED q)(hs:f.s.2.length<2 ^ 30)(Ht:f.f.2.length<2 ^ 30)(cT:A2.gZ)(ha:∀a∈cT.2,a.2.length * 8<=reachBytes)(sM:cT.2.length<2 ^ 60) :
  (∃k,Br 30 [A2.fv f,A2.rv cT] (λ_=>.br [.aG,.ec 396 (.obj k)]) []) \/
  (D1 (VK f) (Pd f) cT.2=true/\∃(T:Nat->aC)(bs:List aT),Br 30 [A2.fv f,A2.rv cT] (λm=>.br [.sl 2 (T m) .no,.bT]) bs/\∃c,c<=600/\∀m,AB (Jx f) (HK f) m (cT.2.map λa=>KY f a.2) c bs (T m)):=by
 cases tP:VK f with
 | false =>
  have DT:dK (Pe f cT.2) 24 [A2.fv f]=some (.bool false):=by rw[<- tP];exact znd
  refine zfa (n:=mP f+5000+cT.2.length+f.f.2.length) (zna hw ha) znb (by omega) (zph hs Ht) DT (λa h=>znc h) (by omega) sM (λh=>by cases h) λa h1 h2=>?_
  obtain⟨k4,k5⟩:=zjV h2;exact⟨k4,by omega,by omega⟩
 | true =>
  have DT:dK (Pe f cT.2) 24 [A2.fv f]=some (.bool true):=by rw[<- tP];exact znd
  obtain⟨k1,k2,k3⟩:=zjW hq tP (n:=mP f+5000+cT.2.length+f.f.2.length - 3) (by omega)
  refine zfa (n:=mP f+5000+cT.2.length+f.f.2.length) (zna hw ha) znb (by omega) (zph hs Ht) DT (λa h=>znc h) (by omega) sM (λ_=>k1) λa h1 h2=>?_
  obtain⟨k4,k5⟩:=zjV h2;exact⟨k4,by omega,by omega⟩
end
section
open Go.Vm.Sx
theorem zng{l:List Cr}(h:Jf l)(he:bE l=.bT):∃k:Nat,yP l=((k:Int),true)/\k<=1000/\k=mQ (l.map fz)/\l.length<=200/\nB 0 l=((k:Int),true)/\(∀c∈l,nodes c.1<=1800/\nodes c.2.2<=1800)/\∀e∈l.map fz,gd e=true:=by
 obtain⟨p,ok,AE⟩:∃p ok,yP l=(p,ok):=⟨_,_,rfl⟩;rw[bE,AE] at he;cases ok with
 | false=>cases he
 | true =>
  simp only[mh] at he;have hp:p<=1000:=by
   rcases Int.lt_or_le 1000 p with h|h
   ·rw[if_pos h] at he;cases he
   ·exact h
  have hlen:l.length<=200/\nB 0 l=(p,true):=by
   unfold yP at AE;cases hx:c_ 200 (l.length:Int) with
   | true=>rw[hx] at AE;simp at AE
   | false =>
    rw[hx] at AE;simp only[nD] at AE;refine⟨?_,AE⟩;rcases eI 200 l.length with hh|hh
    ·rw[J9 (by omega)] at hx;cases hx
    ·exact hh
  have Gn:∀c∈l,nodes c.1<=1800/\nodes c.2.2<=1800:=by
   rcases h.nod with hh|hh
   ·omega
   ·exact hh
  obtain⟨m1,_,m3⟩:=C' l 0 Gn (by omega) (by omega) (by rw[hlen.2]) (by rw[hlen.2];exact hp)
  rw[hlen.2] at m1;simp only[Int.zero_add] at m1;exact⟨mQ (l.map fz),by rw[AE,m1],by omega,rfl,hlen.1,by rw[hlen.2,m1],Gn,m3⟩
theorem ziP{n:Nat}(es:List E):∀(r:Nat)(m:Mk),(qt n r es m).1.length=es.length:=by
 induction es with
 | nil=>intro r m;rfl
 | cons e es ih=>intro r m;simp only[qt,aZ,ih]
theorem znh{p:Nat->Bool}:(jg p 19).length<=1216:=by
 have:=xo (p:=p) 19;rw[xF,gk] at this;omega
end
section
open Go.Vm.Sx
def MQ(m:Mk):Prop:=(∀q∈m.cq,ED q)/\∀z∈m.rules,A2.Hq z
theorem qok{a b c d:Int}(h:QU a/\QU b/\QU c/\QU d):ED (a,b,c,d):=λi=>by
 match i with
 | 0=>exact h.1
 | 1=>exact h.2.1
 | 2=>exact h.2.2.1
 | i+3=>exact h.2.2.2
section
variable{r op mn mx:Int}{m:Mk}
theorem zoO{q:Int×Int×Int×Int}(h:MQ m)(hq:ED q)(hr:A2.Hq r):MQ (jL op q r m).2:=by
 unfold jL;split
 ·exact h
 ·refine⟨λx hx=>?_,λx hx=>?_⟩
  ·rcases oM.1 hx with h'|h'
   ·exact h.1 x h'
   ·rw[mF.1 h'];exact hq
  ·rcases oM.1 hx with h'|h'
   ·exact h.2 x h'
   ·rw[mF.1 h'];exact hr
theorem zqi{x:Part×Mk}(h:MQ x.2):MQ (y9 op mn mx x).2:=by
 unfold y9;split<;>exact h
mutual
theorem zpi(hr:A2.Hq r):∀(e:E)(m:Mk),QE e->MQ m->MQ (j_ r e m).2
 | .mk op _ s0 s1 s2 s3 _ mn mx _ [],m,he,h=>by
  simp only[QE] at he;simp only[j_];exact zoO h (qok he.1) hr
 | .mk op _ s0 s1 s2 s3 _ mn mx _ (a::tl),m,he,h=>by
  simp only[QE] at he;simp only[j_];exact zqi (zpj hr (a::tl) op 0 p0 m he.2 h)
theorem zpj(hr:A2.Hq r):∀(es:List E)(op:Int)(k:Nat)(a:Part)(m:Mk),Nc es->MQ m->MQ (sZ r op k a es m).2
 | [],op,k,a,m,he,h=>by simp only[sZ];exact h
 | e::es,op,k,a,m,he,h=>by
  simp only[Nc] at he;simp only[sZ];exact zpj hr es op (k+1) (zR op k a (j_ r e m).1 (j_ r e m).2.next).1 { (j_ r e m).2 with next:=(zR op k a (j_ r e m).1 (j_ r e m).2.next).2 } he.2 (zpi hr e m he.1 h)
end
theorem zhR{n:Nat}:∀(es:List E)(r:Nat)(m:Mk),(∀e∈es,QE e)->r+es.length<=1000000->MQ m->MQ (qt n r es m).2
 | [],r,m,he,hr,h=>h
 | e::es,r,m,he,hr,h=>by
  simp only[aZ] at hr;simp only[qt];have hh:=zpi (r:=(r:Int)) ⟨by omega,by omega⟩ e m (he e (eT ..)) h
  have h2:MQ (jU n r e m).2:=by
   simp only[jU];exact⟨hh.1,hh.2⟩
  exact zhR es (r+1) (jU n r e m).2 (λx hx=>he x (d_ _ hx)) (by omega) h2
theorem zep{n:Nat}:∀(es:List E)(r:Nat)(m:Mk),∀x∈(qt n r es m).1,∃p,x=jg p 19
 | [],r,m,x,h=>by cases h
 | e::es,r,m,x,h=>by
  simp only[qt] at h;rcases dN.1 h with h|h
  ·rw[h];simp only[jU];exact⟨_,rfl⟩
  ·exact zep es _ _ x h
theorem zqY{c:Cr}(h:QE c.1/\QE c.2.2):QE (fz c):=by
 unfold fz;split
 ·have z:QU 0:=⟨by omega,by omega⟩
  simp only[QE,Nc];exact⟨⟨z,z,z,z⟩,h.1,h.2,trivial⟩
 ·exact h.1
end
def toF(x:Fo):A2.F:=⟨(true,x.s),(true,x.r),(true,x.f.map λy=>(true,y)),(true,x.n.map λy=>(true,y))⟩
theorem zni(l:List (List Int)):Ho l=A2.rv (true,l.map λy=>(true,y)):=by
 unfold Ho A2.rv;rw[List.map_map];rfl
theorem zqj(x:Fo):UJ x=A2.fv (toF x):=by
 unfold UJ Ri A2.fv A2.fc;rw[zni,zni];rfl
def fF(l:List Cr):A2.F:=toF (Jg l)
theorem zqk{l:bL}(h:l.length<=1216)(hx:∀k∈l,k<1216):A2.WI (true,l.map Int.ofNat):=by
 refine⟨?_,λz hz=>?_⟩
 ·have h2:(10000:Nat)<=reachBytes:=by decide
  simp only[gk];omega
 ·obtain⟨k,hk,rfl⟩:=iH.1 hz;have:=hx k hk;exact⟨by show _<=((k:Nat):Int);omega,by show((k:Nat):Int)<=_;omega⟩
theorem znj{p:Nat->Bool}:A2.WI (true,(jg p 19).map Int.ofNat):=zqk znh λ_k hk=>(iD.1 hk).1
theorem zqZ{l:List Cr}(h:Jf l)(he:bE l=.bT)(hq:∀c∈l,QE c.1/\QE c.2.2):bV l=.br [A2.fv (fF l),.bT]/\A2.WF (fF l)/\(∀q∈(fF l).s.2,ED q)/\(fF l).s.2.length<=1000/\(fF l).f.2.length=l.length/\l.length<=200:=by
 obtain⟨k,h1,h2,h3,h4,_,_,h7⟩:=zng h he;obtain⟨r1,_,r3⟩:=Y8 (n:=k) (l.map fz) 0 m0 h7 ⟨rfl,rfl⟩ (by simp[m0];omega) (by rw[gk];omega) (λx hx=>by simp[m0] at hx)
 have hm:MQ (qt k 0 (l.map fz) m0).2:=zhR _ _ _ (λe he=>by
  obtain⟨c,hc,rfl⟩:=iH.1 he
  exact zqY (hq c hc)) (by rw[gk];omega) ⟨λq hq=>(by cases hq),λq hq=>(by cases hq)⟩
 have hf:Jg l=⟨(qt k 0 (l.map fz) m0).2.cq,(qt k 0 (l.map fz) m0).2.rules,(qt k 0 (l.map fz) m0).1.map (·.map Int.ofNat),(qt k 0 (l.map fz) m0).2.next.map λp=>(jg p 19).map Int.ofNat⟩:=by
  rw[Jg,h1];simp only[y_]
 have e0:m0.cq.length=0:=rfl;have IA:(1000000:Nat)<=reachBytes:=by decide
 have hA:bV l=.br [A2.fv (fF l),.bT]:=by
  rw[bV,he,bA,h1];simp only[mh,if_neg (show ¬(1000<(k:Int)) by omega)]
  rw[<- show UJ (Jg l)=.agg (Ri (Jg l)) from rfl,zqj];rfl
 have l1:=ziP (n:=k) (l.map fz) 0 m0;rw[gk] at l1;have l2:=r3.r;have l3:=r3.n;refine⟨hA,?_,?_,?_,?_,h4⟩
 ·rw[fF,hf];refine⟨?_,⟨?_,hm.2⟩,⟨?_,λq hq=>?_⟩,⟨?_,λq hq=>?_⟩⟩
  ·show(qt k 0 (l.map fz) m0).2.cq.length * 32<=_;omega
  ·show(qt k 0 (l.map fz) m0).2.rules.length * 8<=_;omega
  ·show(((qt k 0 (l.map fz) m0).1.map _).map _).length * 24<=_;rw[gk,gk];omega
  ·obtain⟨y,hy,rfl⟩:=iH.1 hq;obtain⟨z,hz,rfl⟩:=iH.1 hy;obtain⟨p,hp⟩:=zep _ _ _ z hz;have h1:=znj (p:=p);rw[<- hp] at h1;exact h1
  ·show(((qt k 0 (l.map fz) m0).2.next.map _).map _).length * 24<=_
   rw[gk,gk];omega
  ·obtain⟨y,hy,rfl⟩:=iH.1 hq;obtain⟨p,_,rfl⟩:=iH.1 hy;have h1:=znj (p:=p);generalize jg p 19=z at h1 ⊢;exact h1
 ·rw[fF,hf];exact hm.1
 ·rw[fF,hf];show(qt k 0 (l.map fz) m0).2.cq.length<=_;omega
 ·rw[fF,hf];show(((qt k 0 (l.map fz) m0).1.map _).map _).length=_;rw[gk,gk];omega
theorem zq0{l:List Cr}(he:bE l≠.bT):bV l=.br [.agg zF,bE l]/\∃k,bE l=.ec 396 (.obj k):=by
 unfold bV;unfold bE at he ⊢;unfold bA;cases hm:(yP l).2 with
 | false=>exact⟨rfl,_,rfl⟩
 | true =>
  rw[hm] at he;simp only[mh] at he ⊢;split
  ·exact⟨rfl,_,rfl⟩
  next h=>rw[if_neg h] at he;exact absurd rfl he
end
section
section
variable{aK:Nat->Nat->Nat}{lab:Nat->Int}
def Cl(aK:Nat->Nat->Nat)(s:Nat)(i:Nat):Prop:=0<i/\(zj aK s i).length=i
theorem Cl.one{s i j:Nat}(h:Cl aK s i)(h':Cl aK s j):i=j:=zcA h.2 h'.2
open Classical in
noncomputable def KW(aK:Nat->Nat->Nat)(s:Nat):Nat:=if h:∃i,Cl aK s i then jd (zj aK s (Classical.choose h)) else 0
theorem Cl.K{s i:Nat}(h:Cl aK s i):KW aK s=jd (zj aK s i):=by
 have hex:∃i,Cl aK s i:=⟨i,h⟩;rw[KW,dif_pos hex,(Classical.choose_spec hex).one h]
theorem AD.sum{ss:bL}{c:Nat}{vs:aC}(h:AD aK lab ss c vs):c=(ss.map (KW aK)).sum:=by
 induction h with
 | nil=>rfl
 | @snoc ss c s0 i vs h hi hl ih =>
  rw[List.map_append,List.sum_append,<- ih];simp only[a_,bt,List.sum_cons,List.sum_nil,nC];rw[Cl.K ⟨hi,hl⟩]
theorem AD.len{ss:bL}{c:Nat}{vs:aC}(h:AD aK lab ss c vs):vs.length=ss.length:=by
 induction h with
 | nil=>rfl
 | snoc _ _ _ ih=>simp[ih]
theorem AD.get{ss:bL}{c:Nat}{vs:aC}(h:AD aK lab ss c vs):∀(k s:Nat),ss[k]?=some s->∃i,Cl aK s i/\vs[k]?=some (A2.rK (v7 aK s lab i))/\jd (zj aK s i)<=c:=by
 induction h with
 | nil=>intro k s hk;simp at hk
 | @snoc ss c s0 i vs h hi hl ih =>
  intro k s hk;have hv:=h.len;rcases eI k ss.length with h1|h1
  ·rw[fI h1] at hk;obtain⟨i',q1,q2,q3⟩:=ih k s hk;exact⟨i',q1,by rw[fI (by omega)];exact q2,by omega⟩
  ·rw[eM h1] at hk
   match hj:k - ss.length,hk with
   | 0,hk =>
    cases hk;exact⟨i,⟨hi,hl⟩,by rw[eM (by omega),hv,hj];rfl,by omega⟩
   | j+1,hk=>simp at hk
end
section
variable{f:A2.F}{l l':List A2.cO}{v v':V}
end
end
section
open Go.Vm.Sx
section
variable{aK:Nat->Nat->Nat}{lab:Nat->Int}{s i:Nat}
theorem Cl.le(h:Cl aK s i)(h6:jd (zj aK s i)<=600):i<=600:=by
 have:=Su (v6 (aK:=aK) (s0:=s) i);rw[h.2] at this;omega
theorem zjZ(h:Cl aK s i){j:Nat}(hj:j<i):∃w,(zj aK s i)[j]?=some w/\(zj aK s j)[j]?=some w/\A2.gr (A2.rowsOf (v7 aK s lab i).1) j=wU aK s j/\(wU aK s j).length=256:=by
 obtain⟨w,hw⟩:=wO h.2 hj;have tT:(zj aK s i)[j]?=some w:=by
  obtain⟨rs,e⟩:=Vt (aK:=aK) (s0:=s) (Nat.le_of_lt hj);rw[e,fI (cP.1 hw).1];exact hw
 exact⟨w,tT,hw,zm3 h.2 hj hw,xx hw⟩
theorem zhS(h:Cl aK s i){j y:Nat}(hj:j<i)(hy:y<256):∃k:Nat,k<i/\A2.gi (wU aK s j) y=(k:Int):=by
 obtain⟨w,hw⟩:=wO h.2 hj;obtain⟨k,e1,e2,_⟩:=zkX h.2 hw hy;refine⟨k,e2,?_⟩;simp only[wU,hw,A2.gi,K5,gj,uG hy,aS,ga,e1]
theorem zoP:(A2.rowsOf (v7 aK s lab i).1).length=i:=by simp[A2.rowsOf,v7]
theorem zoQ:(v7 aK s lab i).2.2=(zj aK s i).map lab:=rfl
theorem znk(h:Cl aK s i)(h6:jd (zj aK s i)<=600)(hl:∀w∈zj aK s i,-1<=lab w/\lab w<200):A2.pz (A2.rowsOf (v7 aK s lab i).1) (v7 aK s lab i).2.2=true:=by
 have h1:=h.le h6;have h0:=h.1;unfold A2.pz;rw[zoP,zoQ,gk,h.2];have hg:((c_ (i:Int) 1 || c_ 600 (i:Int)) || !((i:Int) == (i:Int)))=false:=by
  simp only[c_,beq_self_eq_true,mG,Bool.or_false,HN,decide_eq_false_iff_not];omega
 rw[hg,nD];refine cI.2 λj hj=>?_;obtain⟨w,e1,e2,e3,e4⟩:=zjZ (lab:=lab) h hj;unfold A2.Ez;rw[e3,e4];have e5:A2.gi ((zj aK s i).map lab) j=lab w:=by simp[A2.gi,e1]
 rw[e5];obtain⟨k1,k2⟩:=hl w (m8 e1);have e6:wM (A2.uw i (wU aK s j)) 256=true:=cI.2 λy hy=>by
  obtain⟨k,q1,q2⟩:=zhS h hj hy;simp only[A2.uw,q2,c_,nA,ei,EK,decide_eq_false_iff_not];omega
 rw[e6];simp only[c_,nA,ei,EK,decide_eq_false_iff_not,Lc];exact⟨rfl,by omega,by omega⟩
theorem zql(h:Cl aK s i)(h6:jd (zj aK s i)<=600)(hl:∀w∈zj aK s i,-1<=lab w/\lab w<200):A2.WD (v7 aK s lab i):=by
 have h1:=h.le h6;have hr:=A2.fm;have h9:(30000:Nat)<=reachBytes:=by decide
 refine⟨⟨by simp only[v7,gk,Lb];omega,λq hq=>?_⟩,?_,λz hz=>?_⟩
 ·simp only[v7,iH,Cd] at hq;obtain⟨j,hj,rfl⟩:=hq;obtain⟨w,e1,e2,e3,e4⟩:=zjZ (lab:=lab) h hj;refine⟨by show(wU aK s j).length * 8<=_;omega,λz hz=>?_⟩
  obtain⟨y,hy,rfl⟩:=ziO hz;obtain⟨k,q1,q2⟩:=zhS h hj (y:=y) (by show y<256;have:y<(wU aK s j).length:=hy;omega)
  show A2.Hq (A2.gi (wU aK s j) y);rw[q2];exact⟨by omega,by omega⟩
 ·simp only[v7,gk,h.2];omega
 ·simp only[v7,iH] at hz;obtain⟨w,hw,rfl⟩:=hz;obtain⟨k1,k2⟩:=hl w hw;exact⟨by omega,by omega⟩
end
end
section
open Go.Vm.Sx
section
variable{aK:Nat->Nat->Nat}{s:Nat}{P:Nat->Prop}
theorem ziQ{ws:bL}{g:Nat->Nat}(h:∀w∈ws,P w)(hg:∀y,P (g y)):∀y,∀w∈jt ws g y,P w
 | 0,w,hw=>h w hw
 | y+1,w,hw=>by
  simp only[jt,v5] at hw;split at hw
  ·exact ziQ h hg y w hw
  ·rcases oM.1 hw with h1|h1
   ·exact ziQ h hg y w h1
   ·rw[mF] at h1;rw[h1];exact hg y
theorem zgi(h:P s)(hn:∀w y,P (aK w y)):∀i,∀w∈zj aK s i,P w
 | 0,w,hw=>by
  rw[show zj aK s 0=[s] from rfl,mF] at hw;rw[hw];exact h
 | i+1,w,hw=>by
  simp only[zj] at hw;split at hw
  ·exact ziQ (zgi h hn i) (λy=>hn _ y) 256 w hw
  ·exact zgi h hn i w hw
end
theorem zeq{w k:Nat}(h:∀q,w.testBit q=true->q<k):w<2 ^ k:=by
 refine Nat.lt_pow_two_of_testBit w λq hq=>?_;cases hb:w.testBit q with
 | false=>rfl
 | true=>have:=h q hb;omega
section
variable{f:A2.F}{n:Nat}
theorem zhT{l:List Int}{k q:Nat}(h:∀z∈l,0<=z/\z.toNat<k)(hb:(wW l 0).testBit q=true):q<k:=by
 rw[zcB] at hb;simp only[Nat.zero_testBit,z_,List.any_eq_true] at hb;obtain⟨z,hz,e⟩:=hb;rw[E_] at e;have:=(h z hz).2;simp only[decide_eq_true_eq] at e;omega
theorem zqm(hf:GI f (mP f) n)(w y:Nat):Jx f w y<2 ^ (f.s.2.length+f.f.2.length):=by
 refine zeq λq hq=>?_;rw[Jx,zoJ,List.any_eq_true] at hq;obtain⟨k,_,e⟩:=hq;rw[ei] at e;have e2:=e.2;unfold S3 at e2;rw[gj] at e2;cases hs:f.s.2[k]? with
 | none=>rw[hs] at e2;simp at e2
 | some x =>
  cases hr:f.n.2[k]? with
  | none=>rw[hs,hr] at e2;simp at e2
  | some row =>
   rw[hs,hr] at e2;simp only[aS] at e2;split at e2
   ·exact zhT (hf.nr row (m8 hr)).2.2 e2
   ·simp at e2
theorem zqn(hf:GI f (mP f) n)(act:List Int):KY f act<2 ^ (f.s.2.length+f.f.2.length):=by
 refine zeq λq hq=>?_;rw[KY,zhO] at hq;simp only[Nat.zero_testBit,z_,List.any_eq_true] at hq;obtain⟨r,_,e⟩:=hq;unfold zp9 at e;cases hr:f.f.2[r.toNat]? with
 | none=>rw[hr] at e;simp[wW] at e
 | some row =>
  rw[hr] at e;exact zhT (hf.fr row (m8 hr)).2.2 e
theorem zqo(w:Nat):u_ f.s.2.length (mP f) w (HK f w):=zqa
theorem zqp{w:Nat}(hw:w<2 ^ (f.s.2.length+f.f.2.length)):-1<=HK f w/\HK f w<=(f.f.2.length:Int) - 1:=by
 rcases zqo (f:=f) w with⟨e,_⟩|⟨k,e,h1,h2,h3,_⟩
 ·rw[e];omega
 ·rw[e];have:k<f.s.2.length+f.f.2.length:=by
   rcases eI k (f.s.2.length+f.f.2.length) with h|h
   ·exact h
   ·have:=NO (r9 hw (Nat.pow_le_pow_right (by decide) h))
    rw[h3] at this;cases this
  omega
theorem zoR(hf:GI f (mP f) n)(Ht:f.f.2.length<=200){act:List Int}{i:Nat}:∀w∈zj (Jx f) (KY f act) i,-1<=HK f w/\HK f w<200:=λw hw=>by
 have:=zqp (zgi (P:=λw=>w<2 ^ (f.s.2.length+f.f.2.length)) (zqn hf act) (λw y=>zqm hf w y) i w hw);omega
end
end
section
open Go.Vm.Sx
end
section
open Go.RowKit Go.ChangeAt Go.WideShapes
set_option maxRecDepth 1000000
def t97:A2.cO:=(true,[97])
theorem wd0:A2.WD uE where
 n:=⟨by decide,λq hq=>by
  have h1:q∈[(true,(List.range 256).map λy=>if y=97 then (2:Int) else 1),(true,List.replicate 256 1),(true,List.replicate 256 1)]:=hq
  have hz:∀z∈q.2,z=1\/z=2:=λz hz=>by
   simp only[dN,Cc,Bc] at h1;rcases h1 with rfl|rfl|rfl
   ·obtain⟨y,_,rfl⟩:=iH.1 hz;split<;>simp
   ·exact .inl (List.eq_of_mem_replicate hz)
   ·exact .inl (List.eq_of_mem_replicate hz)
  have hl:q.2.length=256:=by
   simp only[dN,Cc,Bc] at h1;rcases h1 with rfl|rfl|rfl<;>simp
  refine⟨by rw[hl];decide,λz h=>?_⟩
  unfold A2.Hq
  rcases hz z h with rfl|rfl<;>decide⟩
 l:=⟨by decide,λz hz=>by
  have h1:z∈[(-1:Int),-1,0]:=hz;unfold A2.Hq;simp only[dN,Cc,Bc] at h1
  rcases h1 with rfl|rfl|rfl<;>decide⟩
theorem abI:A2.pz (A2.rowsOf uE.1) uE.2.2=true:=by kernel_rfl
theorem abJ:A2.Gf uE t97.2=.br [.int .i64 2,.bT]:=by kernel_rfl
def AL:dM:=[(33,[A2.rK uE,A2.C8 t97],.br [.int .i64 2,.bT]),(27,[A2.rK uE],.bool true),(28,[E5,S1],wdV),(14,[S0],.br [E5,.bT]),(45,NI,S0),(66,NI,VE)]
theorem abK:ju prog mE [(45,NI,S0),(66,NI,VE)]:=yH mixed iE fN (yH mixed iE fN xj (ziJ 0) rfl rfl (hit:=λ_ _ _ sw h=>Pb sw h)) (zkW 0) rfl rfl (hit:=λ_ _ _ sw h=>Pb sw h)
theorem abL:mX prog { g:=mE,hk:=dK [],uq:=fG }:=⟨λf args v h=>(by cases h),λn f args H out H' h=>(by cases h),λ_ _ _ sw h=>Pb sw h⟩
theorem abM:ju prog mE AL:=by
 refine vj (vj (vj (vj abK λd H g w bp lc h1 h2 h3=>?_) λd H g w bp lc h1 h2 h3=>?_) λd H g w bp lc h1 h2 h3=>?_) λd H g w bp lc h1 h2 h3=>?_
 ·obtain⟨u,H',hc,hz⟩:=zp8 (ziK 0);exact Xn mixed iE fN abL hc rfl hz (λsz xs e h=>by cases h) h1 h2 h3
 ·obtain⟨u,H',hc,hz⟩:=AK;exact Xn mixed iE fN abv hc rfl hz (λsz xs e h=>by cases h) h1 h2 h3
 ·have he:=A2.M5 ZJ rfl uE wd0;rw[abI] at he;exact Oa mixed iE fN FZ (he _ (dB _) ⟨[],[]⟩) (by simp[aI,A2.C7]) rfl h1 h2 h3
 ·have he:=A2.aal ZJ rfl rfl (by kernel_rfl) uE wd0 t97 (by decide) (λb hb=>by
   have h1:b∈[(97:Int)]:=hb;obtain rfl:=mF.1 h1
   exact⟨by decide,by decide⟩)
  rw[abJ] at he;obtain⟨k,hk⟩:=he;exact Oa mixed iE fN FZ (hk k (dB _) ⟨[],[]⟩) (by simp[aI,A2.C7,A2.Ge]) rfl h1 h2 h3
theorem ziR(n:Nat):zk prog { g:=mE,hk:=dK AL,uq:=fG } (n+60) 26 [] ⟨[],[]⟩=some (.ret (.bool true),⟨[],[]⟩):=by kernel_rfl
theorem abN:ju prog mE ((26,[],.bool true)::AL):=yH mixed iE fN abM (ziR 0) rfl rfl (hit:=λ_ _ _ sw h=>Pb sw h)
end
section
open Go.Vm.Sx
set_option maxRecDepth 1000000
def gBs(b:Bool):Nat->Nat->bY:=if b then glx else mE
def S8(b:Bool)(l:dM):Gl:={ g:=gBs b,hk:=dK l }
def tB:bL:=[14,26,28,30,43]
theorem GKH{b:Bool}{l:dM}(h:∀x∈l,tB.any (Nat.beq x.1)=true):GK (S8 b l) tB where
 no:=λf hf args=>yW λx hx=>by
  cases hb:Nat.beq f x.1 with
  | false=>rfl
  | true =>
   have hx:=h x hx;rw[<- eR hb,hf] at hx;cases hx
 h2:=λ_ _ _ _ _=>rfl
 uq:=λ_=>rfl
theorem knH{b:Bool}{l:dM}{f:FuncId}{xs:aC}{v:V}(h:dK l f xs=some v):rY 1 prog (S8 b l) f xs v:=λn hn H=>by
 obtain⟨n,rfl⟩:∃k,n=k+1:=⟨n - 1,by omega⟩
 obtain⟨bs,es⟩:=H;simp only[zk,show(S8 b l).hk f xs=some v from h]
theorem hkH{b:Bool}{l:dM}(h:ju prog (gBs b) l):mX prog (S8 b l):=h
def rL:dM:=[(26,[],.bool true)]
theorem NL:ju prog mE rL:=vj xj λd H g w bp lc h1 h2 h3=>abN.pure 26 [] (.bool true) rfl d H g w bp lc h1 h2 h3
theorem zq1{L:dM}(hl:ju prog mE L){nl:Bool}{l:List Cr}(h:Jf l):ju prog mE ((14,[zZ nl l],bV l)::L) :=
 vj hl λd H g w bp lc h1 h2 h3=>by
  obtain⟨u,H',hc,hz⟩:=zhz nl l h;exact Xn mixed iE fN hkb hc (by simp[aI,Y6]) hz (λsz xs e=>by simp[bV]) h1 h2 h3
theorem VL{f g:FuncId}{ys xs:aC}{v:V}{l:dM}(h:Nat.beq f g=false):dK ((g,ys,v)::l) f xs=dK l f xs:=by
 simp only[dK,h]
theorem zqq{p:A8}(hp:BY p)(h:c_ 500 (eg 0 p.l)=false):Jf p.l:=by
 have IA:reachBytes<=140737488355328:=by decide
 have h1:=hp.Cm
 simp only[c_,decide_eq_false_iff_not] at h;rcases eI 200 p.l.length with hh|hh
 ·exact⟨hp.len,hp.wf,hp.can,.inl hh⟩
 ·have hn:=(rX p.l 0 hp.wf (by omega) (by omega) (by omega)).2
  exact⟨hp.len,hp.wf,hp.can,.inr λc hc=>by have:=hn c hc;omega⟩
section
variable{gl:Gl}{fj:bL}{f:A2.F}{n i:Nat}{act:List Int}
end
theorem zoS{ck:Bool}{rk:A2.cO->Bool}{l:List A2.cO}(h:D1 ck rk l=true):ck=true/\∀a∈l,rk a=true:=by
 simp only[D1,ei,Cy] at h;exact⟨h.1,h.2.2.2⟩
end
section
open Go.Vm.Sx
theorem zqr{p:A8}(h:A2.sq p=false):c_ 500 (eg 0 p.l)=false/\p.a.2.length<=16:=by
 simp only[A2.sq,HN] at h;refine⟨h.1,?_⟩;have:=h.2;simp only[c_,decide_eq_false_iff_not] at this;omega
end
section
open Go.Vm.Sx
def OkD(d:A2.D):Prop:=A2.WD d/\A2.pz (A2.rowsOf d.1) d.2.2=true
open Classical in
noncomputable def ckH(f:FuncId)(xs:aC)(H:Hp):Option (Out×Hp):=if f=27/\∃d,OkD d/\Ur H xs [A2.rK d] then some (.ret (.bool true),H) else none
noncomputable def K2(L:dM)(p:A8)(T:Nat->V)(bk:List aT):Gl:={ g:=mE,hk:=dK L,eV:=λn f xs H=>if Nat.beq f 27 then ckH f xs H else K1 25 [.agg (jb p)] T bk n f xs H,uq:=A2.u3 }
theorem zpk{f:FuncId}{back:Bool}{ty:aB}:A2.u3 (xe f back ty)=false:=by
 cases h:A2.u3 (xe f back ty) with
 | false=>rfl
 | true =>
  have:=eR h;unfold xe at this;omega
theorem zq2{xs:aC}{H:Hp}{g:Gh}{w:aP}{bp:dF}{l:Vm.Loc}{d:Nat}{D:A2.D}(hD:OkD D)(hf:Ur H xs [A2.rK D])(h1:gF prog mE g)(h2:nu g H.au w)(h3:dI g H.au.length xs bp):Calls prog 27 bp w (ef d H g w l (.ret (.bool true)) H) :=
 zlZ (dd:=d) (gl:={ g:=mE }) (v:=.bool true) (H':=⟨[],[]⟩) rfl h1 h2 hf h3 λg' q1 q2 q3=>by
  have hr:=A2.M5 NK rfl D hD.1 _ (dB _) ⟨[],[]⟩;rw[hD.2] at hr;exact Oa (H:=⟨[],[]⟩) mixed iE fN NJ hr (by simp[aI,A2.C7]) rfl q1 q2 q3
theorem zqs{L:dM}{p:A8}{T:Nat->V}{bk:List aT}(hL:ju prog mE L)(hB:Br 25 [.agg (jb p)] T bk):mX prog (K2 L p T bk) :=
 ⟨hL.pure,λn f xs H out H' h d hd g w bp l h1 h2 h3=>by
  have h9:(if Nat.beq f 27=true then ckH f xs H else K1 25 [.agg (jb p)] T bk n f xs H)=some (out,H'):=h
  clear h;split at h9
  ·unfold ckH at h9;split at h9
   ·rename_i hc;obtain⟨rfl,D,hD,hz⟩:=hc;obtain⟨rfl,rfl⟩:Out.ret (.bool true)=out/\H=H':=by simpa using h9
    exact zq2 hD hz h1 h2 h3
   ·exact absurd h9 (by simp)
  ·exact znf (n:=n) hB h9 d g w bp l h1 h2 h3,λ_ _ _ sw h=>(by rw[show(K2 L p T bk).uq=A2.u3 from rfl,zpk] at h;cases h)⟩
theorem zj0(p:A8):(V.agg (jb p)).top=0:=by
 have h2:(A2.OS p.t).top=0:=by rw[A2.OS,xH];exact A2.gT A2.Ge _
 simp[jb,V.top,aI,Y6,A2.Au,h2]
theorem zoT{p:A8}(hp:BY p):(∃L,ju prog mE L/\(∀x∈L,x.1=25\/tB.any (Nat.beq x.1)=true)/\dK L 26 []=some (.bool true)/\dK L 25 [.agg (jb p)]=some (.br [.aG,.bool false])) \/
  ∃(f:A2.F)(n c:Nat)(T:Nat->aC)(bk:List aT),Br 25 [.agg (jb p)] (λm=>.br [.sl 2 (T m) .no,.bool true]) bk/\c<=600/\p.a.2.length<=16/\GI f (mP f) n/\f.f.2.length<=200/\∀m,AB (Jx f) (HK f) m (p.a.2.map λa=>KY f a.2) c bk (T m):=by
 have v_:∀x∈rL,tB.any (Nat.beq x.1)=true:=λx hx=>by
  obtain rfl:=mF.1 hx;rfl
 have NM:∀{L:dM},ju prog mE L->(∀x∈L,tB.any (Nat.beq x.1)=true)->dK L 26 []=some (.bool true)->Kn prog (S8 false L) 25 [.agg (jb p)] (.br [.aG,.bool false])->(∃L,ju prog mE L/\(∀x∈L,x.1=25\/tB.any (Nat.beq x.1)=true)/\dK L 26 []=some (.bool true)/\dK L 25 [.agg (jb p)]=some (.br [.aG,.bool false])):=λ{L} hL eH rL he =>
  ⟨_,ziN hL (hkH (b:=false) hL) rfl he (by simp[aI,zj0]) rfl,λx hx=>by
   rcases dN.1 hx with rfl|hx
   ·exact .inl rfl
   ·exact .inr (eH x hx),by rw[VL rfl];exact rL,VH⟩
 cases hb:A2.sq p with
 | true=>exact .inl (NM NL v_ rfl (A2.Ng (GKH v_) rfl rfl p hp (k:=0) (.big hb)))
 | false =>
 obtain⟨Nn,abR⟩:=zqr hb;have hg:=zqq hp Nn;have NN:=zq1 NL (nl:=p.nl) hg;have BZ:dK ((14,[zZ p.nl p.l],bV p.l)::rL) 14 [zZ p.nl p.l]=some (bV p.l):=VH;have GM:∀x∈((14,[zZ p.nl p.l],bV p.l)::rL:dM),tB.any (Nat.beq x.1)=true:=λx hx=>by
  rcases dN.1 hx with rfl|hx
  ·rfl
  ·exact v_ x hx
 have S9:dK ((14,[zZ p.nl p.l],bV p.l)::rL) 26 []=some (.bool true):=by rw[VL rfl];rfl
 by_cases he:bE p.l=.bT
 ·obtain⟨e1,hw,hq,hs,oc,hlen⟩:=zqZ hg he hp.q;rcases zqh hw hq (by omega) (by omega) p.a (λa h=>(hp.a.2 a h).1) (by have:=hp.a.1;have:=A2.fm;omega) with⟨k,OV⟩|⟨Ju,T,bk,OV,c,hc,hT⟩
  ·have abS:ju prog mE ((30,[A2.fv (fF p.l),A2.rv p.a],.br [.aG,.ec 396 (.obj k)])::(14,[zZ p.nl p.l],bV p.l)::rL):=vj NN λd H g w bp lc h1 h2 h3=>by
    have:=OV d H g w bp lc h1 h2 h3;rw[mT] at this;exact this
   have K3:∀x∈((30,[A2.fv (fF p.l),A2.rv p.a],.br [.aG,.ec 396 (.obj k)])::(14,[zZ p.nl p.l],bV p.l)::rL:dM),tB.any (Nat.beq x.1)=true:=λx hx=>by
    rcases dN.1 hx with rfl|hx
    ·rfl
    ·exact GM x hx
   refine .inl (NM abS K3 (by rw[VL rfl];exact S9) (A2.Ng (GKH K3) rfl rfl p hp (.bad hb (fF p.l) 396 k (knH ?_) (knH VH))))
   rw[VL rfl,BZ,e1]
  ·obtain⟨tP,OO⟩:=zoS Ju;obtain⟨hF,_,Ht⟩:=zjW hq tP (n:=5000) (by omega)
   have abT:dK ((14,[zZ p.nl p.l],bV p.l)::rL) 14 [zZ p.nl p.l]=some (.br [A2.fv (fF p.l),.bT]):=by rw[BZ,e1]
   let gA:Gl:={ g:=mE,hk:=dK ((14,[zZ p.nl p.l],bV p.l)::rL),eV:=K1 30 [A2.fv (fF p.l),A2.rv p.a] (λm=>.br [.sl 2 (T m) .no,.bT]) bk }
   have hGA:GK gA [14,26,30] :=
    {no:=λf hf args=>yW λx hx=>by
      cases hb:Nat.beq f x.1 with
      | false=>rfl
      | true =>
       have e:=eR hb;rcases dN.1 hx with rfl|hx
       ·rw[e] at hf;cases hf
       ·obtain rfl:=mF.1 hx;rw[e] at hf;cases hf
     h2:=λf hf n args H=>by
      show K1 30 [A2.fv (fF p.l),A2.rv p.a] (λm=>.br [.sl 2 (T m) .no,.bT]) bk n f args H=none;refine zne λe=>?_;rw[e] at hf;cases hf
     uq:=λ_=>rfl }
   have QF:mX prog gA:=⟨NN.pure,λn f xs H out H' h d hd g w bp l h1 h2 h3=>znf (n:=n) OV h d g w bp l h1 h2 h3,λ_ _ _ _ h=>(by cases h)⟩
   have abU:0<(p.a.2.map λa=>KY (fF p.l) a.2).length:=by
    simp only[D1,ei,decide_eq_true_eq] at Ju;rw[gk];omega
   have dy:0<aI (T 2):=JE (dU _) (((hT 2).md (hd:=[.cells [] 0,.cells [] 0]) hc).2.2 abU)
   obtain⟨n,cj⟩:=A2.R8 hGA rfl rfl p hp (k:=1) hb (fF p.l) T bk dy (λn hn H=>by
     obtain⟨n,rfl⟩:∃k,n=k+1:=⟨n - 1,by omega⟩
     obtain⟨bs,es⟩:=H;simp only[zk,show gA.hk 14 [zZ p.nl p.l]=_ from abT]) (λn hn H=>by
     obtain⟨n,rfl⟩:∃k,n=k+1:=⟨n - 1,by omega⟩
     obtain⟨bs,es⟩:=H;have h0:gA.hk 30 [A2.fv (fF p.l),A2.rv p.a]=none:=yW λx hx=>by
      rcases dN.1 hx with rfl|hx
      ·rfl
      ·obtain rfl:=mF.1 hx;rfl
     have h1:gA.eV n 30 [A2.fv (fF p.l),A2.rv p.a] ⟨bs,es⟩=some (.ret (.br [.sl 2 (T bs.length) .no,.bT]),⟨bs++bk,es⟩):=zjY (f:=30) (xs:=[A2.fv (fF p.l),A2.rv p.a]) (T:=λm=>.br [.sl 2 (T m) .no,.bT]) (bs:=bk) (n:=n) (H:=⟨bs,es⟩)
     simp only[zk,h0,h1]) (λm=>by rw[(hT m).len,gk])
   refine .inr ⟨fF p.l,_,c,T,bk,λd H g w bp l h1 h2 h3=>?_,hc,abR,hF,Ht,hT⟩;have Jy:FJ ((List.range bk.length).map (2 + ·)) ⟨.cells (jb p) 60::.cells (A2.fc (fF p.l)) 30::bk,[]⟩ bk :=
    {nodup:=List.Pairwise.map _ (λx y b_ e=>b_ (by simpa using e)) List.nodup_range
     len:=by simp
     get:=λj k hk=>by
      have hj:j<bk.length:=by have:=(cP.1 hk).1;simpa using this
      rw[gj,uG hj] at hk;simp only[aS,bu] at hk;subst hk;obtain⟨cs,t,e,hn⟩:=((hT 2).md (hd:=[.cells [] 0,.cells [] 0]) hc).2.1 bk[j] (List.getElem_mem hj);refine⟨cs,t,?_,by rw[fQ hj,e],hn⟩
      show(aT.cells (jb p) 60::aT.cells (A2.fc (fF p.l)) 30::bk)[2+j]?=_
      rw[show 2+j=j+1+1 by omega,List.getElem?_cons_succ,List.getElem?_cons_succ,fQ hj,e] }
   obtain⟨_,_,p2,p3,p4,p5,p6,p7⟩:=(hT 2).one (hT H.au.length);refine XU mixed iE fN QF cj (by simp[aI,zj0]) Jy (v':=.br [.sl 2 (T H.au.length) .no,.bool true]) (.br rfl λj x y hx hy=>?_) (λ_ _ _ e=>by cases e) (by simp only[V.top,aI];omega) h1 h2 h3
   match j,hx,hy with
   | 0,hx,hy =>
    cases hx;cases hy;exact .sl p2 p3 p4 p5 (p6 _ λj hj=>by rw[gj,uG hj];rfl)
   | 1,hx,hy=>cases hx;cases hy;exact .same rfl
   | j+2,hx,hy=>simp at hx
 ·obtain⟨e1,k,e2⟩:=zq0 he;have hz:V.agg zF=A2.fv ⟨(true,[]),(true,[]),(true,[]),(true,[])⟩:=rfl;have BZ:=BZ.trans (congrArg some (show bV p.l=.br [A2.fv ⟨(true,[]),(true,[]),(true,[]),(true,[])⟩,.ec 396 (.obj k)] by rw[e1,hz,e2]))
  exact .inl (NM NN GM S9 (A2.Ng (GKH GM) rfl rfl p hp (.ref hb ⟨(true,[]),(true,[]),(true,[]),(true,[])⟩ 396 k (knH BZ))))
theorem Jz(n:Nat)(xs:aC)(h:jk prog n 60 xs):∃gl:Gl,gl.g=mE/\mX prog gl/\∃k,zk prog gl k 5 [.agg xs] ⟨[],[]⟩=some (.ret (.bool true),⟨[],[]⟩):=by
 obtain⟨p,rfl,hp⟩:=zoo h;have eH:∀{L:dM},(∀x∈L,x.1=25\/tB.any (Nat.beq x.1)=true)->∀f,Nat.beq f 25=false->tB.any (Nat.beq f)=false->∀xs,dK L f xs=none:=λ{L} hL f h1 h2 xs=>yW λx hx=>by
  cases hb:Nat.beq f x.1 with
  | false=>rfl
  | true =>
   have e:=eR hb;rcases hL x hx with h|h
   ·rw[e,h] at h1;cases h1
   ·rw[e,h] at h2;cases h2
 rcases zoT hp with⟨L,hL,YR,rL,A9⟩|⟨f,k,c,T,bk,OV,hc,ha,hF,Ht,hT⟩
 ·refine⟨{ g:=mE,hk:=dK L,uq:=A2.u3 },rfl,⟨hL.pure,λn f args H out H' h=>(by cases h),λ_ _ _ sw h=>(by rw[show({ g:=mE,hk:=dK L,uq:=A2.u3 }:Gl).uq=A2.u3 from rfl,zpk] at h;cases h)⟩,?_⟩
  exact A2.Jz rfl (eH YR 5 rfl rfl) (λ_ _ _=>rfl) (eH YR 17 rfl rfl) (λ_ _ _=>rfl) rL p (.inl A9)
 ·have v_:∀x∈rL,x.1=25\/tB.any (Nat.beq x.1)=true:=λx hx=>by
   obtain rfl:=mF.1 hx;exact .inr rfl
  refine⟨K2 rL p (λm=>.br [.sl 2 (T m) .no,.bool true]) bk,rfl,zqs NL OV,?_⟩;obtain⟨m1,m2,m3⟩:=(hT 1).md (hd:=[.cells (jb p) 60]) hc;have Oj:∀f',Nat.beq f' 27=false->f'≠25->∀n xs H,(K2 rL p (λm=>.br [.sl 2 (T m) .no,.bool true]) bk).eV n f' xs H=none:=λf' h0 h1 n xs H=>by
   show(if Nat.beq f' 27=true then _ else _)=none
   rw[h0,if_neg (by simp)]
   exact zne h1
  refine A2.Jz rfl (eH v_ 5 rfl rfl) (Oj 5 rfl (by decide)) (eH v_ 17 rfl rfl) (Oj 17 rfl (by decide)) rfl p (.inr ⟨Jx f,HK f,_,T 1,bk,λn=>?_,by rw[(hT 1).len,gk];omega,m1,λv hv n=>?_⟩)
  ·have h0:(K2 rL p (λm=>.br [.sl 2 (T m) .no,.bool true]) bk).hk 25 [.agg (jb p)]=none:=yW λx hx=>by
    obtain rfl:=mF.1 hx;rfl
   have h1:(K2 rL p (λm=>.br [.sl 2 (T m) .no,.bool true]) bk).eV n 25 [.agg (jb p)] ⟨[.cells (jb p) 60],[]⟩=some (.ret (.br [.sl 2 (T 1) .no,.bool true]),⟨.cells (jb p) 60::bk,[]⟩):=zjY (f:=25) (xs:=[.agg (jb p)]) (T:=λm=>.br [.sl 2 (T m) .no,.bool true]) (bs:=bk) (n:=n) (H:=⟨[.cells (jb p) 60],[]⟩);simp only[zk,h0,h1]
  ·have h0:(K2 rL p (λm=>.br [.sl 2 (T m) .no,.bool true]) bk).hk 27 [v]=none:=yW λx hx=>by
    obtain rfl:=mF.1 hx;rfl
   obtain⟨s0,i,q0,q1,q2,q3,q4⟩:=(m1 v hv).frz (H:=⟨.cells (jb p) 60::bk,[]⟩);obtain⟨a,_,rfl⟩:=iH.1 q0;have hl:=zoR hF Ht (act:=a.2) (i:=i)
   have h1:(K2 rL p (λm=>.br [.sl 2 (T m) .no,.bool true]) bk).eV n 27 [v] ⟨.cells (jb p) 60::bk,[]⟩=some (.ret (.bool true),⟨.cells (jb p) 60::bk,[]⟩):=if_pos ⟨rfl,v7 (Jx f) (KY f a.2) (HK f) i,⟨zql ⟨q1,q2⟩ q3 hl,znk ⟨q1,q2⟩ q3 hl⟩,rfl,λj x y hx hy=>by
    match j,hx,hy with
    | 0,hx,hy=>cases hx;cases hy;exact⟨q4,λsz xs e h=>by cases h⟩
    | j+1,hx,hy=>simp at hx⟩
   simp only[zk,h0,h1]
end
def S60:List aB:=[3,4,5,9,24,27,28,48,50,51,53,55,58,60,78]
theorem GN:S60.all (TP prog S60)=true:=by kernel_rfl
theorem zqt{g:Gh}{xs:aC}{cs:dF}(h:RC g xs cs.toList):aR g (.agg xs) (.agg cs):=by
 refine .agg (by rw[RC.length h,AM]) (λj x hx=>?_) λj x v hx hv=>?_
 ·obtain⟨v,_,hg⟩:=h.get j x hx;exact hg.1
 ·obtain⟨v',lX,hg⟩:=h.get j x hx;rw[E9,hv] at lX;cases lX;exact hg.2.1
theorem zj1{g:Gh}:∀{xs:aC}{cs:dA},RC g xs cs->aI xs=0
 | [],[],_=>rfl
 | x::xs,v::cs,h=>by simp[aI,h.1.2.2.1,zj1 h.2]
 | [],_::_,h=>h.elim
 | _::_,[],h=>h.elim
end Go.Proofs.YthohlnmcjkjeiaaGreatDoor
namespace Go.Proofs.YthohlnmcjkjeiaaGreatDoor.SubsetNumbers
open Go.Proofs.Tryz
set_option maxRecDepth 100000
set_option maxRecDepth 100000
open Go Go.Vm Go.ChangeShapes Go.WideShapes Go.ChangeAt Go.RowKit
theorem contract(H:Type)(enc:aB×bw->H)(W:aP)(base:Nat)(args:dF)(ds gs:List (DataW H))(before:List MemPlace)
  (sS:∀(j:Nat) t v,f5.params[j]?=some t->args[j]?=some v->Value.okWide prog W .any base t v)
  (hW:DataW.Whole enc prog f5.params.toList Rows.subsetNumbersSpec.vars false W args.toList ds gs before)
  (tR:(DataW.weightsEach prog (f5.params.toList++(OpenSpec.ofChange Rows.subsetNumbersSpec).bare.plain.varTypes prog) (ds++gs)).all (·<=reachBytes)=true) (hL:laidMetH prog Rows.subsetNumbersRow.laid W) :
  Calls prog 5 args W λe W'=>∃v,e=.returned v/\Rows.subsetNumbersSpec.post enc prog f5 false true false false W args v W':=by
 have L3:=hW;obtain⟨p,q,hA0,hV,rfl,hfz,sy⟩:=hW;have hA:DataW.TrodAll enc prog W 0 (λ_=>true) true f5.params.toList args.toList ds p:=hA0;rw[params5] at hA;obtain⟨v0,vs0,d0,ds0,p0,q0,fM,rfl,rfl,h0,r0⟩:=trodAll_cons hA;obtain⟨rfl,rfl,rfl⟩:=trodAll_nil r0;obtain rfl:args=#[v0]:=by cases args;simp_all
 obtain⟨n,hn⟩:=h0;have AU:∀w∈d0.weights prog 60,w<=reachBytes:=λw hw=>by
  have:=Cy.1 tR w (by
   rw[params5];show w∈DataW.weights prog 60 d0++_
   exact w_ _ hw)
  simpa using this
 obtain⟨xs,x1,x2,x3⟩:=zgS (S:=S60) GN n 60 _ _ (by decide) hn AU
 obtain⟨cs,rfl,fK,_⟩:∃cs,v0=.agg cs/\cs.size=prog.cellsOf 60/\Row.okWide prog W .any base 60 cs:=by
  have A9:=sS 0 60 v0 (by rw[params5];rfl) rfl
  simp only[Value.okWide,underlying60] at A9;exact A9
 have x2':RC (xB W) xs cs.toList:=x2;have cj:=Jz n xs x1;obtain⟨gl,hg,hK,k,hk⟩:=cj;refine(zkg mixed iE fN hK hk (by rw[hg];exact zqL hL) ⟨rfl,λj y v hy hv=>?_,?_,?_⟩).mono λe W' ⟨he,hb⟩=>⟨_,he,?_⟩
 ·match j,hy,hv with
  | 0,hy,hv=>cases hy;cases hv;exact zqt x2'
  | j+1,hy,_=>simp at hy
 ·simp[aI,V.top,zj1 x2']
 ·intro y hy sz ys e;simp only[mF] at hy;subst hy;simp
 ·exact zls rfl (show f5.resultTypes=#[4] from rfl) underlying4 laidOut (by rw[params5];intro t ht;simp at ht;subst ht;exact⟨by kernel_rfl,of_decide_eq_true (by kernel_rfl)⟩) rfl L3 hb
theorem lifted(os:Os)(started:os.Started)(H:Type)(enc:aB×bw->H)(F:Stop.Interp) :
  ReturnsInHanded {} Tryz.checked os 5 .any ((OpenSpec.ofChange Rows.subsetNumbersSpec).preRow enc prog f5 Rows.subsetNumbersRow.domain false Rows.subsetNumbersRow.laid) (((OpenSpec.ofChange Rows.subsetNumbersSpec).at F).post enc prog f5 false true false false):=by
 have hx:∃places,DataW.whole enc prog ((World.doorLaid prog 320 os).forCall (λ_ _=>0) ⟨#[],#[.agg #[.slice none 0 0,.slice none 0 0,.slice none 0 0]],[]⟩).memory f5.params.toList Rows.subsetNumbersSpec.vars false #[Value.agg #[.slice none 0 0,.slice none 0 0,.slice none 0 0]].toList 8=some ([.agg [.nil,.nil,.nil]],[],places):=⟨[],by kernel_rfl⟩
 obtain⟨places,hx⟩:=hx;refine returnsInHanded_of_row (C:=Tryz.checked) (s:=OpenSpec.ofChange Rows.subsetNumbersSpec) own started (by kernel_rfl) func5
  (witness_row_atRef (enc:=enc) (C:=Tryz.checked) false (World.doorLaid prog 320 os) #[.agg #[.slice none 0 0,.slice none 0 0,.slice none 0 0]] rfl (by kernel_rfl) (by kernel_rfl) (by kernel_rfl)
   (OpenSpec.preRow_of_cond 8 hx (by kernel_rfl) (λk hk=>by cases hk) (by kernel_rfl) (zkF os _))) ?_
 intro W base args ds gs before sS hW _ _ tR hL _ _;exact contract H enc W base args ds gs before sS hW tR hL
theorem said:Rows.SubsetNumbersSaid :=
 OpenClaim.holds_of_cond 5 f5 rfl rfl rfl rfl rfl rfl rfl ⟨rfl,rfl,rfl,rfl,rfl⟩ rfl rfl rfl rfl rfl named func5 facts
  (of_decide_eq_true (by kernel_rfl)) (by unfold Func.isWrapper;first|(rw[if_pos (by decide +kernel)];kernel_rfl)|(rw[if_neg (by decide +kernel)];exact⟨rfl,rfl⟩))
  (λos started H enc _ F=>by rw[OpenClaim.pre_eq_preRow];exact lifted os started H enc F)
theorem plain(f:FuncId)(fn:Func)(hf:Tryz.pinned.checked.prog.funcNamed "bolter/bolterlaw11.SubsetNumbers"=some f) (LR:Tryz.pinned.checked.prog.funcs[f]?=some fn) :
  true=Tryz.pinned.checked.prog.looks []/\∀(j:Nat) t,fn.params[j]?=some t->Tryz.pinned.checked.prog.wantsStandIn t=false:=by
 obtain rfl:f=5:=D5 ((show prog.funcNamed "bolter/bolterlaw11.SubsetNumbers"=some 5 by kernel_rfl).symm.trans hf) |>.symm
 obtain rfl:fn=f5:=(D5 (func5.symm.trans LR)).symm;refine⟨by kernel_rfl,λj t ht=>?_⟩
 rw[params5] at ht;obtain rfl:t=60:=by simpa using Array.mem_of_getElem? ht
 exact(show prog.wantsStandIn 60=false by kernel_rfl)
theorem card:Rows.SubsetNumbersCardSaid :=
 Claim7.holds_tied_plain_at .later [] _ _ _ _ said (λ_ h=>by cases h) (by kernel_rfl) (λ_ h=>by cases h) subsetNumbers_row_tie rfl ⟨rfl,rfl⟩ (by kernel_rfl) rfl plain (by kernel_rfl)
end Go.Proofs.YthohlnmcjkjeiaaGreatDoor.SubsetNumbers
