/- Seat 8, subset: All, walked at the empty heap. Conditions: none but those named. -/
import Derived.Test.YthohlnmcjkjeiaaGreatDoorVmE
import Derived.Test.YthohlnmcjkjeiaaGreatDoorVmO
import Derived.Test.YthohlnmcjkjeiaaGreatDoorVmQ
namespace Go.Proofs.YthohlnmcjkjeiaaGreatDoor
open Go Go.Vm
open Go.Proofs.Tryz
set_option maxRecDepth 100000
section
set_option pp.deepTerms true
set_option pp.maxSteps 200000
variable{gl:Gl}
inductive AW(aO:Nat->Nat->Nat)(lab:Nat->Int)(B:List aV):bN->Nat->aD->Prop
 |nil:AW aO lab B [] 0 []
 |snoc {ss:bN} {c s0 i b:Nat} {NB:bN} {vs:aD} (h:AW aO lab B ss c vs) (hi:0<i) (hl:(zm aO s0 i).length=i) (hr:RW aO s0 B b i NB) (iA:aI vs<=b):AW aO lab B (ss++[s0]) (c+qZ (zm aO s0 i)) (vs++[AM b NB ((zm aO s0 i).map lab)])
theorem AW.app{aO:Nat->Nat->Nat}{lab:Nat->Int}{B:List aV}{ss:bN}{c:Nat}{vs:aD}(h:AW aO lab B ss c vs)(xs:List aV):AW aO lab (B++xs) ss c vs:=by
 induction h with
 | nil=>exact .nil
 | snoc h hi hl hr iA ih=>exact .snoc ih hi hl (hr.mono λk x _ e=>vO e) iA
theorem AW.len{aO:Nat->Nat->Nat}{lab:Nat->Int}{B:List aV}{ss:bN}{c:Nat}{vs:aD}(h:AW aO lab B ss c vs):vs.length=ss.length:=by
 induction h with
 | nil=>rfl
 | snoc _ _ _ _ _ ih=>simp[ih]
theorem zmW{aO:Nat->Nat->Nat}{s0 b i:Nat}{B:List aV}{NB:bN}{dU:List Int}(h:RW aO s0 B b i NB)(hi:0<i):0<(AM b NB dU).top:=by
 obtain⟨k,hk⟩:∃k,k∈NB:=by
  cases NB with
  | nil=>have:=h.len;simp at this;omega
  | cons k l=>exact⟨k,eH ..⟩
 have h1:(fX b k).top<=aI (NB.map (fX b)):=zn (mj.2 ⟨k,hk,rfl⟩);have h2:(aW (zl 1 27 (NB.map (fX b)))).top=aI (NB.map (fX b)):=by rw[jm,v5]
 simp only[fX,V.top] at h1;simp only[AM,V.top,aI,h2];omega
theorem AW.top{aO:Nat->Nat->Nat}{lab:Nat->Int}{B:List aV}{ss:bN}{c:Nat}{vs:aD}(h:AW aO lab B ss c vs)(hs:0<ss.length):0<aI vs:=by
 cases h with
 | nil=>simp at hs
 | snoc h hi hl hr _=>exact uO (zmW hr hi) (zn (C2 _ (List.mem_singleton_self _)))
theorem AW.le{aO:Nat->Nat->Nat}{lab:Nat->Int}{B:List aV}{ss:bN}{c:Nat}{vs:aD}(h:AW aO lab B ss c vs):aI vs<=B.length:=by
 induction h with
 | nil=>exact eg _
 | @snoc ss c s0 i b NB vs h hi hl hr iA ih =>
  refine qL λx hx=>?_;rcases rK.1 hx with hx|hx
  ·exact cP (zn hx) ih
  ·rw[oX.1 hx];have h2:(aW (zl 1 27 (NB.map (fX b)))).top=aI (NB.map (fX b)):=by rw[jm,v5]
   have h3:∀l:List Int,(aW (zl 1 3 (l.map A2.ie))).top=0:=λl=>by
    rw[jm,v5];exact Nat.le_zero.1 (qL λy hy=>by obtain⟨z,_,rfl⟩:=mj.1 hy;exact dI _)
   simp only[AM,V.top,aI,h2,h3];refine tu.2 ⟨qL λy hy=>?_,by omega⟩
   obtain⟨k,hk,rfl⟩:=mj.1 hy;have:=hr.lt k hk;simp only[fX,V.top];omega
theorem zoC{cx:Cx}{n:Nat}{Q:Ex->St->Prop}{k:List It}{s:St}{c:Code}(P:aD->Hp->Prop)(h1:∀Q':Ex->St->Prop,(∀env H lk,P env H->Q' .normal ⟨env,H,lk,[]⟩)->go cx n Q' [.c c] .normal s)(h2:∀env H lk,P env H->go cx n Q k .normal ⟨env,H,lk,[]⟩):go cx n Q (.c c::k) .normal s:=by
 have:=h1 (go cx n Q k) h2;simp only[go] at this ⊢;exact this
theorem r61:mN prog 61 66 2 48:=⟨by kernel_rfl,by kernel_rfl,by kernel_rfl,by decide,by kernel_rfl,by kernel_rfl,by kernel_rfl⟩
def xU(ck:Bool)(rk:A2.cE->Bool)(l:List A2.cE):Bool:=ck && (decide (1<=l.length) && (decide (l.length<=16) && l.all rk))
def AlP(f:A2.F)(aO:Nat->Nat->Nat)(lab:Nat->Int)(l:List A2.cE)(v:V)(B:List aV):Prop :=
 (∃c vs,AW aO lab B (l.map λa=>qd f.f.2 a.2 0) c vs/\c<=600/\v=.bq [aW (zl 2 66 vs),.bM]) \/
 (∃j a c vs i B',l[j]?=some a/\AW aO lab B' ((l.take j).map λa=>qd f.f.2 a.2 0) c vs/\600<c+qZ (zm aO (qd f.f.2 a.2 0) i)/\v=.bq [.aG,.ec 396 (.obj 2)])
set_option maxHeartbeats 1000000 in
theorem zoD(hg:GS gl){n m:Nat}{f:A2.F}{cT:A2.f_}{ck:Bool}{rk:A2.cE->Bool}(hn:m+1000<=n)(ur:m<2 ^ 36)(BZ:gl.hk 24 [A2.fv f]=some (.bool ck))(M5:∀a∈cT.2,gl.hk 72 [A2.fv f,A2.iv a]=some (.bool (rk a)))(Rc:gl.g 0 0=some (.ec 396 (.obj 0)))(Cv:gl.g 2 0=some (.ec 396 (.obj 2)))
  (rN:cT.2.length<n) (Si:cT.2.length<2 ^ 60) (hF:ck=true->EI f m (n - 3)) (hA:∀a∈cT.2,rk a=true->(∀r∈a.2,0<=r/\r.toNat<f.f.2.length)/\a.2.length<n - 3/\a.2.length<2 ^ 60) :
  ∃v H',zj prog gl (n+1+1) 30 [A2.fv f,A2.rv cT] ⟨[],[]⟩=some (.ret v,H') /\
   if xU ck rk cT.2=true then ∃nx:aN,nx.map (·.2)=f.n.2.map xx/\AlP f (sX f nx m) (λw=>wj f.s.2.length (wi m w) (-1)) cT.2 v H'.az else v=.bq [.aG,.ec 396 (.obj 0)]:=by
 suffices bL:(go ⟨prog,gl,zj prog gl (n+1),eA⟩ (n+1) (Fx prog f30.results.toList λv H1=>if xU ck rk cT.2=true then ∃nx:aN,nx.map (·.2)=f.n.2.map xx/\AlP f (sX f nx m) (λw=>wj f.s.2.length (wi m w) (-1)) cT.2 v H1.az else v=.bq [.aG,.ec 396 (.obj 0)]) [.c (f30.body.getD .skip)] .normal ⟨[A2.fv f,A2.rv cT]++List.replicate 72 (.bq []),⟨[],[]⟩,[],[]⟩) by
  obtain⟨v,H1,h0,hp⟩:=zQ (gl:=gl) (f:=30) (bs:=[]) (es:=[]) (args:=[A2.fv f,A2.rv cT]) (n:=n+1) (hg.hk _ _ (by decide)) (λH=>hg.fG _ _ _ _ (by decide)) func30 rfl (by rw[hg.uq];exact bL)
  refine⟨v,_,h0,?_⟩;cases hk:xU ck rk cT.2 with
  | false=>rw[hk] at hp;exact hp
  | true =>
   rw[hk] at hp;simp only[aF] at hp ⊢;obtain⟨nx,h1,hp⟩:=hp;refine⟨nx,h1,?_⟩;rcases hp with⟨c,vs,q1,q2,rfl⟩|hp
   ·refine .inl ⟨c,vs,?_,q2,rfl⟩
    rw[show zW ([]:List aV).length [] _ H1=⟨H1.az,H1.bG++[]⟩ from yK (by
     have hl:0<(cT.2.map λa=>qd f.f.2 a.2 0).length:=by
      simp only[xU,eo,decide_eq_true_eq] at hk;rw[gC];omega
     have h2:=q1.top hl;simp only[V.top,aI,jm,v5,List.length_nil]
     omega)]
    exact q1
   ·obtain⟨j,a,c,vs,i,B',q⟩:=hp;exact .inr ⟨j,a,c,vs,i,B',q⟩
 have JL:dz (A2.fv f)=true:=rfl;have GF:∀env t,qK env t (some (A2.fv f))=some (A2.fv f,env):=λ_ _=>rfl;have Ab:aW (A2.fv f)=A2.fv f:=rfl;have G0:∀H,Cx.bC ⟨prog,gl.g,zj prog gl (n+1),eA⟩ 24 [A2.fv f] H=some (.val (.bool ck),H):=λH=>zu func24 rfl (xr BZ)
 have U6:∀a,a∈cT.2->∀H,Cx.bC ⟨prog,gl.g,zj prog gl (n+1),eA⟩ 72 [A2.fv f,A2.iv a] H=some (.val (.bool (rk a)),H):=λa ha H=>zu func72 rfl (xr (M5 a ha));have Ef:∀r e,zk prog ⟨.cells (A2.fc f) 30::r,e⟩ gl.g 30 (.ptr 0 0)=some (A2.fv f):=λr e=>by
  rw[jW,show Hp.get ⟨.cells (A2.fc f) 30::r,e⟩ 0=some (.cells (A2.fc f) 30) from rfl,jv,qy,F7,F8];simp[wW,A2.fv,A2.fc]
 have Oj:∀H,zk prog H gl.g 37 (.fq 0 0)=some (.ec 396 (.obj 0)):=λH=>by simp[zk,uJ,Rc]
 have U7:∀H,zk prog H gl.g 37 (.fq 2 0)=some (.ec 396 (.obj 2)):=λH=>by simp[zk,uJ,Cv]
 have sZ:∀k,aW (V.ec 396 (.obj k))=.ec 396 (.obj k):=λ_=>rfl;simp only[f30,fQ,zh];refine zi ?_;simp only[BA,aj,aq,zc,zd,bS,bT,List.replicate,GF,z7 JL,fcl];obtain⟨L,hL⟩:∃L,L=cT.2.length:=⟨_,rfl⟩
 obtain⟨BF,iH⟩:∃b:Bool,b=!(ck && (decide (1<=L) && decide (L<=16))):=⟨_,rfl⟩
 let PB:aD->Hp->Prop:=λenv H=>H=⟨[.cells (A2.fc f) 30],[]⟩/\env.length=74/\nth env 1=some (A2.rv cT)/\nth env 2=some (.ptr 0 0)/\nth env 6=some (.bool BF)
 have En:∀H,jb prog H 28 (A2.rv cT)=some ((L:Nat):Int):=λH=>by rw[hL];exact Rk
 refine zoC PB (λQ' hQ=>?_) ?_
 ·refine zi ?_;cases ck with
  | false =>
   simp only[BA,av,ak,aj,aq,aA,zd,ze,bS,bT,j4,qg,jn,cB,wJ,oo,Ef,Ab,G0,iz,oo,zp];exact hQ _ _ _ ⟨rfl,rfl,rfl,rfl,by rw[iH];rfl⟩
  | true =>
   rcases eX L 1 with so|so
   ·have Lp:decide (((L:Nat):Int)<1)=true:=by simp;omega
    simp only[BA,av,ak,aj,aq,aA,zd,ze,bS,bT,j4,qg,jn,cB,cC,wI,wJ,mh,Ef,Ab,G0,iz,mh,A2.bH,En,qU,Lp,zp];exact hQ _ _ _ ⟨rfl,rfl,rfl,rfl,by rw[iH,decide_eq_false (show ¬1<=L by omega)];rfl⟩
   have Lp:decide (((L:Nat):Int)<1)=false:=by simp;omega
   rcases eX 16 L with GA|GA
   ·have Az:decide ((16:Int)<((L:Nat):Int))=true:=by simp;omega
    simp only[BA,av,ak,aj,aq,aA,zd,ze,bS,bT,j4,qg,jn,cC,wI,mh,Ef,Ab,G0,iz,mh,A2.bH,En,qU,w4,gt_iff_lt,Lp,Az,zp]
    exact hQ _ _ _ ⟨rfl,rfl,rfl,rfl,by rw[iH,decide_eq_false (show ¬L<=16 by omega),Bool.and_false,Bool.and_false];rfl⟩
   ·have Az:decide ((16:Int)<((L:Nat):Int))=false:=by simp;omega
    simp only[BA,av,ak,aj,aq,aA,zd,ze,bS,bT,j4,qg,jn,cC,wI,mh,Ef,Ab,G0,iz,mh,A2.bH,En,qU,w4,gt_iff_lt,Lp,Az,zp]
    exact hQ _ _ _ ⟨rfl,rfl,rfl,rfl,by rw[iH,decide_eq_true GA,decide_eq_true (show 1<=L by omega)];rfl⟩
 rintro env H lk ⟨rfl,hlen,e1,e2,e6⟩;simp only[zh];refine zi ?_;simp only[BA,ak,aj,aq,za,Nat.reduceLT,hlen,e1,A2.bH,En]
 refine qh (λk2 s=>∃(j:Nat)(env:aD),k2+j=L/\s=⟨env,⟨[.cells (A2.fc f) 30],[]⟩,[],[]⟩/\env.length=74/\nth env 1=some (A2.rv cT)/\nth env 2=some (.ptr 0 0)/\nth env 6=some (.bool (BF || !((cT.2.take j).all rk)))/\nth env 30=some (A2.rv cT)/\nth env 31=some (.int .i64 (L:Nat))/\nth env 32=some (.int .i64 (j:Nat))) L (by omega) ?_ ?_
 ·exact⟨0,_,rfl,rfl,by simp[hlen],by simp[za,e1],by simp[za,e2],by simp[za,e6],by simp[za,hlen],by simp[za,hlen],by simp[za,hlen]⟩
 clear hlen e1 e2 e6 env;rintro k2 s ⟨j,env,fG,rfl,hlen,e1,e2,e6,Ga,AL,Aa⟩;simp only[zh];refine zi ?_;simp only[BA,ak,aq,za,Nat.reduceLT,hlen,AL,Aa,qU]
 by_cases hj:j<L
 ·refine .inl ⟨by simp;omega,?_⟩
  obtain⟨a,ha⟩:∃a,cT.2[j]?=some a:=⟨_,gh (by omega)⟩
  have My:=m_ ha;have mb:(cT.2.take (j+1)).all rk=((cT.2.take j).all rk && rk a):=by
   rw[List.take_add_one,ha];simp
  refine zi ?_;simp only[BA,Nat.reduceEqDiff,ak,aq,aE,za,bD,Nat.reduceLT,bw,hlen,Ga,Aa,A2.bH,UG ha,UH,Z1,A2.bB];refine zi ?_;cases hb:(BF || !((cT.2.take j).all rk)) with
  | true =>
   rw[hb] at e6;simp only[BA,Nat.reduceEqDiff,av,ak,aj,aq,aA,za,bD,Nat.reduceLT,bw,zd,ze,j4,qg,jn,cB,wJ,hlen,e6];refine zi ?_
   simp only[BA,Nat.reduceEqDiff,ak,aj,aq,za,bD,Nat.reduceLT,bw,hlen,Aa,qc (show j<2 ^ 60 by omega),zp,aM]
   refine⟨L - 1 - j,by omega,j+1,_,by omega,rfl,by simp[hlen],by simp[za,e1],by simp[za,e2],?_,by simp[za,Ga],by simp[za,AL],by simp[za,hlen]⟩
   rw[mb];have:(BF || !((cT.2.take j).all rk && rk a))=true:=by
    revert hb;cases BF<;>cases (cT.2.take j).all rk<;>simp
   rw[this];simp[za,hlen]
  | false =>
   rw[hb] at e6;simp only[BA,Nat.reduceEqDiff,av,ak,aj,aq,aA,za,bD,Nat.reduceLT,bw,zd,ze,j4,qg,jn,cC,wI,hlen,e6,e2,Ef,Ab,U6 a My,A2.bB,iz];refine zi ?_
   simp only[BA,Nat.reduceEqDiff,ak,aj,aq,za,bD,Nat.reduceLT,bw,hlen,Aa,qc (show j<2 ^ 60 by omega),zp,aM]
   refine⟨L - 1 - j,by omega,j+1,_,by omega,rfl,by simp[hlen],by simp[za,e1],by simp[za,e2],?_,by simp[za,Ga],by simp[za,AL],by simp[za,hlen]⟩
   rw[mb];have:(BF || !((cT.2.take j).all rk && rk a))=!(rk a):=by
    revert hb;cases BF<;>cases (cT.2.take j).all rk<;>simp
   rw[this];simp[za,hlen]
 ·obtain rfl:L=j:=by omega
  refine .inr ⟨by simp,?_⟩
  simp only[ql,zN,zD,zp,bJ,zh,iN,aF]
  have dF:cT.2.take L=cT.2:=p9 (by omega)
  rw[dF] at e6;have C1:(BF || !(cT.2.all rk))=!(xU ck rk cT.2):=by
   rw[iH,xU,<- hL];cases ck<;>cases decide (1<=L)<;>cases decide (L<=16)<;>cases cT.2.all rk<;>rfl
  rw[C1] at e6;refine zi ?_;simp only[BA,Nat.reduceEqDiff,ak,aq,za,bD,Nat.reduceLT,bw,hlen,e6];cases hk:xU ck rk cT.2 with
  | false =>
   rw[hk] at e6;refine .inl ⟨by simp,?_⟩
   refine qG (tk:=[]) (by kernel_rfl) (by kernel_rfl) ?_
   simp only[BA,Nat.reduceEqDiff,ak,aj,aq,au,za,bD,Nat.reduceLT,bw,hlen,Oj,sZ,uJ];simp only[go_ret,zp,Fx,we]
   refine⟨rfl,[.aG,.ec 396 (.obj 0)],?_,by first|rfl|simp⟩
   simp only[aq,sZ,zx,za,bD,hlen,Nat.reduceLT,Nat.reduceEqDiff,aF,bw]
  | true =>
   refine .inr ⟨by simp,?_⟩
   have o7:=hk;simp only[xU,eo,decide_eq_true_eq] at o7;obtain⟨rfl,DS,fG,CL⟩:=o7;have Mu:∀a∈cT.2,rk a=true:=λa ha=>B_.1 CL a ha;have oS:=hF rfl;obtain⟨n',rfl⟩:∃n',n=n'+1:=⟨n - 1,by omega⟩
   obtain⟨dW,p6,De⟩:=zb0 hg (n:=n') (f:=f) (m:=m) (bs:=[.cells (A2.fc f) 30]) (es:=[]) oS.ns.2 oS.nf (by rw[oS.nl];exact oS.ns.2) oS.mm (by rw[oS.nl];have:=oS.ns.1;omega) (by have:=oS.ns.1;omega) (by omega) (λrow b_=>⟨by have:=(oS.nr row b_).1;omega,(oS.nr row b_).2⟩) oS.hs
   have G_:=zo2 oS (bs:=[.cells (A2.fc f) 30]) (dW:=dW);obtain⟨HB,tf⟩:∃HB,HB=eL [.cells (A2.fc f) 30] f (yP m ([aV.cells (A2.fc f) 30].length+2) f.n.2.length) (xb (sW f) 256) (tW (sW f) 256) (yN m f.n.2++dW):=⟨_,rfl⟩;rw[<- tf] at G_;have M8:Cx.bC ⟨prog,gl.g,zj prog gl (n'+1+1),eA⟩ 73 [A2.fv f] ⟨[.cells (A2.fc f) 30],[]⟩=some (.val (.ptr 2 0),⟨HB,p6⟩):=by
    rw[tf];exact zu func73 rfl De
   have C0:=zjU (f:=f) (m:=m) (b:=[aV.cells (A2.fc f) 30].length+2);generalize KB f m ([aV.cells (A2.fc f) 30].length+2)=nx at G_ C0;obtain⟨aO,t_⟩:∃x,x=sX f nx m:=⟨_,rfl⟩;obtain⟨lab,Ah⟩:∃x:Nat->Int,x=λw=>wj f.s.2.length (wi m w) (-1):=⟨_,rfl⟩;have htp:∀b o env t,qK env t (some (.ptr b o))=some (.ptr b o,env):=λ_ _ _ _=>rfl;refine zi ?_
   simp only[BA,Nat.reduceEqDiff,av,ak,aq,aA,Nat.reduceAdd,za,bD,Nat.reduceLT,bw,hlen,e2,Ef,Ab,M8,htp];refine zi ?_
   simp only[BA,aj,aq];refine zi ?_
   simp only[BA,aj,aq];refine zi ?_
   simp only[BA,Nat.reduceEqDiff,ak,aj,aq,za,bD,Nat.reduceLT,bw,hlen,e1,A2.bH,En]
   refine qh (λk2 s=>∃(j:Nat)(env:aD)(B:List aV)(es lk:aN)(c:Nat)(vs:aD),k2+j=L/\s=⟨env,⟨HB++B,es⟩,lk,[]⟩/\env.length=74/\nth env 9=some (.ptr 2 0)/\nth env 10=some (zl 2 66 vs)/\nth env 11=some (.int .i64 ((600 - c:Nat):Int))/\nth env 48=some (A2.rv cT)/\nth env 49=some (.int .i64 (L:Nat))/\nth env 50=some (.int .i64 (j:Nat))/\c<=600/\AW aO lab (HB++B) ((cT.2.take j).map λa=>qd f.f.2 a.2 0) c vs) L (by omega) ?_ ?_
   ·exact⟨0,_,[],p6,_,0,[],rfl,by rw[mT],by simp[hlen],by simp[za,hlen],by simp[za,hlen,zl],by simp[za,hlen],by simp[za,hlen],by simp[za,hlen],by simp[za,hlen],by omega,.nil⟩
   clear hlen e1 e2 e6 Ga AL Aa env;rintro k2 s ⟨j,env,B,es,lk,c,vs,aq5,rfl,hlen,e9,sg,iX,KA,Jb,EH,L6,OA⟩;simp only[zh];refine zi ?_;simp only[BA,ak,aq,za,Nat.reduceLT,hlen,Jb,EH,qU]
   by_cases hj:j<L
   ·refine .inl ⟨by simp;omega,?_⟩
    obtain⟨a,ha⟩:∃a,cT.2[j]?=some a:=⟨_,gh (by omega)⟩
    have My:=m_ ha;obtain⟨M6,aaQ,M7⟩:=hA a My (Mu a My);have mb:(cT.2.take (j+1)).map (λa=>qd f.f.2 a.2 0)=(cT.2.take j).map (λa=>qd f.f.2 a.2 0)++[qd f.f.2 a.2 0]:=by
     rw[List.take_add_one,ha];simp
    have hMB:MM f m nx (HB++B) 2:={ G_ with M:=vO G_.M,X:=λp hp=>⟨vO (G_.X p hp).1,(G_.X p hp).2⟩ };obtain⟨u,Hb,hb,BE⟩:=zej hg (n:=n'+1) (bm:=2) (m:=m) (most:=600 - c) (act:=a) (es:=es) (by omega) ur (by omega) hMB M6 (λrow b_=>⟨by have:=(oS.fr row b_).1;omega,(oS.fr row b_).2⟩) (by omega) M7
    rw[<- t_,<- Ah] at BE;have cZ:Cx.bC ⟨prog,gl.g,zj prog gl (n'+1+1),eA⟩ 74 [.ptr 2 0,A2.iv a,.int .i64 ((600 - c:Nat):Int)] ⟨HB++B,es⟩=some (.val u,Hb):=zu func74 rfl hb
    obtain⟨DL,BL,nV,cn,ok,rfl,rfl,G8,G9,DC⟩:∃(DL:aD)(BL:List aV)(nV:aN)(cn:Int)(ok:Bool),u=.bq [.agg DL,.int .i64 cn,.bool ok]/\Hb=⟨HB++B++BL,nV⟩/\DL.map aW=DL/\DL.length=2/\(if ok=true then ∃i NB,0<i/\(zm aO (qd f.f.2 a.2 0) i).length=i/\qZ (zm aO (qd f.f.2 a.2 0) i)<=600 - c/\cn=(qZ (zm aO (qd f.f.2 a.2 0) i):Nat)/\V.agg DL=AM ((HB++B).length+7) NB ((zm aO (qd f.f.2 a.2 0) i).map lab)/\RW aO (qd f.f.2 a.2 0) (HB++B++BL) ((HB++B).length+7) i NB else ∃i,600 - c<qZ (zm aO (qd f.f.2 a.2 0) i)):=by
     rcases BE with⟨i,NB,bl,nV,q1,q2,q3,rfl,rfl,q6⟩|⟨i,dU,bl,nV,z,q1,rfl,rfl⟩
     ·exact⟨_,bl,nV,_,true,rfl,rfl,by simp[qT],rfl,by rw[if_pos rfl];exact⟨i,NB,q1,q2,by omega,rfl,rfl,q6⟩⟩
     ·exact⟨_,bl,nV,_,false,rfl,rfl,by simp[qT],rfl,by rw[if_neg (by simp)];exact⟨i,by omega⟩⟩
    have Oz:∀env t,qK env t (some (.agg DL))=some (.agg DL,env):=λ_ _=>rfl;obtain⟨B5,hB5⟩:∃B5,B5=HB++(B++BL):=⟨_,rfl⟩;obtain⟨B6,KD⟩:∃B6,B6=B5++[aV.cells DL 66]:=⟨_,rfl⟩;have aaZ:∀x:aV,HB++(B++(BL++[x]))=B5++[x]:=λx=>by rw[hB5];simp
    have aa0:HB.length+(B.length+BL.length)=B5.length:=by rw[hB5];simp
    obtain⟨e6,he6⟩:∃e6,e6=vg nV B5.length (.agg DL):=⟨_,rfl⟩;have M9:∀env,qr prog 66 ⟨B5++[aV.cells [.aG,.aG] 66],nV⟩ [] [] (some (.agg DL,env)) (some (.ptr B5.length 0))=some (.skip,⟨env,⟨B6,e6⟩,[],[]⟩):=λenv=>by
     have rH:Hp.get ⟨B5++[aV.cells [.aG,.aG] 66],nV⟩ B5.length=some (.cells [.aG,.aG] 66):=by
      show nth _ _=_;rw[zg,fE (dI _),Cb];rfl
     rw[zy mI rH rfl (by show(DL.map aW).length=2;rw[G8,G9]) (by simp) rfl]
     have h1:(B5++[aV.cells [V.aG,.aG] 66]).set B5.length (.cells DL 66)=B6:=by
      rw[uM _ _ (dI _),Cb,KD];rfl
     have h2:Vm.storeCells [V.aG,.aG] 0 DL=DL:=by
      match DL,G9 with
      | [a,b],_=>rfl
     rw[show V.laid (.agg DL)=DL from G8,h2];show some (OR.skip,St.mk env (Hp.bQ ⟨(B5++[aV.cells [V.aG,.aG] 66]).set B5.length (.cells DL 66),nV⟩ _ _) [] [])=_;rw[h1,gy,he6]
    have hl6:zk prog ⟨B6,e6⟩ gl.g 66 (.ptr B5.length 0)=some (.agg DL):=by
     have rH:Hp.get ⟨B6,e6⟩ B5.length=some (.cells DL 66):=by
      show nth _ _=_;rw[KD,zg,fE (dI _),Cb];rfl
     rw[jW,rH,jv,qy,pH,mI,wW,if_pos (by omega),mg,p9 (by omega)]
    refine zi ?_;simp only[BA,Nat.reduceEqDiff,ak,aq,aE,za,bD,Nat.reduceLT,bw,hlen,KA,EH,A2.bH,UG ha,UH,Z1,A2.bB];refine zi ?_
    simp only[qw,aH,zh,zK,qO,zU,z6,kf,Nat.reduceEqDiff,av,qp,ak,zL,qq,jo,zr,z9,aL,bu,aq,zR,qR,qX,qk,aT,aS,qM,aA,aY,bp,zc,aU,bh,aF,za,bD,Nat.reduceLT,aF,bw,hlen,e9,iX,A2.bB,cZ,kX,zd,ze,dA,RU,zH (show dz (V.agg [.aG,.aG])=true from rfl),V.cells,Oz,aaZ,aa0,M9]
    refine vP (P:=λenv H=>H=⟨B6,e6⟩/\env.length=74/\nth env 9=some (.ptr 2 0)/\nth env 10=some (zl 2 66 vs)/\nth env 11=some (.int .i64 ((600 - c:Nat):Int))/\nth env 48=some (A2.rv cT)/\nth env 49=some (.int .i64 (L:Nat))/\nth env 50=some (.int .i64 (j:Nat))/\nth env 14=some (.ptr B5.length 0)/\nth env 15=some (.int .i64 cn)/\nth env 16=some (.bool ok)) ?_ ⟨rfl,by simp[hlen],by simp[za,e9],by simp[za,sg],by simp[za,iX],by simp[za,KA],by simp[za,Jb],by simp[za,EH],by simp[za,hlen],by simp[za,hlen],by simp[za,hlen]⟩
    clear hlen e9 sg iX KA Jb EH env;rintro env H lk ⟨rfl,hlen,e9,sg,iX,KA,Jb,EH,sO,tT,uI⟩;refine zi ?_;cases ok with
    | false =>
     rw[if_neg (by simp)] at DC
     obtain⟨i9,DC⟩:=DC;simp only[BA,Nat.reduceEqDiff,ak,aq,za,bD,Nat.reduceLT,bw,hlen,uI,iz,oo];refine .inl ?_;refine qG (tk:=[]) (by kernel_rfl) (by kernel_rfl) ?_
     simp only[BA,Nat.reduceEqDiff,ak,aj,aq,au,za,bD,Nat.reduceLT,bw,hlen,U7,sZ,uJ];simp only[go_ret,zp,Fx,we,wk,l6]
     refine⟨rfl,[.aG,.ec 396 (.obj 2)],?_,?_⟩
     ·simp only[aq,sZ,zx,za,bD,hlen,Nat.reduceLT,Nat.reduceEqDiff,aF,bw]
     ·refine⟨nx,C0,?_⟩;rw[<- t_,<- Ah];exact .inr ⟨j,a,c,vs,i9,HB++B,ha,OA,by omega,rfl⟩
    | true =>
     rw[if_pos rfl] at DC;obtain⟨i,NB,q1,q2,q3,rfl,q5,q6⟩:=DC;simp only[BA,Nat.reduceEqDiff,ak,aq,za,bD,Nat.reduceLT,bw,hlen,uI,iz,mh];refine .inr ?_;obtain⟨cc,ri⟩:∃cc,cc=qZ (zm aO (qd f.f.2 a.2 0) i):=⟨_,rfl⟩;rw[<- ri] at q3 tT;refine zi ?_
     simp only[BA,Nat.reduceEqDiff,ak,aq,za,bD,Nat.reduceLT,bw,hlen,iX,tT,Xn (show 600 - c<2 ^ 60 by omega) q3]
     have BM:=OA.len;have aq7:vs.length<=16:=by rw[BM,gC,uf];omega
     have lR:=r61.BQ (v:=.agg DL) rfl G9;have fz:∀H,j9 prog H 61 (zl 2 66 vs) (.sl 2 [.agg DL] .no)=some (zl 2 66 (vs++[.agg DL])):=λH=>jC r61 (by simp) (dG (by simp;omega) (by simp;omega))
     refine wo (tk:=[68]) (by kernel_rfl) ?_
     simp only[BA,Nat.reduceEqDiff,ak,aq,za,bD,Nat.reduceLT,bw,hlen,sg,sO,hl6,lR,xS,fz,jV (cx:=⟨prog,gl.g,zj prog gl (n'+2),eA⟩) (show pN prog eA 61=false by kernel_rfl)]
     refine zi ?_;simp only[BA,Nat.reduceEqDiff,ak,aj,aq,za,bD,Nat.reduceLT,bw,hlen,EH,qc (show j<2 ^ 60 by omega),zp,aM]
     have aa1:B6=HB++(B++BL++[aV.cells DL 66]):=by rw[KD,hB5];simp
     have aa2:AW aO lab (HB++(B++BL++[aV.cells DL 66])) ((cT.2.take (j+1)).map λa=>qd f.f.2 a.2 0) (c+cc) (vs++[.agg DL]):=by
      rw[mb,q5,ri];refine .snoc ?_ q1 q2 (q6.mono λk x _ h=>?_) (cP OA.le (by omega))
      ·have:=OA.app (BL++[aV.cells DL 66]);rw[show HB++(B++BL++[aV.cells DL 66])=HB++B++(BL++[aV.cells DL 66]) by simp]
       exact this
      ·rw[show HB++(B++BL++[aV.cells DL 66])=HB++B++BL++[aV.cells DL 66] by simp]
       exact vO h
     rw[aa1];exact⟨L - 1 - j,by omega,j+1,_,B++BL++[aV.cells DL 66],e6,_,c+cc,vs++[.agg DL],by omega,rfl,by simp[hlen],by simp[za,e9],by simp[za,hlen],by rw[show 600 - (c+cc)=600 - c - cc by omega];simp[za,hlen],by simp[za,KA],by simp[za,Jb],by simp[za,hlen],by omega,aa2⟩
   ·obtain rfl:L=j:=by omega
    refine .inr ⟨by simp,?_⟩
    simp only[ql,zN,zD,zp,bJ,zh,iN,aF]
    rw[dF] at OA;refine zi ?_;simp only[BA,Nat.reduceEqDiff,ak,aj,aq,za,bD,Nat.reduceLT,bw,hlen,sg];simp only[go_ret,zp,Fx]
    refine⟨trivial,[aW (zl 2 66 vs),.bM],?_,nx,C0,?_⟩
    ·simp only[zx,za,bD,hlen,Nat.reduceLT,Nat.reduceEqDiff,aF,bw]
    ·rw[<- t_,<- Ah];refine .inl ⟨c,vs,OA,L6,?_⟩;show V.bq [aW (aW (zl 2 66 vs)),aW .bM]=_;rw[qT];rfl
end
section
set_option maxRecDepth 1000000
def M_:aD:=[(.str [114,117,108,101,32,34,97,34,32,61,62,32,116])]
def U9:V:=(.bq [(.agg [.aG,.aG,(.sl 26 [(.agg [(.int .i64 (0)),(.bool false),.aG,(.int .i64 (3)),(.int .i64 (5)),(.int .u64 (0)),(.int .u64 (0)),(.int .u64 (0)),(.int .u64 (0)),(.str [97]),(.int .i64 (0)),(.int .i64 (0)),.aG,(.bool false),(.int .i64 (0)),(.int .i64 (0)),(.int .u64 (0)),(.int .u64 (0)),(.int .u64 (0)),(.int .u64 (0)),(.str []),(.int .i64 (0)),(.int .i64 (0)),.aG,(.str [116]),.aG])] .no)]),.bM])
def Sj:V:=(.sl 21 [(.agg [(.int .i64 (2)),(.int .i64 (0)),(.int .u64 (0)),(.int .u64 (8589934592)),(.int .u64 (0)),(.int .u64 (0)),(.str []),(.int .i64 (0)),(.int .i64 (0)),.aG,(.bool false),(.int .i64 (0)),(.int .i64 (0)),(.int .u64 (0)),(.int .u64 (0)),(.int .u64 (0)),(.int .u64 (0)),(.str []),(.int .i64 (0)),(.int .i64 (0)),.aG])] .no)
def Je:dB:=[(66,M_,U9)]
theorem ziH(n:Nat):zj prog { g:=lK,hk:=cR [],uq:=fy } (n+60) 66 M_ ⟨[],[]⟩=some (.ret U9,⟨[],[]⟩):=by kernel_rfl
end
section
set_option maxRecDepth 1000000
def EJ:V:=(.agg [(.sl 4 [(.agg [(.int .u64 (0)),(.int .u64 (8589934592)),(.int .u64 (0)),(.int .u64 (0))])] .no),(.sl 1 [(.int .i64 (0))] .no),(.sl 1 [(.sl 1 [(.int .i64 (0))] .no)] .no),(.sl 1 [(.sl 1 [(.int .i64 (1))] .no)] .no)])
def Sk:V:=(.sl 1 [(.int .i64 (0))] .no)
def isW:Option (Out×Hp)->Bool
 | some (.ret (.bq [.agg [a,b,c,.sl 1 [.sr k 0 1 _cap] .no],.bM]),H)=>match nth H.az k,EJ with
  | some (.cells cs _),.agg [a',b',c',.sl _ [.sl _ r _] _]=>eJ [a,b,c] [a',b',c'] && eJ cs r
  | _,_=>false
 | _=>false
theorem ziI(n:Nat):isW (zj prog { g:=lK,hk:=cR [],uq:=fy } (n+60) 14 [Sj] ⟨[],[]⟩)=true:=by kernel_rfl
theorem ziJ(n:Nat):zj prog { g:=lK,hk:=cR [],uq:=fy } (n+60) 24 [EJ] ⟨[],[]⟩=some (.ret (.bool true),⟨[],[]⟩):=by kernel_rfl
def Ai:dB:=[(24,[EJ],.bool true)]
theorem ziK(n:Nat):zj prog { g:=lK,hk:=cR Ai,uq:=fy } (n+60) 72 [EJ,Sk] ⟨[],[]⟩=some (.ret (.bool true),⟨[],[]⟩):=by kernel_rfl
end
def f0:A2.F:=⟨(true,[(0,8589934592,0,0)]),(true,[0]),(true,[(true,[0])]),(true,[(true,[1])])⟩
def a0:A2.cE:=(true,[0])
theorem aa4:A2.fv f0=EJ:=by kernel_rfl
theorem aa5:A2.iv a0=Sk:=by kernel_rfl
def Aj:dB:=(72,[EJ,Sk],.bool true)::Ai
theorem OB{f:FuncId}{back:Bool}{ty:Nat}{p:Prop}(s7:ty<1048576)(h:fy (Gr f back ty)=true):p:=by rw[Zg s7] at h;cases h
theorem okS:qj prog lK Aj:=yF mixed iK fO (yF mixed iK fO xj (ziJ 0) rfl rfl (hit:=λ_ _ _ s7 h=>OB s7 h)) (ziK 0) rfl rfl (hit:=λ_ _ _ s7 h=>OB s7 h)
def U_:Gl:={ g:=lK,hk:=cR Aj,uq:=eA }
theorem zmX{f:FuncId}{back:Bool}{ty:Nat}(h:ty<1048576):eA (Gr f back ty)=false:=by
 have hk:Nat.beq (Gr f back ty) mu=false:=by
  cases hb:Nat.beq (Gr f back ty) mu with
  | false=>rfl
  | true =>
   have:=eU hb;simp only[Gr,mu] at this;omega
 simp only[eA,Zg h,hk,Bool.or_self]
theorem aa6:nW prog U_:=⟨okS.pure,λn f args H out H' h=>(by cases h),λ_ _ _ s7 h=>(by rw[show U_.uq=eA from rfl,zmX s7] at h;cases h)⟩
theorem GSs:GS U_ where
 uq:=rfl
 fG:=λ_ _ _ _ _=>rfl
 hk:=λf args h=>by
  have h1:Nat.beq f 24=false:=by
   cases hb:Nat.beq f 24 with
   | false=>rfl
   | true=>rw[eU hb] at h;revert h;decide
  have h2:Nat.beq f 72=false:=by
   cases hb:Nat.beq f 72 with
   | false=>rfl
   | true=>rw[eU hb] at h;revert h;decide
  show cR Aj f args=none;simp only[Aj,Ai,cR,h1,h2]
theorem aa7:EI f0 1 2000 where
 mm:=rfl
 hs:=λq hq=>by
  obtain rfl:q=(0,8589934592,0,0):=by simpa[f0] using hq
  intro i
  match i with
  | 0=>exact⟨by decide,by decide⟩
  | 1=>exact⟨by decide,by decide⟩
  | 2=>exact⟨by decide,by decide⟩
  | i+3=>exact⟨by show(0:Int)<=0;decide,by show(0:Int)<18446744073709551616;decide⟩
 ns:=by decide
 nf:=by decide
 nl:=rfl
 nr:=λrow hr=>by
  obtain rfl:row=(true,[1]):=by simpa[f0] using hr
  exact⟨by decide,by decide,λ(z:Int) hz=>by
   obtain rfl:z=1:=by simpa using hz
   decide⟩
 fr:=λrow hr=>by
  obtain rfl:row=(true,[0]):=by simpa[f0] using hr
  exact⟨by decide,by decide,λ(z:Int) hz=>by
   obtain rfl:z=0:=by simpa using hz
   decide⟩
def Sl:Nat->Nat->Nat:=sX f0 [(0,2)] 1
def zpR(w:Nat):Int:=wj 1 (wi 1 w) (-1)
theorem KE:zm Sl 1 3=[1,0,2]:=by kernel_rfl
def ua:A2.D:=((true,[(true,(List.range 256).map λy=>if y=97 then 2 else 1),(true,List.replicate 256 1),(true,List.replicate 256 1)]),(true,[-1,-1,0]))
theorem Jf:A2.ij (xd Sl 1 zpR 3)=A2.ij ua:=by kernel_rfl
def wdV:V:=.bq [A2.ij ua,.bM]
theorem Ak:∃v H',zj prog U_ 2005 28 [EJ,Sk] ⟨[],[]⟩=some (.ret v,H')/\mC H' v wdV:=by
 obtain⟨v,H',h,hp⟩:=ze7 GSs (n:=2003) (m:=1) (f:=f0) (act:=a0) (ck:=true) (rk:=true) (by decide) (by decide) (by kernel_rfl) (by kernel_rfl) (by kernel_rfl) (by kernel_rfl) (λ_ _=>⟨aa7,λr hr=>by
  obtain rfl:r=0:=by simpa[a0] using hr
  exact⟨by decide,by decide⟩,by decide,by decide⟩)
 rw[aa4,aa5] at h;rw[if_pos ⟨rfl,rfl⟩] at hp;obtain⟨nx,GU,hp⟩:=hp;have e1:sX f0 nx 1=Sl:=zjW (by rw[GU];rfl)
 have e2:qd f0.f.2 a0.2 0=1:=rfl;have e3:(λw=>wj f0.s.2.length (wi 1 w) (-1))=zpR:=rfl;rw[e1,e2,e3] at hp;have hc:(zm Sl 1 3).length=3:=by rw[KE];rfl
 refine⟨v,H',h,?_⟩;rcases hp with⟨i,b,NB,q1,q2,q3,rfl,q5⟩|⟨i,q1,_⟩
 ·obtain rfl:=ze8 q2 hc;have:=ziG (lab:=zpR) (es:=H'.bG) q5 (by decide) hc
  rw[Jf] at this;exact this
 ·obtain⟨rs,e⟩:=xy (j:=i) hc;have:=zeb (ws:=zm Sl 1 i) (rs:=rs);rw[<- e,KE] at this;have h3:qZ [1,0,2]=3:=rfl;omega
section
set_option maxRecDepth 1000000
theorem zkU(n:Nat):zj prog { g:=lK,hk:=cR Je,uq:=fy } (n+60) 45 M_ ⟨[],[]⟩=some (.ret Sj,⟨[],[]⟩):=by kernel_rfl
end
section
open Go.RowKit Go.ChangeAt Go.WideShapes
set_option maxRecDepth 1000000
theorem kT{P:aQ}{g0:Nat->Nat->bX}{l:dB}(hl:qj P g0 l){f:FuncId}{args:aD}{v:V}
  (h:∀(d:Nat)(H:Hp)(g:Gh)(w:aP)(bx:dN)(lc:Go.Vm.Loc),iu P g0 g->q_ g H.az w->eP g H.az.length args bx->Calls P f bx w (fS d H g w lc (.ret v) H)):qj P g0 ((f,args,v)::l):=by
 refine⟨λf' ys u hu d H g w bx lc h1 h2 h3=>?_,λn f args H out H' h=>(by cases h),λ_ _ _ _ h=>(by cases h)⟩
 simp only[cR] at hu;split at hu
 ·rename_i hf;obtain rfl:=eU hf;split at hu
  next hs=>cases hu;rw[vD hs] at h3;exact h d H g w bx lc h1 h2 h3
  ·exact hl.pure _ _ _ hu d H g w bx lc h1 h2 h3
 ·exact hl.pure _ _ _ hu d H g w bx lc h1 h2 h3
theorem zq5{H:Hp}{k cap:Nat}{ty:aB}(h:nth H.az k=some (.cells [.int .i64 1] ty)) :
  mC H (.bq [.agg [.sl 4 [.agg [.int .u64 0,.int .u64 8589934592,.int .u64 0,.int .u64 0]] .no,.sl 1 [.int .i64 0] .no,.sl 1 [.sl 1 [.int .i64 0] .no] .no,.sl 1 [.sr k 0 1 cap] .no],.bM]) (.bq [EJ,.bM]):=by
 have hk:mC H (.sr k 0 1 cap) (.sl 1 [.int .i64 1] .no):=by
  have:=mC.sr (H:=H) (b:=k) (off:=0) (len:=1) (cap:=cap) (cs:=[.int .i64 1]) (t:=ty) (by rw[zg] at h;exact h) rfl (dI _)
  exact this
 have hr:mC H (.sl 1 [.sr k 0 1 cap] .no) (.sl 1 [.sl 1 [.int .i64 1] .no] .no):=by
  refine .sl rfl (λj x hj=>?_) (λj y hj=>?_) (λj x y hj hy=>?_)
  ·match j,hj with
   | 0,hj=>cases hj;exact⟨rfl,rfl⟩
   | j+1,hj=>simp at hj
  ·match j,hj with
   | 0,hj=>cases hj;exact⟨rfl,rfl⟩
   | j+1,hj=>simp at hj
  ·match j,hj,hy with
   | 0,hj,hy=>cases hj;cases hy;exact hk
   | j+1,hj,hy=>simp at hj
 refine .bq rfl λj x y hj hy=>?_
 match j,hj,hy with
 | 0,hj,hy =>
  cases hj;cases hy;refine .agg rfl (λj y hj=>?_) λj x y hj hy=>?_
  ·match j,hj with
   | 0,hj=>cases hj;rfl
   | 1,hj=>cases hj;rfl
   | 2,hj=>cases hj;rfl
   | 3,hj=>cases hj;rfl
   | j+4,hj=>simp at hj
  ·match j,hj,hy with
   | 0,hj,hy=>cases hj;cases hy;exact .same rfl
   | 1,hj,hy=>cases hj;cases hy;exact .same rfl
   | 2,hj,hy=>cases hj;cases hy;exact .same rfl
   | 3,hj,hy=>cases hj;cases hy;exact hr
   | j+4,hj,hy=>simp at hj
 | 1,hj,hy=>cases hj;cases hy;exact .same rfl
 | j+2,hj,hy=>simp at hj
theorem zpS{x:Option (Out×Hp)}(h:isW x=true):∃u H',x=some (.ret u,H')/\mC H' u (.bq [EJ,.bM]):=by
 unfold isW at h;split at h
 ·rename_i a b c k cap H;refine⟨_,_,rfl,?_⟩;cases hk:nth H.az k with
  | none=>rw[hk] at h;cases h
  | some y =>
   rw[hk] at h;cases y with
   | cells cs ty =>
    simp only[EJ,eo] at h;have e1:=vD h.1;have e2:=vD h.2;simp only[Aq,At] at e1;obtain⟨rfl,rfl,rfl⟩:=e1;subst e2;exact zq5 hk
   | _=>cases h
 ·cases h
end
section
section
variable{aO:Nat->Nat->Nat}{s0:Nat}{lab:Nat->Int}
theorem zkV{i j y w:Nat}(h:(zm aO s0 i).length=i)(hw:(zm aO s0 j)[j]?=some w)(hy:y<256):∃k,ku (aO w y) 0 (zm aO s0 (j+1))=some k/\k<i/\(zm aO s0 i)[k]?=some (aO w y):=by
 obtain⟨k,_,hk⟩:=zmN (ws:=zm aO s0 j) (g:=aO w) hy;have o7:ku (aO w y) 0 (zm aO s0 (j+1))=some k:=by
  simp only[zm,hw];exact hk
 obtain⟨rs,Ll⟩:=xy (j:=j+1) h;have h2:=UT (rs:=rs) o7;rw[<- Ll] at h2;obtain⟨_,h3⟩:=zcx h2;rw[Nat.sub_zero] at h3;refine⟨k,o7,?_,h3⟩;have:=(c_.1 h3).1;omega
theorem zmY{i j w:Nat}(_h:(zm aO s0 i).length=i)(hj:j<i)(_hw:(zm aO s0 j)[j]?=some w):A2.gr (A2.rowsOf (xd aO s0 lab i).1) j=xc aO s0 j:=by
 refine A2.oR (q:=(true,xc aO s0 j)) ?_;simp only[xd];rw[iY,Hj hj];rfl
end
theorem Va{α:Type}{g:α->Nat}{q:Nat}:∀{l:List α}{z:Nat},(l.foldl (λz k=>z ||| g k) z).testBit q=(z.testBit q || l.any λk=>(g k).testBit q)
 | [],z=>by simp
 | x::l,z=>by
  rw[List.foldl_cons,Va,Ar,List.any_cons,Bool.or_assoc]
def Sm(f:A2.F)(nx:aN)(b k:Nat):Nat:=match f.s.2[k]?,nx[k]? with
 | some s,some p=>if Ec s b then p.2 else 0
 | _,_=>0
theorem zoE{f:A2.F}{nx:aN}{b k q:Nat}:xa f nx b k q=q ||| Sm f nx b k:=by
 unfold xa Sm;cases f.s.2[k]? with
 | none=>simp
 | some s =>
  cases nx[k]? with
  | none=>simp
  | some p =>
   simp only[];split<;>simp
theorem zoF{f:A2.F}{nx:aN}{b:Nat}{l:bN}{q:Nat}:BY f nx b l q=l.foldl (λz k=>z ||| Sm f nx b k) q:=by
 unfold BY
 congr 1
 funext z k
 exact zoE
theorem zm0{m w:Nat}{p:Nat->Bool}:(wi m w).any p=(List.range (8 * m)).any λk=>w.testBit k && p k:=by
 rw[wi,List.any_filter]
theorem zoG{f:A2.F}{nx:aN}{m w y q:Nat}:(sX f nx m w y).testBit q=(List.range (8 * m)).any λk=>w.testBit k && (Sm f nx y k).testBit q:=by
 rw[sX,zoF,Va,zm0];simp
theorem zcy{l:List Int}{z q:Nat}:(wT l z).testBit q=(z.testBit q || l.any λn=>(2 ^ n.toNat).testBit q):=Va
theorem zm1{l:List Int}{z:Nat}:wT l z=z ||| wT l 0:=by
 refine Nat.eq_of_testBit_eq λq=>?_;rw[Ar,zcy,zcy];simp
def zpT(rows:List A2.cE)(r:Int):Nat:=wT ((rows[r.toNat]?).map (·.2) |>.getD []) 0
theorem zhP{rows:List A2.cE}{l:List Int}{z q:Nat}:(qd rows l z).testBit q=(z.testBit q || l.any λr=>(zpT rows r).testBit q):=by
 rw[qd,show(λq r=>wT ((rows[r.toNat]?).map (·.2) |>.getD []) q)=(λ(z:Nat)(r:Int)=>z ||| zpT rows r) from funext λz=>funext λr=>zm1,Va]
def uK(ns m w:Nat)(r:Int):Prop :=
 (r = -1/\∀k,k<8 * m->ns<=k->w.testBit k=false) \/
 ∃k:Nat,r=(k:Int) - ns/\ns<=k/\k<8 * m/\w.testBit k=true/\∀j,ns<=j->j<k->w.testBit j=false
theorem ze9{ns:Nat}:∀{l:bN}{z:Int},0<=z->wj ns l z=z
 | [],z,_=>rfl
 | k::l,z,h=>by
  show wj ns l (ED ns k z)=z;rw[show ED ns k z=z from if_neg (by omega)]
  exact ze9 h
theorem zm2{ns:Nat}{l l':bN}{z:Int}:wj ns (l++l') z=wj ns l' (wj ns l z):=by simp[wj]
theorem zhQ{ns w:Nat}:∀n:Nat,(wj ns ((List.range n).filter λj=>w.testBit j) (-1) = -1/\∀k,k<n->ns<=k->w.testBit k=false) \/
  ∃k:Nat,wj ns ((List.range n).filter λj=>w.testBit j) (-1)=(k:Int) - ns/\ns<=k/\k<n/\w.testBit k=true/\∀j,ns<=j->j<k->w.testBit j=false
 | 0=>.inl ⟨rfl,λk h=>by omega⟩
 | n+1=>by
  rw[List.range_succ,List.filter_append,zm2];rcases zhQ (ns:=ns) (w:=w) n with⟨e,h⟩|⟨k,e,h1,h2,h3,h4⟩
  ·rw[e];cases hn:w.testBit n with
   | false =>
    refine .inl ⟨by simp[hn,wj],λk hk ov=>?_⟩
    rcases eX k n with h'|h'
    ·exact h k h' ov
    ·rwa [show k=n by omega]
   | true =>
    by_cases ov:ns<=n
    ·refine .inr ⟨n,?_,ov,Hq _,hn,λj h1 h2=>h j h2 h1⟩;simp only[List.filter_cons,hn,aF,List.filter_nil,wj,List.foldl_cons,List.foldl_nil];exact if_pos ⟨ov,by omega⟩
    ·refine .inl ⟨?_,λk hk h'=>?_⟩
     ·simp only[List.filter_cons,hn,aF,List.filter_nil,wj,List.foldl_cons,List.foldl_nil];exact if_neg (by omega)
     ·exact absurd h' (by omega)
  ·rw[e];exact .inr ⟨k,ze9 (by omega),h1,by omega,h3,h4⟩
theorem zpU{ns m w:Nat}:uK ns m w (wj ns (wi m w) (-1)):=zhQ (8 * m)
theorem uK.or{ns m v w:Nat}{a b c:Int}(ha:uK ns m v a)(hb:uK ns m w b)(hc:uK ns m (v ||| w) c):c=if a<0\/(0<=b/\b<a) then b else a:=by
 have u0:∀k,(v ||| w).testBit k=(v.testBit k || w.testBit k):=λk=>Ar ..
 rcases ha with⟨rfl,ha⟩|⟨x,rfl,a1,a2,a3,a4⟩
 ·rw[if_pos (.inl (by omega))]
  rcases hb with⟨rfl,hb⟩|⟨y,rfl,b1,b2,b3,b4⟩
  ·rcases hc with⟨rfl,_⟩|⟨z,rfl,c1,c2,c3,c4⟩
   ·rfl
   ·rw[u0,ha z c2 c1,hb z c2 c1] at c3;cases c3
  ·rcases hc with⟨rfl,hc⟩|⟨z,rfl,c1,c2,c3,c4⟩
   ·have:=hc y b2 b1;rw[u0,b3,Bool.or_true] at this;cases this
   ·have h1:¬z<y:=λh=>by rw[u0,ha z c2 c1,b4 z c1 h] at c3;cases c3
    have h2:¬y<z:=λh=>by have:=c4 y b1 h;rw[u0,b3,Bool.or_true] at this;cases this
    omega
 ·rcases hb with⟨rfl,hb⟩|⟨y,rfl,b1,b2,b3,b4⟩
  ·rw[if_neg (by omega)]
   rcases hc with⟨rfl,hc⟩|⟨z,rfl,c1,c2,c3,c4⟩
   ·have:=hc x a2 a1;rw[u0,a3] at this;cases this
   ·have h1:¬z<x:=λh=>by rw[u0,hb z c2 c1,a4 z c1 h] at c3;cases c3
    have h2:¬x<z:=λh=>by have:=c4 x a1 h;rw[u0,a3] at this;cases this
    omega
  ·rcases hc with⟨rfl,hc⟩|⟨z,rfl,c1,c2,c3,c4⟩
   ·have:=hc x a2 a1;rw[u0,a3] at this;cases this
   ·have h1:¬x<z:=λh=>by have:=c4 x a1 h;rw[u0,a3] at this;cases this
    have h2:¬y<z:=λh=>by have:=c4 y b1 h;rw[u0,b3,Bool.or_true] at this;cases this
    have h3:¬(z<x/\z<y):=λh=>by rw[u0,a4 z c1 h.1,b4 z c1 h.2] at c3;cases c3
    split<;>omega
end
section
def Sn(l:dB):Gl:={ g:=lK,hk:=cR l,uq:=eA }
theorem hkO{l:dB}(hl:qj prog lK l):nW prog (Sn l):=⟨hl.pure,λn f args H out H' h=>(by cases h),λ_ _ _ s7 h=>(by rw[show(Sn l).uq=eA from rfl,zmX s7] at h;cases h)⟩
theorem zgl{f:FuncId}{args:aD}:∀{l:dB},(∀x∈l,Nat.beq f x.1=false)->cR l f args=none
 | [],_=>rfl
 | (f',xs,v)::r,h=>by
  have h1:Nat.beq f f'=false:=h _ (eH ..);simp only[cR,h1];exact zgl λx hx=>h x (dR _ hx)
theorem GSO{l:dB}(h:∀x∈l,x.1=24\/x.1=72):GS (Sn l) where
 uq:=rfl
 fG:=λ_ _ _ _ _=>rfl
 hk:=λf args hf=>zgl λx hx=>by
  cases hb:Nat.beq f x.1 with
  | false=>rfl
  | true =>
   have e:=eU hb;rcases h x hx with e'|e'
   ·rw[e'] at e;subst e;revert hf;decide
   ·rw[e'] at e;subst e;revert hf;decide
theorem zm3{l:dB}{Oi:Gl}(hl:qj prog lK l)(FB:nW prog Oi)(hg:Oi.g=lK){f:FuncId}{xs:aD}{v:V}(he:Kn prog Oi f xs v)(ht:aI xs=0)(hv:v.top=0):qj prog lK ((f,xs,v)::l):=by
 obtain⟨k,h⟩:=he;exact kT hl λd H g w bx lc h1 h2 h3=>Py mixed iK fO FB (h k (dI _) ⟨[],[]⟩) ht hv (by rw[hg];exact h1) h2 h3
theorem Vb{f:FuncId}{xs:aD}{v:V}{l:dB}:cR ((f,xs,v)::l) f xs=some v:=by
 simp only[cR,iN,dh]
def mP(f:A2.F):Nat:=(f.s.2.length+f.f.2.length) / 8+1
def uL(f:A2.F):Nat->Nat->Nat:=sX f (f.n.2.map λr=>(0,xx r)) (mP f)
def BG(f:A2.F)(w:Nat):Int:=wj f.s.2.length (wi (mP f) w) (-1)
def rI(f:A2.F)(act:List Int):Nat:=qd f.f.2 act 0
theorem zm4{f:A2.F}{nx:aN}(h:nx.map (·.2)=f.n.2.map xx):sX f nx (mP f)=uL f:=zjW (by rw[h,List.map_map];rfl)
def So(aO:Nat->Nat->Nat)(lab:Nat->Int)(s0:Nat)(v:V):Prop :=
 (∃i,0<i/\(zm aO s0 i).length=i/\qZ (zm aO s0 i)<=600/\v=.bq [A2.ij (xd aO s0 lab i),.bM]) \/
 (∃i,600<qZ (zm aO s0 i)/\v=.bq [.agg [.aG,.aG],.ec 396 (.obj 2)])
inductive AD(aO:Nat->Nat->Nat)(lab:Nat->Int):bN->Nat->aD->Prop
 |nil:AD aO lab [] 0 []
 |snoc {ss:bN} {c s0 i:Nat} {vs:aD} (h:AD aO lab ss c vs) (hi:0<i) (hl:(zm aO s0 i).length=i):AD aO lab (ss++[s0]) (c+qZ (zm aO s0 i)) (vs++[A2.ij (xd aO s0 lab i)])
def Sp(f:A2.F)(l:List A2.cE)(v:V):Prop :=
 (∃c vs,AD (uL f) (BG f) (l.map λa=>rI f a.2) c vs/\c<=600/\v=.bq [.sl 2 vs .no,.bM]) \/
 (v=.bq [.aG,.ec 396 (.obj 2)]/\∃j a c ds i,l[j]?=some a/\AD (uL f) (BG f) ((l.take j).map λa=>rI f a.2) c ds/\600<c+qZ (zm (uL f) (rI f a.2) i))
section
variable{l l1:dB}{f:A2.F}{n:Nat}
theorem zm5:(Sn l).g 0 0=some (.ec 396 (.obj 0)):=by kernel_rfl
theorem zm6:(Sn l).g 2 0=some (.ec 396 (.obj 2)):=by kernel_rfl
theorem zkW(hl:qj prog lK l)(so:qj prog lK l1)(h1:∀x∈l1,x.1=24\/x.1=72){act:A2.cE}{ck rk:Bool}(hn:mP f+1000<=n)(ur:mP f<2 ^ 36)
  (BZ:cR l1 24 [A2.fv f]=some (.bool ck)) (M5:cR l1 72 [A2.fv f,A2.iv act]=some (.bool rk))
  (hF:ck=true->rk=true->EI f (mP f) (n - 3)/\(∀r∈act.2,0<=r/\r.toNat<f.f.2.length)/\act.2.length<n - 3/\act.2.length<2 ^ 60) :
  ∃v,v.top=0/\(if ck=true/\rk=true then So (uL f) (BG f) (rI f act.2) v else v=.bq [.agg [.aG,.aG],.ec 396 (.obj 0)])/\qj prog lK ((28,[A2.fv f,A2.iv act],v)::l):=by
 obtain⟨v,H',hc,hp⟩:=ze7 (GSO h1) hn ur BZ M5 zm5 zm6 hF;have ht:aI [A2.fv f,A2.iv act]=0:=by simp[aI,A2.sM,A2.p7]
 have pq:∀v',mC H' v v'->(∀sz xs e,v'≠.sl sz xs (.yes e))->qj prog lK ((28,[A2.fv f,A2.iv act],v')::l):=λv' hz eT =>
  kT hl λd H g w bx lc h1 h2 h3=>PA mixed iK fO (hkO so) hc ht hz eT h1 h2 h3
 split at hp
 ·rename_i nL;obtain⟨nx,GU,hp⟩:=hp;rw[zm4 GU] at hp;rcases hp with⟨i,b,NB,q1,q2,q3,rfl,q5⟩|⟨i,q1,rfl⟩
  ·have hz:=ziG (lab:=BG f) (es:=H'.bG) q5 q1 q2;exact⟨_,hz.top,by rw[if_pos nL];exact .inl ⟨i,q1,q2,q3,rfl⟩,pq _ hz λ_ _ _ e=>by cases e⟩
  ·exact⟨_,rfl,by rw[if_pos nL];exact .inr ⟨i,q1,rfl⟩,pq _ (.same rfl) λ_ _ _ e=>by cases e⟩
 next nL=>subst hp;exact⟨_,rfl,by rw[if_neg nL],pq _ (.same rfl) λ_ _ _ e=>by cases e⟩
theorem zoH{H:Hp}{x1 x2 y1 y2 e e':V}(h:mC H (.bq [.agg [x1,x2],e]) (.bq [.agg [y1,y2],e']))(ht:0<(V.agg [x1,x2]).top):mC H x1 y1/\mC H x2 y2/\y1.one=true/\y2.one=true/\aI [y1,y2]=0:=by
 cases h with
 | same h' =>
  simp only[V.top,aI] at h' ht;omega
 | bq k1 k2 =>
  have k0:=k2 0 _ _ rfl rfl;have kt:=k0.top;cases k0 with
  | same h' =>
   simp only[V.top,aI] at h' ht;omega
  | agg m1 m2 m3=>exact⟨m3 0 _ _ rfl rfl,m3 1 _ _ rfl rfl,m2 0 _ rfl,m2 1 _ rfl,kt⟩
theorem zoI{aO:Nat->Nat->Nat}{s0:Nat}{lab:Nat->Int}{B:List aV}{es:aN}{b i:Nat}{NB:bN}(h:RW aO s0 B b i NB)(hi:0<i)(hc:(zm aO s0 i).length=i) :
  ∃x1 x2 y1 y2,AM b NB ((zm aO s0 i).map lab)=.agg [x1,x2]/\A2.ij (xd aO s0 lab i)=.agg [y1,y2]/\mC ⟨B,es⟩ x1 y1/\mC ⟨B,es⟩ x2 y2/\y1.one=true/\y2.one=true/\aI [y1,y2]=0 :=
 ⟨_,_,_,_,rfl,rfl,zoH (ziG (lab:=lab) (es:=es) h hi hc) (zmW (dU:=(zm aO s0 i).map lab) h hi)⟩
theorem AW.frz{aO:Nat->Nat->Nat}{lab:Nat->Int}{H:Hp}{ss:bN}{c:Nat}{vs:aD}(h:AW aO lab H.az ss c vs) :
  ∃ds,AD aO lab ss c ds/\vs.length=ds.length/\(zI vs).length=(zI ds).length/\(∀y∈ds,y.cells.length=2)/\(∀(j:Nat)(y:V),(zI ds)[j]?=some y->y.one=true)/\(∀(j:Nat)(x y:V),(zI vs)[j]?=some x->(zI ds)[j]?=some y->mC H x y)/\aI ds=0:=by
 induction h with
 | nil=>exact⟨[],.nil,rfl,rfl,λy hy=>(by cases hy),λj y hy=>(by simp[zI] at hy),λj x y hx=>(by simp[zI] at hx),rfl⟩
 | @snoc ss c s0 i b NB vs h hi hl hr iA ih =>
  obtain⟨ds,q1,q2,q3,q4,q5,q6,q7⟩:=ih;obtain⟨x1,x2,y1,y2,e1,e2,z1,z2,o1,o2,t0⟩:=zoI (lab:=lab) (es:=H.bG) hr hi hl;have f1:zI (vs++[AM b NB ((zm aO s0 i).map lab)])=zI vs++[x1,x2]:=by rw[e1];simp[zI,V.cells]
  have f2:zI (ds++[A2.ij (xd aO s0 lab i)])=zI ds++[y1,y2]:=by rw[e2];simp[zI,V.cells]
  refine⟨_,.snoc q1 hi hl,by simp[q2],by rw[f1,f2];simp[q3],λy hy=>?_,λj y hy=>?_,λj x y hx hy=>?_,?_⟩
  ·rcases rK.1 hy with h'|h'
   ·exact q4 y h'
   ·rw[oX] at h';rw[h',e2];rfl
  ·rw[f2] at hy;rcases eX j (zI ds).length with hj|hj
   ·rw[gb hj] at hy;exact q5 j y hy
   ·rw[fE hj] at hy
    match j - (zI ds).length,hy with
    | 0,hy=>cases hy;exact o1
    | 1,hy=>cases hy;exact o2
    | k+2,hy=>simp at hy
  ·rw[f1] at hx;rw[f2] at hy;rcases eX j (zI ds).length with hj|hj
   ·rw[gb hj] at hy;rw[gb (by omega)] at hx
    exact q6 j x y hx hy
   ·rw[fE hj] at hy;rw[fE (by omega),q3] at hx
    match j - (zI ds).length,hx,hy with
    | 0,hx,hy=>cases hx;cases hy;exact z1
    | 1,hx,hy=>cases hx;cases hy;exact z2
    | k+2,hx,hy=>simp at hy
  ·refine Nat.le_zero.1 (wz (by omega) ?_)
   rw[e2];simp only[aI,V.top] at t0 ⊢;omega
theorem zjX(hl:qj prog lK l)(so:qj prog lK l1)(h1:∀x∈l1,x.1=24\/x.1=72){cT:A2.f_}{ck:Bool}{rk:A2.cE->Bool}(hn:mP f+1000<=n)(ur:mP f<2 ^ 36)
  (BZ:cR l1 24 [A2.fv f]=some (.bool ck)) (M5:∀a∈cT.2,cR l1 72 [A2.fv f,A2.iv a]=some (.bool (rk a)))
  (rN:cT.2.length<n) (Si:cT.2.length<2 ^ 60) (hF:ck=true->EI f (mP f) (n - 3)) (hA:∀a∈cT.2,rk a=true->(∀r∈a.2,0<=r/\r.toNat<f.f.2.length)/\a.2.length<n - 3/\a.2.length<2 ^ 60) :
  ∃v,v.top=0/\(if xU ck rk cT.2=true then Sp f cT.2 v else v=.bq [.aG,.ec 396 (.obj 0)])/\qj prog lK ((30,[A2.fv f,A2.rv cT],v)::l):=by
 obtain⟨v,H',hc,hp⟩:=zoD (GSO h1) hn ur BZ M5 zm5 zm6 rN Si hF hA;have ht:aI [A2.fv f,A2.rv cT]=0:=by simp[aI,A2.sM,A2.CP]
 have pq:∀v',mC H' v v'->(∀sz xs e,v'≠.sl sz xs (.yes e))->qj prog lK ((30,[A2.fv f,A2.rv cT],v')::l):=λv' hz eT =>
  kT hl λd H g w bx lc h1 h2 h3=>PA mixed iK fO (hkO so) hc ht hz eT h1 h2 h3
 split at hp
 ·rename_i nL;obtain⟨nx,GU,hp⟩:=hp;rw[zm4 GU] at hp;rcases hp with⟨c,vs,q1,q2,rfl⟩|⟨j,a,c,vs,i,B',q1,q2,q3,rfl⟩
  ·have h0:0<vs.length:=by
    rw[q1.len,gC];simp only[xU,eo,decide_eq_true_eq] at nL;omega
   have e:aW (zl 2 66 vs)=.sl 2 vs .no:=by rw[zgk,U8 h0]
   rw[e] at hc;obtain⟨ds,k1,k2,k3,k4,k5,k6,k7⟩:=q1.frz;refine⟨.bq [.sl 2 ds .no,.bM],by simp[V.top,aI,k7],by rw[if_pos nL];exact .inl ⟨c,ds,k1,q2,rfl⟩,?_⟩
   exact kT hl λd H g w bx lc h1 h2 h3=>znS mixed iK fO (hkO so) hc ht k2 k3 k4 k5 k6 k7 h1 h2 h3
  ·exact⟨_,rfl,by rw[if_pos nL];exact .inr ⟨rfl,j,a,c,_,i,q1,(AW.frz (H:=⟨B',[]⟩) q2).choose_spec.1,q3⟩,pq _ (.same rfl) λ_ _ _ e=>by cases e⟩
 next nL=>subst hp;exact⟨_,rfl,by rw[if_neg nL],pq _ (.same rfl) λ_ _ _ e=>by cases e⟩
end
end
section
open Go.Vm.Sx
theorem zo3{l:List Int}(h0:∀i,i<l.length->0<=A2.gi l i)(Vc:∀i,0<i->i<l.length->A2.gi l (i - 1)<A2.gi l i):∀i,i<l.length->(i:Int)<=A2.gi l i
 | 0,h=>h0 0 h
 | i+1,h=>by
  have h1:=zo3 h0 Vc i (by omega)
  have h2:=Vc (i+1) (Nat.succ_pos _) h;rw[Nat.add_sub_cancel] at h2;omega
theorem zm7{l:List Int}{b:Nat}(h0:∀i,i<l.length->0<=A2.gi l i)(Vc:∀i,0<i->i<l.length->A2.gi l (i - 1)<A2.gi l i)(hb:∀i,i<l.length->A2.gi l i<b):l.length<=b:=by
 rcases Jl l.length with h|h
 ·omega
 ·have h1:=zo3 h0 Vc (l.length - 1) (by omega)
  have h2:=hb (l.length - 1) (by omega)
  omega
theorem ziL{l:List Int}{z:Int}(h:z∈l):∃i,i<l.length/\A2.gi l i=z:=by
 obtain⟨i,hi,e⟩:=List.getElem_of_mem h;exact⟨i,hi,by simp[A2.gi,hi,e]⟩
theorem zgm{n:Nat}{l:List Int}(h:wP (A2.AK n l) l.length=true):(∀r∈l,0<=r/\r.toNat<n)/\l.length<=n:=by
 have hk:∀i,i<l.length->0<=A2.gi l i/\A2.gi l i<n/\(0<i->A2.gi l (i - 1)<A2.gi l i):=λi hi=>by
  have:=cL.1 h i hi;simp only[A2.AK,dj,nD,eo,tn,Gq,decide_eq_false_iff_not,beq_iff_eq] at this;exact⟨by omega,by omega,λh0=>by omega⟩
 refine⟨λr hr=>?_,zm7 (λi hi=>(hk i hi).1) (λi h0 hi=>(hk i hi).2.2 h0) λi hi=>(hk i hi).2.1⟩;obtain⟨i,hi,rfl⟩:=ziL hr;have:=hk i hi;omega
theorem zhR{n R:Nat}{r:List Int}{rule:Int}{l:List Int}(h:wP (A2.oT n r rule l) l.length=true)(h0:0<=rule)(h1:rule<R):(∀z∈l,0<=z/\z.toNat<n+R)/\l.length<=n+R:=by
 have hk:∀i,i<l.length->0<=A2.gi l i/\A2.gi l i<((n+R:Nat):Int)/\(0<i->A2.gi l (i - 1)<A2.gi l i):=λi hi=>by
  have:=cL.1 h i hi;unfold A2.oT at this;cases hc:(i == 0 || !nD (A2.gi l i) (A2.gi l (i - 1))) && !dj (A2.gi l i) 0 with
  | false=>rw[hc] at this;cases this
  | true =>
   rw[hc] at this;simp only[dj,nD,eo,tn,Gq,decide_eq_false_iff_not,beq_iff_eq] at hc;refine⟨by omega,?_,λh0=>by omega⟩
   cases h2:A2.gi l i == (n:Int)+rule with
   | true =>
    have:=eq_of_beq h2;omega
   | false =>
    rw[h2] at this;cases h3:nD (n:Int) (A2.gi l i) with
    | true=>rw[h3] at this;cases this
    | false =>
     simp only[nD,decide_eq_false_iff_not] at h3;omega
 refine⟨λz hz=>?_,zm7 (λi hi=>(hk i hi).1) (λi h0 hi=>(hk i hi).2.2 h0) λi hi=>(hk i hi).2.1⟩;obtain⟨i,hi,rfl⟩:=ziL hz;have:=hk i hi;omega
theorem zgn{f:A2.F}(hq:∀q∈f.s.2,BX q)(h:A2.Ed f.s.2.length f.r.2 (A2.rowsOf f.f) (A2.rowsOf f.n)=true){n:Nat}(hn:2000<=n):EI f ((f.s.2.length+f.f.2.length) / 8+1) n/\f.s.2.length<=1000/\f.f.2.length<=200:=by
 unfold A2.Ed at h;cases hh:(((dj 1000 (f.s.2.length:Int) || dj 200 ((A2.rowsOf f.f).length:Int)) || !((f.r.2.length:Int) == (f.s.2.length:Int))) || !(((A2.rowsOf f.n).length:Int) == (f.s.2.length:Int))) with
 | true=>rw[hh] at h;cases h
 | false =>
 rw[hh] at h;simp only[dj,A2.ez,KJ,Bool.not_eq_false',beq_iff_eq,decide_eq_false_iff_not] at hh;obtain⟨⟨⟨g1,g2⟩,g3⟩,g4⟩:=hh;simp only[oq] at h;cases hs:A2.nG f.r.2 with
 | false=>rw[hs] at h;cases h
 | true =>
 rw[hs] at h;simp only[mJ] at h;have hr:(∀i,i<f.s.2.length->0<=A2.gi f.r.2 i/\A2.gi f.r.2 i<f.f.2.length)/\A2.nH f.s.2.length f.r.2 (A2.rowsOf f.f) (A2.rowsOf f.n)=true:=by
  cases h0:dj 0 (f.s.2.length:Int) with
  | false =>
   rw[h0] at h;simp only[dj,decide_eq_false_iff_not] at h0;exact⟨λi hi=>by omega,h⟩
  | true =>
   rw[h0] at h;simp only[mJ] at h;cases h1:dj (A2.gi f.r.2 0) 0 with
   | true=>rw[h1] at h;cases h
   | false =>
   rw[h1] at h;simp only[oo,mJ] at h;cases h2:nD ((A2.rowsOf f.f).length:Int) (A2.gi f.r.2 (f.s.2.length - 1)) with
   | true=>rw[h2] at h;cases h
   | false =>
   rw[h2] at h;simp only[dj,nD,A2.ez,decide_eq_false_iff_not] at h1 h2;refine⟨λi hi=>?_,h⟩;have k1:=A2.pF hs (i:=0) (j:=i) (eg _) (by omega)
   have k2:=A2.pF hs (i:=i) (j:=f.s.2.length - 1) (by omega) (by omega)
   omega
 obtain⟨hr,h⟩:=hr;unfold A2.nH at h;cases hA:wP (λi=>wP (A2.oT f.s.2.length f.r.2 (i:Int) (A2.gr (A2.rowsOf f.f) i)) (A2.gr (A2.rowsOf f.f) i).length) (A2.rowsOf f.f).length with
 | false=>rw[hA] at h;cases h
 | true =>
 rw[hA] at h;simp only[mJ] at h;rw[A2.ez] at hA;have rn:∀row∈f.n.2,(∀z∈row.2,0<=z/\z.toNat<f.s.2.length+f.f.2.length)/\row.2.length<=f.s.2.length+f.f.2.length:=λrow C_=>by
  obtain⟨i,hi,e⟩:=List.getElem_of_mem C_;have hg:A2.gr (A2.rowsOf f.n) i=row.2:=A2.oR (by rw[gh hi,e])
  have h1:=cL.1 h i (by omega)
  rw[hg] at h1;obtain⟨k1,k2⟩:=hr i (by omega)
  exact zhR h1 k1 k2
 have rf:∀row∈f.f.2,(∀z∈row.2,0<=z/\z.toNat<f.s.2.length+f.f.2.length)/\row.2.length<=f.s.2.length+f.f.2.length:=λrow C_=>by
  obtain⟨i,hi,e⟩:=List.getElem_of_mem C_;have hg:A2.gr (A2.rowsOf f.f) i=row.2:=A2.oR (by rw[gh hi,e])
  have h1:=cL.1 hA i hi;rw[hg] at h1;exact zhR h1 (by omega) (by omega)
 refine⟨⟨rfl,hq,⟨by omega,by omega⟩,by omega,by omega,λrow C_=>?_,λrow C_=>?_⟩,by omega,by omega⟩
 ·obtain⟨k1,k2⟩:=rn row C_;exact⟨by omega,by omega,k1⟩
 ·obtain⟨k1,k2⟩:=rf row C_;exact⟨by omega,by omega,k1⟩
end
section
open Go.Vm.Sx
def Sq:Gl:={ g:=lK,hk:=cR [] }
theorem Sr:nW prog Sq:=xj (P:=prog) (g0:=lK)
theorem Ss:GK Sq []:=⟨λ_ _ _=>rfl,λ_ _ _ _ _=>rfl,λ_=>rfl⟩
theorem zm8{sz:Nat}{a b:Bool}{xs ys:aD}(h:lv sz a xs=lv sz b ys):xs=ys:=by
 rcases cH sz a xs with h1|⟨e1,h1⟩<;>rcases cH sz b ys with h2|⟨e2,h2⟩<;>rw[h1,h2] at h
 ·injection h
 ·cases h
 ·cases h
 ·rw[e1,e2]
theorem ziM{a b:A2.cE}(h:A2.iv a=A2.iv b):a.2=b.2:=(List.map_inj_right λx y e=>by injection e).1 (zm8 h)
def Na(f:A2.F):Bool:=A2.Ed f.s.2.length f.r.2 (A2.rowsOf f.f) (A2.rowsOf f.n)
def Jg(f:A2.F)(a:A2.cE):Bool:=wP (A2.AK f.f.2.length a.2) a.2.length
def Su(f:A2.F)(l:List A2.cE):dB:=l.map λa=>(72,[A2.fv f,A2.iv a],.bool (Jg f a))
def OC(f:A2.F)(l:List A2.cE):dB:=(24,[A2.fv f],.bool (Na f))::Su f l
theorem zm9{f:A2.F}(hf:A2.WF f):∀{l:List A2.cE},(∀a∈l,a.2.length * 8<=reachBytes)->qj prog lK (Su f l)
 | [],_=>xj
 | a::l,h=>zm3 (zm9 hf λb hb=>h b (dR _ hb)) Sr rfl (xs:=[A2.fv f,A2.iv a]) ⟨_,A2.YM Ss rfl f a (by have:=h a (eH ..);have:=A2.dY;omega)⟩ (by simp[aI,A2.sM,A2.p7]) rfl
theorem ziN{f:A2.F}(hf:A2.WF f){l:List A2.cE}(h:∀a∈l,a.2.length * 8<=reachBytes):qj prog lK (OC f l) :=
 zm3 (zm9 hf h) Sr rfl (xs:=[A2.fv f]) (A2.ZF Ss rfl f hf) (by simp[aI,A2.sM]) rfl
theorem ziO{f:A2.F}{l:List A2.cE}:∀x∈OC f l,x.1=24\/x.1=72:=λx hx=>by
 rcases dH.1 hx with rfl|h
 ·exact .inl rfl
 ·obtain⟨a,_,rfl⟩:=mj.1 h;exact .inr rfl
theorem zjY{f:A2.F}{a:A2.cE}:∀{l:List A2.cE},a∈l->cR (Su f l) 72 [A2.fv f,A2.iv a]=some (.bool (Jg f a))
 | b::l,h=>by
  show(match Nat.beq 72 72 with|true=>(match eJ [A2.fv f,A2.iv a] [A2.fv f,A2.iv b] with|true=>some (V.bool (Jg f b))|false=>cR (Su f l) 72 [A2.fv f,A2.iv a])|false=>cR (Su f l) 72 [A2.fv f,A2.iv a])=_
  simp only[];cases hs:eJ [A2.fv f,A2.iv a] [A2.fv f,A2.iv b] with
  | true =>
   have e:=vD hs;simp only[Aq,At,iU] at e;have e':=ziM e;simp only[Jg,e']
  | false =>
   rcases dH.1 h with rfl|h'
   ·rw[dh] at hs;cases hs
   ·exact zjY h'
theorem ziP{f:A2.F}{l:List A2.cE}{a:A2.cE}(h:a∈l):cR (OC f l) 72 [A2.fv f,A2.iv a]=some (.bool (Jg f a)):=zjY h
theorem ziQ{f:A2.F}{l:List A2.cE}:cR (OC f l) 24 [A2.fv f]=some (.bool (Na f)):=Vb
section
variable{l:dB}{f:A2.F}
theorem zna(hs:f.s.2.length<2 ^ 30)(hf:f.f.2.length<2 ^ 30):mP f<2 ^ 36:=by
 simp only[mP];omega
theorem znb(hl:qj prog lK l)(hw:A2.WF f)(hq:∀q∈f.s.2,BX q)(hs:f.s.2.length<2 ^ 30)(CU:f.f.2.length<2 ^ 30)(act:A2.cE)(ha:act.2.length * 8<=reachBytes) :
  ∃v,v.top=0/\(if Na f=true/\Jg f act=true then So (uL f) (BG f) (rI f act.2) v else v=.bq [.agg [.aG,.aG],.ec 396 (.obj 0)])/\qj prog lK ((28,[A2.fv f,A2.iv act],v)::l):=by
 have ek:∀a∈[act],a.2.length * 8<=reachBytes:=λa h=>by
  rw[oX] at h;rw[h];exact ha
 refine zkW (n:=mP f+5000) hl (ziN hw ek) ziO (by omega) (zna hs CU) ziQ (ziP (List.mem_singleton_self _)) λh1 h2=>?_
 obtain⟨k1,k2,k3⟩:=zgn hq h1 (n:=mP f+5000 - 3) (by omega)
 obtain⟨k4,k5⟩:=zgm h2;exact⟨k1,k4,by omega,by omega⟩
theorem znc(hl:qj prog lK l)(hw:A2.WF f)(hq:∀q∈f.s.2,BX q)(hs:f.s.2.length<2 ^ 30)(CU:f.f.2.length<2 ^ 30)(cT:A2.f_)(ha:∀a∈cT.2,a.2.length * 8<=reachBytes)(rN:cT.2.length<2 ^ 60) :
  ∃v,v.top=0/\(if xU (Na f) (Jg f) cT.2=true then Sp f cT.2 v else v=.bq [.aG,.ec 396 (.obj 0)])/\qj prog lK ((30,[A2.fv f,A2.rv cT],v)::l):=by
 cases nL:Na f with
 | false =>
  have BZ:cR (OC f cT.2) 24 [A2.fv f]=some (.bool false):=by rw[<- nL];exact ziQ
  refine zjX (n:=mP f+5000+cT.2.length+f.f.2.length) hl (ziN hw ha) ziO (by omega) (zna hs CU) BZ (λa h=>ziP h) (by omega) rN (λh=>by cases h) λa h1 h2=>?_
  obtain⟨k4,k5⟩:=zgm h2;exact⟨k4,by omega,by omega⟩
 | true =>
  have BZ:cR (OC f cT.2) 24 [A2.fv f]=some (.bool true):=by rw[<- nL];exact ziQ
  obtain⟨k1,k2,k3⟩:=zgn hq nL (n:=mP f+5000+cT.2.length+f.f.2.length - 3) (by omega)
  refine zjX (n:=mP f+5000+cT.2.length+f.f.2.length) hl (ziN hw ha) ziO (by omega) (zna hs CU) BZ (λa h=>ziP h) (by omega) rN (λ_=>k1) λa h1 h2=>?_
  obtain⟨k4,k5⟩:=zgm h2;exact⟨k4,by omega,by omega⟩
end
end
section
open Go.Vm.Sx
def MQ(m:Mk):Prop:=(∀q∈m.bZ,BX q)/\∀z∈m.rules,A2.GZ z
theorem qok{a b c d:Int}(h:QU a/\QU b/\QU c/\QU d):BX (a,b,c,d):=λi=>by
 match i with
 | 0=>exact h.1
 | 1=>exact h.2.1
 | 2=>exact h.2.2.1
 | i+3=>exact h.2.2.2
section
variable{r op mn mx:Int}{m:Mk}
theorem zoJ{q:Int×Int×Int×Int}(h:MQ m)(hq:BX q)(hr:A2.GZ r):MQ (jM op q r m).2:=by
 unfold jM;split
 ·exact h
 ·refine⟨λx hx=>?_,λx hx=>?_⟩
  ·rcases rK.1 hx with h'|h'
   ·exact h.1 x h'
   ·rw[oX.1 h'];exact hq
  ·rcases rK.1 hx with h'|h'
   ·exact h.2 x h'
   ·rw[oX.1 h'];exact hr
theorem zpV{x:Part×Mk}(h:MQ x.2):MQ (y9 op mn mx x).2:=by
 unfold y9;split<;>exact h
mutual
theorem zo4(hr:A2.GZ r):∀(e:E)(m:Mk),QE e->MQ m->MQ (iR r e m).2
 | .mk op _ s0 s1 s2 s3 _ mn mx _ [],m,he,h=>by
  simp only[QE] at he;simp only[iR];exact zoJ h (qok he.1) hr
 | .mk op _ s0 s1 s2 s3 _ mn mx _ (a::tl),m,he,h=>by
  simp only[QE] at he;simp only[iR];exact zpV (zo5 hr (a::tl) op 0 p0 m he.2 h)
theorem zo5(hr:A2.GZ r):∀(es:List E)(op:Int)(k:Nat)(a:Part)(m:Mk),MD es->MQ m->MQ (sI r op k a es m).2
 | [],op,k,a,m,he,h=>by simp only[sI];exact h
 | e::es,op,k,a,m,he,h=>by
  simp only[MD] at he;simp only[sI];exact zo5 hr es op (k+1) (zP op k a (iR r e m).1 (iR r e m).2.next).1 { (iR r e m).2 with next:=(zP op k a (iR r e m).1 (iR r e m).2.next).2 } he.2 (zo4 hr e m he.1 h)
end
theorem zhS{n:Nat}:∀(es:List E)(r:Nat)(m:Mk),(∀e∈es,QE e)->r+es.length<=1000000->MQ m->MQ (qt n r es m).2
 | [],r,m,he,hr,h=>h
 | e::es,r,m,he,hr,h=>by
  simp only[aZ] at hr;simp only[qt];have hh:=zo4 (r:=(r:Int)) ⟨by omega,by omega⟩ e m (he e (eH ..)) h
  have h2:MQ (jU n r e m).2:=by
   simp only[jU];exact⟨hh.1,hh.2⟩
  exact zhS es (r+1) (jU n r e m).2 (λx hx=>he x (dR _ hx)) (by omega) h2
theorem zel{n:Nat}:∀(es:List E)(r:Nat)(m:Mk),∀x∈(qt n r es m).1,∃p,x=jh p 19
 | [],r,m,x,h=>by cases h
 | e::es,r,m,x,h=>by
  simp only[qt] at h;rcases dH.1 h with h|h
  ·rw[h];simp only[jU];exact⟨_,rfl⟩
  ·exact zel es _ _ x h
theorem zqE{c:Cr}(h:QE c.1/\QE c.2.2):QE (ff c):=by
 unfold ff;split
 ·have z:QU 0:=⟨by omega,by omega⟩
  simp only[QE,MD];exact⟨⟨z,z,z,z⟩,h.1,h.2,trivial⟩
 ·exact h.1
end
def toF(x:Fo):A2.F:=⟨(true,x.s),(true,x.r),(true,x.f.map λy=>(true,y)),(true,x.n.map λy=>(true,y))⟩
theorem znd(l:List (List Int)):GX l=A2.rv (true,l.map λy=>(true,y)):=by
 unfold GX A2.rv;rw[List.map_map];rfl
theorem zpW(x:Fo):T9 x=A2.fv (toF x):=by
 unfold T9 QF A2.fv A2.fc;rw[znd,znd];rfl
def fF(l:List Cr):A2.F:=toF (IX l)
theorem zpX{l:bN}(h:l.length<=1216)(hx:∀k∈l,k<1216):A2.WI (true,l.map Int.ofNat):=by
 refine⟨?_,λz hz=>?_⟩
 ·have h2:(10000:Nat)<=reachBytes:=by decide
  simp only[gC];omega
 ·obtain⟨k,hk,rfl⟩:=mj.1 hz;have:=hx k hk;exact⟨by show _<=((k:Nat):Int);omega,by show((k:Nat):Int)<=_;omega⟩
theorem zne{p:Nat->Bool}:A2.WI (true,(jh p 19).map Int.ofNat):=zpX zmz λ_k hk=>(iy.1 hk).1
theorem zqF{l:List Cr}(h:IW l)(he:bE l=.bM)(hq:∀c∈l,QE c.1/\QE c.2.2):bV l=.bq [A2.fv (fF l),.bM]/\A2.WF (fF l)/\(∀q∈(fF l).s.2,BX q)/\(fF l).s.2.length<=1000/\(fF l).f.2.length=l.length/\l.length<=200:=by
 obtain⟨k,h1,h2,h3,h4,_,_,h7⟩:=zmy h he;obtain⟨r1,_,r3⟩:=YH (n:=k) (l.map ff) 0 m0 h7 ⟨rfl,rfl⟩ (by simp[m0];omega) (by rw[gC];omega) (λx hx=>by simp[m0] at hx)
 have hm:MQ (qt k 0 (l.map ff) m0).2:=zhS _ _ _ (λe he=>by
  obtain⟨c,hc,rfl⟩:=mj.1 he
  exact zqE (hq c hc)) (by rw[gC];omega) ⟨λq hq=>(by cases hq),λq hq=>(by cases hq)⟩
 have hf:IX l=⟨(qt k 0 (l.map ff) m0).2.bZ,(qt k 0 (l.map ff) m0).2.rules,(qt k 0 (l.map ff) m0).1.map (·.map Int.ofNat),(qt k 0 (l.map ff) m0).2.next.map λp=>(jh p 19).map Int.ofNat⟩:=by
  rw[IX,h1];simp only[uP]
 have e0:m0.bZ.length=0:=rfl;have HZ:(1000000:Nat)<=reachBytes:=by decide
 have hA:bV l=.bq [A2.fv (fF l),.bM]:=by
  rw[bV,he,bA,h1];simp only[mJ,if_neg (show ¬(1000<(k:Int)) by omega)]
  rw[<- show T9 (IX l)=.agg (QF (IX l)) from rfl,zpW];rfl
 have l1:=ziw (n:=k) (l.map ff) 0 m0;rw[gC] at l1;have l2:=r3.r;have l3:=r3.n;refine⟨hA,?_,?_,?_,?_,h4⟩
 ·rw[fF,hf];refine⟨?_,⟨?_,hm.2⟩,⟨?_,λq hq=>?_⟩,⟨?_,λq hq=>?_⟩⟩
  ·show(qt k 0 (l.map ff) m0).2.bZ.length * 32<=_;omega
  ·show(qt k 0 (l.map ff) m0).2.rules.length * 8<=_;omega
  ·show(((qt k 0 (l.map ff) m0).1.map _).map _).length * 24<=_;rw[gC,gC];omega
  ·obtain⟨y,hy,rfl⟩:=mj.1 hq;obtain⟨z,hz,rfl⟩:=mj.1 hy;obtain⟨p,hp⟩:=zel _ _ _ z hz;have h1:=zne (p:=p);rw[<- hp] at h1;exact h1
  ·show(((qt k 0 (l.map ff) m0).2.next.map _).map _).length * 24<=_
   rw[gC,gC];omega
  ·obtain⟨y,hy,rfl⟩:=mj.1 hq;obtain⟨p,_,rfl⟩:=mj.1 hy;have h1:=zne (p:=p);generalize jh p 19=z at h1 ⊢;exact h1
 ·rw[fF,hf];exact hm.1
 ·rw[fF,hf];show(qt k 0 (l.map ff) m0).2.bZ.length<=_;omega
 ·rw[fF,hf];show(((qt k 0 (l.map ff) m0).1.map _).map _).length=_;rw[gC,gC];omega
theorem zqG{l:List Cr}(he:bE l≠.bM):bV l=.bq [.agg zF,bE l]/\∃k,bE l=.ec 396 (.obj k):=by
 unfold bV;unfold bE at he ⊢;unfold bA;cases hm:(yO l).2 with
 | false=>exact⟨rfl,_,rfl⟩
 | true =>
  rw[hm] at he;simp only[mJ] at he ⊢;split
  ·exact⟨rfl,_,rfl⟩
  next h=>rw[if_neg h] at he;exact absurd rfl he
end
section
section
variable{aO:Nat->Nat->Nat}{lab:Nat->Int}
def Cl(aO:Nat->Nat->Nat)(s:Nat)(i:Nat):Prop:=0<i/\(zm aO s i).length=i
theorem Cl.one{s i j:Nat}(h:Cl aO s i)(h':Cl aO s j):i=j:=ze8 h.2 h'.2
theorem Cl.cnt{s i j:Nat}(h:Cl aO s i):qZ (zm aO s j)<=qZ (zm aO s i):=by
 obtain⟨rs,e⟩:=xy (j:=j) h.2;rw[e];exact zeb
open Classical in
noncomputable def KW(aO:Nat->Nat->Nat)(s:Nat):Nat:=if h:∃i,Cl aO s i then qZ (zm aO s (Classical.choose h)) else 0
theorem Cl.K{s i:Nat}(h:Cl aO s i):KW aO s=qZ (zm aO s i):=by
 have hex:∃i,Cl aO s i:=⟨i,h⟩;rw[KW,dif_pos hex,(Classical.choose_spec hex).one h]
theorem AD.sum{ss:bN}{c:Nat}{vs:aD}(h:AD aO lab ss c vs):c=(ss.map (KW aO)).sum:=by
 induction h with
 | nil=>rfl
 | @snoc ss c s0 i vs h hi hl ih =>
  rw[List.map_append,List.sum_append,<- ih];simp only[aY,bp,List.sum_cons,List.sum_nil,nP];rw[Cl.K ⟨hi,hl⟩]
theorem AD.len{ss:bN}{c:Nat}{vs:aD}(h:AD aO lab ss c vs):vs.length=ss.length:=by
 induction h with
 | nil=>rfl
 | snoc _ _ _ ih=>simp[ih]
theorem AD.get{ss:bN}{c:Nat}{vs:aD}(h:AD aO lab ss c vs):∀(k s:Nat),ss[k]?=some s->∃i,Cl aO s i/\vs[k]?=some (A2.ij (xd aO s lab i))/\qZ (zm aO s i)<=c:=by
 induction h with
 | nil=>intro k s hk;simp at hk
 | @snoc ss c s0 i vs h hi hl ih =>
  intro k s hk;have hv:=h.len;rcases eX k ss.length with h1|h1
  ·rw[gb h1] at hk;obtain⟨i',q1,q2,q3⟩:=ih k s hk;exact⟨i',q1,by rw[gb (by omega)];exact q2,by omega⟩
  ·rw[fE h1] at hk
   match hj:k - ss.length,hk with
   | 0,hk =>
    cases hk;exact⟨i,⟨hi,hl⟩,by rw[fE (by omega),hv,hj];rfl,by omega⟩
   | j+1,hk=>simp at hk
theorem So.of{s i:Nat}{v:V}(h:So aO lab s v)(hc:Cl aO s i)(h6:qZ (zm aO s i)<=600):v=.bq [A2.ij (xd aO s lab i),.bM]:=by
 rcases h with⟨j,q1,q2,_,rfl⟩|⟨j,q1,_⟩
 ·rw[hc.one ⟨q1,q2⟩]
 ·have:=hc.cnt (j:=j);omega
end
section
variable{f:A2.F}{l l':List A2.cE}{v v':V}
theorem Sp.abk{c:Nat}{vs:aD}(h:AD (uL f) (BG f) (l.map λa=>rI f a.2) c vs)(hc:c<=600)(h':Sp f l.reverse v'):∃c' BN,AD (uL f) (BG f) (l.reverse.map λa=>rI f a.2) c' BN/\v'=.bq [.sl 2 BN .no,.bM]:=by
 rcases h' with⟨c',BN,q1,_,q3⟩|⟨_,j,a,c',ds,i,q1,q2,q3⟩
 ·exact⟨c',BN,q1,q3⟩
 ·exfalso;have hm:a∈l:=List.mem_reverse.1 (m_ q1);obtain⟨k,hk,e⟩:=List.getElem_of_mem hm;obtain⟨i',p1,_,_⟩:=h.get k (rI f a.2) (by rw[iY,gh hk,e];rfl)
  have h1:=p1.cnt (j:=i);rw[<- p1.K] at h1;have h2:=h.sum;have h3:=q2.sum;have h4:l.reverse=l.reverse.take j++(a::l.reverse.drop (j+1)):=by
   have:=(BH j l.reverse).symm
   rwa [EL (c_.1 q1).1,(c_.1 q1).2] at this
  have h5:((l.reverse.map λa=>rI f a.2).map (KW (uL f))).sum=((l.map λa=>rI f a.2).map (KW (uL f))).sum:=by
   rw[List.map_reverse,List.map_reverse,List.sum_reverse]
  rw[h4,List.map_append,List.map_append,List.sum_append,<- h3,aY,aY,List.sum_cons] at h5;omega
end
end
section
open Go.Vm.Sx
section
variable{aO:Nat->Nat->Nat}{lab:Nat->Int}{s i:Nat}
theorem Cl.le(h:Cl aO s i)(h6:qZ (zm aO s i)<=600):i<=600:=by
 have:=UX (yV (aO:=aO) (s0:=s) i);rw[h.2] at this;omega
theorem zoK(h:Cl aO s i){j:Nat}(hj:j<i):∃w,(zm aO s i)[j]?=some w/\(zm aO s j)[j]?=some w/\A2.gr (A2.rowsOf (xd aO s lab i).1) j=xc aO s j/\(xc aO s j).length=256:=by
 obtain⟨w,hw⟩:=xN h.2 hj;have tJ:(zm aO s i)[j]?=some w:=by
  obtain⟨rs,e⟩:=UW (aO:=aO) (s0:=s) (Nat.le_of_lt hj);rw[e,gb (c_.1 hw).1];exact hw
 exact⟨w,tJ,hw,zmY h.2 hj hw,zek hw⟩
theorem znf(h:Cl aO s i){j y:Nat}(hj:j<i)(hy:y<256):∃k:Nat,k<i/\A2.gi (xc aO s j) y=(k:Int):=by
 obtain⟨w,hw⟩:=xN h.2 hj;obtain⟨k,e1,e2,_⟩:=zkV h.2 hw hy;refine⟨k,e2,?_⟩;simp only[xc,hw,A2.gi,Nf,iY,Hj hy,aS,fQ,e1]
theorem zpY(h:Cl aO s i)(h6:qZ (zm aO s i)<=600)(hl:∀w∈zm aO s i,-1<=lab w/\lab w<200):A2.WD (xd aO s lab i):=by
 have h1:=h.le h6;have hr:=A2.dY;have h9:(30000:Nat)<=reachBytes:=by decide
 refine⟨⟨by simp only[xd,gC,List.length_range];omega,λq hq=>?_⟩,?_,λz hz=>?_⟩
 ·simp only[xd,mj,Ca] at hq;obtain⟨j,hj,rfl⟩:=hq;obtain⟨w,e1,e2,e3,e4⟩:=zoK (lab:=lab) h hj;refine⟨by show(xc aO s j).length * 8<=_;omega,λz hz=>?_⟩
  obtain⟨y,hy,rfl⟩:=ziL hz;obtain⟨k,q1,q2⟩:=znf h hj (y:=y) (by show y<256;have:y<(xc aO s j).length:=hy;omega)
  show A2.GZ (A2.gi (xc aO s j) y);rw[q2];exact⟨by omega,by omega⟩
 ·simp only[xd,gC,h.2];omega
 ·simp only[xd,mj] at hz;obtain⟨w,hw,rfl⟩:=hz;obtain⟨k1,k2⟩:=hl w hw;exact⟨by omega,by omega⟩
end
end
section
open Go.Vm.Sx
section
variable{aO:Nat->Nat->Nat}{s:Nat}{P:Nat->Prop}
theorem ziR{ws:bN}{g:Nat->Nat}(h:∀w∈ws,P w)(hg:∀y,P (g y)):∀y,∀w∈jF ws g y,P w
 | 0,w,hw=>h w hw
 | y+1,w,hw=>by
  simp only[jF,yi] at hw;split at hw
  ·exact ziR h hg y w hw
  ·rcases rK.1 hw with h1|h1
   ·exact ziR h hg y w h1
   ·rw[oX] at h1;rw[h1];exact hg y
theorem zgo(h:P s)(hn:∀w y,P (aO w y)):∀i,∀w∈zm aO s i,P w
 | 0,w,hw=>by
  rw[show zm aO s 0=[s] from rfl,oX] at hw;rw[hw];exact h
 | i+1,w,hw=>by
  simp only[zm] at hw;split at hw
  ·exact ziR (zgo h hn i) (λy=>hn _ y) 256 w hw
  ·exact zgo h hn i w hw
end
theorem zem{w k:Nat}(h:∀q,w.testBit q=true->q<k):w<2 ^ k:=by
 refine Nat.lt_pow_two_of_testBit w λq hq=>?_;cases hb:w.testBit q with
 | false=>rfl
 | true=>have:=h q hb;omega
section
variable{f:A2.F}{n:Nat}
theorem zhT{l:List Int}{k q:Nat}(h:∀z∈l,0<=z/\z.toNat<k)(hb:(wT l 0).testBit q=true):q<k:=by
 rw[zcy] at hb;simp only[Nat.zero_testBit,uQ,List.any_eq_true] at hb;obtain⟨z,hz,e⟩:=hb;rw[EP] at e;have:=(h z hz).2;simp only[decide_eq_true_eq] at e;omega
theorem zpZ(hf:EI f (mP f) n)(w y:Nat):uL f w y<2 ^ (f.s.2.length+f.f.2.length):=by
 refine zem λq hq=>?_;rw[uL,zoG,List.any_eq_true] at hq;obtain⟨k,_,e⟩:=hq;rw[eo] at e;have e2:=e.2;unfold Sm at e2;rw[iY] at e2;cases hs:f.s.2[k]? with
 | none=>rw[hs] at e2;simp at e2
 | some x =>
  cases hr:f.n.2[k]? with
  | none=>rw[hs,hr] at e2;simp at e2
  | some row =>
   rw[hs,hr] at e2;simp only[aS] at e2;split at e2
   ·exact zhT (hf.nr row (m_ hr)).2.2 e2
   ·simp at e2
theorem zp0(hf:EI f (mP f) n)(act:List Int):rI f act<2 ^ (f.s.2.length+f.f.2.length):=by
 refine zem λq hq=>?_;rw[rI,zhP] at hq;simp only[Nat.zero_testBit,uQ,List.any_eq_true] at hq;obtain⟨r,_,e⟩:=hq;unfold zpT at e;cases hr:f.f.2[r.toNat]? with
 | none=>rw[hr] at e;simp[wT] at e
 | some row =>
  rw[hr] at e;exact zhT (hf.fr row (m_ hr)).2.2 e
theorem zp1(w:Nat):uK f.s.2.length (mP f) w (BG f w):=zpU
theorem zp2{w:Nat}(hw:w<2 ^ (f.s.2.length+f.f.2.length)):-1<=BG f w/\BG f w<=(f.f.2.length:Int) - 1:=by
 rcases zp1 (f:=f) w with⟨e,_⟩|⟨k,e,h1,h2,h3,_⟩
 ·rw[e];omega
 ·rw[e];have:k<f.s.2.length+f.f.2.length:=by
   rcases eX k (f.s.2.length+f.f.2.length) with h|h
   ·exact h
   ·have:=Ni (uO hw (Nat.pow_le_pow_right (by decide) h))
    rw[h3] at this;cases this
  omega
theorem zoL(hf:EI f (mP f) n)(CU:f.f.2.length<=200){act:List Int}{i:Nat}:∀w∈zm (uL f) (rI f act) i,-1<=BG f w/\BG f w<200:=λw hw=>by
 have:=zp2 (zgo (P:=λw=>w<2 ^ (f.s.2.length+f.f.2.length)) (zp0 hf act) (λw y=>zpZ hf w y) i w hw);omega
end
end
section
open Go.Vm.Sx
end
section
open Go.RowKit Go.ChangeAt Go.WideShapes
set_option maxRecDepth 1000000
def t97:A2.cE:=(true,[97])
theorem wd0:A2.WD ua where
 n:=⟨by decide,λq hq=>by
  have h1:q∈[(true,(List.range 256).map λy=>if y=97 then (2:Int) else 1),(true,List.replicate 256 1),(true,List.replicate 256 1)]:=hq
  have hz:∀z∈q.2,z=1\/z=2:=λz hz=>by
   simp only[dH,Ap,uR] at h1;rcases h1 with rfl|rfl|rfl
   ·obtain⟨y,_,rfl⟩:=mj.1 hz;split<;>simp
   ·exact .inl (List.eq_of_mem_replicate hz)
   ·exact .inl (List.eq_of_mem_replicate hz)
  have hl:q.2.length=256:=by
   simp only[dH,Ap,uR] at h1;rcases h1 with rfl|rfl|rfl<;>simp
  refine⟨by rw[hl];decide,λz h=>?_⟩
  unfold A2.GZ
  rcases hz z h with rfl|rfl<;>decide⟩
 l:=⟨by decide,λz hz=>by
  have h1:z∈[(-1:Int),-1,0]:=hz;unfold A2.GZ;simp only[dH,Ap,uR] at h1
  rcases h1 with rfl|rfl|rfl<;>decide⟩
theorem abn:A2.rU (A2.rowsOf ua.1) ua.2.2=true:=by kernel_rfl
theorem abo:A2.FR ua t97.2=.bq [.int .i64 2,.bM]:=by kernel_rfl
def Al:dB:=[(33,[A2.ij ua,A2.CR t97],.bq [.int .i64 2,.bM]),(27,[A2.ij ua],.bool true),(28,[EJ,Sk],wdV),(14,[Sj],.bq [EJ,.bM]),(45,M_,Sj),(66,M_,U9)]
theorem abp:qj prog lK [(45,M_,Sj),(66,M_,U9)]:=yF mixed iK fO (yF mixed iK fO xj (ziH 0) rfl rfl (hit:=λ_ _ _ s7 h=>OB s7 h)) (zkU 0) rfl rfl (hit:=λ_ _ _ s7 h=>OB s7 h)
theorem abq:nW prog { g:=lK,hk:=cR [],uq:=fy }:=⟨λf args v h=>(by cases h),λn f args H out H' h=>(by cases h),λ_ _ _ s7 h=>OB s7 h⟩
theorem abr:qj prog lK Al:=by
 refine kT (kT (kT (kT abp λd H g w bx lc h1 h2 h3=>?_) λd H g w bx lc h1 h2 h3=>?_) λd H g w bx lc h1 h2 h3=>?_) λd H g w bx lc h1 h2 h3=>?_
 ·obtain⟨u,H',hc,hz⟩:=zpS (ziI 0);exact PA mixed iK fO abq hc rfl hz (λsz xs e h=>by cases h) h1 h2 h3
 ·obtain⟨u,H',hc,hz⟩:=Ak;exact PA mixed iK fO aa6 hc rfl hz (λsz xs e h=>by cases h) h1 h2 h3
 ·have he:=A2.Rb Zh rfl ua wd0;rw[abn] at he;exact Py mixed iK fO FB (he _ (dI _) ⟨[],[]⟩) (by simp[aI,A2.CQ]) rfl h1 h2 h3
 ·have he:=A2.Zo Zh rfl rfl (by kernel_rfl) ua wd0 t97 (by decide) (λb hb=>by
   have h1:b∈[(97:Int)]:=hb;obtain rfl:=oX.1 h1
   exact⟨by decide,by decide⟩)
  rw[abo] at he;obtain⟨k,hk⟩:=he;exact Py mixed iK fO FB (hk k (dI _) ⟨[],[]⟩) (by simp[aI,A2.CQ,A2.Mc]) rfl h1 h2 h3
theorem ziS(n:Nat):zj prog { g:=lK,hk:=cR Al,uq:=fy } (n+60) 26 [] ⟨[],[]⟩=some (.ret (.bool true),⟨[],[]⟩):=by kernel_rfl
theorem abt:qj prog lK ((26,[],.bool true)::Al):=yF mixed iK fO abr (ziS 0) rfl rfl (hit:=λ_ _ _ s7 h=>OB s7 h)
end
section
open Go.Vm.Sx
set_option maxRecDepth 1000000
def OD(b:Bool):Nat->Nat->bX:=if b then Ul else lK
def Eg(b:Bool)(l:dB):Gl:={ g:=OD b,hk:=cR l }
def Am:bN:=[14,26,28,30,43]
theorem Nb{b:Bool}{l:dB}(h:∀x∈l,Am.any (Nat.beq x.1)=true):GK (Eg b l) Am where
 no:=λf hf args=>zgl λx hx=>by
  cases hb:Nat.beq f x.1 with
  | false=>rfl
  | true =>
   have hx:=h x hx;rw[<- eU hb,hf] at hx;cases hx
 h2:=λ_ _ _ _ _=>rfl
 uq:=λ_=>rfl
theorem Jh{b:Bool}{l:dB}{f:FuncId}{xs:aD}{v:V}(h:cR l f xs=some v):m8 1 prog (Eg b l) f xs v:=λn hn H=>by
 obtain⟨n,rfl⟩:∃k,n=k+1:=⟨n - 1,by omega⟩
 obtain⟨bs,es⟩:=H;simp only[zj,show(Eg b l).hk f xs=some v from h]
theorem Vd{b:Bool}{l:dB}(h:qj prog lK l):qj prog (OD b) l:=by
 cases b with
 | false=>exact h
 | true=>exact⟨λf args v hv d H g w bx lc h1 h2 h3=>h.pure f args v hv d H g w bx lc (zqn h1) h2 h3,λn f args H out H' h=>(by cases h),λ_ _ _ _ h=>(by cases h)⟩
theorem hkH{b:Bool}{l:dB}(h:qj prog (OD b) l):nW prog (Eg b l):=h
def tV:dB:=[(26,[],.bool true)]
theorem Sv:qj prog lK tV:=kT xj λd H g w bx lc h1 h2 h3=>abt.pure 26 [] (.bool true) rfl d H g w bx lc h1 h2 h3
theorem zqH{L:dB}(hl:qj prog lK L){nl:Bool}{l:List Cr}(h:IW l):qj prog lK ((14,[z0 nl l],bV l)::L) :=
 kT hl λd H g w bx lc h1 h2 h3=>by
  obtain⟨u,H',hc,hz⟩:=zhE nl l h;exact PA mixed iK fO hkb hc (by simp[aI,zeY]) hz (λsz xs e=>by simp[bV]) h1 h2 h3
theorem wR{f g:FuncId}{ys xs:aD}{v:V}{l:dB}(h:Nat.beq f g=false):cR ((g,ys,v)::l) f xs=cR l f xs:=by
 simp only[cR,h]
theorem zp3{p:Bw}(hp:By p)(h:dj 500 (fh 0 p.l)=false):IW p.l:=by
 have HZ:reachBytes<=140737488355328:=by decide
 have h1:=hp.Cy
 simp only[dj,decide_eq_false_iff_not] at h;rcases eX 200 p.l.length with hh|hh
 ·exact⟨hp.len,hp.wf,hp.can,.inl hh⟩
 ·have hn:=(rF p.l 0 hp.wf (by omega) (by omega) (by omega)).2
  exact⟨hp.len,hp.wf,hp.can,.inr λc hc=>by have:=hn c hc;omega⟩
section
variable{gl:Gl}{ef:bN}{f:A2.F}{n i:Nat}{act:List Int}
end
theorem zng{L:dB}{f:A2.F}(hl:qj prog lK L)(hw:A2.WF f)(hq:∀q∈f.s.2,BX q)(hs:f.s.2.length<2 ^ 30)(CU:f.f.2.length<2 ^ 30)(nL:Na f=true):∀(l:List A2.cE),(∀a∈l,a.2.length * 8<=reachBytes/\Jg f a=true) ->
  ∃L2,qj prog lK (L2++L)/\(∀x∈L2,x.1=28)/\∀a∈l,∃v,cR (L2++L) 28 [A2.fv f,A2.iv a]=some v/\v.top=0/\So (uL f) (BG f) (rI f a.2) v
 | [],_=>⟨[],hl,λx hx=>(by cases hx),λa ha=>(by cases ha)⟩
 | a::l,h=>by
  obtain⟨L2,k1,k2,k3⟩:=zng hl hw hq hs CU nL l λb hb=>h b (dR _ hb);obtain⟨h1,h2⟩:=h a (eH ..);obtain⟨v,e1,e2,e3⟩:=znb k1 hw hq hs CU a h1;rw[if_pos ⟨nL,h2⟩] at e2;refine⟨(28,[A2.fv f,A2.iv a],v)::L2,e3,λx hx=>?_,λb hb=>?_⟩
  ·rcases dH.1 hx with rfl|hx
   ·rfl
   ·exact k2 x hx
  ·simp only[a_,cR];cases CY:eJ [A2.fv f,A2.iv b] [A2.fv f,A2.iv a] with
   | true =>
    have e:=vD CY;simp only[Aq,At,iU] at e;have e':=ziM e;exact⟨v,rfl,e1,by rw[e'];exact e2⟩
   | false =>
    rcases dH.1 hb with rfl|hb
    ·rw[dh] at CY;cases CY
    ·exact k3 b hb
theorem zfa{f:FuncId}{xs:aD}{L:dB}:∀{L2:dB},(∀x∈L2,Nat.beq f x.1=false)->cR (L2++L) f xs=cR L f xs
 | [],_=>rfl
 | (g,ys,v)::L2,h=>by
  have h1:Nat.beq f g=false:=h _ (eH ..);simp only[a_,cR,h1];exact zfa λx hx=>h x (dR _ hx)
theorem znh{ck:Bool}{rk:A2.cE->Bool}{l:List A2.cE}:xU ck rk l.reverse=xU ck rk l:=by
 simp[xU,List.all_reverse]
theorem zoM{ck:Bool}{rk:A2.cE->Bool}{l:List A2.cE}(h:xU ck rk l=true):ck=true/\∀a∈l,rk a=true:=by
 simp only[xU,eo,B_] at h;exact⟨h.1,h.2.2.2⟩
end
section
open Go.Vm.Sx
theorem zp4{p:Bw}(h:A2.sU p=false):dj 500 (fh 0 p.l)=false/\p.a.2.length<=16:=by
 simp only[A2.sU,KJ] at h;refine⟨h.1,?_⟩;have:=h.2;simp only[dj,decide_eq_false_iff_not] at this;omega
inductive Blt(b:Bool)(p:Bw):Prop
 |no (L:dB) (hL:qj prog (OD b) L) (hG:GK (Eg b L) Am) (tV:cR L 26 []=some (.bool true)) (h:Kn prog (Eg b L) 25 [.agg (vx p)] (.bq [.aG,.bool false]))
 |yes (f:A2.F) (c:Nat) (vs:aD) (L:dB) (hL:qj prog lK L) (eT:∀x∈L,Am.any (Nat.beq x.1)=true) (abu:∀xs,cR L 28 xs=none)
   (th:cR L 14 [z0 p.nl p.l]=some (.bq [A2.fv f,.bM])) (rV:cR L 30 [A2.fv f,A2.rv p.a]=some (.bq [.sl 2 vs .no,.bM])) (tV:cR L 26 []=some (.bool true))
   (hw:A2.WF f) (hq:∀q∈f.s.2,BX q) (hs:f.s.2.length<=1000) (hl:f.f.2.length=p.l.length) (hlen:p.l.length<=200) (Cm:A2.sU p=false) (C1:xU (Na f) (Jg f) p.a.2=true)
   (Nt:AD (uL f) (BG f) (p.a.2.map λa=>rI f a.2) c vs) (hc:c<=600) (dr:aI vs=0)
theorem zni(b:Bool){p:Bw}(hp:By p):Blt b p:=by
 have Gj:∀x∈tV,Am.any (Nat.beq x.1)=true:=λx hx=>by
  obtain rfl:=oX.1 hx;rfl
 cases hb:A2.sU p with
 | true=>exact .no tV (Vd Sv) (Nb Gj) rfl (A2.I5 (Nb Gj) rfl rfl p hp (k:=0) (.big hb))
 | false =>
 obtain⟨CY,arU⟩:=zp4 hb;have hg:=zp3 hp CY;have Sw:=zqH Sv (nl:=p.nl) hg;have th:cR ((14,[z0 p.nl p.l],bV p.l)::tV) 14 [z0 p.nl p.l]=some (bV p.l):=Vb;have Gk:∀x∈((14,[z0 p.nl p.l],bV p.l)::tV:dB),Am.any (Nat.beq x.1)=true:=λx hx=>by
  rcases dH.1 hx with rfl|hx
  ·rfl
  ·exact Gj x hx
 have Sy:cR ((14,[z0 p.nl p.l],bV p.l)::tV) 26 []=some (.bool true):=by rw[wR rfl];rfl
 by_cases he:bE p.l=.bM
 ·obtain⟨e1,hw,hq,hs,m5,hlen⟩:=zqF hg he hp.q;obtain⟨va,t1,t2,t3⟩:=znc Sw hw hq (by omega) (by omega) p.a (λa h=>(hp.a.2 a h).1) (by have:=hp.a.1;have:=A2.dY;omega)
  have DD:∀x∈((30,[A2.fv (fF p.l),A2.rv p.a],va)::(14,[z0 p.nl p.l],bV p.l)::tV:dB),Am.any (Nat.beq x.1)=true:=λx hx=>by
   rcases dH.1 hx with rfl|hx
   ·rfl
   ·exact Gk x hx
  have Nc:cR ((30,[A2.fv (fF p.l),A2.rv p.a],va)::(14,[z0 p.nl p.l],bV p.l)::tV) 14 [z0 p.nl p.l]=some (.bq [A2.fv (fF p.l),.bM]):=by rw[wR rfl,th,e1]
  have Gm:cR ((30,[A2.fv (fF p.l),A2.rv p.a],va)::(14,[z0 p.nl p.l],bV p.l)::tV) 26 []=some (.bool true):=by rw[wR rfl];exact Sy
  have rV:cR ((30,[A2.fv (fF p.l),A2.rv p.a],va)::(14,[z0 p.nl p.l],bV p.l)::tV) 30 [A2.fv (fF p.l),A2.rv p.a]=some va:=Vb;have iH:∀k,va=.bq [.aG,.ec 396 (.obj k)]->Blt b p:=λk hv=>by
   rw[hv] at t3 Nc rV Gm DD;exact .no _ (Vd t3) (Nb DD) Gm (A2.I5 (Nb DD) rfl rfl p hp (.bad hb (fF p.l) 396 k (Jh Nc) (Jh rV)))
  split at t2
  ·rename_i C1;rcases t2 with⟨c,vs,q1,q2,rfl⟩|⟨hv,_⟩
   ·refine .yes (fF p.l) c vs _ t3 DD (λxs=>?_) Nc rV Gm hw hq hs m5 hlen hb C1 q1 q2 ?_
    ·rw[wR rfl,wR rfl];rfl
    ·simpa[V.top,aI] using t1
   ·exact iH 2 hv
  ·exact iH 0 t2
 ·obtain⟨e1,k,e2⟩:=zqG he;have hz:V.agg zF=A2.fv ⟨(true,[]),(true,[]),(true,[]),(true,[])⟩:=rfl;have th:=th.trans (congrArg some (show bV p.l=.bq [A2.fv ⟨(true,[]),(true,[]),(true,[]),(true,[])⟩,.ec 396 (.obj k)] by rw[e1,hz,e2]))
  exact .no _ (Vd Sw) (Nb Gk) Sy (A2.I5 (Nb Gk) rfl rfl p hp (.ref hb ⟨(true,[]),(true,[]),(true,[]),(true,[])⟩ 396 k (Jh th)))
theorem zo6{α:Type}{Q:Nat->α->Prop}(hm:∀{k k' a},k<=k'->Q k a->Q k' a):∀{l:List α},(∀a∈l,∃k,Q k a)->∃k,∀a∈l,Q k a
 | [],_=>⟨0,λa h=>(by cases h)⟩
 | a::l,h=>by
  obtain⟨k1,h1⟩:=zo6 (Q:=Q) hm λb hb=>h b (dR _ hb);obtain⟨k2,h2⟩:=h a (eH ..);refine⟨max k1 k2,λb hb=>?_⟩;rcases dH.1 hb with rfl|hb
  ·exact hm (by omega) h2
  ·exact hm (by omega) (h1 b hb)
end
section
open Go.Vm.Sx
theorem zkX{f:A2.F}{a b:A2.f_}(e:A2.rv a=A2.rv b):a.2.map (λx=>rI f x.2)=b.2.map λx=>rI f x.2:=by
 have key:∀l l':List A2.cE,l.map A2.iv=l'.map A2.iv->l.map (λx=>rI f x.2)=l'.map λx=>rI f x.2:=by
  intro l
  induction l with
  | nil=>intro l' h;cases l' with
   | nil=>rfl
   | cons b l'=>cases h
  | cons a l ih=>intro l' h;cases l' with
   | nil=>cases h
   | cons b l' =>
    simp only[aY,Aq] at h ⊢;exact⟨by rw[ziM h.1],ih l' h.2⟩
 exact key _ _ (zm8 e)
theorem znj{gl:Gl}{ef:bN}{f:A2.F}{n i:Nat}{act:List Int}(hg:GK gl ef)(Kq:ef.any (Nat.beq 63)=false)(Rw:ef.any (Nat.beq 64)=false)(G3:ef.any (Nat.beq 29)=false)(hf:EI f (mP f) n)(CU:f.f.2.length<=200)(hc:Cl (uL f) (rI f act) i)(h6:qZ (zm (uL f) (rI f act) i)<=600) :
  Kn prog gl 29 [A2.ij (xd (uL f) (rI f act) (BG f) i),A2.ij (xd (uL f) (rI f act) (BG f) i)] (.bool true) :=
 A2.ZO hg Kq Rw G3 _ (zpY hc h6 (zoL hf CU (act:=act) (i:=i)))
theorem zq6(n:Nat)(xs:aD)(h:jk prog n 60 xs):∃L,qj prog (OD false) L/\∃k,∀m,k<=m->zj prog (Eg false L) m 6 [.agg xs] ⟨[],[]⟩=some (.ret (.bool true),⟨[],[]⟩):=by
 obtain⟨p,rfl,hp⟩:=zol h;have fin:∀{L:dB}{k:Nat},GK (Eg false L) Am->cR L 26 []=some (.bool true)->A2.B6 k (Eg false L) p->∃k,∀m,k<=m->zj prog (Eg false L) m 6 [.agg (vx p)] ⟨[],[]⟩=some (.ret (.bool true),⟨[],[]⟩):=λ{L k} hG tV hB=>by
  obtain⟨k,hk⟩:=A2.kn6 hG rfl p hp (k:=max k 1) ((Jh tV).mono (by omega)) (hB.mono (by omega))
  exact⟨k,λm hm=>hk m hm _⟩
 rcases zni false hp with⟨L,hL,hG,MH,k,I6⟩|⟨f,c,vs,L,hL,eT,abu,th,rV,abv,hw,hq,hs,hl,hlen,Cm,C1,Nt,hc,dr⟩
 ·exact⟨L,hL,fin hG MH (.early .aG I6 rfl (λ_ _=>rfl))⟩
 obtain⟨nL,Mu⟩:=zoM C1;obtain⟨hF,_,CU⟩:=zgn hq nL (n:=5000) (by omega)
 have Jx:vs.length=p.a.2.length:=by rw[Nt.len,gC]
 have rN:=hp.a.1;have J3:=A2.dY;obtain⟨L2,k1,k2,k3⟩:=zng hL hw hq (by omega) (by omega) nL p.a.2 λa ha=>⟨(hp.a.2 a ha).1,Mu a ha⟩
 obtain⟨vr,t1,t2,t3⟩:=znc k1 hw hq (by omega) (by omega) (true,p.a.2.reverse) (λa h=>(hp.a.2 a (List.mem_reverse.1 h)).1) (by show p.a.2.reverse.length<_;rw[List.length_reverse];omega)
 rw[if_pos (by show xU _ _ p.a.2.reverse=true;rw[znh];exact C1)] at t2
 obtain⟨c',BN,Sz,rfl⟩:=Sp.abk Nt hc t2;have arY:BN.length=p.a.2.length:=by rw[Sz.len,gC,List.length_reverse]
 obtain⟨L',OE⟩:∃L',L'=(30,[A2.fv f,A2.rv p.a],V.bq [.sl 2 vs .no,.bM])::(30,[A2.fv f,A2.rv (true,p.a.2.reverse)],V.bq [.sl 2 BN .no,.bM])::(L2++L):=⟨_,rfl⟩;have okL:qj prog (OD false) L':=by
  rw[OE];exact Vd (kT t3 λd H g w bx lc h1 h2 h3=>hL.pure 30 _ _ rV d H g w bx lc h1 h2 h3)
 have hG:GK (Eg false L') Am:=Nb λx hx=>by
  rw[OE] at hx;simp only[dH] at hx;rcases hx with rfl|rfl|hx
  ·rfl
  ·rfl
  ·rcases rK.1 hx with hx|hx
   ·rw[k2 x hx];rfl
   ·exact eT x hx
 have KF:∀{g xs},Nat.beq g 30=false->Nat.beq g 28=false->cR L' g xs=cR L g xs:=λh1 h2=>by
  rw[OE,wR h1,wR h1];exact zfa λx hx=>by rw[k2 x hx];exact h2
 have TO:=(KF rfl rfl).trans th;have Xu:cR L' 30 [A2.fv f,A2.rv p.a]=some (.bq [.sl 2 vs .no,.bM]):=by rw[OE];exact Vb
 obtain⟨k,I6⟩:=A2.I5 hG rfl rfl p hp (.go Cm f vs dr (Jh TO) (Jh Xu) Jx);obtain⟨c1,Nd,r1,r2,r3⟩:∃c1 Nd,cR L' 30 [A2.fv f,A2.rv (true,p.a.2.reverse)]=some (.bq [.sl 2 Nd .no,.bM])/\AD (uL f) (BG f) (p.a.2.reverse.map λa=>rI f a.2) c1 Nd/\aI Nd=0:=by
  rw[OE];cases CY:eJ [A2.fv f,A2.rv (true,p.a.2.reverse)] [A2.fv f,A2.rv p.a] with
  | false =>
   refine⟨c',BN,?_,Sz,by simpa[V.top,aI] using t1⟩
   simp only[cR,CY,dh]
  | true =>
   refine⟨c,vs,?_,?_,dr⟩
   ·simp only[cR,CY]
   ·have e:=vD CY;simp only[Aq,At,iU] at e
    rwa [zkX e]
 have abw:Nd.length=p.a.2.length:=by rw[r2.len,gC,List.length_reverse]
 obtain⟨K,hK⟩:=zo6 (l:=List.range p.a.2.length) (Q:=λk m=>∀a,p.a.2[m]?=some a->∃d,m8 k prog (Eg false L') 28 [A2.fv f,A2.iv a] (.bq [A2.ij d,.bM])/\nth vs m=some (A2.ij d)/\nth Nd (p.a.2.length - 1 - m)=some (A2.ij d)/\m8 k prog (Eg false L') 29 [A2.ij d,A2.ij d] (.bool true)) (λhk h a ha=>by
  obtain⟨d,x,y,z,w⟩:=h a ha
  exact⟨d,x.mono hk,y,z,w.mono hk⟩) λm hm=>by
  have hm:=Ca.1 hm;obtain⟨a,ha⟩:∃a,p.a.2[m]?=some a:=⟨p.a.2[m],by simp[hm]⟩
  obtain⟨i,ci,vi,si⟩:=Nt.get m (rI f a.2) (by rw[iY,ha];rfl)
  obtain⟨j,cj,vj,sj⟩:=r2.get (p.a.2.length - 1 - m) (rI f a.2) (by
   rw[iY,List.getElem?_reverse (by omega),show p.a.2.length - 1 - (p.a.2.length - 1 - m)=m by omega,ha];rfl)
  obtain rfl:=ci.one cj;obtain⟨v,u1,u2,u3⟩:=k3 a (m_ ha);have hv:=u3.of ci (by omega)
  subst hv;obtain⟨x,hx⟩:=znj hG rfl rfl rfl hF CU ci (by omega)
  refine⟨max x 1,λb hb=>?_⟩;rw[ha] at hb;cases hb;exact⟨_,(Jh (by rw[OE,wR rfl,wR rfl];exact u1)).mono (by omega),by rw[zg];exact vi,by rw[zg];exact vj,hx.mono (by omega)⟩
 exact⟨L',okL,fin hG ((KF rfl rfl).trans abv) (k:=max (max k 1) K) (.full vs Nd f (I6.mono (by omega)) ((Jh TO).mono (by omega)) ((Jh r1).mono (by omega)) Jx abw λm a ha=>by
  obtain⟨d,x,y,z,w⟩:=hK m (Ca.2 (c_.1 ha).1) a ha
  exact⟨d,x.mono (by omega),y,z,w.mono (by omega)⟩)⟩
end
def S60:List aB:=[3,4,5,9,24,27,28,48,50,51,53,55,58,60,78]
theorem Gn:S60.all (Td prog S60)=true:=by kernel_rfl
theorem zp5{g:Gh}{xs:aD}{cs:dN}(h:RC g xs cs.toList):aR g (.agg xs) (.agg cs):=by
 refine .agg (by rw[RC.length h,An]) (λj x hx=>?_) λj x v hx hv=>?_
 ·obtain⟨v,_,hg⟩:=h.get j x hx;exact hg.1
 ·obtain⟨v',lf,hg⟩:=h.get j x hx;rw[EO,hv] at lf;cases lf;exact hg.2.1
theorem zjZ{g:Gh}:∀{xs:aD}{cs:dx},RC g xs cs->aI xs=0
 | [],[],_=>rfl
 | x::xs,v::cs,h=>by simp[aI,h.1.2.2.1,zjZ h.2]
 | [],_::_,h=>h.elim
 | _::_,[],h=>h.elim
end Go.Proofs.YthohlnmcjkjeiaaGreatDoor
namespace Go.Proofs.YthohlnmcjkjeiaaGreatDoor.SubsetEach
open Go.Proofs.Tryz
set_option maxRecDepth 100000
set_option maxRecDepth 100000
open Go Go.Vm Go.ChangeShapes Go.WideShapes Go.ChangeAt Go.RowKit
theorem contract(H:Type)(enc:aB×bt->H)(W:aP)(base:Nat)(args:dN)(ds gs:List (DataW H))(before:List MemPlace)
  (sA:∀(j:Nat) t v,f6.params[j]?=some t->args[j]?=some v->Value.okWide prog W .any base t v)
  (hW:DataW.Whole enc prog f6.params.toList Rows.subsetEachSpec.vars false W args.toList ds gs before)
  (tc:(DataW.weightsEach prog (f6.params.toList++(OpenSpec.ofChange Rows.subsetEachSpec).bare.plain.varTypes prog) (ds++gs)).all (·<=reachBytes)=true) (hL:laidMetH prog Rows.subsetEachRow.laid W) :
  Calls prog 6 args W λe W'=>∃v,e=.returned v/\Rows.subsetEachSpec.post enc prog f6 false true false false W args v W':=by
 have Ly:=hW;obtain⟨p,q,hA0,hV,rfl,hfz,rY⟩:=hW;have hA:DataW.TrodAll enc prog W 0 (λ_=>true) true f6.params.toList args.toList ds p:=hA0;rw[params6] at hA;obtain⟨v0,vs0,d0,ds0,p0,q0,fB,rfl,rfl,h0,r0⟩:=trodAll_cons hA;obtain⟨rfl,rfl,rfl⟩:=trodAll_nil r0;obtain rfl:args=#[v0]:=by cases args;simp_all
 obtain⟨n,hn⟩:=h0;have uo:∀w∈d0.weights prog 60,w<=reachBytes:=λw hw=>by
  have:=B_.1 tc w (by
   rw[params6];show w∈DataW.weights prog 60 d0++_
   exact AO _ hw)
  simpa using this
 obtain⟨xs,x1,x2,x3⟩:=zgY (S:=S60) Gn n 60 _ _ (by decide) hn uo
 obtain⟨cs,rfl,fu,_⟩:∃cs,v0=.agg cs/\cs.size=prog.cellsOf 60/\Row.okWide prog W .any base 60 cs:=by
  have Ag:=sA 0 60 v0 (by rw[params6];rfl) rfl
  simp only[Value.okWide,underlying60] at Ag;exact Ag
 have x2':RC (xC W) xs cs.toList:=x2;have cq:=zq6 n xs x1;obtain⟨L,GV,k,hk⟩:=cq;refine(zkf mixed iK fO (hkH GV) (hk k (dI _)) (zqo hL) ⟨rfl,λj y v hy hv=>?_,?_,?_⟩).mono λe W' ⟨he,hb⟩=>⟨_,he,?_⟩
 ·match j,hy,hv with
  | 0,hy,hv=>cases hy;cases hv;exact zp5 x2'
  | j+1,hy,_=>simp at hy
 ·simp[aI,V.top,zjZ x2']
 ·intro y hy sz ys e;simp only[oX] at hy;subst hy;simp
 ·exact zlr rfl (show f6.resultTypes=#[4] from rfl) underlying4 laidOut (by rw[params6];intro t ht;simp at ht;subst ht;exact⟨by kernel_rfl,of_decide_eq_true (by kernel_rfl)⟩) rfl Ly hb
theorem lifted(os:Os)(started:os.Started)(H:Type)(enc:aB×bt->H)(F:Stop.Interp) :
  ReturnsInHanded {} Tryz.checked os 6 .any ((OpenSpec.ofChange Rows.subsetEachSpec).preRow enc prog f6 Rows.subsetEachRow.domain false Rows.subsetEachRow.laid) (((OpenSpec.ofChange Rows.subsetEachSpec).at F).post enc prog f6 false true false false):=by
 have hx:∃places,DataW.whole enc prog ((World.doorLaid prog 320 os).forCall (λ_ _=>0) ⟨#[],#[.agg #[.slice none 0 0,.slice none 0 0,.slice none 0 0]],[]⟩).memory f6.params.toList Rows.subsetEachSpec.vars false #[Value.agg #[.slice none 0 0,.slice none 0 0,.slice none 0 0]].toList 8=some ([.agg [.nil,.nil,.nil]],[],places):=⟨[],by kernel_rfl⟩
 obtain⟨places,hx⟩:=hx;refine returnsInHanded_of_row (C:=Tryz.checked) (s:=OpenSpec.ofChange Rows.subsetEachSpec) own started (by kernel_rfl) func6
  (witness_row_atRef (enc:=enc) (C:=Tryz.checked) false (World.doorLaid prog 320 os) #[.agg #[.slice none 0 0,.slice none 0 0,.slice none 0 0]] rfl (by kernel_rfl) (by kernel_rfl) (by kernel_rfl)
   (OpenSpec.preRow_of_cond 8 hx (by kernel_rfl) (λk hk=>by cases hk) (by kernel_rfl) (zkE os _))) ?_
 intro W base args ds gs before sA hW _ _ tc hL _ _;exact contract H enc W base args ds gs before sA hW tc hL
theorem said:Rows.SubsetEachSaid :=
 OpenClaim.holds_of_cond 6 f6 rfl rfl rfl rfl rfl rfl rfl ⟨rfl,rfl,rfl,rfl,rfl⟩ rfl rfl rfl rfl rfl named func6 facts
  (of_decide_eq_true (by kernel_rfl)) (by unfold Func.isWrapper;first|(rw[if_pos (by decide +kernel)];kernel_rfl)|(rw[if_neg (by decide +kernel)];exact⟨rfl,rfl⟩))
  (λos started H enc _ F=>by rw[OpenClaim.pre_eq_preRow];exact lifted os started H enc F)
theorem plain(f:FuncId)(fn:Func)(hf:Tryz.pinned.checked.prog.funcNamed "bolter/bolterlaw11.SubsetEach"=some f) (Lo:Tryz.pinned.checked.prog.funcs[f]?=some fn) :
  true=Tryz.pinned.checked.prog.looks []/\∀(j:Nat) t,fn.params[j]?=some t->Tryz.pinned.checked.prog.wantsStandIn t=false:=by
 obtain rfl:f=6:=DH ((show prog.funcNamed "bolter/bolterlaw11.SubsetEach"=some 6 by kernel_rfl).symm.trans hf) |>.symm
 obtain rfl:fn=f6:=(DH (func6.symm.trans Lo)).symm;refine⟨by kernel_rfl,λj t ht=>?_⟩
 rw[params6] at ht;obtain rfl:t=60:=by simpa using Array.mem_of_getElem? ht
 exact(show prog.wantsStandIn 60=false by kernel_rfl)
theorem card:Rows.SubsetEachCardSaid :=
 Claim7.holds_tied_plain_at .later [] _ _ _ _ said (λ_ h=>by cases h) (by kernel_rfl) (λ_ h=>by cases h) subsetEach_row_tie rfl ⟨rfl,rfl⟩ (by kernel_rfl) rfl plain (by kernel_rfl)
end Go.Proofs.YthohlnmcjkjeiaaGreatDoor.SubsetEach
