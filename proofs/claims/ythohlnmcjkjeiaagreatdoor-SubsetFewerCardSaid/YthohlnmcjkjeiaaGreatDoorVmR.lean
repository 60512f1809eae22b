/- Seat 8, subset: Build and All as hooks, for any automaton of positions of a size. Conditions: none but those named. -/
import Derived.Test.YthohlnmcjkjeiaaGreatDoorVmE
import Derived.Test.YthohlnmcjkjeiaaGreatDoorVmO
import Derived.Test.YthohlnmcjkjeiaaGreatDoorVmQ
namespace Go.Proofs.YthohlnmcjkjeiaaGreatDoor
open Go Go.Vm
open Go.Proofs.Tryz
set_option maxRecDepth 100000
section
open Go.Vm.Sx
def S5:Gl:={ g:=l_,hk:=de [] }
theorem S6:nM prog S5:=xk (P:=prog) (g0:=l_)
theorem S7:GK S5 []:=⟨λ_ _ _=>rfl,λ_ _ _ _ _=>rfl,λ_=>rfl⟩
theorem zqt{sz:Nat}{a b:Bool}{xs ys:aD}(h:lv sz a xs=lv sz b ys):xs=ys:=by
 rcases bZ sz a xs with h1|⟨e1,h1⟩<;>rcases bZ sz b ys with h2|⟨e2,h2⟩<;>rw[h1,h2] at h
 ·injection h
 ·cases h
 ·cases h
 ·rw[e1,e2]
theorem zqu{a b:A2.bW}(h:A2.iv a=A2.iv b):a.2=b.2:=(List.map_inj_right λx y e=>by injection e).1 (zqt h)
def Pa(f:A2.F):Bool:=A2.EC f.s.2.length f.r.2 (A2.rowsOf f.f) (A2.rowsOf f.n)
def HN(f:A2.F)(a:A2.bW):Bool:=kU (A2.uY f.f.2.length a.2) a.2.length
def S8(f:A2.F)(l:List A2.bW):dr:=l.map λa=>(72,[A2.fv f,A2.iv a],.bool (HN f a))
def Pb(f:A2.F)(l:List A2.bW):dr:=(24,[A2.fv f],.bool (Pa f))::S8 f l
theorem znw{f:A2.F}(hf:A2.WF f):∀{l:List A2.bW},(∀a∈l,a.2.length * 8<=reachBytes)->qh prog l_ (S8 f l)
 | [],_=>xk
 | a::l,h=>znr (znw hf λb hb=>h b (dU _ hb)) S6 rfl (xs:=[A2.fv f,A2.iv a]) ⟨_,A2.Zm S7 rfl f a (by have:=h a (eK ..);have:=A2.eV;omega)⟩ (by simp[aI,A2.tc,A2.rI]) rfl
theorem zi4{f:A2.F}(hf:A2.WF f){l:List A2.bW}(h:∀a∈l,a.2.length * 8<=reachBytes):qh prog l_ (Pb f l) :=
 znr (znw hf h) S6 rfl (xs:=[A2.fv f]) (A2.aak S7 rfl f hf) (by simp[aI,A2.tc]) rfl
theorem zi5{f:A2.F}{l:List A2.bW}:∀x∈Pb f l,x.1=24\/x.1=72:=λx hx=>by
 rcases dG.1 hx with rfl|h
 ·exact .inl rfl
 ·obtain⟨a,_,rfl⟩:=mg.1 h;exact .inr rfl
theorem zki{f:A2.F}{a:A2.bW}:∀{l:List A2.bW},a∈l->de (S8 f l) 72 [A2.fv f,A2.iv a]=some (.bool (HN f a))
 | b::l,h=>by
  show(match Nat.beq 72 72 with|true=>(match fj [A2.fv f,A2.iv a] [A2.fv f,A2.iv b] with|true=>some (V.bool (HN f b))|false=>de (S8 f l) 72 [A2.fv f,A2.iv a])|false=>de (S8 f l) 72 [A2.fv f,A2.iv a])=_
  simp only[];cases hs:fj [A2.fv f,A2.iv a] [A2.fv f,A2.iv b] with
  | true =>
   have e:=xl hs;simp only[List.cons.injEq,BY,lM] at e;have e':=zqu e;simp only[HN,e']
  | false =>
   rcases dG.1 h with rfl|h'
   ·rw[dJ] at hs;cases hs
   ·exact zki h'
theorem zi6{f:A2.F}{l:List A2.bW}{a:A2.bW}(h:a∈l):de (Pb f l) 72 [A2.fv f,A2.iv a]=some (.bool (HN f a)):=zki h
theorem zi7{f:A2.F}{l:List A2.bW}:de (Pb f l) 24 [A2.fv f]=some (.bool (Pa f)):=S3
section
variable{l:dr}{f:A2.F}
theorem znx(hs:f.s.2.length<2 ^ 30)(hf:f.f.2.length<2 ^ 30):mP f<2 ^ 36:=by
 simp only[mP];omega
theorem zny(hl:qh prog l_ l)(hw:A2.WF f)(hq:∀q∈f.s.2,C9 q)(hs:f.s.2.length<2 ^ 30)(DH:f.f.2.length<2 ^ 30)(act:A2.bW)(ha:act.2.length * 8<=reachBytes) :
  ∃v,v.top=0/\(if Pa f=true/\HN f act=true then VL (ot f) (ri f) (pG f act.2) v else v=.br [.agg [.aG,.aG],.dF 396 (.obj 0)])/\qh prog l_ ((28,[A2.fv f,A2.iv act],v)::l):=by
 have ej:∀a∈[act],a.2.length * 8<=reachBytes:=λa h=>by
  rw[oG] at h;rw[h];exact ha
 refine zlg (n:=mP f+5000) hl (zi4 hw ej) zi5 (by omega) (znx hs DH) zi7 (zi6 (List.mem_singleton_self _)) λh1 h2=>?_
 obtain⟨k1,k2,k3⟩:=zgA hq h1 (n:=mP f+5000 - 3) (by omega)
 obtain⟨k4,k5⟩:=S4 h2;exact⟨k1,k4,by omega,by omega⟩
theorem zqv(hl:qh prog l_ l)(hw:A2.WF f)(hq:∀q∈f.s.2,C9 q)(hs:f.s.2.length<2 ^ 30)(DH:f.f.2.length<2 ^ 30)(cP:A2.gJ)(ha:∀a∈cP.2,a.2.length * 8<=reachBytes)(sQ:cP.2.length<2 ^ 60) :
  ∃v,v.top=0/\(if DX (Pa f) (HN f) cP.2=true then AlS f cP.2 v else v=.br [.aG,.dF 396 (.obj 0)])/\qh prog l_ ((30,[A2.fv f,A2.rv cP],v)::l):=by
 cases oQ:Pa f with
 | false =>
  have Cm:de (Pb f cP.2) 24 [A2.fv f]=some (.bool false):=by rw[<- oQ];exact zi7
  refine zkh (n:=mP f+5000+cP.2.length+f.f.2.length) hl (zi4 hw ha) zi5 (by omega) (znx hs DH) Cm (λa h=>zi6 h) (by omega) sQ (λh=>by cases h) λa h1 h2=>?_
  obtain⟨k4,k5⟩:=S4 h2;exact⟨k4,by omega,by omega⟩
 | true =>
  have Cm:de (Pb f cP.2) 24 [A2.fv f]=some (.bool true):=by rw[<- oQ];exact zi7
  obtain⟨k1,k2,k3⟩:=zgA hq oQ (n:=mP f+5000+cP.2.length+f.f.2.length - 3) (by omega)
  refine zkh (n:=mP f+5000+cP.2.length+f.f.2.length) hl (zi4 hw ha) zi5 (by omega) (znx hs DH) Cm (λa h=>zi6 h) (by omega) sQ (λ_=>k1) λa h1 h2=>?_
  obtain⟨k4,k5⟩:=S4 h2;exact⟨k4,by omega,by omega⟩
end
end
section
open Go.Vm.Sx
def MQ(m:Mk):Prop:=(∀q∈m.sets,C9 q)/\∀z∈m.rules,A2.Hx z
theorem qok{a b c d:Int}(h:QU a/\QU b/\QU c/\QU d):C9 (a,b,c,d):=λi=>by
 match i with
 | 0=>exact h.1
 | 1=>exact h.2.1
 | 2=>exact h.2.2.1
 | i+3=>exact h.2.2.2
section
variable{r op mn mx:Int}{m:Mk}
theorem zpd{q:Int×Int×Int×Int}(h:MQ m)(hq:C9 q)(hr:A2.Hx r):MQ (jL op q r m).2:=by
 unfold jL;split
 ·exact h
 ·refine⟨λx hx=>?_,λx hx=>?_⟩
  ·rcases sw.1 hx with h'|h'
   ·exact h.1 x h'
   ·rw[oG.1 h'];exact hq
  ·rcases sw.1 hx with h'|h'
   ·exact h.2 x h'
   ·rw[oG.1 h'];exact hr
theorem zqw{x:Part×Mk}(h:MQ x.2):MQ (xb op mn mx x).2:=by
 unfold xb;split<;>exact h
mutual
theorem zpy(hr:A2.Hx r):∀(e:E)(m:Mk),QE e->MQ m->MQ (iQ r e m).2
 | .mk op _ s0 s1 s2 s3 _ mn mx _ [],m,he,h=>by
  simp only[QE] at he;simp only[iQ];exact zpd h (qok he.1) hr
 | .mk op _ s0 s1 s2 s3 _ mn mx _ (a::tl),m,he,h=>by
  simp only[QE] at he;simp only[iQ];exact zqw (zpz hr (a::tl) op 0 p0 m he.2 h)
theorem zpz(hr:A2.Hx r):∀(es:List E)(op:Int)(k:Nat)(a:Part)(m:Mk),Nf es->MQ m->MQ (s7 r op k a es m).2
 | [],op,k,a,m,he,h=>by simp only[s7];exact h
 | e::es,op,k,a,m,he,h=>by
  simp only[Nf] at he;simp only[s7];exact zpz hr es op (k+1) (zP op k a (iQ r e m).1 (iQ r e m).2.next).1 { (iQ r e m).2 with next:=(zP op k a (iQ r e m).1 (iQ r e m).2.next).2 } he.2 (zpy hr e m he.1 h)
end
theorem zh5{n:Nat}:∀(es:List E)(r:Nat)(m:Mk),(∀e∈es,QE e)->r+es.length<=1000000->MQ m->MQ (qt n r es m).2
 | [],r,m,he,hr,h=>h
 | e::es,r,m,he,hr,h=>by
  simp only[aX] at hr;simp only[qt];have hh:=zpy (r:=(r:Int)) ⟨by omega,by omega⟩ e m (he e (eK ..)) h
  have h2:MQ (jS n r e m).2:=by
   simp only[jS];exact⟨hh.1,hh.2⟩
  exact zh5 es (r+1) (jS n r e m).2 (λx hx=>he x (dU _ hx)) (by omega) h2
theorem zez{n:Nat}:∀(es:List E)(r:Nat)(m:Mk),∀x∈(qt n r es m).1,∃p,x=jg p 19
 | [],r,m,x,h=>by cases h
 | e::es,r,m,x,h=>by
  simp only[qt] at h;rcases dG.1 h with h|h
  ·rw[h];simp only[jS];exact⟨_,rfl⟩
  ·exact zez es _ _ x h
theorem zrh{c:Cr}(h:QE c.1/\QE c.2.2):QE (ff c):=by
 unfold ff;split
 ·have z:QU 0:=⟨by omega,by omega⟩
  simp only[QE,Nf];exact⟨⟨z,z,z,z⟩,h.1,h.2,trivial⟩
 ·exact h.1
end
def toF(x:Fo):A2.F:=⟨(true,x.s),(true,x.r),(true,x.f.map λy=>(true,y)),(true,x.n.map λy=>(true,y))⟩
theorem znz(l:List (List Int)):Hv l=A2.rv (true,l.map λy=>(true,y)):=by
 unfold Hv A2.rv;rw[List.map_map];rfl
theorem zqx(x:Fo):UN x=A2.fv (toF x):=by
 unfold UN Rg A2.fv A2.fc;rw[znz,znz];rfl
def fF(l:List Cr):A2.F:=toF (Jk l)
theorem zqy{l:bM}(h:l.length<=1216)(hx:∀k∈l,k<1216):A2.WI (true,l.map Int.ofNat):=by
 refine⟨?_,λz hz=>?_⟩
 ·have h2:(10000:Nat)<=reachBytes:=by decide
  simp only[gk];omega
 ·obtain⟨k,hk,rfl⟩:=mg.1 hz;have:=hx k hk;exact⟨by show _<=((k:Nat):Int);omega,by show((k:Nat):Int)<=_;omega⟩
theorem znA{p:Nat->Bool}:A2.WI (true,(jg p 19).map Int.ofNat):=zqy zmX λ_k hk=>(ir.1 hk).1
theorem zri{l:List Cr}(h:Jj l)(he:bE l=.bN)(hq:∀c∈l,QE c.1/\QE c.2.2):bV l=.br [A2.fv (fF l),.bN]/\A2.WF (fF l)/\(∀q∈(fF l).s.2,C9 q)/\(fF l).s.2.length<=1000/\(fF l).f.2.length=l.length/\l.length<=200:=by
 obtain⟨k,h1,h2,h3,h4,_,_,h7⟩:=zmW h he;obtain⟨r1,_,r3⟩:=Zi (n:=k) (l.map ff) 0 m0 h7 ⟨rfl,rfl⟩ (by simp[m0];omega) (by rw[gk];omega) (λx hx=>by simp[m0] at hx)
 have hm:MQ (qt k 0 (l.map ff) m0).2:=zh5 _ _ _ (λe he=>by
  obtain⟨c,hc,rfl⟩:=mg.1 he
  exact zrh (hq c hc)) (by rw[gk];omega) ⟨λq hq=>(by cases hq),λq hq=>(by cases hq)⟩
 have hf:Jk l=⟨(qt k 0 (l.map ff) m0).2.sets,(qt k 0 (l.map ff) m0).2.rules,(qt k 0 (l.map ff) m0).1.map (·.map Int.ofNat),(qt k 0 (l.map ff) m0).2.next.map λp=>(jg p 19).map Int.ofNat⟩:=by
  rw[Jk,h1];simp only[Ac]
 have e0:m0.sets.length=0:=rfl;have Hf:(1000000:Nat)<=reachBytes:=by decide
 have hA:bV l=.br [A2.fv (fF l),.bN]:=by
  rw[bV,he,bA,h1];simp only[mS,if_neg (show ¬(1000<(k:Int)) by omega)]
  rw[<- show UN (Jk l)=.agg (Rg (Jk l)) from rfl,zqx];rfl
 have l1:=ziO (n:=k) (l.map ff) 0 m0;rw[gk] at l1;have l2:=r3.r;have l3:=r3.n;refine⟨hA,?_,?_,?_,?_,h4⟩
 ·rw[fF,hf];refine⟨?_,⟨?_,hm.2⟩,⟨?_,λq hq=>?_⟩,⟨?_,λq hq=>?_⟩⟩
  ·show(qt k 0 (l.map ff) m0).2.sets.length * 32<=_;omega
  ·show(qt k 0 (l.map ff) m0).2.rules.length * 8<=_;omega
  ·show(((qt k 0 (l.map ff) m0).1.map _).map _).length * 24<=_;rw[gk,gk];omega
  ·obtain⟨y,hy,rfl⟩:=mg.1 hq;obtain⟨z,hz,rfl⟩:=mg.1 hy;obtain⟨p,hp⟩:=zez _ _ _ z hz;have h1:=znA (p:=p);rw[<- hp] at h1;exact h1
  ·show(((qt k 0 (l.map ff) m0).2.next.map _).map _).length * 24<=_
   rw[gk,gk];omega
  ·obtain⟨y,hy,rfl⟩:=mg.1 hq;obtain⟨p,_,rfl⟩:=mg.1 hy;have h1:=znA (p:=p);generalize jg p 19=z at h1 ⊢;exact h1
 ·rw[fF,hf];exact hm.1
 ·rw[fF,hf];show(qt k 0 (l.map ff) m0).2.sets.length<=_;omega
 ·rw[fF,hf];show(((qt k 0 (l.map ff) m0).1.map _).map _).length=_;rw[gk,gk];omega
theorem zrj{l:List Cr}(he:bE l≠.bN):bV l=.br [.agg zF,bE l]/\∃k,bE l=.dF 396 (.obj k):=by
 unfold bV;unfold bE at he ⊢;unfold bA;cases hm:(yP l).2 with
 | false=>exact⟨rfl,_,rfl⟩
 | true =>
  rw[hm] at he;simp only[mS] at he ⊢;split
  ·exact⟨rfl,_,rfl⟩
  next h=>rw[if_neg h] at he;exact absurd rfl he
end
section
section
variable{aL:Nat->Nat->Nat}{lab:Nat->Int}
def Cl(aL:Nat->Nat->Nat)(s:Nat)(i:Nat):Prop:=0<i/\(zm aL s i).length=i
theorem Cl.one{s i j:Nat}(h:Cl aL s i)(h':Cl aL s j):i=j:=zfn h.2 h'.2
theorem Cl.cnt{s i j:Nat}(h:Cl aL s i):qY (zm aL s j)<=qY (zm aL s i):=by
 obtain⟨rs,e⟩:=xz (j:=j) h.2;rw[e];exact zep
open Classical in
noncomputable def KW(aL:Nat->Nat->Nat)(s:Nat):Nat:=if h:∃i,Cl aL s i then qY (zm aL s (Classical.choose h)) else 0
theorem Cl.K{s i:Nat}(h:Cl aL s i):KW aL s=qY (zm aL s i):=by
 have hex:∃i,Cl aL s i:=⟨i,h⟩;rw[KW,dif_pos hex,(Classical.choose_spec hex).one h]
theorem AD.sum{ss:bM}{c:Nat}{vs:aD}(h:AD aL lab ss c vs):c=(ss.map (KW aL)).sum:=by
 induction h with
 | nil=>rfl
 | @snoc ss c s0 i vs h hi hl ih =>
  rw[List.map_append,List.sum_append,<- ih];simp only[bg,bp,List.sum_cons,List.sum_nil,nZ];rw[Cl.K ⟨hi,hl⟩]
theorem AD.len{ss:bM}{c:Nat}{vs:aD}(h:AD aL lab ss c vs):vs.length=ss.length:=by
 induction h with
 | nil=>rfl
 | snoc _ _ _ ih=>simp[ih]
theorem AD.get{ss:bM}{c:Nat}{vs:aD}(h:AD aL lab ss c vs):∀(k s:Nat),ss[k]?=some s->∃i,Cl aL s i/\vs[k]?=some (A2.iL (wM aL s lab i))/\qY (zm aL s i)<=c:=by
 induction h with
 | nil=>intro k s hk;simp at hk
 | @snoc ss c s0 i vs h hi hl ih =>
  intro k s hk;have hv:=h.len;rcases eM k ss.length with h1|h1
  ·rw[gb h1] at hk;obtain⟨i',q1,q2,q3⟩:=ih k s hk;exact⟨i',q1,by rw[gb (by omega)];exact q2,by omega⟩
  ·rw[fI h1] at hk
   match hj:k - ss.length,hk with
   | 0,hk =>
    cases hk;exact⟨i,⟨hi,hl⟩,by rw[fI (by omega),hv,hj];rfl,by omega⟩
   | j+1,hk=>simp at hk
theorem VL.of{s i:Nat}{v:V}(h:VL aL lab s v)(hc:Cl aL s i)(h6:qY (zm aL s i)<=600):v=.br [A2.iL (wM aL s lab i),.bN]:=by
 rcases h with⟨j,q1,q2,_,rfl⟩|⟨j,q1,_⟩
 ·rw[hc.one ⟨q1,q2⟩]
 ·have:=hc.cnt (j:=j);omega
end
section
variable{f:A2.F}{l l':List A2.bW}{v v':V}
end
end
section
open Go.Vm.Sx
section
variable{aL:Nat->Nat->Nat}{lab:Nat->Int}{s i:Nat}
theorem Cl.le(h:Cl aL s i)(h6:qY (zm aL s i)<=600):i<=600:=by
 have:=Vu (yV (aL:=aL) (s0:=s) i);rw[h.2] at this;omega
theorem zkj(h:Cl aL s i){j:Nat}(hj:j<i):∃w,(zm aL s i)[j]?=some w/\(zm aL s j)[j]?=some w/\A2.gr (A2.rowsOf (wM aL s lab i).1) j=yj aL s j/\(yj aL s j).length=256:=by
 obtain⟨w,hw⟩:=yO h.2 hj;have sY:(zm aL s i)[j]?=some w:=by
  obtain⟨rs,e⟩:=xy (aL:=aL) (s0:=s) (Nat.le_of_lt hj);rw[e,gb (cZ.1 hw).1];exact hw
 exact⟨w,sY,hw,zh2 h.2 hj hw,zey hw⟩
theorem zh6(h:Cl aL s i){j y:Nat}(hj:j<i)(hy:y<256):∃k:Nat,k<i/\A2.gi (yj aL s j) y=(k:Int):=by
 obtain⟨w,hw⟩:=yO h.2 hj;obtain⟨k,e1,e2,_⟩:=zfo h.2 hw hy;refine⟨k,e2,?_⟩;simp only[yj,hw,A2.gi,K1,iX,GQ hy,aS,fS,e1]
theorem zpe:(A2.rowsOf (wM aL s lab i).1).length=i:=by simp[A2.rowsOf,wM]
theorem zkk:(wM aL s lab i).2.2=(zm aL s i).map lab:=rfl
theorem znB(h:Cl aL s i)(h6:qY (zm aL s i)<=600)(hl:∀w∈zm aL s i,-1<=lab w/\lab w<200):A2.o9 (A2.rowsOf (wM aL s lab i).1) (wM aL s lab i).2.2=true:=by
 have h1:=h.le h6;have h0:=h.1;unfold A2.o9;rw[zpe,zkk,gk,h.2];have hg:((cJ (i:Int) 1 || cJ 600 (i:Int)) || !((i:Int) == (i:Int)))=false:=by
  simp only[cJ,beq_self_eq_true,mo,Bool.or_false,JJ,decide_eq_false_iff_not];omega
 rw[hg,oJ];refine bX.2 λj hj=>?_;obtain⟨w,e1,e2,e3,e4⟩:=zkj (lab:=lab) h hj;unfold A2.Et;rw[e3,e4];have e5:A2.gi ((zm aL s i).map lab) j=lab w:=by simp[A2.gi,e1]
 rw[e5];obtain⟨k1,k2⟩:=hl w (nB e1);have e6:kU (A2.uy i (yj aL s j)) 256=true:=bX.2 λy hy=>by
  obtain⟨k,q1,q2⟩:=zh6 h hj hy;simp only[A2.uy,q2,cJ,lO,d_,Dd,decide_eq_false_iff_not];omega
 rw[e6];simp only[cJ,lO,d_,Dd,decide_eq_false_iff_not,Bool.and_true];exact⟨rfl,by omega,by omega⟩
theorem zqz(h:Cl aL s i)(h6:qY (zm aL s i)<=600)(hl:∀w∈zm aL s i,-1<=lab w/\lab w<200):A2.WD (wM aL s lab i):=by
 have h1:=h.le h6;have hr:=A2.eV;have h9:(30000:Nat)<=reachBytes:=by decide
 refine⟨⟨by simp only[wM,gk,List.length_range];omega,λq hq=>?_⟩,?_,λz hz=>?_⟩
 ·simp only[wM,mg,BX] at hq;obtain⟨j,hj,rfl⟩:=hq;obtain⟨w,e1,e2,e3,e4⟩:=zkj (lab:=lab) h hj;refine⟨by show(yj aL s j).length * 8<=_;omega,λz hz=>?_⟩
  obtain⟨y,hy,rfl⟩:=VN hz;obtain⟨k,q1,q2⟩:=zh6 h hj (y:=y) (by show y<256;have:y<(yj aL s j).length:=hy;omega)
  show A2.Hx (A2.gi (yj aL s j) y);rw[q2];exact⟨by omega,by omega⟩
 ·simp only[wM,gk,h.2];omega
 ·simp only[wM,mg] at hz;obtain⟨w,hw,rfl⟩:=hz;obtain⟨k1,k2⟩:=hl w hw;exact⟨by omega,by omega⟩
end
end
section
open Go.Vm.Sx
section
variable{aL:Nat->Nat->Nat}{s:Nat}{P:Nat->Prop}
theorem zi8{ws:bM}{g:Nat->Nat}(h:∀w∈ws,P w)(hg:∀y,P (g y)):∀y,∀w∈jF ws g y,P w
 | 0,w,hw=>h w hw
 | y+1,w,hw=>by
  simp only[jF,yh] at hw;split at hw
  ·exact zi8 h hg y w hw
  ·rcases sw.1 hw with h1|h1
   ·exact zi8 h hg y w h1
   ·rw[oG] at h1;rw[h1];exact hg y
theorem zgB(h:P s)(hn:∀w y,P (aL w y)):∀i,∀w∈zm aL s i,P w
 | 0,w,hw=>by
  rw[show zm aL s 0=[s] from rfl,oG] at hw;rw[hw];exact h
 | i+1,w,hw=>by
  simp only[zm] at hw;split at hw
  ·exact zi8 (zgB h hn i) (λy=>hn _ y) 256 w hw
  ·exact zgB h hn i w hw
end
theorem zeA{w k:Nat}(h:∀q,w.testBit q=true->q<k):w<2 ^ k:=by
 refine Nat.lt_pow_two_of_testBit w λq hq=>?_;cases hb:w.testBit q with
 | false=>rfl
 | true=>have:=h q hb;omega
section
variable{f:A2.F}{n:Nat}
theorem zh7{l:List Int}{k q:Nat}(h:∀z∈l,0<=z/\z.toNat<k)(hb:(wU l 0).testBit q=true):q<k:=by
 rw[zcI] at hb;simp only[Nat.zero_testBit,uM,Fc] at hb;obtain⟨z,hz,e⟩:=hb;rw[E_] at e;have:=(h z hz).2;simp only[decide_eq_true_eq] at e;omega
theorem zqA(hf:E5 f (mP f) n)(w y:Nat):ot f w y<2 ^ (f.s.2.length+f.f.2.length):=by
 refine zeA λq hq=>?_;rw[ot,VK,Fc] at hq;obtain⟨k,_,e⟩:=hq;rw[d_] at e;have e2:=e.2;unfold S1 at e2;rw[iX] at e2;cases hs:f.s.2[k]? with
 | none=>rw[hs] at e2;simp at e2
 | some x =>
  cases hr:f.n.2[k]? with
  | none=>rw[hs,hr] at e2;simp at e2
  | some row =>
   rw[hs,hr] at e2;simp only[aS] at e2;split at e2
   ·exact zh7 (hf.nr row (nB hr)).2.2 e2
   ·simp at e2
theorem zqB(hf:E5 f (mP f) n)(act:List Int):pG f act<2 ^ (f.s.2.length+f.f.2.length):=by
 refine zeA λq hq=>?_;rw[pG,yW] at hq;simp only[Nat.zero_testBit,uM,Fc] at hq;obtain⟨r,_,e⟩:=hq;unfold zqr at e;cases hr:f.f.2[r.toNat]? with
 | none=>rw[hr] at e;simp[wU] at e
 | some row =>
  rw[hr] at e;exact zh7 (hf.fr row (nB hr)).2.2 e
theorem VO(w:Nat):tJ f.s.2.length (mP f) w (ri f w):=zqs
theorem zqC{w:Nat}(hw:w<2 ^ (f.s.2.length+f.f.2.length)):-1<=ri f w/\ri f w<=(f.f.2.length:Int) - 1:=by
 rcases VO (f:=f) w with⟨e,_⟩|⟨k,e,h1,h2,h3,_⟩
 ·rw[e];omega
 ·rw[e];have:k<f.s.2.length+f.f.2.length:=by
   rcases eM k (f.s.2.length+f.f.2.length) with h|h
   ·exact h
   ·have:=NO (uc hw (Nat.pow_le_pow_right (by decide) h))
    rw[h3] at this;cases this
  omega
theorem zpf(hf:E5 f (mP f) n)(DH:f.f.2.length<=200){act:List Int}{i:Nat}:∀w∈zm (ot f) (pG f act) i,-1<=ri f w/\ri f w<200:=λw hw=>by
 have:=zqC (zgB (P:=λw=>w<2 ^ (f.s.2.length+f.f.2.length)) (zqB hf act) (λw y=>zqA hf w y) i w hw);omega
end
end
section
open Go.Vm.Sx
theorem zlh{f:A2.F}{a b c:List Int}(h:∀r,r∈c ↔ r∈a\/r∈b)(t:List Int):ri f (xU (ot f) (pG f c) t)=if ri f (xU (ot f) (pG f a) t)<0\/(0<=ri f (xU (ot f) (pG f b) t)/\ri f (xU (ot f) (pG f b) t)<ri f (xU (ot f) (pG f a) t)) then ri f (xU (ot f) (pG f b) t) else ri f (xU (ot f) (pG f a) t):=by
 have e:xU (ot f) (pG f c) t=xU (ot f) (pG f a) t ||| xU (ot f) (pG f b) t:=by
  rw[pG,zi3 h];exact zkg
 refine tJ.or (VO _) (VO _) ?_;rw[<- e];exact VO _
theorem zli{f:A2.F}{s i:Nat}(h:Cl (ot f) s i)(t:List Int)(hb:∀b∈t,0<=b/\b<256):∃k:Nat,A2.o_ (A2.rowsOf (wM (ot f) s (ri f) i).1) 0 t=(k:Int)/\k<i/\A2.gi (wM (ot f) s (ri f) i).2.2 k=ri f (xU (ot f) s t)/\(wM (ot f) s (ri f) i).2.2.length=i:=by
 obtain⟨k,e1,e2,e3⟩:=zo8 (lab:=ri f) h.2 h.1 t hb;exact⟨k,e1,e2,by simp[A2.gi,e3],by rw[zkk,gk,h.2]⟩
end
section
open Go.RowKit Go.ChangeAt Go.WideShapes
set_option maxRecDepth 1000000
def t97:A2.bW:=(true,[97])
theorem wd0:A2.WD uG where
 n:=⟨by decide,λq hq=>by
  have h1:q∈[(true,(List.range 256).map λy=>if y=97 then (2:Int) else 1),(true,List.replicate 256 1),(true,List.replicate 256 1)]:=hq
  have hz:∀z∈q.2,z=1\/z=2:=λz hz=>by
   simp only[dG,A8,AM] at h1;rcases h1 with rfl|rfl|rfl
   ·obtain⟨y,_,rfl⟩:=mg.1 hz;split<;>simp
   ·exact .inl (List.eq_of_mem_replicate hz)
   ·exact .inl (List.eq_of_mem_replicate hz)
  have hl:q.2.length=256:=by
   simp only[dG,A8,AM] at h1;rcases h1 with rfl|rfl|rfl<;>simp
  refine⟨by rw[hl];decide,λz h=>?_⟩
  unfold A2.Hx
  rcases hz z h with rfl|rfl<;>decide⟩
 l:=⟨by decide,λz hz=>by
  have h1:z∈[(-1:Int),-1,0]:=hz;unfold A2.Hx;simp only[dG,A8,AM] at h1
  rcases h1 with rfl|rfl|rfl<;>decide⟩
theorem abY:A2.o9 (A2.rowsOf uG.1) uG.2.2=true:=by kernel_rfl
theorem abZ:A2.Eu uG t97.2=.br [.int .i64 2,.bN]:=by kernel_rfl
def AH:dr:=[(33,[A2.iL uG,A2.mZ t97],.br [.int .i64 2,.bN]),(27,[A2.iL uG],.bool true),(28,[E6,SZ],wdV),(14,[SY],.br [E6,.bN]),(45,NK,SY),(66,NK,VH)]
theorem ab0:qh prog l_ [(45,NK,SY),(66,NK,VH)]:=yG mixed gI e_ (yG mixed gI e_ xk (ziZ 0) rfl rfl (hit:=λ_ _ _ tR h=>O_ tR h)) (zlf 0) rfl rfl (hit:=λ_ _ _ tR h=>O_ tR h)
theorem ab1:nM prog { g:=l_,hk:=de [],uq:=fu }:=⟨λf args v h=>(by cases h),λn f args H out H' h=>(by cases h),λ_ _ _ tR h=>O_ tR h⟩
theorem ab2:qh prog l_ AH:=by
 refine kA (kA (kA (kA ab0 λd H g w bx lc h1 h2 h3=>?_) λd H g w bx lc h1 h2 h3=>?_) λd H g w bx lc h1 h2 h3=>?_) λd H g w bx lc h1 h2 h3=>?_
 ·obtain⟨u,H',hc,hz⟩:=zqo (zi0 0);exact Qd mixed gI e_ ab1 hc rfl hz (λsz xs e h=>by cases h) h1 h2 h3
 ·obtain⟨u,H',hc,hz⟩:=AG;exact Qd mixed gI e_ abJ hc rfl hz (λsz xs e h=>by cases h) h1 h2 h3
 ·have he:=A2.RO ZT rfl uG wd0;rw[abY] at he;exact xE mixed gI e_ FZ (he _ (dA _) ⟨[],[]⟩) (by simp[aI,A2.C6]) rfl h1 h2 h3
 ·have he:=A2.RP ZT rfl rfl (by kernel_rfl) uG wd0 t97 (by decide) (λb hb=>by
   have h1:b∈[(97:Int)]:=hb;obtain rfl:=oG.1 h1
   exact⟨by decide,by decide⟩)
  rw[abZ] at he;obtain⟨k,hk⟩:=he;exact xE mixed gI e_ FZ (hk k (dA _) ⟨[],[]⟩) (by simp[aI,A2.C6,A2.MI]) rfl h1 h2 h3
theorem zi9(n:Nat):zj prog { g:=l_,hk:=de AH,uq:=fu } (n+60) 26 [] ⟨[],[]⟩=some (.ret (.bool true),⟨[],[]⟩):=by kernel_rfl
theorem ab3:qh prog l_ ((26,[],.bool true)::AH):=yG mixed gI e_ ab2 (zi9 0) rfl rfl (hit:=λ_ _ _ tR h=>O_ tR h)
end
section
open Go.Vm.Sx
set_option maxRecDepth 1000000
def JE(b:Bool):Nat->Nat->b_:=if b then M5 else l_
def AI(b:Bool)(l:dr):Gl:={ g:=JE b,hk:=de l }
theorem zrN{b:Bool}{l:dr}:(AI b l).g 0 0=some A2.tf:=by cases b<;>kernel_rfl
def uH:bM:=[14,26,28,30,43]
theorem JF{b:Bool}{l:dr}(h:∀x∈l,uH.any (Nat.beq x.1)=true):GK (AI b l) uH where
 no:=λf hf args=>zgy λx hx=>by
  cases hb:Nat.beq f x.1 with
  | false=>rfl
  | true =>
   have hx:=h x hx;rw[<- eG hb,hf] at hx;cases hx
 h2:=λ_ _ _ _ _=>rfl
 uq:=λ_=>rfl
theorem E7{b:Bool}{l:dr}{f:FuncId}{xs:aD}{v:V}(h:de l f xs=some v):mY 1 prog (AI b l) f xs v:=λn hn H=>by
 obtain⟨n,rfl⟩:∃k,n=k+1:=⟨n - 1,by omega⟩
 obtain⟨bs,es⟩:=H;simp only[zj,show(AI b l).hk f xs=some v from h]
theorem S9{b:Bool}{l:dr}(h:qh prog l_ l):qh prog (JE b) l:=by
 cases b with
 | false=>exact h
 | true=>exact⟨λf args v hv d H g w bx lc h1 h2 h3=>h.pure f args v hv d H g w bx lc (zqY h1) h2 h3,λn f args H out H' h=>(by cases h),λ_ _ _ _ h=>(by cases h)⟩
theorem hkH{b:Bool}{l:dr}(h:qh prog (JE b) l):nM prog (AI b l):=h
def sI:dr:=[(26,[],.bool true)]
theorem S_:qh prog l_ sI:=kA xk λd H g w bx lc h1 h2 h3=>ab3.pure 26 [] (.bool true) rfl d H g w bx lc h1 h2 h3
theorem zrk{L:dr}(hl:qh prog l_ L){nl:Bool}{l:List Cr}(h:Jj l):qh prog l_ ((14,[zX nl l],bV l)::L) :=
 kA hl λd H g w bx lc h1 h2 h3=>by
  obtain⟨u,H',hc,hz⟩:=zhR nl l h;exact Qd mixed gI e_ hkb hc (by simp[aI,zfc]) hz (λsz xs e=>by simp[bV]) h1 h2 h3
def VP:V:=.dF 396 (.obj 2)
theorem zrl(n:Nat):zj prog RL (n+60) 43 [VP] ⟨[],[]⟩=some (.ret (.int .i64 11),⟨[],[]⟩):=by kernel_rfl
theorem zrm(n:Nat):zj prog RL (n+60) 43 [.bN] ⟨[],[]⟩=some (.ret (.int .i64 0),⟨[],[]⟩):=by kernel_rfl
def E0(L:dr):dr:=(43,[VP],.int .i64 11)::(43,[.bN],.int .i64 0)::L
theorem zrO{L:dr}(hl:qh prog (JE true) L):qh prog (JE true) (E0 L) :=
 kA (kA hl λ_d _H _g _w _bx _lc h1 h2 h3=>xE mixed gI e_ hkE (zrm 0) rfl rfl h1 h2 h3) λ_d _H _g _w _bx _lc h1 h2 h3=>xE mixed gI e_ hkE (zrl 0) rfl rfl h1 h2 h3
theorem wo{f g:FuncId}{ys xs:aD}{v:V}{l:dr}(h:Nat.beq f g=false):de ((g,ys,v)::l) f xs=de l f xs:=by
 simp only[de,h]
theorem zqD{p:A4}(hp:BP p)(h:cJ 500 (fh 0 p.l)=false):Jj p.l:=by
 have Hf:reachBytes<=140737488355328:=by decide
 have h1:=hp.Cd
 simp only[cJ,decide_eq_false_iff_not] at h;rcases eM 200 p.l.length with hh|hh
 ·exact⟨hp.len,hp.wf,hp.can,.inl hh⟩
 ·have hn:=(rY p.l 0 hp.wf (by omega) (by omega) (by omega)).2
  exact⟨hp.len,hp.wf,hp.can,.inr λc hc=>by have:=hn c hc;omega⟩
theorem p6{a:A2.bW}{n:Int}:A2.hasB a n=true ↔ n∈a.2:=by
 unfold A2.hasB;rw[Dd,<- GR,bX];constructor
 ·intro h;rcases Classical.em (n∈a.2) with hm|hm
  ·exact hm
  ·refine absurd (λi hi=>?_) h;have:A2.gi a.2 i≠n:=λe=>hm (by rw[<- e];simp[A2.gi,hi])
   simpa using this
 ·intro h di;obtain⟨i,hi,e⟩:=VN h;have:=di i hi;rw[e] at this;simp at this
theorem znC{a b:A2.bW}{n:Nat}(ha:∀r∈a.2,0<=r/\r.toNat<n)(hb:∀r∈b.2,0<=r/\r.toNat<n)(r:Int):r∈A2.dH a b n ↔ r∈a.2\/r∈b.2:=by
 unfold A2.dH;rw[mg];constructor
 ·rintro⟨k,hk,rfl⟩;have h2:=(D3.1 hk).2;rw[p7] at h2;exact h2.imp p6.1 p6.1
 ·intro h;have h0:0<=r/\r.toNat<n:=h.elim (ha r) (hb r);have hr:((r.toNat:Nat):Int)=r:=by omega
  refine⟨r.toNat,D3.2 ⟨BX.2 h0.2,?_⟩,hr⟩;rw[hr,p7];exact h.imp p6.2 p6.2
theorem zpg{a b:A2.bW}{n:Nat}:kU (A2.uY n (A2.dH a b n)) (A2.dH a b n).length=true:=by
 have Ta:(A2.dH a b n).Pairwise (· < ·):=by
  unfold A2.dH;refine List.Pairwise.map _ (λx y h=>?_) (List.Pairwise.filter _ List.pairwise_lt_range);show((x:Nat):Int)<((y:Nat):Int);omega
 have sU:∀z∈A2.dH a b n,0<=z/\z<(n:Int):=λz hz=>by
  unfold A2.dH at hz;obtain⟨k,hk,rfl⟩:=mg.1 hz;have:=BX.1 (D3.1 hk).1;exact⟨by show(0:Int)<=((k:Nat):Int);omega,by show((k:Nat):Int)<_;omega⟩
 refine bX.2 λi hi=>?_;have e:A2.gi (A2.dH a b n) i=(A2.dH a b n)[i]:=by simp[A2.gi,hi]
 have h1:=sU _ (List.getElem_mem hi);have h3:i=0\/A2.gi (A2.dH a b n) (i - 1)<A2.gi (A2.dH a b n) i:=by
  rcases HU i with h0|h0
  ·exact .inl h0
  ·refine .inr ?_;have sx:i - 1<(A2.dH a b n).length:=by omega
   rw[e,show A2.gi (A2.dH a b n) (i - 1)=(A2.dH a b n)[i - 1] by simp[A2.gi,sx]]
   exact List.pairwise_iff_getElem.1 Ta (i - 1) i sx hi (by omega)
 rw[<- e] at h1;simp only[A2.uY,cJ,lO,d_,p7,Dd,decide_eq_false_iff_not,beq_iff_eq];omega
section
variable{gl:Gl}{ez:bM}{f:A2.F}{n i:Nat}{act:List Int}
theorem zeB(hg:GK gl ez)(On:ez.any (Nat.beq 27)=false)(RQ:ez.any (Nat.beq 33)=false)(Z4:ez.any (Nat.beq 44)=false)(Ez:gl.g 0 0=some A2.tf)(hf:E5 f (mP f) n)(DH:f.f.2.length<=200)(hc:Cl (ot f) (pG f act) i)(h6:qY (zm (ot f) (pG f act) i)<=600){t:A2.bW}(ht:A2.WB t) :
  Kn prog gl 44 [A2.iL (wM (ot f) (pG f act) (ri f) i),A2.mZ t] (.int .i64 (ri f (xU (ot f) (pG f act) t.2))):=by
 have hl:=zpf hf DH (act:=act) (i:=i);obtain⟨k,e1,e2,e3,e4⟩:=zli hc t.2 ht.2;have:=A2.Z3 hg On RQ Z4 Ez _ (zqz hc h6 hl) (znB hc h6 hl) t ht.1 ht.2 e1 (by rw[e4];exact e2)
 rwa [e3] at this
end
theorem zph{ck:Bool}{rk:A2.bW->Bool}{l:List A2.bW}(h:DX ck rk l=true):ck=true/\∀a∈l,rk a=true:=by
 simp only[DX,d_,Cs] at h;exact⟨h.1,h.2.2.2⟩
end
section
open Go.Vm.Sx
theorem zqE{p:A4}(h:A2.tv p=false):cJ 500 (fh 0 p.l)=false/\p.a.2.length<=16:=by
 simp only[A2.tv,JJ] at h;refine⟨h.1,?_⟩;have:=h.2;simp only[cJ,decide_eq_false_iff_not] at this;omega
inductive Blt(b:Bool)(p:A4):Prop
 |no (L:dr) (hL:qh prog (JE b) L) (hG:GK (AI b L) uH) (sI:de L 26 []=some (.bool true)) (h:Kn prog (AI b L) 25 [.agg (wr p)] (.br [.aG,.bool false]))
 |yes (f:A2.F) (c:Nat) (vs:aD) (L:dr) (hL:qh prog l_ L) (eH:∀x∈L,uH.any (Nat.beq x.1)=true) (ab5:∀xs,de L 28 xs=none)
   (tw:de L 14 [zX p.nl p.l]=some (.br [A2.fv f,.bN])) (uB:de L 30 [A2.fv f,A2.rv p.a]=some (.br [.sl 2 vs .no,.bN])) (sI:de L 26 []=some (.bool true))
   (hw:A2.WF f) (hq:∀q∈f.s.2,C9 q) (hs:f.s.2.length<=1000) (hl:f.f.2.length=p.l.length) (hlen:p.l.length<=200) (CF:A2.tv p=false) (EG:DX (Pa f) (HN f) p.a.2=true)
   (NZ:AD (ot f) (ri f) (p.a.2.map λa=>pG f a.2) c vs) (hc:c<=600) (dx:aI vs=0)
theorem znD(b:Bool){p:A4}(hp:BP p):Blt b p:=by
 have GI:∀x∈sI,uH.any (Nat.beq x.1)=true:=λx hx=>by
  obtain rfl:=oG.1 hx;rfl
 cases hb:A2.tv p with
 | true=>exact .no sI (S9 S_) (JF GI) rfl (A2.Jt (JF GI) rfl rfl p hp (k:=0) (.big hb))
 | false =>
 obtain⟨Np,atb⟩:=zqE hb;have hg:=zqD hp Np;have Tb:=zrk S_ (nl:=p.nl) hg;have tw:de ((14,[zX p.nl p.l],bV p.l)::sI) 14 [zX p.nl p.l]=some (bV p.l):=S3;have GJ:∀x∈((14,[zX p.nl p.l],bV p.l)::sI:dr),uH.any (Nat.beq x.1)=true:=λx hx=>by
  rcases dG.1 hx with rfl|hx
  ·rfl
  ·exact GI x hx
 have Tc:de ((14,[zX p.nl p.l],bV p.l)::sI) 26 []=some (.bool true):=by rw[wo rfl];rfl
 by_cases he:bE p.l=.bN
 ·obtain⟨e1,hw,hq,hs,nk,hlen⟩:=zri hg he hp.q;obtain⟨va,t1,t2,t3⟩:=zqv Tb hw hq (by omega) (by omega) p.a (λa h=>(hp.a.2 a h).1) (by have:=hp.a.1;have:=A2.eV;omega)
  have DY:∀x∈((30,[A2.fv (fF p.l),A2.rv p.a],va)::(14,[zX p.nl p.l],bV p.l)::sI:dr),uH.any (Nat.beq x.1)=true:=λx hx=>by
   rcases dG.1 hx with rfl|hx
   ·rfl
   ·exact GJ x hx
  have NL:de ((30,[A2.fv (fF p.l),A2.rv p.a],va)::(14,[zX p.nl p.l],bV p.l)::sI) 14 [zX p.nl p.l]=some (.br [A2.fv (fF p.l),.bN]):=by rw[wo rfl,tw,e1]
  have GL:de ((30,[A2.fv (fF p.l),A2.rv p.a],va)::(14,[zX p.nl p.l],bV p.l)::sI) 26 []=some (.bool true):=by rw[wo rfl];exact Tc
  have uB:de ((30,[A2.fv (fF p.l),A2.rv p.a],va)::(14,[zX p.nl p.l],bV p.l)::sI) 30 [A2.fv (fF p.l),A2.rv p.a]=some va:=S3;have iG:∀k,va=.br [.aG,.dF 396 (.obj k)]->Blt b p:=λk hv=>by
   rw[hv] at t3 NL uB GL DY;exact .no _ (S9 t3) (JF DY) GL (A2.Jt (JF DY) rfl rfl p hp (.bad hb (fF p.l) 396 k (E7 NL) (E7 uB)))
  split at t2
  ·rename_i EG;rcases t2 with⟨c,vs,q1,q2,rfl⟩|⟨hv,_⟩
   ·refine .yes (fF p.l) c vs _ t3 DY (λxs=>?_) NL uB GL hw hq hs nk hlen hb EG q1 q2 ?_
    ·rw[wo rfl,wo rfl];rfl
    ·simpa[V.top,aI] using t1
   ·exact iG 2 hv
  ·exact iG 0 t2
 ·obtain⟨e1,k,e2⟩:=zrj he;have hz:V.agg zF=A2.fv ⟨(true,[]),(true,[]),(true,[]),(true,[])⟩:=rfl;have tw:=tw.trans (congrArg some (show bV p.l=.br [A2.fv ⟨(true,[]),(true,[]),(true,[]),(true,[])⟩,.dF 396 (.obj k)] by rw[e1,hz,e2]))
  exact .no _ (S9 Tb) (JF GJ) Tc (A2.Jt (JF GJ) rfl rfl p hp (.ref hb ⟨(true,[]),(true,[]),(true,[]),(true,[])⟩ 396 k (E7 tw)))
theorem zpA{α:Type}{Q:Nat->α->Prop}(hm:∀{k k' a},k<=k'->Q k a->Q k' a):∀{l:List α},(∀a∈l,∃k,Q k a)->∃k,∀a∈l,Q k a
 | [],_=>⟨0,λa h=>(by cases h)⟩
 | a::l,h=>by
  obtain⟨k1,h1⟩:=zpA (Q:=Q) hm λb hb=>h b (dU _ hb);obtain⟨k2,h2⟩:=h a (eK ..);refine⟨max k1 k2,λb hb=>?_⟩;rcases dG.1 hb with rfl|hb
  ·exact hm (by omega) h2
  ·exact hm (by omega) (h1 b hb)
theorem zrP(n:Nat)(xs:aD)(h:ji prog n 60 xs):∃L,qh prog (JE true) L/\∃k,∀m,k<=m->zj prog (AI true L) m 9 [.agg xs] ⟨[],[]⟩=some (.ret (.bool true),⟨[],[]⟩):=by
 obtain⟨p,rfl,hp⟩:=zoK h;have fin:∀{L:dr}{k:Nat},GK (AI true L) uH->de L 26 []=some (.bool true)->A2.B9 k (AI true L) p->∃k,∀m,k<=m->zj prog (AI true L) m 9 [.agg (wr p)] ⟨[],[]⟩=some (.ret (.bool true),⟨[],[]⟩):=λ{L k} hG sI hB=>by
  obtain⟨k,hk⟩:=A2.kn9 hG rfl rfl p hp (k:=max k 1) ((E7 sI).mono (by omega)) (hB.mono (by omega))
  exact⟨k,λm hm=>hk m hm _⟩
 rcases znD true hp with⟨L,hL,hG,Nk,k,E1⟩|⟨f,c,vs,L,hL,eH,ab5,tw,uB,Td,hw,hq,hs,hl,hlen,CF,EG,NZ,hc,dx⟩
 ·exact⟨L,hL,fin hG Nk (.early .aG false E1 rfl (λ_ _=>rfl) (.inl rfl))⟩
 obtain⟨oQ,KB⟩:=zph EG;obtain⟨hF,_,DH⟩:=zgA hq oQ (n:=5000) (by omega)
 have LN:vs.length=p.a.2.length:=by rw[NZ.len,gk]
 have ua:∀{L':dr},GK (AI true L') uH->de L' 14 [zX p.nl p.l]=some (.br [A2.fv f,.bN])->de L' 30 [A2.fv f,A2.rv p.a]=some (.br [.sl 2 vs .no,.bN])->Kn prog (AI true L') 25 [.agg (wr p)] (.br [.sl 2 vs .no,.bool true]):=λhG L_ X8 =>
  A2.Jt hG rfl rfl p hp (.go CF f vs dx (E7 L_) (E7 X8) LN)
 have few:p.a.2.length<2->∃L,qh prog (JE true) L/\∃k,∀m,k<=m->zj prog (AI true L) m 9 [.agg (wr p)] ⟨[],[]⟩=some (.ret (.bool true),⟨[],[]⟩):=λh2=>by
  obtain⟨k,E1⟩:=ua (JF eH) tw uB;exact⟨L,S9 hL,fin (JF eH) Td (.early (.sl 2 vs .no) true E1 rfl (λ_ _=>rfl) (.inr h2))⟩
 match hA:p.a.2 with
 | []=>exact few (by rw[hA];simp)
 | [a]=>exact few (by rw[hA];simp)
 | a0::a1::tl =>
 have m0:a0∈p.a.2:=by rw[hA];simp
 have m1:a1∈p.a.2:=by rw[hA];simp
 obtain⟨i0,_⟩:=S4 (KB a0 m0);obtain⟨i1,_⟩:=S4 (KB a1 m1);rw[hl] at i0 i1;have Hf:(100000:Nat)<=reachBytes:=by decide
 have iU:=A2.u7 (a:=a0) (b:=a1) (n:=p.l.length);obtain⟨vb,t1,t2,t3⟩:=zny hL hw hq (by omega) (by omega) (true,A2.dH a0 a1 p.l.length) (by show(A2.dH a0 a1 p.l.length).length * 8<=_;omega)
 have ab6:HN f (true,A2.dH a0 a1 p.l.length)=true:=by
  unfold HN;rw[hl];exact zpg
 rw[if_pos ⟨oQ,ab6⟩] at t2;obtain⟨L',Pc⟩:∃L',L'=E0 ((28,[A2.fv f,A2.iv (true,A2.dH a0 a1 p.l.length)],vb)::L):=⟨_,rfl⟩;have okL:qh prog (JE true) L':=by rw[Pc];exact zrO (S9 t3)
 have hG:GK (AI true L') uH:=JF λx hx=>by
  rw[Pc] at hx;simp only[E0,dG] at hx;rcases hx with rfl|rfl|rfl|hx
  ·rfl
  ·rfl
  ·rfl
  ·exact eH x hx
 have GM:∀{g xs},Nat.beq g 43=false->Nat.beq g 28=false->de L' g xs=de L g xs:=λh1 h2=>by
  rw[Pc,E0,wo h1,wo h1,wo h2]
 have L_:=(GM rfl rfl).trans tw;obtain⟨k,E1⟩:=ua hG L_ ((GM rfl rfl).trans uB);have Ut:de L' 28 [A2.fv f,A2.iv (true,A2.dH a0 a1 p.l.length)]=some vb:=by rw[Pc,E0,wo rfl,wo rfl];exact S3
 have ab7:de L' 43 [VP]=some (.int .i64 11):=by rw[Pc,E0];exact S3
 have ab8:de L' 43 [.bN]=some (.int .i64 0):=by rw[Pc,E0];rfl
 have Ez:(AI true L').g 0 0=some A2.tf:=zrN;have sI:=(GM rfl rfl).trans Td;rcases t2 with⟨i,j1,j2,j3,rfl⟩|⟨i,j1,rfl⟩
 ·have hb:Cl (ot f) (pG f (A2.dH a0 a1 p.l.length)) i:=⟨j1,j2⟩;obtain⟨n0,c0,v0,s0⟩:=NZ.get 0 (pG f a0.2) (by rw[hA];rfl)
  obtain⟨n1,c1,v1,s1⟩:=NZ.get 1 (pG f a1.2) (by rw[hA];rfl)
  obtain⟨K,hK⟩:=zpA (l:=p.t.2) (Q:=λk t=>∃a b,mY k prog (AI true L') 44 [A2.iL (wM (ot f) (pG f (A2.dH a0 a1 p.l.length)) (ri f) i),A2.mZ t] (.int .i64 (A2.rK a b))/\mY k prog (AI true L') 44 [A2.iL (wM (ot f) (pG f a0.2) (ri f) n0),A2.mZ t] (.int .i64 a)/\mY k prog (AI true L') 44 [A2.iL (wM (ot f) (pG f a1.2) (ri f) n1),A2.mZ t] (.int .i64 b)) (λhk ⟨a,b,x,y,z⟩=>⟨a,b,x.mono hk,y.mono hk,z.mono hk⟩) λt ht=>by
   have hwb:=hp.t t ht;obtain⟨x,hx⟩:=zeB hG rfl rfl rfl Ez hF DH hb j3 hwb;obtain⟨y,hy⟩:=zeB hG rfl rfl rfl Ez hF DH c0 (by omega) hwb
   obtain⟨z,hz⟩:=zeB hG rfl rfl rfl Ez hF DH c1 (by omega) hwb
   rw[zlh (znC i0 i1) t.2] at hx;exact⟨max x (max y z),_,_,hx.mono (by omega),hy.mono (by omega),hz.mono (by omega)⟩
  exact⟨L',okL,fin hG sI (k:=max (max k 1) K) (.full vs a0 a1 tl f _ .bN 0 (E1.mono (by omega)) hA ((E7 L_).mono (by omega)) ((E7 Ut).mono (by omega)) ((E7 ab8).mono (by omega)) (.inr ⟨rfl,rfl,_,_,by rw[zg];exact v0,by rw[zg];exact v1,λt ht=>by
   obtain⟨a,b,x,y,z⟩:=hK t ht
   exact⟨a,b,x.mono (by omega),y.mono (by omega),z.mono (by omega)⟩⟩))⟩
 ·exact⟨L',okL,fin hG sI (k:=max k 1) (.full vs a0 a1 tl f ((true,[]),(true,[])) VP 11 (E1.mono (by omega)) hA ((E7 L_).mono (by omega)) ((E7 Ut).mono (by omega)) ((E7 ab7).mono (by omega)) (.inl ⟨_,_,rfl,rfl⟩))⟩
end
def S60:List aB:=[3,4,5,9,24,27,28,48,50,51,53,55,58,60,78]
theorem GN:S60.all (TS prog S60)=true:=by kernel_rfl
theorem zqF{g:Gh}{xs:aD}{cs:dM}(h:RC g xs cs.toList):aR g (.agg xs) (.agg cs):=by
 refine .agg (by rw[RC.length h,AJ]) (λj x hx=>?_) λj x v hx hv=>?_
 ·obtain⟨v,_,hg⟩:=h.get j x hx;exact hg.1
 ·obtain⟨v',k_,hg⟩:=h.get j x hx;rw[E9,hv] at k_;cases k_;exact hg.2.1
theorem zkl{g:Gh}:∀{xs:aD}{cs:dw},RC g xs cs->aI xs=0
 | [],[],_=>rfl
 | x::xs,v::cs,h=>by simp[aI,h.1.2.2.1,zkl h.2]
 | [],_::_,h=>h.elim
 | _::_,[],h=>h.elim
end Go.Proofs.YthohlnmcjkjeiaaGreatDoor
namespace Go.Proofs.YthohlnmcjkjeiaaGreatDoor.SubsetFewer
open Go.Proofs.Tryz
set_option maxRecDepth 100000
set_option maxRecDepth 100000
open Go Go.Vm Go.ChangeShapes Go.WideShapes Go.ChangeAt Go.RowKit
theorem contract(H:Type)(enc:aB×bt->H)(W:aP)(base:Nat)(args:dM)(ds gs:List (DataW H))(before:List MemPlace)
  (sW:∀(j:Nat) t v,f9.params[j]?=some t->args[j]?=some v->Value.okWide prog W .any base t v)
  (hW:DataW.Whole enc prog f9.params.toList Rows.subsetFewerSpec.vars false W args.toList ds gs before)
  (tW:(DataW.weightsEach prog (f9.params.toList++(OpenSpec.ofChange Rows.subsetFewerSpec).bare.plain.varTypes prog) (ds++gs)).all (·<=reachBytes)=true) (hL:laidMetH prog Rows.subsetFewerRow.laid W) :
  Calls prog 9 args W λe W'=>∃v,e=.returned v/\Rows.subsetFewerSpec.post enc prog f9 false true false false W args v W':=by
 have LX:=hW;obtain⟨p,q,hA0,hV,rfl,hfz,sA⟩:=hW;have hA:DataW.TrodAll enc prog W 0 (λ_=>true) true f9.params.toList args.toList ds p:=hA0;rw[params9] at hA;obtain⟨v0,vs0,d0,ds0,p0,q0,fD,rfl,rfl,h0,r0⟩:=trodAll_cons hA;obtain⟨rfl,rfl,rfl⟩:=trodAll_nil r0;obtain rfl:args=#[v0]:=by cases args;simp_all
 obtain⟨n,hn⟩:=h0;have AS:∀w∈d0.weights prog 60,w<=reachBytes:=λw hw=>by
  have:=Cs.1 tW w (by
   rw[params9];show w∈DataW.weights prog 60 d0++_
   exact A7 _ hw)
  simpa using this
 obtain⟨xs,x1,x2,x3⟩:=zhc (S:=S60) GN n 60 _ _ (by decide) hn AS
 obtain⟨cs,rfl,fq,_⟩:∃cs,v0=.agg cs/\cs.size=prog.cellsOf 60/\Row.okWide prog W .any base 60 cs:=by
  have ua:=sW 0 60 v0 (by rw[params9];rfl) rfl
  simp only[Value.okWide,underlying60] at ua;exact ua
 have x2':RC (xD W) xs cs.toList:=x2;have cw:=zrP n xs x1;obtain⟨L,Uz,k,hk⟩:=cw;refine(zkB mixed gI e_ (hkH Uz) (hk k (dA _)) (zq1 hL) ⟨rfl,λj y v hy hv=>?_,?_,?_⟩).mono λe W' ⟨he,hb⟩=>⟨_,he,?_⟩
 ·match j,hy,hv with
  | 0,hy,hv=>cases hy;cases hv;exact zqF x2'
  | j+1,hy,_=>simp at hy
 ·simp[aI,V.top,zkl x2']
 ·intro y hy sz ys e;simp only[oG] at hy;subst hy;simp
 ·exact zlM rfl (show f9.resultTypes=#[4] from rfl) underlying4 laidOut (by rw[params9];intro t ht;simp at ht;subst ht;exact⟨by kernel_rfl,of_decide_eq_true (by kernel_rfl)⟩) rfl LX hb
theorem lifted(os:Os)(started:os.Started)(H:Type)(enc:aB×bt->H)(F:Stop.Interp) :
  ReturnsInHanded {} Tryz.checked os 9 .any ((OpenSpec.ofChange Rows.subsetFewerSpec).preRow enc prog f9 Rows.subsetFewerRow.domain false Rows.subsetFewerRow.laid) (((OpenSpec.ofChange Rows.subsetFewerSpec).at F).post enc prog f9 false true false false):=by
 have hx:∃places,DataW.whole enc prog ((World.doorLaid prog 320 os).forCall (λ_ _=>0) ⟨#[],#[.agg #[.slice none 0 0,.slice none 0 0,.slice none 0 0]],[]⟩).memory f9.params.toList Rows.subsetFewerSpec.vars false #[Value.agg #[.slice none 0 0,.slice none 0 0,.slice none 0 0]].toList 8=some ([.agg [.nil,.nil,.nil]],[],places):=⟨[],by kernel_rfl⟩
 obtain⟨places,hx⟩:=hx;refine returnsInHanded_of_row (C:=Tryz.checked) (s:=OpenSpec.ofChange Rows.subsetFewerSpec) own started (by kernel_rfl) func9
  (witness_row_atRef (enc:=enc) (C:=Tryz.checked) false (World.doorLaid prog 320 os) #[.agg #[.slice none 0 0,.slice none 0 0,.slice none 0 0]] rfl (by kernel_rfl) (by kernel_rfl) (by kernel_rfl)
   (OpenSpec.preRow_of_cond 8 hx (by kernel_rfl) (λk hk=>by cases hk) (by kernel_rfl) (zkZ os _))) ?_
 intro W base args ds gs before sW hW _ _ tW hL _ _;exact contract H enc W base args ds gs before sW hW tW hL
theorem said:Rows.SubsetFewerSaid :=
 OpenClaim.holds_of_cond 9 f9 rfl rfl rfl rfl rfl rfl rfl ⟨rfl,rfl,rfl,rfl,rfl⟩ rfl rfl rfl rfl rfl named func9 facts
  (of_decide_eq_true (by kernel_rfl)) (by unfold Func.isWrapper;first|(rw[if_pos (by decide +kernel)];kernel_rfl)|(rw[if_neg (by decide +kernel)];exact⟨rfl,rfl⟩))
  (λos started H enc _ F=>by rw[OpenClaim.pre_eq_preRow];exact lifted os started H enc F)
theorem plain(f:FuncId)(fn:Func)(hf:Tryz.pinned.checked.prog.funcNamed "bolter/bolterlaw11.SubsetFewer"=some f) (LL:Tryz.pinned.checked.prog.funcs[f]?=some fn) :
  true=Tryz.pinned.checked.prog.looks []/\∀(j:Nat) t,fn.params[j]?=some t->Tryz.pinned.checked.prog.wantsStandIn t=false:=by
 obtain rfl:f=9:=Ct ((show prog.funcNamed "bolter/bolterlaw11.SubsetFewer"=some 9 by kernel_rfl).symm.trans hf) |>.symm
 obtain rfl:fn=f9:=(Ct (func9.symm.trans LL)).symm;refine⟨by kernel_rfl,λj t ht=>?_⟩
 rw[params9] at ht;obtain rfl:t=60:=by simpa using Array.mem_of_getElem? ht
 exact(show prog.wantsStandIn 60=false by kernel_rfl)
theorem card:Rows.SubsetFewerCardSaid :=
 Claim7.holds_tied_plain_at .later [] _ _ _ _ said (λ_ h=>by cases h) (by kernel_rfl) (λ_ h=>by cases h) subsetFewer_row_tie rfl ⟨rfl,rfl⟩ (by kernel_rfl) rfl plain (by kernel_rfl)
end Go.Proofs.YthohlnmcjkjeiaaGreatDoor.SubsetFewer
