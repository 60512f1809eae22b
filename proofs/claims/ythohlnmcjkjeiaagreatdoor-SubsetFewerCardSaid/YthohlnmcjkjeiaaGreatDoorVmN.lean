/- Seat 8: Build, known: expressions told apart by their values. Conditions: none but those named. -/
import Derived.Test.YthohlnmcjkjeiaaGreatDoorVmG
import Derived.Test.YthohlnmcjkjeiaaGreatDoorVmH
import Derived.Test.YthohlnmcjkjeiaaGreatDoorVmJ
import Derived.Test.YthohlnmcjkjeiaaGreatDoorVmM
namespace Go.Proofs.YthohlnmcjkjeiaaGreatDoor
open Go Go.Vm
open Go.Proofs.Tryz
set_option maxRecDepth 100000
section
open Go.Vm.Sx
mutual
def Can:E->Prop
 | .mk _ _ _ _ _ _ _ _ _ nl args=>(nl=true->args=[])/\Ey args
def Ey:List E->Prop
 | []=>True
 | e::l=>Can e/\Ey l
end
theorem zmK{nl Jh:Bool}{a b:aD}(h1:nl=true->a=[])(h2:Jh=true->b=[])(h:ye nl a=ye Jh b):a=b/\nl=Jh:=by
 unfold ye at h;cases nl with
 | true =>
  have:=h1 rfl;subst this;cases Jh with
  | true=>exact⟨(h2 rfl).symm,rfl⟩
  | false=>simp at h
 | false =>
  cases Jh with
  | true =>
   have:=h2 rfl;subst this;simp at h
  | false =>
   simp only[Fe,fR,bw] at h;injection h with _ h;exact⟨h,rfl⟩
mutual
theorem Ax:∀(e e':E),Can e->Can e'->enc e=enc e'->e=e'
 | .mk op pl s0 s1 s2 s3 tx mn mx nl args,.mk op' pl' s0' s1' s2' s3' tx' mn' mx' Jh Bp,h,h',he=>by
  simp only[enc] at he;injection he with he;simp only[List.cons.injEq,V.int.injEq,V.str.injEq,lM,BY] at he;obtain⟨e1,e2,e3,e4,e5,e6,e7,e8,e9,sH⟩:=he;obtain⟨f1,f2⟩:=zmK (λhn=>by rw[h.1 hn];rfl) (λhn=>by rw[h'.1 hn];rfl) sH
  have:=BM args Bp h.2 h'.2 f1;subst e1 e2 e3 e4 e5 e6 e7 e8 e9 f2 this;rfl
theorem BM:∀(l l':List E),Ey l->Ey l'->fe l=fe l'->l=l'
 | [],[],_,_,_=>rfl
 | [],_::_,_,_,h=>by simp[fe] at h
 | _::_,[],_,_,h=>by simp[fe] at h
 | a::l,b::l',h,h',he=>by
  simp only[fe,List.cons.injEq] at he;rw[Ax a b h.1 h'.1 he.1,BM l l' h.2 h'.2 he.2]
end
def Ji(c:Cr):Prop:=Can c.1/\Can c.2.2
theorem zox{c c':Cr}(h:Ji c)(h':Ji c')(he:Cf c=Cf c'):c=c':=by
 obtain⟨a,t,b⟩:=c;obtain⟨a',t',b'⟩:=c';simp only[Cf,iR,V.agg.injEq,a_] at he;have hl:(aK a).length=(aK a').length:=by rw[z0,z0]
 obtain⟨e1,e2⟩:=List.append_inj he hl;simp only[bh,aZ,List.cons.injEq,V.bool.injEq] at e2;have h1:=Ax a a' h.1 h'.1 (by rw[qB,qB,e1])
 have h2:=Ax b b' h.2 h'.2 (by rw[qB,qB,e2.2])
 subst h1 h2;rw[e2.1]
theorem zkW{nl Jh:Bool}:∀{l l':List Cr},(∀c∈l,Ji c)->(∀c∈l',Ji c)->zX nl l=zX Jh l'->l=l':=by
 intro l l' h h' he;have hm:l.map Cf=l'.map Cf:=by
  have e1:=zhM nl l;have e2:=zhM Jh l';rw[<- e1,he,e2]
 clear he
 induction l generalizing l' with
 | nil=>cases l' with
  | nil=>rfl
  | cons a l'=>simp at hm
 | cons a l ih=>cases l' with
  | nil=>simp at hm
  | cons b l' =>
   simp only[bg,List.cons.injEq] at hm;rw[zox (h a (eK ..)) (h' b (eK ..)) hm.1,ih (λc hc=>h c (dU _ hc)) (λc hc=>h' c (dU _ hc)) hm.2]
structure Jj(l:List Cr):Prop where
 len:l.length<=maxLen
 wf:∀c∈l,MF c
 can:∀c∈l,Ji c
 nod:200<l.length\/∀c∈l,nodes c.1<=1800/\nodes c.2.2<=1800
open Classical in
noncomputable def OQ(F:List Cr->V)(args:aD):b_ :=
 if h:∃p:Bool×List Cr,Jj p.2/\args=[zX p.1 p.2] then some (F (Classical.choose h).2) else none
theorem zoy{F:List Cr->V}{nl:Bool}{l:List Cr}(h:Jj l):OQ F [zX nl l]=some (F l):=by
 unfold OQ;have hex:∃p:Bool×List Cr,Jj p.2/\[zX nl l]=[zX p.1 p.2]:=⟨(nl,l),h,rfl⟩;rw[dif_pos hex];have hs:=Classical.choose_spec hex;have e:=List.cons.inj hs.2;rw[zkW hs.1.can h.can e.1.symm]
theorem zkY{F:List Cr->V}{args:aD}{v:V}(h:OQ F args=some v):∃nl l,Jj l/\args=[zX nl l]/\v=F l:=by
 unfold OQ at h;split at h
 next hex=>have hs:=Classical.choose_spec hex;exact⟨_,_,hs.1,hs.2,(Ct h).symm⟩
 ·cases h
theorem ZS{f:FuncId}{back:Bool}{ty:Nat}(_h:ty<1048576):fu (GU f back ty)=false:=by
 have hk:∀n:Nat,n<1099511627776->Nat.beq (GU f back ty) n=false:=λn hn=>by
  cases hb:Nat.beq (GU f back ty) n with
  | false=>rfl
  | true =>
   have:=eG hb;simp only[GU] at this;omega
 simp only[fu,hk _ (show(115:Nat)<1099511627776 by decide),hk _ (show(157:Nat)<1099511627776 by decide),hk _ (show(117:Nat)<1099511627776 by decide),hk _ (show vi 205<1099511627776 by decide),Bool.or_false]
def OS:Gl:={ g:=l_,hk:=λ_ _=>none }
theorem ZT:GK OS []:=⟨λ_ _ _=>rfl,λ_ _ _ _ _=>rfl,λ_=>rfl⟩
theorem FZ:nM prog OS:=⟨λf args v h=>(by cases h),λn f args H out H' h=>(by cases h),λ_ _ _ _ h=>(by cases h)⟩
def U0(l:List Cr):V:=.br [.int .i64 (yP l).1,.bool (yP l).2]
noncomputable def KC:Gl:={ g:=l_,uq:=fu,hk:=λf args=>if Nat.beq f 54 then OQ U0 args else none }
theorem hkb:nM prog KC:=by
 refine⟨λf args v h d H g w bx lc h1 h2 h3=>?_,λn f args H out H' h=>(by cases h),λ_ _ _ tR h=>(by rw[show KC.uq=fu from rfl,ZS tR] at h;cases h)⟩
 simp only[KC] at h;split at h
 next hf=>obtain rfl:f=54:=eG hf;obtain⟨nl,l,hg,rfl,rfl⟩:=zkY h;obtain⟨k,hk⟩:=A2.Zv ZT rfl rfl nl l hg.len hg.wf;exact xE mixed gI e_ FZ (hk k (dA _) ⟨[],[]⟩) (by simp[aI,zfc]) rfl h1 h2 h3
 ·cases h
theorem GWb:GW KC where
 uq:=rfl
 fA:=λ_ _ _ _=>rfl
 tab:=λo ho=>by
  show IK 396 ks [(4,Bt)] 4 o=nth Bt o;rfl
 hk:=λf args h=>by
  show(if Nat.beq f 54 then OQ U0 args else none)=none
  rw[if_neg];intro hf;have:=eG hf;subst this;revert h;decide
end
section
open Go.Vm.Sx
def Jk(l:List Cr):Fo :=
 ⟨(qt (yP l).1.toNat 0 (l.map ff) m0).2.sets,(qt (yP l).1.toNat 0 (l.map ff) m0).2.rules,(qt (yP l).1.toNat 0 (l.map ff) m0).1.map (·.map Int.ofNat),(qt (yP l).1.toNat 0 (l.map ff) m0).2.next.map λp=>(jg p 19).map Int.ofNat⟩
def ZU:V:=.dF 396 (.obj 0)
def ZV:V:=.dF 396 (.obj 1)
def bA(l:List Cr):aD:=bif (yP l).2 then (if 1000<(yP l).1 then zF else Rg (Jk l)) else zF
def bE(l:List Cr):V:=bif (yP l).2 then (if 1000<(yP l).1 then ZV else .bN) else ZU
def bV(l:List Cr):V:=.br [.agg (bA l),bE l]
theorem RH{n:Nat}{e:aB}{xs:aD}:aV (zl n e xs)=lv n true xs:=by cases xs<;>rfl
theorem zjW(l:bM):jH l=nv (l.map Int.ofNat):=by
 unfold jH nv;rw[RH,List.map_map];rfl
theorem C8:∀(l:List Cr)(p:Int),(∀c∈l,nodes c.1<=1800/\nodes c.2.2<=1800)->0<=p->p<=1001->(nt p l).2=true->(nt p l).1<=1000->(nt p l).1=p+(mN (l.map ff):Int)/\p<=1000/\∀e∈l.map ff,gd e=true
 | [],p,_,h0,h1,_,h2=>by
  simp only[nt] at h2 ⊢;exact⟨by simp[mN],h2,λe he=>by cases he⟩
 | c::l,p,h,h0,h1,ej,h2=>by
  obtain⟨n1,n2⟩:=h c (eK ..);simp only[nt] at ej h2 ⊢;cases ho:C4 c with
  | false=>rw[ho] at ej;cases ej
  | true =>
   rw[ho] at ej h2;simp only[mS] at ej h2 ⊢;have k1:=sE c.1;have k2:=sE c.2.2;have fq:∀e:E,nodes e<=4000->0<=vw e/\vw e<=1001:=λe he=>by
    rw[UO he];split
    ·split<;>omega
    ·omega
   have Bi:=fq c.1 (by omega)
   have Pp:=fq c.2.2 (by omega)
   have om:Ga p c=if 1001<p+vw c.1+vw c.2.2 then 1001 else p+vw c.1+vw c.2.2:=by
    unfold Ga;rw[EU (x:=p+vw c.1) (by omega) (by omega),EU (by omega) (by omega)]
    by_cases h4:1001<p+vw c.1+vw c.2.2
    ·rw[Kb h4,if_pos h4];rfl
    ·rw[X0 (by omega),if_neg h4];rfl
   have hb:0<=Ga p c/\Ga p c<=1001:=by rw[om];split<;>omega
   obtain⟨g1,g2,g3⟩:=C8 l (Ga p c) (λc hc=>h c (dU _ hc)) hb.1 hb.2 ej h2;have h4:¬(1001<p+vw c.1+vw c.2.2):=λh4=>by rw[om,if_pos h4] at g2;omega
   have KD:Ga p c=p+vw c.1+vw c.2.2:=by rw[om,if_neg h4]
   rw[KD] at g2;simp only[C4,d_] at ho;obtain⟨o1,o2⟩:=ho;rw[zmA (by omega)] at o1
   have U1:=UO (show nodes c.1<=4000 by omega)
   rw[o1] at U1;simp only[aF] at U1;have RJ:vw c.1=lG c.1:=by
    rw[U1]
    by_cases hx:1001<(lG c.1:Int)
    ·rw[if_pos hx] at U1;omega
    ·rw[if_neg hx]
   have G9:gd (ff c)=true/\(lG (ff c):Int)=vw c.1+vw c.2.2:=by
    cases hb:c.2.1 with
    | false =>
     rw[hb] at o2;simp only[oJ] at o2;have:ff c=c.1:=by simp[ff,hb]
     have hz:vw c.2.2=0:=by rw[UO (by omega),zmB o2];rfl
     rw[this,hz,RJ];exact⟨o1,by omega⟩
    | true =>
     rw[hb] at o2;simp only[mS] at o2;rw[zmA (by omega)] at o2
     have:ff c=.mk 5 0 0 0 0 0 [] 0 0 false [c.1,c.2.2]:=by simp[ff,hb]
     have U2:=UO (show nodes c.2.2<=4000 by omega)
     rw[o2] at U2;simp only[aF] at U2;have ZW:vw c.2.2=lG c.2.2:=by
      rw[U2]
      by_cases hx:1001<(lG c.2.2:Int)
      ·rw[if_pos hx] at U2;omega
      ·rw[if_neg hx]
     have e1:lz (.mk 5 0 0 0 0 0 [] 0 0 false [c.1,c.2.2])=true:=rfl;have e2:fX (.mk 5 0 0 0 0 0 [] 0 0 false [c.1,c.2.2])=true:=rfl;rw[this,RJ,ZW];refine⟨by simp only[gd,e1,e2,Ku,o1,o2,Bool.and_self],?_⟩
     simp only[lG,iK,show((5:Int) == 2)=false from rfl,fR,bw];omega
   refine⟨?_,by omega,λe he=>?_⟩
   ·rw[g1,KD];simp only[bg,mN]
    push_cast
    omega
   ·simp only[bg,dG] at he;rcases he with rfl|he
    ·exact G9.1
    ·exact g3 e he
mutual
theorem BN:∀e:E,wE e+2<=5 * nodes e
 | .mk _ _ _ _ _ _ _ _ _ _ args=>by
  have:=u6 args;simp only[wE,nodes];omega
theorem u6:∀l:List E,Er l<=5 * eR l
 | []=>by simp[Er,eR]
 | a::l=>by
  have:=BN a;have:=u6 l;simp only[Er,eR];omega
end
theorem zhR(nl:Bool)(l:List Cr)(h:Jj l):∃u H',zj prog KC 30001 14 [zX nl l] ⟨[],[]⟩=some (.ret u,H')/\mG H' u (bV l):=by
 have hm:KC.hk 54 [zX nl l]=some (U0 l):=zoy h;have g0:KC.g 0 0=some ZU:=by kernel_rfl
 have g1:KC.g 1 0=some ZV:=by kernel_rfl
 obtain⟨p,ok,Ay⟩:∃p ok,yP l=(p,ok):=⟨_,_,rfl⟩;rw[U0,Ay] at hm;simp only at hm
 by_cases iG:ok=false\/1000<p
 ·refine⟨_,_,zkT GWb (n:=30000) (by omega) hm g0 g1 rfl rfl ⟨_,_,rfl⟩ ⟨_,_,rfl⟩ iG,?_⟩
  have:bV l=.br [.agg zF,if ok then ZV else ZU]:=by
   rw[bV,bA,bE,Ay];cases ok with
   | false=>rfl
   | true =>
    have:1000<p:=by rcases iG with h|h;cases h;exact h
    simp only[mS,if_pos this,aF]
  rw[this];exact .same (by cases ok<;>rfl)
 ·have ej:ok=true:=by cases ok with
   | false=>exact absurd (.inl rfl) iG
   | true=>rfl
  subst ej;have hp:p<=1000:=by
   rcases Int.lt_or_le 1000 p with h|h
   ·exact absurd (.inr h) iG
   ·exact h
  have hlen:l.length<=200/\nt 0 l=(p,true):=by
   unfold yP at Ay;cases hx:cJ 200 (l.length:Int) with
   | true=>rw[hx] at Ay;simp at Ay
   | false =>
    rw[hx] at Ay;simp only[oJ] at Ay;refine⟨?_,Ay⟩;rcases eM 200 l.length with hh|hh
    ·rw[Kb (by omega)] at hx;cases hx
    ·exact hh
  have Gi:∀c∈l,nodes c.1<=1800/\nodes c.2.2<=1800:=by
   rcases h.nod with hh|hh
   ·omega
   ·exact hh
  obtain⟨m1,_,m3⟩:=C8 l 0 Gi (by omega) (by omega) (by rw[hlen.2]) (by rw[hlen.2];exact hp)
  rw[hlen.2] at m1;simp only[Int.zero_add] at m1;obtain⟨k,rfl⟩:∃k:Nat,p=k:=⟨mN (l.map ff),m1⟩;have hkn:k=mN (l.map ff):=by omega
  obtain⟨r1,r2,r3⟩:=Zi (n:=k) (l.map ff) 0 m0 m3 ⟨rfl,rfl⟩ (by simp[m0];omega) (by rw[gk];omega) (λx hx=>by simp[m0] at hx)
  have Ae:∀c∈l,nodes (ff c)<=3601:=λc hc=>by
   obtain⟨a1,a2⟩:=Gi c hc;unfold ff;split
   ·simp only[nodes,eR];omega
   ·omega
  obtain⟨H',N,hc,hN⟩:=zkV GWb (n:=30000) (k:=k) hm (by omega) hlen.1 (by rw[r1];simp[m0];omega) (zjO r2) (λc hc=>by have:=BN (ff c);have:=Ae c hc;omega) (by omega)
  refine⟨_,H',hc,?_⟩;have hbv:bV l=.br [UN (Jk l),.bN]:=by
   rw[bV,bA,bE,Ay];simp only[mS,if_neg (show ¬(1000<(k:Int)) by omega)]
   rfl
  have pe:Jk l=⟨(qt k 0 (l.map ff) m0).2.sets,(qt k 0 (l.map ff) m0).2.rules,(qt k 0 (l.map ff) m0).1.map (·.map Int.ofNat),(qt k 0 (l.map ff) m0).2.next.map λp=>(jg p 19).map Int.ofNat⟩:=by
   rw[Jk,Ay];simp only[Ac]
  rw[hbv,pe];generalize hR:qt k 0 (l.map ff) m0=R at *;obtain⟨FT,MT⟩:=R;simp only at hN r2 ⊢;have Gb:=zjO r2;have e1:aV (zl 4 50 MT.lE)=UM MT.sets:=RH;have e2:aV (zl 1 3 MT.fY)=nv MT.rules:=RH;have e3:aV (zl 1 27 (FT.map jH))=Hv (FT.map (·.map Int.ofNat)):=by
   rw[RH,Hv,List.map_map]
   congr 1
   exact List.map_congr_left λa _=>zjW a
  rw[e1,e2,e3];have cj:∀p∈MT.next,nv ((jg p 19).map Int.ofNat)=.sl 1 ((jg p 19).map F9) .no:=λp hp=>by
   have cH:=Gb p hp;rw[<- zjW];unfold jH;cases hx:jg p 19 with
   | nil=>exact absurd hx cH
   | cons a b=>rfl
  have e4:mG H' (aV (zl 1 27 N)) (Hv (MT.next.map λp=>(jg p 19).map Int.ofNat)):=by
   rw[RH,Hv,List.map_map];cases hx:MT.next with
   | nil =>
    have:N=[]:=HO (by rw[hN.1,hx];rfl)
    rw[this];exact .same rfl
   | cons a b =>
    have hNn:N≠[]:=λe=>by have:=hN.1;rw[e,hx] at this;simp at this
    have sL:lv 1 true N=.sl 1 N .no:=by
     cases N with
     | nil=>exact absurd rfl hNn
     | cons x y=>rfl
    rw[sL,<- hx];have G4:lv 1 true (MT.next.map ((nv ∘ λp=>(jg p 19).map Int.ofNat)))=.sl 1 (MT.next.map ((nv ∘ λp=>(jg p 19).map Int.ofNat))) .no:=by rw[hx];rfl
    rw[G4];refine .sl (by rw[gk,hN.1]) (λj x hj=>?_) (λj y hj=>?_) (λj x y hj hy=>?_)
    ·have AY:j<MT.next.length:=by rw[<- hN.1];exact(cZ.1 hj).1
     obtain⟨bb,f1,f2⟩:=hN.2 j _ (gj AY);rw[hj] at f1;cases f1;exact⟨rfl,rfl⟩
    ·rw[iX] at hj;obtain⟨q,hq,rfl⟩:=mQ.1 hj;simp only[Function.comp_apply,cj q (nB hq)];exact⟨rfl,rfl⟩
    ·rw[iX] at hy;obtain⟨q,hq,rfl⟩:=mQ.1 hy;obtain⟨bb,f1,f2⟩:=hN.2 j q hq;rw[hj] at f1;cases f1;simp only[Function.comp_apply,cj q (nB hq)];have hf:=mG.sr (H:=H') (b:=bb) (off:=0) (len:=(jg q 19).length) (cap:=(jg q 19).length) (cs:=(jg q 19).map F9) (t:=3) (by rw[<- zg];exact f2) (wy (λ_=>rfl) _) (by simp)
     rwa [mu,r9 (by simp)] at hf
  refine .br rfl λj x y hx hy=>?_
  match j,hx,hy with
  | 0,hx,hy =>
   cases hx;cases hy;refine .agg rfl (λi y hy=>?_) λi x y hx hy=>?_
   ·have:∀sz nl (l:aD),(lv sz nl l).one=true:=λsz nl l=>by
     rcases bZ sz nl l with h|⟨_,h⟩<;>rw[h]<;>rfl
    match i,hy with
    | 0,hy=>cases hy;exact this ..
    | 1,hy=>cases hy;exact this ..
    | 2,hy=>cases hy;exact this ..
    | 3,hy=>cases hy;exact this ..
    | i+4,hy=>simp[Rg] at hy
   ·match i,hx,hy with
    | 0,hx,hy=>cases hx;cases hy;exact .same (zoq _)
    | 1,hx,hy=>cases hx;cases hy;exact .same (zmz _)
    | 2,hx,hy=>cases hx;cases hy;exact .same (zop _)
    | 3,hx,hy=>cases hx;cases hy;exact e4
    | i+4,hx,hy=>simp at hx
  | 1,hx,hy=>cases hx;cases hy;exact .same rfl
  | j+2,hx,hy=>simp at hx
end
section
open Go.RowKit Go.ChangeAt Go.WideShapes
set_option maxRecDepth 1000000
def sP:Nat×aD:=(5,[.dF 275 (.agg [.eT 19 37])])
def M5:Nat->Nat->b_:=IK 396 ks [(4,Bt),sP]
theorem RK{k off:Nat}{v:V}(h:l_ k off=some v):M5 k off=some v:=by
 have h':=h;unfold l_ IK at h';unfold M5 IK;simp only[Oh,sP] at h' ⊢;cases h4:Nat.beq k 4 with
 | true=>simp only[h4] at h' ⊢;exact h'
 | false =>
  simp only[h4] at h' ⊢;cases h5:Nat.beq k 5 with
  | false=>exact h'
  | true =>
   exfalso;have:=eG h5;subst this;unfold Oa at h';revert h';simp[ks]
theorem zqY{g:Gh}(h:ij prog M5 g):ij prog l_ g :=
 ⟨λk off v hv=>h.1 k off v (RK hv),λk U j hv=>⟨(h.2 k U j (RK hv)).1,λk' U' j' k_ e=>(h.2 k U j (RK hv)).2 k' U' j' (RK k_) e⟩⟩
def zqZ(f:FuncId)(args:aD):b_:=if Nat.beq f 123 then match args with
 | [.dF 396 (.obj i),.dF 396 (.obj j)]=>if ks.any (Nat.beq i) && ks.any (Nat.beq j) then some (.bool (Nat.beq i j)) else none
 | _=>none else none
def zq0(_:Nat)(f:FuncId)(args:aD)(H:Hp):Option (Out×Hp):=if Nat.beq f 99 then match args with
 | [.dF 396 (.obj _),.dF tt (.ptr _ _)]=>if Nat.beq tt 167 || Nat.beq tt 171 || Nat.beq tt 176 || Nat.beq tt 180 then some (.ret (.bool false),H) else none
 | _=>none else none
def RL:Gl:={ g:=M5,hk:=zqZ,fA:=zq0 }
theorem ZX{k:Nat}(h:ks.any (Nat.beq k)=true):M5 k 0=some (.dF 396 (.obj k)):=by
 refine RK ?_;obtain⟨x,hx,hk⟩:=Fc.1 h;obtain rfl:=eG hk;simp only[ks,dG,A8,AM] at hx;rcases hx with rfl|rfl|rfl|rfl|rfl|rfl|rfl|rfl|rfl|rfl|rfl|rfl|rfl|rfl|rfl|rfl<;>rfl
theorem rQ{g:Gh}{n:Nat}{a b:V}{bx:dM}(h:eP g n [a,b] bx):∃x y,bx=#[x,y]/\aR g a x/\aR g b y:=by
 obtain⟨l⟩:=bx;have:=h.len
 match l,this with
 | [x,y],_=>exact⟨x,y,rfl,h.rel 0 a x rfl rfl,h.rel 1 b y rfl rfl⟩
theorem hkE:nM prog RL:=by
 refine⟨λf args v h d H g w bx lc h1 h2 h3=>?_,λn f args H out H' h d hd g w bx lc h1 h2 h3=>?_,λ_ _ _ _ h=>(by cases h)⟩
 ·simp only[RL,zqZ] at h;split at h
  ·rename_i hf;obtain rfl:f=123:=eG hf;split at h
   ·rename_i i j;split at h
    ·rename_i hk;simp only[d_] at hk;cases h;obtain⟨x,y,rfl,r1,r2⟩:=rQ h3;cases r1 with
     | dF r1=>cases r2 with
      | dF r2=>cases r1 with
       | obj _=>cases r2 with
        | obj _ =>
         have hA:=zcS (d:=d) h2 (Below.refl w.heap.size w);cases Im:Nat.beq i j with
         | true =>
          obtain rfl:=eG Im;refine Calls.mono (zog (g.obj i) w) λe w' he=>?_;obtain⟨rfl,rfl⟩:=he;exact⟨_,g,rfl,hA,.bool true,trivial,ec _⟩
         | false =>
          obtain⟨k1,k2⟩:=h1.2 i 396 i (ZX hk.1);obtain⟨k3,k4⟩:=h1.2 j 396 j (ZX hk.2);have cH:g.obj i≠g.obj j:=λe=>by
           have:=k2 j 396 j (ZX hk.2) e;subst this;simp at Im
          obtain⟨⟨xs,t,l1⟩,_⟩:=h2.laid _ k1;obtain⟨⟨ys,t',l2⟩,_⟩:=h2.laid _ k3;refine Calls.mono (zmh (g.obj i) (g.obj j) xs ys t t' w cH l1 l2) λe w' he=>?_;obtain⟨rfl,rfl⟩:=he;exact⟨_,g,rfl,hA,.bool false,trivial,ec _⟩
    ·cases h
   ·cases h
  ·cases h
 ·simp only[RL,zq0] at h;split at h
  ·rename_i hf;obtain rfl:f=99:=eG hf;split at h
   ·rename_i i tt b o;split at h
    ·rename_i hk;cases h;obtain⟨x,y,rfl,r1,r2⟩:=rQ h3;obtain⟨cv,m1,m2,_⟩:=h1.1 5 0 (.dF 275 (.agg [.eT 19 37])) rfl;have hc:cv=.iface 275 (.agg #[.pointer (some ⟨19,37,none⟩)]):=by
      cases m2 with
      | dF m=>cases m with
       | agg e1 e2 e3 =>
        rename_i arr;obtain⟨l⟩:=arr
        match l,e1 with
        | [z],_ =>
         have:=e3 0 _ z rfl rfl;cases this;rfl
     subst hc;have cU:=h2.mem 5 0 _ m1;have hF:ET 167 165/\ET 171 170/\ET 176 175/\ET 180 179:=⟨Mb,Mc,Md,Me⟩;have main:∀tt te,ET tt te->aR g (.dF tt (.ptr b o)) y->Calls prog 99 #[x,y] w (fB d H g w lc (.ret (.bool false)) H):=λtt te F q2=>by
      clear r2;cases r1 with
      | dF r1=>cases q2 with
       | dF q2=>cases r1 with
        | obj _=>cases q2 with
         | ptr _ _ =>
          refine Calls.mono (zoh F (g.obj i) _ w cU) λe w' he=>?_;obtain⟨rfl,rfl⟩:=he;refine⟨_,g,rfl,zcS h2 ?_,.bool false,trivial,ec _⟩;exact(((Below.refl _ w).alloc (dA _) _).alloc (by simp) _).alloc (by simp;omega) _
     simp only[p7] at hk;rcases hk with((hk|hk)|hk)|hk
     all_goals (have hh:=eG hk;subst hh)
     ·exact main _ _ hF.1 r2
     ·exact main _ _ hF.2.1 r2
     ·exact main _ _ hF.2.2.1 r2
     ·exact main _ _ hF.2.2.2 r2
    ·cases h
   ·cases h
  ·cases h
end
end Go.Proofs.YthohlnmcjkjeiaaGreatDoor
