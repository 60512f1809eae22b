/- Seat 8: Build, known: expressions told apart by their values. Conditions: none but those named. -/
import Derived.Test.YthohlnmcjkjeiaaGreatDoorVmG
import Derived.Test.YthohlnmcjkjeiaaGreatDoorVmH
import Derived.Test.YthohlnmcjkjeiaaGreatDoorVmJ
import Derived.Test.YthohlnmcjkjeiaaGreatDoorVmM
namespace Go.Proofs.YthohlnmcjkjeiaaGreatDoor
open Go Go.Vm
open Go.Proofs.Tryz
set_option maxRecDepth 100000
section
open Go.Vm.Sx
mutual
def Can:E->Prop
 | .mk _ _ _ _ _ _ _ _ _ nl args=>(nl=true->args=[])/\EC args
def EC:List E->Prop
 | []=>True
 | e::l=>Can e/\EC l
end
theorem zmt{nl Jd:Bool}{a b:aC}(h1:nl=true->a=[])(h2:Jd=true->b=[])(h:yi nl a=yi Jd b):a=b/\nl=Jd:=by
 unfold yi at h;cases nl with
 | true =>
  have:=h1 rfl;subst this;cases Jd with
  | true=>exact⟨(h2 rfl).symm,rfl⟩
  | false=>simp at h
 | false =>
  cases Jd with
  | true =>
   have:=h2 rfl;subst this;simp at h
  | false =>
   simp only[Fe,f_,bz] at h;injection h with _ h;exact⟨h,rfl⟩
mutual
theorem AA:∀(e e':E),Can e->Can e'->enc e=enc e'->e=e'
 | .mk op pl s0 s1 s2 s3 tx mn mx nl args,.mk op' pl' s0' s1' s2' s3' tx' mn' mx' Jd mq,h,h',he=>by
  simp only[enc] at he;injection he with he;simp only[List.cons.injEq,V.int.injEq,V.str.injEq,lU,Ce] at he;obtain⟨e1,e2,e3,e4,e5,e6,e7,e8,e9,sG⟩:=he;obtain⟨f1,f2⟩:=zmt (λhn=>by rw[h.1 hn];rfl) (λhn=>by rw[h'.1 hn];rfl) sG
  have:=BU args mq h.2 h'.2 f1;subst e1 e2 e3 e4 e5 e6 e7 e8 e9 f2 this;rfl
theorem BU:∀(l l':List E),EC l->EC l'->fy l=fy l'->l=l'
 | [],[],_,_,_=>rfl
 | [],_::_,_,_,h=>by simp[fy] at h
 | _::_,[],_,_,h=>by simp[fy] at h
 | a::l,b::l',h,h',he=>by
  simp only[fy,List.cons.injEq] at he;rw[AA a b h.1 h'.1 he.1,BU l l' h.2 h'.2 he.2]
end
def Je(c:Cr):Prop:=Can c.1/\Can c.2.2
theorem zob{c c':Cr}(h:Je c)(h':Je c')(he:Cn c=Cn c'):c=c':=by
 obtain⟨a,t,b⟩:=c;obtain⟨a',t',b'⟩:=c';simp only[Cn,iG,V.agg.injEq,aY] at he;have hl:(aL a).length=(aL a').length:=by rw[z6,z6]
 obtain⟨e1,e2⟩:=List.append_inj he hl;simp only[bh,bg,List.cons.injEq,V.bool.injEq] at e2;have h1:=AA a a' h.1 h'.1 (by rw[qz,qz,e1])
 have h2:=AA b b' h.2 h'.2 (by rw[qz,qz,e2.2])
 subst h1 h2;rw[e2.1]
theorem zkC{nl Jd:Bool}:∀{l l':List Cr},(∀c∈l,Je c)->(∀c∈l',Je c)->zZ nl l=zZ Jd l'->l=l':=by
 intro l l' h h' he;have hm:l.map Cn=l'.map Cn:=by
  have e1:=zhu nl l;have e2:=zhu Jd l';rw[<- e1,he,e2]
 clear he
 induction l generalizing l' with
 | nil=>cases l' with
  | nil=>rfl
  | cons a l'=>simp at hm
 | cons a l ih=>cases l' with
  | nil=>simp at hm
  | cons b l' =>
   simp only[a_,List.cons.injEq] at hm;rw[zob (h a (eT ..)) (h' b (eT ..)) hm.1,ih (λc hc=>h c (d_ _ hc)) (λc hc=>h' c (d_ _ hc)) hm.2]
structure Jf(l:List Cr):Prop where
 len:l.length<=maxLen
 wf:∀c∈l,MJ c
 can:∀c∈l,Je c
 nod:200<l.length\/∀c∈l,nodes c.1<=1800/\nodes c.2.2<=1800
open Classical in
noncomputable def OP(F:List Cr->V)(args:aC):bY :=
 if h:∃p:Bool×List Cr,Jf p.2/\args=[zZ p.1 p.2] then some (F (Classical.choose h).2) else none
theorem zoc{F:List Cr->V}{nl:Bool}{l:List Cr}(h:Jf l):OP F [zZ nl l]=some (F l):=by
 unfold OP;have hex:∃p:Bool×List Cr,Jf p.2/\[zZ nl l]=[zZ p.1 p.2]:=⟨(nl,l),h,rfl⟩;rw[dif_pos hex];have hs:=Classical.choose_spec hex;have e:=List.cons.inj hs.2;rw[zkC hs.1.can h.can e.1.symm]
theorem zkE{F:List Cr->V}{args:aC}{v:V}(h:OP F args=some v):∃nl l,Jf l/\args=[zZ nl l]/\v=F l:=by
 unfold OP at h;split at h
 next hex=>have hs:=Classical.choose_spec hex;exact⟨_,_,hs.1,hs.2,(D5 h).symm⟩
 ·cases h
theorem ZI{f:FuncId}{back:Bool}{ty:Nat}(_h:ty<1048576):fG (xe f back ty)=false:=by
 have hk:∀n:Nat,n<1099511627776->Nat.beq (xe f back ty) n=false:=λn hn=>by
  cases hb:Nat.beq (xe f back ty) n with
  | false=>rfl
  | true =>
   have:=eR hb;simp only[xe] at this;omega
 simp only[fG,hk _ (show(115:Nat)<1099511627776 by decide),hk _ (show(157:Nat)<1099511627776 by decide),hk _ (show(117:Nat)<1099511627776 by decide),hk _ (show vg 205<1099511627776 by decide),Bool.or_false]
def OQ:Gl:={ g:=mE,hk:=λ_ _=>none }
theorem ZJ:GK OQ []:=⟨λ_ _ _=>rfl,λ_ _ _ _ _=>rfl,λ_=>rfl⟩
theorem FZ:mX prog OQ:=⟨λf args v h=>(by cases h),λn f args H out H' h=>(by cases h),λ_ _ _ _ h=>(by cases h)⟩
def UW(l:List Cr):V:=.br [.int .i64 (yP l).1,.bool (yP l).2]
noncomputable def Ky:Gl:={ g:=mE,uq:=fG,hk:=λf args=>if Nat.beq f 54 then OP UW args else none }
theorem hkb:mX prog Ky:=by
 refine⟨λf args v h d H g w bp lc h1 h2 h3=>?_,λn f args H out H' h=>(by cases h),λ_ _ _ sw h=>(by rw[show Ky.uq=fG from rfl,ZI sw] at h;cases h)⟩
 simp only[Ky] at h;split at h
 next hf=>obtain rfl:f=54:=eR hf;obtain⟨nl,l,hg,rfl,rfl⟩:=zkE h;obtain⟨k,hk⟩:=A2.Zl ZJ rfl rfl nl l hg.len hg.wf;exact Oa mixed iE fN FZ (hk k (dB _) ⟨[],[]⟩) (by simp[aI,Y6]) rfl h1 h2 h3
 ·cases h
theorem GWb:GW Ky where
 uq:=rfl
 eV:=λ_ _ _ _=>rfl
 tab:=λo ho=>by
  show L9 396 ks [(4,BB)] 4 o=nth BB o;rfl
 hk:=λf args h=>by
  show(if Nat.beq f 54 then OP UW args else none)=none
  rw[if_neg];intro hf;have:=eR hf;subst this;revert h;decide
end
section
open Go.Vm.Sx
def Jg(l:List Cr):Fo :=
 ⟨(qt (yP l).1.toNat 0 (l.map fz) m0).2.cq,(qt (yP l).1.toNat 0 (l.map fz) m0).2.rules,(qt (yP l).1.toNat 0 (l.map fz) m0).1.map (·.map Int.ofNat),(qt (yP l).1.toNat 0 (l.map fz) m0).2.next.map λp=>(jg p 19).map Int.ofNat⟩
def ZK:V:=.ec 396 (.obj 0)
def ZL:V:=.ec 396 (.obj 1)
def bA(l:List Cr):aC:=bif (yP l).2 then (if 1000<(yP l).1 then zF else Ri (Jg l)) else zF
def bE(l:List Cr):V:=bif (yP l).2 then (if 1000<(yP l).1 then ZL else .bT) else ZK
def bV(l:List Cr):V:=.br [.agg (bA l),bE l]
theorem RL{n:Nat}{e:aB}{xs:aC}:aW (zm n e xs)=lv n true xs:=by cases xs<;>rfl
theorem zjD(l:bL):jH l=nv (l.map Int.ofNat):=by
 unfold jH nv;rw[RL,List.map_map];rfl
theorem C':∀(l:List Cr)(p:Int),(∀c∈l,nodes c.1<=1800/\nodes c.2.2<=1800)->0<=p->p<=1001->(nB p l).2=true->(nB p l).1<=1000->(nB p l).1=p+(mQ (l.map fz):Int)/\p<=1000/\∀e∈l.map fz,gd e=true
 | [],p,_,h0,h1,_,h2=>by
  simp only[nB] at h2 ⊢;exact⟨by simp[mQ],h2,λe he=>by cases he⟩
 | c::l,p,h,h0,h1,eE,h2=>by
  obtain⟨n1,n2⟩:=h c (eT ..);simp only[nB] at eE h2 ⊢;cases ho:C6 c with
  | false=>rw[ho] at eE;cases eE
  | true =>
   rw[ho] at eE h2;simp only[mh] at eE h2 ⊢;have k1:=sE c.1;have k2:=sE c.2.2;have fK:∀e:E,nodes e<=4000->0<=vv e/\vv e<=1001:=λe he=>by
    rw[UK he];split
    ·split<;>omega
    ·omega
   have Bm:=fK c.1 (by omega)
   have Pr:=fK c.2.2 (by omega)
   have ov:Ga p c=if 1001<p+vv c.1+vv c.2.2 then 1001 else p+vv c.1+vv c.2.2:=by
    unfold Ga;rw[EU (x:=p+vv c.1) (by omega) (by omega),EU (by omega) (by omega)]
    by_cases h4:1001<p+vv c.1+vv c.2.2
    ·rw[J9 h4,if_pos h4];rfl
    ·rw[XQ (by omega),if_neg h4];rfl
   have hb:0<=Ga p c/\Ga p c<=1001:=by rw[ov];split<;>omega
   obtain⟨g1,g2,g3⟩:=C' l (Ga p c) (λc hc=>h c (d_ _ hc)) hb.1 hb.2 eE h2;have h4:¬(1001<p+vv c.1+vv c.2.2):=λh4=>by rw[ov,if_pos h4] at g2;omega
   have Kz:Ga p c=p+vv c.1+vv c.2.2:=by rw[ov,if_neg h4]
   rw[Kz] at g2;simp only[C6,ei] at ho;obtain⟨o1,o2⟩:=ho;rw[zmh (by omega)] at o1
   have UX:=UK (show nodes c.1<=4000 by omega)
   rw[o1] at UX;simp only[aF] at UX;have RM:vv c.1=lR c.1:=by
    rw[UX]
    by_cases hx:1001<(lR c.1:Int)
    ·rw[if_pos hx] at UX;omega
    ·rw[if_neg hx]
   have G5:gd (fz c)=true/\(lR (fz c):Int)=vv c.1+vv c.2.2:=by
    cases hb:c.2.1 with
    | false =>
     rw[hb] at o2;simp only[nD] at o2;have:fz c=c.1:=by simp[fz,hb]
     have hz:vv c.2.2=0:=by rw[UK (by omega),zmi o2];rfl
     rw[this,hz,RM];exact⟨o1,by omega⟩
    | true =>
     rw[hb] at o2;simp only[mh] at o2;rw[zmh (by omega)] at o2
     have:fz c=.mk 5 0 0 0 0 0 [] 0 0 false [c.1,c.2.2]:=by simp[fz,hb]
     have UY:=UK (show nodes c.2.2<=4000 by omega)
     rw[o2] at UY;simp only[aF] at UY;have ZM:vv c.2.2=lR c.2.2:=by
      rw[UY]
      by_cases hx:1001<(lR c.2.2:Int)
      ·rw[if_pos hx] at UY;omega
      ·rw[if_neg hx]
     have e1:lM (.mk 5 0 0 0 0 0 [] 0 0 false [c.1,c.2.2])=true:=rfl;have e2:gh (.mk 5 0 0 0 0 0 [] 0 0 false [c.1,c.2.2])=true:=rfl;rw[this,RM,ZM];refine⟨by simp only[gd,e1,e2,Ko,o1,o2,Bool.and_self],?_⟩
     simp only[lR,iT,show((5:Int) == 2)=false from rfl,f_,bz];omega
   refine⟨?_,by omega,λe he=>?_⟩
   ·rw[g1,Kz];simp only[a_,mQ]
    push_cast
    omega
   ·simp only[a_,dN] at he;rcases he with rfl|he
    ·exact G5.1
    ·exact g3 e he
mutual
theorem BV:∀e:E,wE e+2<=5 * nodes e
 | .mk _ _ _ _ _ _ _ _ _ _ args=>by
  have:=uW args;simp only[wE,nodes];omega
theorem uW:∀l:List E,Ew l<=5 * eY l
 | []=>by simp[Ew,eY]
 | a::l=>by
  have:=BV a;have:=uW l;simp only[Ew,eY];omega
end
theorem zhz(nl:Bool)(l:List Cr)(h:Jf l):∃u H',zk prog Ky 30001 14 [zZ nl l] ⟨[],[]⟩=some (.ret u,H')/\nh H' u (bV l):=by
 have hm:Ky.hk 54 [zZ nl l]=some (UW l):=zoc h;have g0:Ky.g 0 0=some ZK:=by kernel_rfl
 have g1:Ky.g 1 0=some ZL:=by kernel_rfl
 obtain⟨p,ok,AE⟩:∃p ok,yP l=(p,ok):=⟨_,_,rfl⟩;rw[UW,AE] at hm;simp only at hm
 by_cases iP:ok=false\/1000<p
 ·refine⟨_,_,zkz GWb (n:=30000) (by omega) hm g0 g1 rfl rfl ⟨_,_,rfl⟩ ⟨_,_,rfl⟩ iP,?_⟩
  have:bV l=.br [.agg zF,if ok then ZL else ZK]:=by
   rw[bV,bA,bE,AE];cases ok with
   | false=>rfl
   | true =>
    have:1000<p:=by rcases iP with h|h;cases h;exact h
    simp only[mh,if_pos this,aF]
  rw[this];exact .same (by cases ok<;>rfl)
 ·have eE:ok=true:=by cases ok with
   | false=>exact absurd (.inl rfl) iP
   | true=>rfl
  subst eE;have hp:p<=1000:=by
   rcases Int.lt_or_le 1000 p with h|h
   ·exact absurd (.inr h) iP
   ·exact h
  have hlen:l.length<=200/\nB 0 l=(p,true):=by
   unfold yP at AE;cases hx:c_ 200 (l.length:Int) with
   | true=>rw[hx] at AE;simp at AE
   | false =>
    rw[hx] at AE;simp only[nD] at AE;refine⟨?_,AE⟩;rcases eI 200 l.length with hh|hh
    ·rw[J9 (by omega)] at hx;cases hx
    ·exact hh
  have Gn:∀c∈l,nodes c.1<=1800/\nodes c.2.2<=1800:=by
   rcases h.nod with hh|hh
   ·omega
   ·exact hh
  obtain⟨m1,_,m3⟩:=C' l 0 Gn (by omega) (by omega) (by rw[hlen.2]) (by rw[hlen.2];exact hp)
  rw[hlen.2] at m1;simp only[Int.zero_add] at m1;obtain⟨k,rfl⟩:∃k:Nat,p=k:=⟨mQ (l.map fz),m1⟩;have hkn:k=mQ (l.map fz):=by omega
  obtain⟨r1,r2,r3⟩:=Y8 (n:=k) (l.map fz) 0 m0 m3 ⟨rfl,rfl⟩ (by simp[m0];omega) (by rw[gk];omega) (λx hx=>by simp[m0] at hx)
  have Ac:∀c∈l,nodes (fz c)<=3601:=λc hc=>by
   obtain⟨a1,a2⟩:=Gn c hc;unfold fz;split
   ·simp only[nodes,eY];omega
   ·omega
  obtain⟨H',N,hc,hN⟩:=zkB GWb (n:=30000) (k:=k) hm (by omega) hlen.1 (by rw[r1];simp[m0];omega) (zjv r2) (λc hc=>by have:=BV (fz c);have:=Ac c hc;omega) (by omega)
  refine⟨_,H',hc,?_⟩;have hbv:bV l=.br [UJ (Jg l),.bT]:=by
   rw[bV,bA,bE,AE];simp only[mh,if_neg (show ¬(1000<(k:Int)) by omega)]
   rfl
  have pE:Jg l=⟨(qt k 0 (l.map fz) m0).2.cq,(qt k 0 (l.map fz) m0).2.rules,(qt k 0 (l.map fz) m0).1.map (·.map Int.ofNat),(qt k 0 (l.map fz) m0).2.next.map λp=>(jg p 19).map Int.ofNat⟩:=by
   rw[Jg,AE];simp only[y_]
  rw[hbv,pE];generalize hR:qt k 0 (l.map fz) m0=R at *;obtain⟨FT,MT⟩:=R;simp only at hN r2 ⊢;have Gb:=zjv r2;have e1:aW (zm 4 50 MT.lQ)=UI MT.cq:=RL;have e2:aW (zm 1 3 MT.gq)=nv MT.rules:=RL;have e3:aW (zm 1 27 (FT.map jH))=Ho (FT.map (·.map Int.ofNat)):=by
   rw[RL,Ho,List.map_map]
   congr 1
   exact List.map_congr_left λa _=>zjD a
  rw[e1,e2,e3];have bZ:∀p∈MT.next,nv ((jg p 19).map Int.ofNat)=.sl 1 ((jg p 19).map F9) .no:=λp hp=>by
   have b_:=Gb p hp;rw[<- zjD];unfold jH;cases hx:jg p 19 with
   | nil=>exact absurd hx b_
   | cons a b=>rfl
  have e4:nh H' (aW (zm 1 27 N)) (Ho (MT.next.map λp=>(jg p 19).map Int.ofNat)):=by
   rw[RL,Ho,List.map_map];cases hx:MT.next with
   | nil =>
    have:N=[]:=HM (by rw[hN.1,hx];rfl)
    rw[this];exact .same rfl
   | cons a b =>
    have hNn:N≠[]:=λe=>by have:=hN.1;rw[e,hx] at this;simp at this
    have uf:lv 1 true N=.sl 1 N .no:=by
     cases N with
     | nil=>exact absurd rfl hNn
     | cons x y=>rfl
    rw[uf,<- hx];have Dq:lv 1 true (MT.next.map ((nv ∘ λp=>(jg p 19).map Int.ofNat)))=.sl 1 (MT.next.map ((nv ∘ λp=>(jg p 19).map Int.ofNat))) .no:=by rw[hx];rfl
    rw[Dq];refine .sl (by rw[gk,hN.1]) (λj x hj=>?_) (λj y hj=>?_) (λj x y hj hy=>?_)
    ·have A1:j<MT.next.length:=by rw[<- hN.1];exact(cP.1 hj).1
     obtain⟨bb,f1,f2⟩:=hN.2 j _ (fQ A1);rw[hj] at f1;cases f1;exact⟨rfl,rfl⟩
    ·rw[gj] at hj;obtain⟨q,hq,rfl⟩:=mA.1 hj;simp only[Function.comp_apply,bZ q (m8 hq)];exact⟨rfl,rfl⟩
    ·rw[gj] at hy;obtain⟨q,hq,rfl⟩:=mA.1 hy;obtain⟨bb,f1,f2⟩:=hN.2 j q hq;rw[hj] at f1;cases f1;simp only[Function.comp_apply,bZ q (m8 hq)];have hf:=nh.sr (H:=H') (b:=bb) (off:=0) (len:=(jg q 19).length) (cap:=(jg q 19).length) (cs:=(jg q 19).map F9) (t:=3) (by rw[<- zg];exact f2) (ww (λ_=>rfl) _) (by simp)
     rwa [iW,rM (by simp)] at hf
  refine .br rfl λj x y hx hy=>?_
  match j,hx,hy with
  | 0,hx,hy =>
   cases hx;cases hy;refine .agg rfl (λi y hy=>?_) λi x y hx hy=>?_
   ·have:∀sz nl (l:aC),(lv sz nl l).one=true:=λsz nl l=>by
     rcases cJ sz nl l with h|⟨_,h⟩<;>rw[h]<;>rfl
    match i,hy with
    | 0,hy=>cases hy;exact this ..
    | 1,hy=>cases hy;exact this ..
    | 2,hy=>cases hy;exact this ..
    | 3,hy=>cases hy;exact this ..
    | i+4,hy=>simp[Ri] at hy
   ·match i,hx,hy with
    | 0,hx,hy=>cases hx;cases hy;exact .same (zn4 _)
    | 1,hx,hy=>cases hx;cases hy;exact .same (zmg _)
    | 2,hx,hy=>cases hx;cases hy;exact .same (zn3 _)
    | 3,hx,hy=>cases hx;cases hy;exact e4
    | i+4,hx,hy=>simp at hx
  | 1,hx,hy=>cases hx;cases hy;exact .same rfl
  | j+2,hx,hy=>simp at hx
end
section
open Go.RowKit Go.ChangeAt Go.WideShapes
set_option maxRecDepth 1000000
def tL:Nat×aC:=(5,[.ec 275 (.agg [.eN 19 37])])
def glx:Nat->Nat->bY:=L9 396 ks [(4,BB),tL]
theorem uM{g:Gh}{n:Nat}{a b:V}{bp:dF}(h:dI g n [a,b] bp):∃x y,bp=#[x,y]/\aR g a x/\aR g b y:=by
 obtain⟨l⟩:=bp;have:=h.len
 match l,this with
 | [x,y],_=>exact⟨x,y,rfl,h.rel 0 a x rfl rfl,h.rel 1 b y rfl rfl⟩
end
end Go.Proofs.YthohlnmcjkjeiaaGreatDoor
