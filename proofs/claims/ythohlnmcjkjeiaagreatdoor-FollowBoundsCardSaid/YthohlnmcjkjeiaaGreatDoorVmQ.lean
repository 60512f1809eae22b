/- Seat 8: Build, known: expressions told apart by their values. Conditions: none but those named. -/
import Derived.Test.YthohlnmcjkjeiaaGreatDoorVmJ
import Derived.Test.YthohlnmcjkjeiaaGreatDoorVmM
import Derived.Test.YthohlnmcjkjeiaaGreatDoorVmP
set_option linter.defProp false
namespace Go.Proofs.YthohlnmcjkjeiaaGreatDoor
open Go Go.Vm
open Go.Proofs.Tryz
set_option maxRecDepth 100000
section
open Go.Vm.Sx
mutual
def Can:E->Prop
 | .mk _ _ _ _ _ _ _ _ _ nl args=>(nl=true->args=[])/\Ht args
def Ht:List E->Prop
 | []=>True
 | e::l=>Can e/\Ht l
end
def zpB{nl AP:Bool}{a b:aA}(h1:nl=true->a=[])(h2:AP=true->b=[])(h:yH nl a=yH AP b):a=b/\nl=AP:=by
 unfold yH at h;cases nl with
 | true =>
  have:=h1 rfl;subst this;cases AP with
  | true=>exact⟨(h2 rfl).symm,rfl⟩
  | false=>simp at h
 | false =>
  cases AP with
  | true =>
   have:=h2 rfl;subst this;simp at h
  | false =>
   simp only[fm,dF,bZ] at h;injection h with _ h;exact⟨h,rfl⟩
mutual
def A5:∀(e e':E),Can e->Can e'->enc e=enc e'->e=e'
 | .mk op pl s0 s1 s2 s3 tx mn mx nl args,.mk Cv Is Iu Iv Iw Iy tx' Iz IA AP lI,h,h',he=>by
  simp only[enc] at he;injection he with he;simp only[List.cons.injEq,V.int.injEq,V.str.injEq,cg,Bt] at he;obtain⟨e1,e2,e3,e4,e5,e6,e7,e8,e9,ID⟩:=he;obtain⟨f1,f2⟩:=zpB (λhn=>by rw[h.1 hn];rfl) (λhn=>by rw[h'.1 hn];rfl) ID
  have:=Cc args lI h.2 h'.2 f1;subst e1 e2 e3 e4 e5 e6 e7 e8 e9 f2 this;rfl
def Cc:∀(l l':List E),Ht l->Ht l'->fy l=fy l'->l=l'
 | [],[],_,_,_=>rfl
 | [],_::_,_,_,h=>by simp[fy] at h
 | _::_,[],_,_,h=>by simp[fy] at h
 | a::l,b::l',h,h',he=>by
  simp only[fy,List.cons.injEq] at he;rw[A5 a b h.1 h'.1 he.1,Cc l l' h.2 h'.2 he.2]
end
def Tv(c:Cr):Prop:=Can c.1/\Can c.2.2
def zq3{c c':Cr}(h:Tv c)(h':Tv c')(he:Bn c=Bn c'):c=c':=by
 obtain⟨a,t,b⟩:=c;obtain⟨a',t',b'⟩:=c';simp only[Bn,q_,V.agg.injEq,b_] at he;have hl:(bQ a).length=(bQ a').length:=by rw[jS,jS]
 obtain⟨e1,e2⟩:=List.append_inj he hl;simp only[cF,cq,List.cons.injEq,V.bool.injEq] at e2;have h1:=A5 a a' h.1 h'.1 (by rw[wv,wv,e1])
 have h2:=A5 b b' h.2 h'.2 (by rw[wv,wv,e2.2])
 subst h1 h2;rw[e2.1]
def znv{nl AP:Bool}:∀{l l':List Cr},(∀c∈l,Tv c)->(∀c∈l',Tv c)->jk nl l=jk AP l'->l=l':=by
 intro l l' h h' he;have hm:l.map Bn=l'.map Bn:=by
  have e1:=vk nl l;have e2:=vk AP l';rw[<- e1,he,e2]
 clear he
 induction l generalizing l' with
 | nil=>cases l' with
  | nil=>rfl
  | cons a l'=>simp at hm
 | cons a l ih=>cases l' with
  | nil=>simp at hm
  | cons b l' =>
   simp only[bW,List.cons.injEq] at hm;rw[zq3 (h a (eS ..)) (h' b (eS ..)) hm.1,ih (λc hc=>h c (dB _ hc)) (λc hc=>h' c (dB _ hc)) hm.2]
structure Bq(l:List Cr):Prop where
 len:l.length<=maxLen
 wf:∀c∈l,WfC c
 can:∀c∈l,Tv c
 nod:200<l.length\/∀c∈l,nodes c.1<=1800/\nodes c.2.2<=1800
open Classical in
noncomputable def NN(F:List Cr->V)(args:aA):cP :=
 if h:∃p:Bool×List Cr,Bq p.2/\args=[jk p.1 p.2] then some (F (Classical.choose h).2) else none
def zmf{F:List Cr->V}{nl:Bool}{l:List Cr}(h:Bq l):NN F [jk nl l]=some (F l):=by
 unfold NN;have hex:∃p:Bool×List Cr,Bq p.2/\[jk nl l]=[jk p.1 p.2]:=⟨(nl,l),h,rfl⟩;rw[dif_pos hex];have hs:=Classical.choose_spec hex;have e:=List.cons.inj hs.2;rw[znv hs.1.can h.can e.1.symm]
def zhc{F:List Cr->V}{args:aA}{v:V}(h:NN F args=some v):∃nl l,Bq l/\args=[jk nl l]/\v=F l:=by
 unfold NN at h;split at h
 next hex=>have hs:=Classical.choose_spec hex;exact⟨_,_,hs.1,hs.2,(ur h).symm⟩
 ·cases h
def PV{f:FuncId}{back:Bool}{ty:Nat}(_h:ty<1048576):gE (Ff f back ty)=false:=by
 have hk:∀n:Nat,n<1099511627776->Nat.beq (Ff f back ty) n=false:=λn hn=>by
  cases hb:Nat.beq (Ff f back ty) n with
  | false=>rfl
  | true =>
   have:=gy hb;simp only[Ff] at this;omega
 simp only[gE,hk _ (show(115:Nat)<1099511627776 by decide),hk _ (show(157:Nat)<1099511627776 by decide),hk _ (show(117:Nat)<1099511627776 by decide),hk _ (show Km 205<1099511627776 by decide),fD]
def Ec:∀v∈AN,v.top=0:=by
 intro v hv;obtain⟨n,_,rfl⟩:=ni.1 hv;rfl
def Ed:∀g off v,Bp g off=some v->v.top=0:=by
 intro g off v h';unfold Bp GR at h';split at h'
 next vs I7=>have:=Sl I7;simp only[uk,bS] at this;obtain⟨_,rfl⟩:=this;rw[zV] at h';exact Ec v (nF h')
 ·unfold KC at h';split at h'<;>simp only[aR,reduceCtorEq] at h';subst h';rfl
def uR:Gl:={ g:=Bp,hk:=λ_ _=>none }
instance : mw uR:=⟨λ_=>rfl,λ_ _ _ _=>rfl⟩
def GL0:GL uR:=⟨Ed,λ_ _ _=>rfl⟩
def IC:sG prog uR:=⟨λf args v h=>(by cases h),λn f args H out H' h=>(by cases h),λ_ _ _ _ h=>(by cases h)⟩
def W6(l:List Cr):V:=.bz [.int .i64 (ym l).1,.bool (ym l).2]
noncomputable def Ly:Gl:={ g:=Bp,uq:=gE,hk:=λf args=>if Nat.beq f 54 then NN W6 args else none }
def hkb:sG prog Ly:=by
 refine⟨λf args v h d H g w bx lc h1 h2 h3=>?_,λn f args H out H' h=>(by cases h),λ_ _ _ Aq h=>(by rw[show Ly.uq=gE from rfl,PV Aq] at h;cases h)⟩
 simp only[Ly] at h;split at h
 next hf=>obtain rfl:f=54:=gy hf;obtain⟨nl,l,hg,rfl,rfl⟩:=zhc h;obtain⟨k,hk⟩:=Sx.Ev.run (xs:=[jk nl l]) (ztj GL0 nl l hg.len hg.wf) ⟨[],[]⟩;exact Q5 mixed nZ lM IC (hk k (ek _)) (by simp[aI,Tk]) rfl h1 h2 h3
 ·cases h
def GWb:GW Ly where
 uq:=rfl
 iA:=λ_ _ _ _=>rfl
 tab:=λo ho=>by
  show GR 396 ks [(4,AN)] 4 o=nth AN o;rfl
 hk:=λf args h=>by
  show(if Nat.beq f 54 then NN W6 args else none)=none
  rw[if_neg];intro hf;have:=gy hf;subst this;revert h;decide
end
section
open Go.Vm.Sx
def kD(l:List Cr):Fo :=
 ⟨(q5 (ym l).1.toNat 0 (l.map dX) m0).2.bw,(q5 (ym l).1.toNat 0 (l.map dX) m0).2.rules,(q5 (ym l).1.toNat 0 (l.map dX) m0).1.map (·.map Int.ofNat),(q5 (ym l).1.toNat 0 (l.map dX) m0).2.next.map λp=>(jo p 19).map Int.ofNat⟩
def E5:V:=.fq 396 (.obj 0)
def E6:V:=.fq 396 (.obj 1)
def bA(l:List Cr):aA:=bif (ym l).2 then (if 1000<(ym l).1 then zF else Bo (kD l)) else zF
def bE(l:List Cr):V:=bif (ym l).2 then (if 1000<(ym l).1 then E6 else .cV) else E5
def bV(l:List Cr):V:=.bz [.agg (bA l),bE l]
def Tw{n:Nat}{e:aq}{xs:aA}:aT (qu n e xs)=lv n true xs:=by cases xs<;>rfl
def zmg(l:bR):kB l=nv (l.map Int.ofNat):=by
 unfold kB nv;rw[Tw,List.map_map];rfl
def A6:∀(l:List Cr)(p:Int),(∀c∈l,nodes c.1<=1800/\nodes c.2.2<=1800)->0<=p->p<=1001->(lV p l).2=true->(lV p l).1<=1000->(lV p l).1=p+(eG (l.map dX):Int)/\p<=1000/\∀e∈l.map dX,gd e=true
 | [],p,_,h0,h1,_,h2=>by
  simp only[lV] at h2 ⊢;exact⟨by simp[eG],h2,λe he=>by cases he⟩
 | c::l,p,h,h0,h1,dP,h2=>by
  obtain⟨n1,n2⟩:=h c (eS ..);simp only[lV] at dP h2 ⊢;cases ho:Ls c with
  | false=>rw[ho] at dP;cases dP
  | true =>
   rw[ho] at dP h2;simp only[uT] at dP h2 ⊢;have k1:=om c.1;have k2:=om c.2.2;have gp:∀e:E,nodes e<=4000->0<=wD e/\wD e<=1001:=λe he=>by
    rw[Tl he];split
    ·split<;>omega
    ·omega
   have Yf:=gp c.1 (by omega)
   have DA:=gp c.2.2 (by omega)
   have oD:AY p c=if 1001<p+wD c.1+wD c.2.2 then 1001 else p+wD c.1+wD c.2.2:=by
    unfold AY;rw[Ld (x:=p+wD c.1) (by omega) (by omega),Ld (by omega) (by omega)]
    by_cases h4:1001<p+wD c.1+wD c.2.2
    ·rw[ER h4,if_pos h4];rfl
    ·rw[Io (by omega),if_neg h4];rfl
   have hb:0<=AY p c/\AY p c<=1001:=by rw[oD];split<;>omega
   obtain⟨g1,g2,g3⟩:=A6 l (AY p c) (λc hc=>h c (dB _ hc)) hb.1 hb.2 dP h2;have h4:¬(1001<p+wD c.1+wD c.2.2):=λh4=>by rw[oD,if_pos h4] at g2;omega
   have Lz:AY p c=p+wD c.1+wD c.2.2:=by rw[oD,if_neg h4]
   rw[Lz] at g2;simp only[Ls,cR] at ho;obtain⟨o1,o2⟩:=ho;rw[zpq (by omega)] at o1
   have W7:=Tl (show nodes c.1<=4000 by omega)
   rw[o1] at W7;simp only[aU] at W7;have Tx:wD c.1=ey c.1:=by
    rw[W7]
    by_cases hx:1001<(ey c.1:Int)
    ·rw[if_pos hx] at W7;omega
    ·rw[if_neg hx]
   have HZ:gd (dX c)=true/\(ey (dX c):Int)=wD c.1+wD c.2.2:=by
    cases hb:c.2.1 with
    | false =>
     rw[hb] at o2;simp only[cond_false] at o2;have:dX c=c.1:=by simp[dX,hb]
     have hz:wD c.2.2=0:=by rw[Tl (by omega),zpr o2];rfl
     rw[this,hz,Tx];exact⟨o1,by omega⟩
    | true =>
     rw[hb] at o2;simp only[uT] at o2;rw[zpq (by omega)] at o2
     have:dX c=.mk 5 0 0 0 0 0 [] 0 0 false [c.1,c.2.2]:=by simp[dX,hb]
     have W8:=Tl (show nodes c.2.2<=4000 by omega)
     rw[o2] at W8;simp only[aU] at W8;have acr:wD c.2.2=ey c.2.2:=by
      rw[W8]
      by_cases hx:1001<(ey c.2.2:Int)
      ·rw[if_pos hx] at W8;omega
      ·rw[if_neg hx]
     have e1:sC (.mk 5 0 0 0 0 0 [] 0 0 false [c.1,c.2.2])=true:=rfl;have e2:n6 (.mk 5 0 0 0 0 0 [] 0 0 false [c.1,c.2.2])=true:=rfl;rw[this,Tx,acr];refine⟨by simp only[gd,e1,e2,Lu,o1,o2,fo],?_⟩
     simp only[ey,lf,show((5:Int) == 2)=false from rfl,dF,bZ];omega
   refine⟨?_,by omega,λe he=>?_⟩
   ·rw[g1,Lz];simp only[bW,eG]
    push_cast
    omega
   ·simp only[bW,dh] at he;rcases he with rfl|he
    ·exact HZ.1
    ·exact g3 e he
mutual
def Cd:∀e:E,wE e+2<=5 * nodes e
 | .mk _ _ _ _ _ _ _ _ _ _ args=>by
  have:=Ak args;simp only[wE,nodes];omega
def Ak:∀l:List E,E2 l<=5 * gK l
 | []=>by simp[E2,gK]
 | a::l=>by
  have:=Cd a;have:=Ak l;simp only[E2,gK];omega
end
def zke(nl:Bool)(l:List Cr)(h:Bq l):∃u H',qt prog Ly 30001 14 [jk nl l] ⟨[],[]⟩=some (.ret u,H')/\AB H' u (bV l):=by
 have hm:Ly.hk 54 [jk nl l]=some (W6 l):=zmf h;have g0:Ly.g 0 0=some E5:=by kernel_rfl
 have g1:Ly.g 1 0=some E6:=by kernel_rfl
 obtain⟨p,ok,A7⟩:∃p ok,ym l=(p,ok):=⟨_,_,rfl⟩;rw[W6,A7] at hm;simp only at hm
 by_cases BX:ok=false\/1000<p
 ·refine⟨_,_,znr GWb (n:=30000) (by omega) hm g0 g1 rfl rfl ⟨_,_,rfl⟩ ⟨_,_,rfl⟩ BX,?_⟩
  have:bV l=.bz [.agg zF,if ok then E6 else E5]:=by
   rw[bV,bA,bE,A7];cases ok with
   | false=>rfl
   | true =>
    have:1000<p:=by rcases BX with h|h;cases h;exact h
    simp only[uT,if_pos this,aU]
  rw[this];exact .same (by cases ok<;>rfl)
 ·have dP:ok=true:=by cases ok with
   | false=>exact absurd (.inl rfl) BX
   | true=>rfl
  subst dP;have hp:p<=1000:=by
   rcases Int.lt_or_le 1000 p with h|h
   ·exact absurd (.inr h) BX
   ·exact h
  have hlen:l.length<=200/\lV 0 l=(p,true):=by
   unfold ym at A7;cases hx:gx 200 (l.length:Int) with
   | true=>rw[hx] at A7;simp at A7
   | false =>
    rw[hx] at A7;simp only[cond_false] at A7;refine⟨?_,A7⟩;rcases lP 200 l.length with hh|hh
    ·rw[ER (by omega)] at hx;cases hx
    ·exact hh
  have Hu:∀c∈l,nodes c.1<=1800/\nodes c.2.2<=1800:=by
   rcases h.nod with hh|hh
   ·omega
   ·exact hh
  obtain⟨m1,_,m3⟩:=A6 l 0 Hu (by omega) (by omega) (by rw[hlen.2]) (by rw[hlen.2];exact hp)
  rw[hlen.2] at m1;simp only[Int.zero_add] at m1;obtain⟨k,rfl⟩:∃k:Nat,p=k:=⟨eG (l.map dX),m1⟩;have hkn:k=eG (l.map dX):=by omega
  obtain⟨r1,r2,r3⟩:=WT (n:=k) (l.map dX) 0 m0 m3 ⟨rfl,rfl⟩ (by simp[m0];omega) (by rw[eF];omega) (λx hx=>by simp[m0] at hx)
  have YP:∀c∈l,nodes (dX c)<=3601:=λc hc=>by
   obtain⟨a1,a2⟩:=Hu c hc;unfold dX;split
   ·simp only[nodes,gK];omega
   ·omega
  obtain⟨H',N,hc,hN⟩:=zns GWb (n:=30000) (k:=k) hm (by omega) hlen.1 (by rw[r1];simp[m0];omega) (zme r2) (λc hc=>by have:=Cd (dX c);have:=YP c hc;omega) (by omega)
  refine⟨_,H',hc,?_⟩;have hbv:bV l=.bz [uh (kD l),.cV]:=by
   rw[bV,bA,bE,A7];simp only[uT,if_neg (show ¬(1000<(k:Int)) by omega)]
   rfl
  have hfo:kD l=⟨(q5 k 0 (l.map dX) m0).2.bw,(q5 k 0 (l.map dX) m0).2.rules,(q5 k 0 (l.map dX) m0).1.map (·.map Int.ofNat),(q5 k 0 (l.map dX) m0).2.next.map λp=>(jo p 19).map Int.ofNat⟩:=by
   rw[kD,A7];simp only[l9]
  rw[hbv,hfo];generalize hR:q5 k 0 (l.map dX) m0=R at *;obtain⟨FT,MT⟩:=R;simp only at hN r2 ⊢;have Ho:=zme r2;have e1:aT (qu 4 50 MT.lN)=lJ MT.bw:=Tw;have e2:aT (qu 1 3 MT.gU)=nv MT.rules:=Tw;have e3:aT (qu 1 27 (FT.map kB))=sP (FT.map (·.map Int.ofNat)):=by
   rw[Tw,sP,List.map_map]
   congr 1
   exact List.map_congr_left λa _=>zmg a
  rw[e1,e2,e3];have eN:∀p∈MT.next,nv ((jo p 19).map Int.ofNat)=.sl 1 ((jo p 19).map Hj) .no:=λp hp=>by
   have cG:=Ho p hp;rw[<- zmg];unfold kB;cases hx:jo p 19 with
   | nil=>exact absurd hx cG
   | cons a b=>rfl
  have e4:AB H' (aT (qu 1 27 N)) (sP (MT.next.map λp=>(jo p 19).map Int.ofNat)):=by
   rw[Tw,sP,List.map_map];cases hx:MT.next with
   | nil =>
    have:N=[]:=Kh (by rw[hN.1,hx];rfl)
    rw[this];exact .same rfl
   | cons a b =>
    have hNn:N≠[]:=λe=>by have:=hN.1;rw[e,hx] at this;simp at this
    have Cm:lv 1 true N=.sl 1 N .no:=by
     cases N with
     | nil=>exact absurd rfl hNn
     | cons x y=>rfl
    rw[Cm,<- hx];have Bz:lv 1 true (MT.next.map ((nv ∘ λp=>(jo p 19).map Int.ofNat)))=.sl 1 (MT.next.map ((nv ∘ λp=>(jo p 19).map Int.ofNat))) .no:=by rw[hx];rfl
    rw[Bz];refine .sl (by rw[eF,hN.1]) (λj x hj=>?_) (λj y hj=>?_) (λj x y hj hy=>?_)
    ·have Ah:j<MT.next.length:=by rw[<- hN.1];exact(eE.1 hj).1
     obtain⟨bb,f1,f2⟩:=hN.2 j _ (mq Ah);rw[hj] at f1;cases f1;exact⟨rfl,rfl⟩
    ·rw[mS] at hj;obtain⟨q,hq,rfl⟩:=l8.1 hj;simp only[Function.comp_apply,eN q (nF hq)];exact⟨rfl,rfl⟩
    ·rw[mS] at hy;obtain⟨q,hq,rfl⟩:=l8.1 hy;obtain⟨bb,f1,f2⟩:=hN.2 j q hq;rw[hj] at f1;cases f1;simp only[Function.comp_apply,eN q (nF hq)];have hf:=AB.sr (H:=H') (b:=bb) (off:=0) (len:=(jo q 19).length) (cap:=(jo q 19).length) (cs:=(jo q 19).map Hj) (t:=3) (by rw[<- zV];exact f2) (wP (λ_=>rfl) _) (by simp)
     rwa [IJ,En (by simp)] at hf
  refine .bz rfl λj x y hx hy=>?_
  match j,hx,hy with
  | 0,hx,hy =>
   cases hx;cases hy;refine .agg rfl (λi y hy=>?_) λi x y hx hy=>?_
   ·have:∀sz nl (l:aA),(lv sz nl l).one=true:=λsz nl l=>by
     rcases Pf sz nl l with h|⟨_,h⟩<;>rw[h]<;>rfl
    match i,hy with
    | 0,hy=>cases hy;exact this ..
    | 1,hy=>cases hy;exact this ..
    | 2,hy=>cases hy;exact this ..
    | 3,hy=>cases hy;exact this ..
    | i+4,hy=>simp[Bo] at hy
   ·match i,hx,hy with
    | 0,hx,hy=>cases hx;cases hy;exact .same (zmd _)
    | 1,hx,hy=>cases hx;cases hy;exact .same (WO _)
    | 2,hx,hy=>cases hx;cases hy;exact .same (zim _)
    | 3,hx,hy=>cases hx;cases hy;exact e4
    | i+4,hx,hy=>simp at hx
  | 1,hx,hy=>cases hx;cases hy;exact .same rfl
  | j+2,hx,hy=>simp at hx
noncomputable def PW:Gl:={ g:=Bp,hk:=λf args=>if Nat.beq f 20 then (match args with|[]=>some (.bool true)|_=>none) else if Nat.beq f 14 then NN bV args else none }
def ok1:xO prog Bp tR:=xj mixed nZ lM zgI (znt 0) rfl rfl (hit:=λ_ _ _ Aq h=>by rw[PV Aq] at h;cases h)
def ok2:xO prog Bp (Dj++tR):=xj mixed nZ lM ok1 (zpA 0) rfl rfl (hit:=λ_ _ _ Aq h=>by rw[PV Aq] at h;cases h)
def ok3:xO prog Bp ((20,[],.bool true)::(Dj++tR)):=xj mixed nZ lM ok2 (znu 0) rfl rfl (hit:=λ_ _ _ Aq h=>by rw[PV Aq] at h;cases h)
def HW:sG prog PW:=by
 refine⟨λf args v h d H g w bx lc h1 h2 h3=>?_,λn f args H out H' h=>(by cases h),λ_ _ _ _ h=>(by cases h)⟩
 simp only[PW] at h;split at h
 ·rename_i hf;obtain rfl:f=20:=gy hf;split at h
  ·cases h;exact ok3.pure 20 [] (.bool true) rfl d H g w bx lc h1 h2 h3
  ·cases h
 ·split at h
  next hf=>obtain rfl:f=14:=gy hf;obtain⟨nl,l,hg,rfl,rfl⟩:=zhc h;obtain⟨u,H',hc,hz⟩:=zke nl l hg;exact zrI mixed nZ lM hkb hc (by simp[aI,Tk]) hz (λsz xs e=>by simp[bV]) h1 h2 h3
  ·cases h
instance : mw PW:=⟨λ_=>rfl,λ_ _ _ _=>rfl⟩
def GL1:GL PW where
 top:=Ed
 no:=λf hf args=>by
  simp only[List.any_cons,List.any_nil,fD,LJ] at hf;simp only[PW,hf.1,hf.2.2.1,dF,bZ]
def zsj(l:List Cr):(bV l).top=0:=by
 have hz:aI zF=0:=rfl;have hA:aI (bA l)=0:=by
  unfold bA;cases (ym l).2 with
  | false=>exact hz
  | true =>
   simp only[uT];split
   ·exact hz
   ·exact zpp _
 have hE:(bE l).top=0:=by
  unfold bE;cases (ym l).2 with
  | false=>rfl
  | true=>simp only[uT];split<;>rfl
 simp[bV,V.top,aI,hA,hE]
end
section
open Go.Vm.Sx
variable{gl:Gl}[mw gl]
def Dk:yR prog f53.params.toList=some []:=by kernel_rfl
def Hv:yR prog f68.params.toList=some []:=by kernel_rfl
def zsV{x:V}:vG prog [27] [.d x] 0:=by
 refine⟨λe=>?_,trivial⟩;rw[underlying27];simp
def zsW{x:V}:vG prog [28] [.d x] 0:=by
 refine⟨λe=>?_,trivial⟩;rw[underlying28];simp
def tS(sz:Nat)(e:aq)(l:aA):Ih .aJ sz e l=acc sz e l:=by cases l<;>rfl
def Ty(ez:GL gl)(l:List Int)(hl:l.length<=4000):Ev prog gl 53 [.d (nv l)] [] (acc 1 3 (l.map (.int .i64))) []:=by
 refine kR (xs:=[nv l]) ez.top (ez.no 53 rfl) rV func53 Dk zsV (by simp[aI,WO]) (N:=1) ?_
 have h1:kr l.length 8=true:=Sx.eP (by omega) (by omega)
 simp only[tN]
 simp only[qC,qV,qD,qX,jG,jH,qo,qy,bt,cj,qk,bB,qq,jp,WM,zsT,h1,tS,eF]
def ztk(ez:GL gl)(l:List (List Int))(hl:l.length<=4000)(hw:∀x∈l,x.length<=4000):Ev prog gl 68 [.d (sP l)] [] (acc 1 27 (l.map nv)) []:=by
 refine kR (xs:=[sP l]) ez.top (ez.no 68 rfl) Ae func68 Hv zsW (by simp[aI,zim]) (N:=l.length+1) ?_
 simp only[AO];simp only[qX,qB,jG,bL,qk,bB,zpn]
 refine Sh (st:=λi=>[acc 1 27 ((l.take i).map nv),.int .i64 (i:Int)]) (m:=l.length) (λi hi=>?_) ?_ (by omega)
 ·obtain⟨q,hq⟩:∃q,l[i]?=some q:=⟨l[i],by simp[hi]⟩
  have hc:=ke (Ty ez q (hw q (nF hq)));have h1:=K6 hi;have h2:=zk3 (h:=nv) hq;have h4:=Ph (i:=i) (by omega)
  have h5:kr (((l.take i).map nv)++[nv q]).length 24=true:=Sx.eP (by simp;omega) (by simp;omega)
  have h6:(l.take (i+1)).map nv=(l.take i).map nv++[nv q]:=by
   rw[List.take_add_one,hq];simp
  have h7:aT (acc 1 3 (q.map (.int .i64)))=nv q:=zh6 ..;have h8:gx (i:Int) 0=false:=jb;have h9:fh (.sl 1) (nv q)=true:=WM q;rw[h6,<- zfP];simp only[tP]
  simp only[jM,qC,qV,qD,qE,qX,qF,jG,jH,aX,fo,jd,je,qo,qy,bt,bL,cj,qk,bB,qq,jq,fF,qK,jp,qT,qN,fK,aV,aP,WN,h1,h2,h4,h5,h7,h8,h9,hc,Si,Lt,Sk,Sj,eF,l9]
 ·have h1:=K7 (ek l.length);have h2:(l.take l.length).map nv=l.map nv:=by rw[List.take_length]
  simp only[tP];simp only[jN,qV,aZ,qD,jG,jH,qo,qy,bt,bL,cj,qk,bB,qq,jp,qT,qN,WN,h1,h2,eF]
end
section
open Go.Vm.Sx
def u30:prog.underlying 28=some (.slice 27):=by kernel_rfl
def u29:prog.underlying 27=some (.slice 3):=by kernel_rfl
def u28:prog.underlying 26=some (.slice 50):=by kernel_rfl
def Tz:ka prog 3=some false:=by kernel_rfl
def acu:jh prog 3=some 1:=by kernel_rfl
def zk6{H:Hp}{t e:aq}{sz:Nat}{nl:Bool}{l:aA}(hu:prog.underlying t=some (.slice e)):kU prog H t (lv sz nl l)=some (l.length:Int):=by
 rcases Pf sz nl l with h|⟨h0,h⟩<;>rw[h]
 ·simp[kU,hu]
 ·simp[kU,hu,h0]
def zq5{l:aA}{k:Nat}{v:V}(h:nth l k=some v)(hv:v.cells=[v]):q7 prog 28 (.sl 1 l .no) (k:Int)=some (.vp [v]):=by
 have hk:¬((k:Int)<0):=by omega
 simp[q7,Nu,hk,h,hv]
def zq6{l:List Int}{k:Nat}{x:Int}(h:l[k]?=some x):q7 prog 27 (nv l) (k:Int)=some (.vp [.int .i64 x]):=by
 have hk:¬((k:Int)<0):=by omega
 have hn:nth (l.map (V.int .i64)) k=some (.int .i64 x):=zk3 h;have cG:nv l=.sl 1 (l.map (.int .i64)) .no:=by
  cases l with
  | nil=>simp at h
  | cons a l=>rfl
 rw[cG];simp[q7,acu,hk,hn,V.cells]
def zpD{H:Hp}{g:Nat->Nat->cP}{t:aq}{v:V}(ha:ka prog t=some false):qJ prog H g t (.vp [v])=some v:=by
 simp[qJ,wX,ha,nth,OI]
def zpE(l:List Int):(nv l).cells=[nv l]:=by cases l<;>rfl
def zq7(F:Fo):(Bo F).map aT=Bo F:=by simp[Bo,PO,Lt,v6]
def AM{cx:Cx}{takes:bP}{o:Oper}{env:aA}{v:V}{c:eT}{s:St}(h:cx.op takes o env c.H c.lk c.df=some (.val v,s)):cx.gj takes o env v c=true:=by
 simp only[Cx.gj,Cx.dO,h,V.dj]
def zpF{α:Type}{f:α->Bool}{q:α}(h:f q=true):kH f [q]=true:=by simp only[kH,h]
def znw{b x:Bool}(h:x=true):(match b with|true=>x|false=>true)=true:=by cases b<;>simp[h]
def zq8{cx:Cx}{n:Nat}{Q:Ex->St->Prop}{all:Array Oper}{takes:bP}{os:List Oper}{k:List It}{env:aA}{H:Hp}{lk:bk}{df:bH}{dst:fQ}{op:Op}{type:aq}{pos:String}{after:Array Edge}{g:Nat×Bool}(hw:q8 all ⟨dst,op,type,pos,after,some g⟩ env=some true) :
  go cx n Q (.on all takes (⟨dst,op,type,pos,after,some g⟩::os)::k) .normal ⟨env,H,lk,df⟩ ↔ (qj cx ⟨dst,op,type,pos,after,some g⟩ env lk=true/\Ig dst (λs=>go cx n Q (.on all takes os::k) .normal s) (λ_ _=>False) (cx.op takes ⟨dst,op,type,pos,after,some g⟩ env H lk df)):=by
 rw[JB,hw];rfl
structure W9(F:Fo):Prop where
 n:F.n.length=F.s.length
 r:F.r.length=F.s.length
 f:F.f≠[]
 ns:F.s.length<=1500
 nf:F.f.length<=1500
 row:∀x∈F.n++F.f,x.length<=4000/\∀y∈x,0<=y/\y<(F.s.length:Int)+(F.f.length:Int)
set_option maxHeartbeats 4000000 in
def zk7{F:Fo}(h:W9 F):∃n H',qt prog uR n 22 [uh F] ⟨[],[]⟩=some (.ret (.bool true),H'):=by
 have CH:=h.ns;have Il:=h.nf;obtain⟨k0,IC⟩:=Sx.Ev.run (xs:=[sP F.n]) (ztk GL0 F.n (by rw[h.n];omega) λx hx=>(h.row x (Ck _ hx)).1) ⟨[.cells (Bo F) 30],[]⟩
 obtain⟨n,hn,hnk⟩:∃n,20000<=n/\k0<=n:=⟨k0+20000,by omega,by omega⟩
 have J4:Cx.dZ ⟨prog,uR.g,qt prog uR n,uR.uq⟩ 68 [sP F.n] ⟨[.cells (Bo F) 30],[]⟩=some (.val (Sx.acc 1 27 (F.n.map nv)),⟨[.cells (Bo F) 30],[]⟩):=ji func68 rfl (IC n hnk)
 suffices d_:(go ⟨prog,uR,qt prog uR n,uR.uq⟩ n (Fx prog f22.results.toList λw H1=>w=.bool true) [.c (f22.body.getD .skip)] .normal ⟨[uh F]++List.replicate 67 (.bz []),⟨[],[]⟩,[],[]⟩) by
  obtain⟨w,H1,h0,h1⟩:=jZ (gl:=uR) (f:=22) (bs:=[]) (es:=[]) (args:=[uh F]) (n:=n) rfl (λH=>rfl) func22 rfl d_;rw[h1] at h0;exact⟨_,_,h0⟩
 obtain⟨H0,Hg⟩:∃H0:Hp,H0=⟨[.cells (Bo F) 30],[]⟩:=⟨_,rfl⟩;have KB:H0.get 0=some (.cells (Bo F) 30):=by rw[Hg];rfl
 have uF:qJ prog H0 uR.g 28 (.ptr 0 3)=some (sP F.n):=jy Hq KB rfl;have Bz:qJ prog H0 uR.g 28 (.ptr 0 2)=some (sP F.f):=jy Hq KB rfl;have Cm:qJ prog H0 uR.g 27 (.ptr 0 1)=some (nv F.r):=jy Dc KB rfl;have Oc:qJ prog H0 uR.g 26 (.ptr 0 0)=some (lJ F.s):=jy Dd KB rfl
 have Hw:∀l,kU prog H0 28 (sP l)=some (l.length:Int):=λl=>by rw[sP,zk6 u30,eF]
 have Ee:∀l,kU prog H0 27 (nv l)=some (l.length:Int):=λl=>by rw[nv,zk6 u29,eF]
 have Hx:∀l,kU prog H0 26 (lJ l)=some (l.length:Int):=λl=>by rw[lJ,zk6 u28,eF]
 simp only[f22,t_,zD,uh];refine qx ?_
 simp only[qi,ah,zD,qf,zq,zu,zj,aH,zy,zH,au,qb,bG,z9,List.length_nil,cF,cq,zR,dJ,dM,wn (show fH (.agg (Bo F))=true from rfl),V.laid,zq7,List.replicate]
 rw[<- Hg];refine qx ?_
 simp only[qi,zw,zI,zA,za,qc,aB,zk,au,qb,zg,zf,zS,bC,bG,ze,qa,cK,cL,zR,z6,dJ,dM,A4,A1,uF,Oc,v6,PO,Hw,Hx,UW,h.n,bne_self_eq_false]
 simp only[qi,ah,zD,aC,zI,zA,zZ,za,qc,aB,aH,zk,au,qb,zg,zf,zS,bC,bG,ze,qa,cg,cK,cL,zJ,zU,z8,zR,z6,dJ,dM,K9,wC,yZ,iq,Lb,A1,Dh,Oc,Cm,PO,Lt,Ee,Hx,UW,h.r,bne_self_eq_false]
 simp only[dF,false_and,false_or]
 rw[<- Hg] at J4;have cG:Sx.acc 1 27 (F.n.map nv)=qu 1 27 (F.n.map nv):=by cases F.n<;>rfl
 rw[cG] at J4;have Tr:sP F.f=.sl 1 (F.f.map nv) .no:=by
  have:=h.f;cases hx:F.f with
  | nil=>exact absurd hx this
  | cons a l=>rfl
 have LA:F.f.map nv≠[]:=λe=>h.f (List.map_eq_nil_iff.1 e);have lU:=vu NI (H:=H0) (xs:=F.n.map nv) (ys:=F.f.map nv) (o:=.no) LA (Sx.eP (by simp[h.n];omega) (by simp[h.n];omega))
 rw[<- Tr,<- List.map_append] at lU;have hR:qu 1 27 ((F.n++F.f).map nv)=.sl 1 ((F.n++F.f).map nv) (.yes 27):=by
  cases hx:(F.n++F.f) with
  | nil=>exact absurd (List.append_eq_nil_iff.1 hx).2 h.f
  | cons a l=>rfl
 rw[hR] at lU;refine zjH (tk:=[24]) (by kernel_rfl) ?_
 apply Exists.intro;apply And.intro
 refine yk (m:=0) (v:=.ptr 0 3) (by kernel_rfl) rfl (by simp only[za,aB,zk,zS,bC,ze,qa,cK,zR,z6,A4];rfl) (by kernel_rfl) (by kernel_rfl) (by kernel_rfl) ?_
 dsimp only[qb]
 refine VZ (m:=1) (v:=sP F.n) (by kernel_rfl) rfl (by simp only[zM,ne_eq,Nat.reduceEqDiff,cY,aB,zk,zS,bC,bG,zR,z6,dJ,dM,uF,v6];rfl) (by kernel_rfl) (by kernel_rfl) (by kernel_rfl) (by kernel_rfl) ?_
 dsimp only[qb]
 refine zdW (m:=3) (v:=qu 1 27 (F.n.map nv)) (cs':=[⟨4,H0,[],[]⟩,⟨0,H0,[],[]⟩]) (by kernel_rfl) rfl (by simp only[zW,aL,qd,aB,zi,qp,bW,cM,zR,z6,dJ,dM,J4,v6];rfl) (by kernel_rfl) (by kernel_rfl) (by kernel_rfl) (λK=>?_) ?_
 rotate_left
 dsimp only[qb]
 refine yk (m:=0) (v:=.ptr 0 2) (by kernel_rfl) rfl (by simp only[za,aB,zk,zS,bC,ze,qa,cK,zR,z6,dJ,dM,A3];rfl) (by kernel_rfl) (by kernel_rfl) (by kernel_rfl) ?_
 dsimp only[qb]
 refine VZ (m:=8) (v:=sP F.f) (by kernel_rfl) rfl (by simp only[zM,ne_eq,Nat.reduceEqDiff,cY,aB,zk,zS,bC,bG,zR,z6,dJ,dM,Bz,v6];rfl) (by kernel_rfl) (by kernel_rfl) (by kernel_rfl) ?_ ?_
 rotate_left
 dsimp only[qb]
 refine VZ (m:=31) (v:=.sl 1 ((F.n++F.f).map nv) (.yes 27)) (by kernel_rfl) rfl (by simp only[aB,zu,zG,bC,aU,zR,z6,dJ,dM,Fz,v6,lU,vC (cx:=⟨prog,uR.g,qt prog uR n,uR.uq⟩) (show sS prog uR.uq 28=false by kernel_rfl)];rfl) (by kernel_rfl) (by kernel_rfl) (by kernel_rfl) (by kernel_rfl) ?_
 dsimp only[qb]
 refine yk (m:=63) (v:=.sl 1 ((F.n++F.f).map nv) (.yes 27)) (by kernel_rfl) rfl (by simp only[zq,zu,zR,z6,dJ,dM];rfl) (by kernel_rfl) (by kernel_rfl) (by kernel_rfl) zjI
 ·clear IC lU J4 cG Tr LA hR;have eN:=h.row;have hRl:(F.n++F.f).length<=3000:=by rw[bY,h.n];omega
  generalize F.n++F.f=R at *;have acw:kU prog H0 28 (.sl 1 (R.map nv) .no)=some (R.length:Int):=by simp[kU]
  simp only[qb,zD];refine qx ?_
  simp only[qi,ah,zx,zq,zj,aH,zH,au,qb,bG,dJ,dM]
  refine vo (λm s=>∃i env,m+i=R.length/\s=⟨env,H0,[],[]⟩/\env.length=68/\nth env 1=some (.ptr 0 0)/\nth env 3=some (.sl 1 (R.map nv) (.yes 27))/\nth env 4=some (.int .i64 (i:Nat))) R.length (by omega) ⟨0,_,rfl,rfl,rfl,rfl,rfl,rfl⟩ ?_
  rintro m s ⟨i,env,Wj,rfl,hlen,h1,h3,h4⟩;simp only[zD];refine qx ?_
  simp only[qi,ah,zD,aC,zx,zw,zA,qc,Nat.reduceEqDiff,aB,zk,au,qb,zg,zf,zK,bC,bG,zJ,zU,aU,zb,ee,Nat.reduceLT,aU,bZ,h3,h4,hlen,acw,vU]
  by_cases hi:i<R.length
  ·refine .inl ⟨by simp;omega,?_⟩
   obtain⟨row,hq⟩:∃q,R[i]?=some q:=⟨R[i],by simp[hi]⟩
   obtain⟨AJ,hry⟩:=eN row (nF hq);have Wi:q7 prog 28 (.sl 1 (R.map nv) .no) (i:Int)=some (.vp [nv row]):=zq5 (zk3 hq) (zpE row);have lR:qJ prog H0 uR.g 27 (.vp [nv row])=some (nv row):=zpD Dc
   try simp only[aC,zD,zx]
   refine qx ?_
   simp only[qi,ah,zx,zq,zj,aH,zH,au,qb,bG]
   refine vo (λm s=>∃k env,m+k=row.length/\s=⟨env,H0,[],[]⟩/\env.length=68/\nth env 1=some (.ptr 0 0)/\nth env 3=some (.sl 1 (R.map nv) (.yes 27))/\nth env 4=some (.int .i64 (i:Nat))/\nth env 5=some (.int .i64 (k:Nat))) row.length (by omega) ⟨0,_,rfl,rfl,?_,?_,?_,?_,?_⟩ ?_
   ·simp[hlen]
   ·simp[zb,h1]
   ·simp[zb,h3]
   ·simp[zb,h4]
   ·simp[zb,hlen]
   clear h1 h3 h4 hlen;rintro m2 s ⟨k,env,Mg,rfl,hlen,h1,h3,h4,h5⟩;simp only[zD];refine qx ?_
   simp only[qi,ah,zD,aC,zx,zw,zI,zA,zc,qc,Nat.reduceEqDiff,aB,zk,au,qb,zg,zf,qh,zK,bC,bG,qM,zJ,zU,aU,zb,ee,Nat.reduceLT,aU,bZ,h3,h4,h5,hlen,qM,Wi,lR,Lt,Ee,vU]
   by_cases hk:k<row.length
   ·refine .inl ⟨by simp;omega,?_⟩
    obtain⟨y,hy⟩:∃y,row[k]?=some y:=⟨row[k],by simp[hk]⟩
    obtain⟨y0,y1⟩:=hry y (nF hy);have hiy:q7 prog 27 (nv row) (k:Int)=some (.vp [.int .i64 y]):=zq6 hy;have hly:qJ prog H0 uR.g 3 (.vp [.int .i64 y])=some (.int .i64 y):=zpD Tz;have oD:∀u v,jY prog .add 3 u v (some (.int .i64 (F.s.length:Int))) (some (.int .i64 (F.f.length:Int)))=some (.int .i64 ((F.s.length+F.f.length:Nat):Int)):=λu v=>V_ (by omega)
    have acy:∀u v,jY prog .geq 3 u v (some (.int .i64 y)) (some (.int .i64 ((F.s.length+F.f.length:Nat):Int)))=some (.bool false):=λu v=>by
     have:jY prog .geq 3 u v (some (.int .i64 y)) (some (.int .i64 ((F.s.length+F.f.length:Nat):Int)))=some (.bool (decide (((F.s.length+F.f.length:Nat):Int)<=y))):=rfl;rw[this,decide_eq_false (by omega)]
    have f1:decide (y<0)=false:=decide_eq_false (by omega)
    have f2:decide ((F.s.length:Int)+(F.f.length:Int)<=y)=false:=decide_eq_false (by omega)
    try simp only[aC,zD,zx]
    refine wt (tk:=[]) (by kernel_rfl) (by kernel_rfl) ?_
    simp only[qn,ak,zD,aC,qm,zw,zI,zA,zZ,za,zc,qc,Nat.reduceEqDiff,aB,aH,zk,au,qb,zg,zf,zS,qh,zK,bC,bG,ze,qa,qM,cg,cK,cL,zJ,zU,qj,aU,z8,zb,ee,Nat.reduceLT,aU,bZ,zq8,wC,yZ,iq,zR,z6,oD,acy,h1,h3,h4,h5,hlen,qM,Wi,lR,hiy,hly,Lt,v6,PO,Hx,Hw,Oc,Bz,A1,A3,vU,Dc,Tz,Hq,Dd,f1]
    simp only[dF,false_and,false_or]
    refine qx ?_
    simp only[qi,ah,zw,zA,zq,Nat.reduceEqDiff,aB,zu,aH,zt,zk,zH,au,qb,zg,aU,zb,ee,Nat.reduceLT,aU,bZ,h5,hlen,vj (show k<2 ^ 60 by omega),jc,bT]
    refine⟨row.length - (k+1),by omega,k+1,_,by omega,rfl,?_,?_,?_,?_,?_⟩
    ·simp[hlen]
    ·simp[zb,h1]
    ·simp[zb,h3]
    ·simp[zb,h4]
    ·simp[zb,hlen]
   ·refine .inr ⟨by simp;omega,?_⟩
    simp only[ky,jC,jm,jc,dr,qm,dW,aU,jc]
    refine qx ?_
    simp only[qi,ah,zw,zA,zq,Nat.reduceEqDiff,aB,zu,aH,zt,zk,zH,au,qb,zg,aU,zb,ee,Nat.reduceLT,aU,bZ,h4,hlen,vj (show i<2 ^ 60 by omega),jc,bT]
    refine⟨R.length - (i+1),by omega,i+1,_,by omega,rfl,?_,?_,?_,?_⟩
    ·simp[hlen]
    ·simp[zb,h1]
    ·simp[zb,h3]
    ·simp[zb,hlen]
  ·refine .inr ⟨by simp;omega,?_⟩
   simp only[ky,jC,jm,jc,dr,zD,dW,aU,jc]
   refine qx ?_
   simp only[qi,ah,zq,zj,aH,zH,au,qb,bG]
   simp only[go_ret,jc,Fx]
   refine⟨trivial,[.bool true],?_,rfl⟩;simp[ja,zb,hlen]
 ·refine zcs ?_ ?_ ?_ ?_
  ·kernel_rfl
  ·rfl
  ·intro c hc;cases hc
  ·kernel_rfl
 ·exact zpF (znw (AM (by simp only[zM,ne_eq,Nat.reduceEqDiff,cY,aB,zk,zS,bC,bG,zR,z6,dJ,dM,Bz,v6];rfl)))
end
section
def lX(b:Nat)(p:Nat->Bool):Nat->Bool:=λy=>decide (b<=y) && p (y - b)
def nI(n:Nat)(p:Nat->Bool):Prop:=∀y,p y=true->y<n
def nI.mono{n k:Nat}{p:Nat->Bool}(h:nI n p)(hk:n<=k):nI k p:=λy hy=>oY (h y hy) hk
def PX{n:Nat}:nI n cI:=λy h=>by simp[cI] at h
def xD{n:Nat}{p q:Nat->Bool}(hp:nI n p)(hq:nI n q):nI n (jn p q):=λy h=>by
 simp only[jn,mT] at h;exact h.elim (hp y) (hq y)
def W_{n k:Nat}(h:k<n):nI n (jz cI k):=λy hy=>by
 simp only[jz,cI,eI,beq_iff_eq] at hy;omega
def Ef{b:Nat}:lX b cI=cI:=by funext y;simp[lX,cI]
def Xa{b:Nat}{p q:Nat->Bool}:lX b (jn p q)=jn (lX b p) (lX b q):=by
 funext y
 simp only[lX,jn];cases decide (b<=y)<;>simp
def zpG{b k:Nat}:lX b (jz cI k)=jz cI (b+k):=by
 funext y
 simp only[lX,jz,cI,eI]
 by_cases h:b<=y
 ·rw[decide_eq_true h,eH]
  by_cases h2:y - b=k
  ·rw[beq_iff_eq.2 h2,beq_iff_eq.2 (by omega:y=b+k)]
  ·rw[beq_eq_false_iff_ne.2 h2,beq_eq_false_iff_ne.2 (by omega:y≠b+k)]
 ·rw[decide_eq_false h,fm,beq_eq_false_iff_ne.2 (by omega:y≠b+k)]
def zk8{b n:Nat}{p:Nat->Bool}(h:nI n p):nI (b+n) (lX b p):=λy hy=>by
 simp only[lX,cR,decide_eq_true_eq] at hy;have:=h _ hy.2;omega
def zhd(b:Nat):∀n,(List.range n).map (b + ·)=List.range' b n:=λn=>by
 rw[IG,List.map_add_range',cL]
def TA{b n:Nat}{p:Nat->Bool}(h:nI n p)(hb:b+n<=1216):jo (lX b p) 19=(jo p 19).map (b + ·):=by
 rw[Pv,Pv];have e1:List.range (64 * 19)=List.range b++(List.range (1216 - b)).map (b + ·):=by
  rw[zhd,IG,IG,show 64 * 19=b+(1216 - b) by omega,<- List.range'_append_1]
  simp
 have e2:List.range (64 * 19)=List.range (1216 - b)++(List.range b).map ((1216 - b) + ·):=by
  rw[zhd,IG,IG,show 64 * 19=(1216 - b)+b by omega,<- List.range'_append_1]
  simp
 rw[e1,List.filter_append,List.filter_map];have f1:(List.range b).filter (lX b p)=[]:=List.filter_eq_nil_iff.2 λy hy=>by
  have:=FQ.1 hy;simp only[lX,decide_eq_false (show ¬b<=y by omega),fm]
  simp
 have f2:((List.range b).map ((1216 - b) + ·)).filter p=[]:=List.filter_eq_nil_iff.2 λy hy hp=>by
  obtain⟨x,_,rfl⟩:=ni.1 hy;have:=h _ hp;omega
 have f3:(lX b p ∘ (b + ·))=p:=by
  funext y
  simp only[Function.comp_apply,lX,decide_eq_true (show b<=b+y by omega),eH,show b+y - b=y by omega]
 rw[f1,f3,cq];rw[<- e1,e2,List.filter_append,f2,oZ]
def zkf{n:Nat}{p:Nat->Bool}(h:nI n p)(hn:n<1216):jo (jn p (jz cI n)) 19=jo p 19++[n]:=by
 rw[Pv,Pv];have e1:List.range (64 * 19)=List.range n++n::List.range' (n+1) (1215 - n):=by
  rw[IG,IG,show 64 * 19=n+(1215 - n+1) by omega,<- List.range'_append_1,cK,List.range'_succ]
 rw[e1,List.filter_append,List.filter_append,List.filter_cons,List.filter_cons];have f1:(List.range n).filter (jn p (jz cI n))=(List.range n).filter p:=List.filter_congr λy hy=>by
  have:=FQ.1 hy;simp only[jn,jz,cI,beq_eq_false_iff_ne.2 (show y≠n by omega),fD]
 have f2:jn p (jz cI n) n=true:=by simp[jn,jz]
 have f3:p n=false:=by
  cases hp:p n with
  | false=>rfl
  | true=>have:=h n hp;omega
 have f4:(List.range' (n+1) (1215 - n)).filter (jn p (jz cI n))=[]:=List.filter_eq_nil_iff.2 λy hy hj=>by
  have hm:=List.mem_range'_1.1 hy;simp only[jn,jz,cI,eI,mT,beq_iff_eq] at hj;rcases hj with hj|hj
  ·have:=h _ hj;omega
  ·omega
 have f5:(List.range' (n+1) (1215 - n)).filter p=[]:=List.filter_eq_nil_iff.2 λy hy hj=>by
  have hm:=List.mem_range'_1.1 hy;have:=h _ hj;omega
 simp only[f1,f2,f3,f4,f5,aU,dF,bZ,oZ]
def wN(b:Nat)(p:Part):Part:=⟨p.null,lX b p.first,lX b p.last⟩
def FJ(S:List (Int×Int×Int×Int))(R:List Int)(N:List (Nat->Bool))(r:Int)(m:Mk):Mk:=⟨S++m.bw,R++m.rules.map (λ_=>r),N++m.next.map (lX S.length)⟩
def znx{b:Nat}:wN b p0=p0:=by simp only[wN,p0,Ef]
def Xb{b:Nat}{q:Nat->Bool}{N:List (Nat->Bool)}(hN:N.length=b):∀(ks:bR)(ns:List (Nat->Bool)),iF (lX b q) (ks.map (b + ·)) (N++ns.map (lX b))=N++(iF q ks ns).map (lX b)
 | [],ns=>rfl
 | k::ks,ns=>by
  simp only[bW,iF];rw[<- Xb hN ks]
  congr 1
  rw[List.set_append_right _ _ (by omega),hN,show b+k - b=k by omega,List.map_set,Xa]
  congr 2
  congr 1
  rw[HP,oe (by omega),hN,show b+k - b=k by omega,mS,HP]
  cases ns[k]? with
  | none =>
   simp only[Option.map_none,Option.getD_none];exact Ef.symm
  | some x=>rfl
def nh(n:Nat)(p:Part):Prop:=nI n p.first/\nI n p.last
def TC(m:Mk):Prop:=∀p∈m.next,nI m.bw.length p
def nh.mono{n k:Nat}{p:Part}(h:nh n p)(hk:n<=k):nh k p:=⟨h.1.mono hk,h.2.mono hk⟩
def zsX{n:Nat}:nh n p0:=⟨PX,PX⟩
def ziq{n:Nat}{q:Nat->Bool}(hq:nI n q):∀(ks:bR)(ns:List (Nat->Bool)),(∀p∈ns,nI n p)->∀p∈iF q ks ns,nI n p
 | [],ns,h=>h
 | k::ks,ns,h=>by
  refine ziq hq ks _ λp hp=>?_;rcases List.mem_or_eq_of_mem_set hp with hp|rfl
  ·exact h p hp
  ·refine xD ?_ hq;rw[HP];cases hx:ns[k]? with
   | none=>exact PX
   | some x=>exact h x (nF hx)
variable{S:List (Int×Int×Int×Int)}{R:List Int}{N:List (Nat->Bool)}{r:Int}
def zny{op:Int}{k n:Nat}{a c:Part}{ns:List (Nat->Bool)}(hN:N.length=S.length)(ha:nh n a)(hc:nh n c)(hn:S.length+n<=1216) :
  qL op k (wN S.length a) (wN S.length c) (N++ns.map (lX S.length))=(wN S.length (qL op k a c ns).1,N++(qL op k a c ns).2.map (lX S.length)):=by
 unfold qL;split
 ·rfl
 ·split
  ·simp only[wN,Xa]
  ·simp only[wN];rw[TA ha.2 hn,Xb hN]
   congr 1
   obtain⟨an,af,al⟩:=a;obtain⟨cn,cf,cl⟩:=c;cases an<;>cases cn<;>simp[Xa]
def zkg{op:Int}{k n:Nat}{a c:Part}{ns:List (Nat->Bool)}(ha:nh n a)(hc:nh n c):nh n (qL op k a c ns).1:=by
 unfold qL;split
 ·exact hc
 ·split
  ·exact⟨xD ha.1 hc.1,xD ha.2 hc.2⟩
  ·refine⟨?_,?_⟩
   ·show nI n (if a.null then jn a.first c.first else a.first)
    split
    ·exact xD ha.1 hc.1
    ·exact ha.1
   ·show nI n (if c.null then jn a.last c.last else c.last)
    split
    ·exact xD ha.2 hc.2
    ·exact hc.2
def zkh{op:Int}{k n:Nat}{a c:Part}{ns:List (Nat->Bool)}(hc:nh n c)(h:∀p∈ns,nI n p):∀p∈(qL op k a c ns).2,nI n p:=by
 simp only[qL];generalize jo a.last 19=ks;split
 ·exact h
 ·split
  ·exact h
  ·exact ziq hc.1 _ _ h
def zsk{mn mx:Int}{n:Nat}{p:Part}{ns:List (Nat->Bool)}(hN:N.length=S.length)(hp:nh n p)(hn:S.length+n<=1216) :
  yO mn mx (wN S.length p) (N++ns.map (lX S.length))=(wN S.length (yO mn mx p ns).1,N++(yO mn mx p ns).2.map (lX S.length)):=by
 have h1:=TA hp.2 hn;simp only[yO,wN];rw[h1];generalize jo p.last 19=ks;split
 ·rw[Xb hN]
 ·rfl
def zq9{op mn mx:Int}{n:Nat}{p:Part}{m:Mk}(hN:N.length=S.length)(hp:nh n p)(hn:S.length+n<=1216) :
  yl op mn mx (wN S.length p,FJ S R N r m)=(wN S.length (yl op mn mx (p,m)).1,FJ S R N r (yl op mn mx (p,m)).2):=by
 unfold yl
 by_cases h:op=7
 ·rw[if_pos h,if_pos h];have e:(FJ S R N r m).next=N++m.next.map (lX S.length):=rfl
  simp only;rw[e,zsk hN hp hn];rfl
 ·rw[if_neg h,if_neg h]
def zra{mn mx:Int}{n:Nat}{p:Part}{ns:List (Nat->Bool)}(hp:nh n p)(hm:∀q∈ns,nI n q):nh n (yO mn mx p ns).1/\(∀q∈(yO mn mx p ns).2,nI n q):=by
 simp only[yO];generalize jo p.last 19=ks;refine⟨hp,?_⟩;split
 ·exact ziq hp.1 _ _ hm
 ·exact hm
def zki{op mn mx:Int}{n:Nat}{p:Part}{m:Mk}(hp:nh n p)(hm:∀q∈m.next,nI n q):nh n (yl op mn mx (p,m)).1/\(∀q∈(yl op mn mx (p,m)).2.next,nI n q):=by
 unfold yl
 by_cases h:op=7
 ·rw[if_pos h];exact zra hp hm
 ·rw[if_neg h];exact⟨hp,hm⟩
mutual
def zpI(hN:N.length=S.length):∀(e:E)(m:Mk),TC m->S.length+(gF 0 e m).2.bw.length<=1216 ->
  gF r e (FJ S R N r m)=(wN S.length (gF 0 e m).1,FJ S R N r (gF 0 e m).2)/\nh (gF 0 e m).2.bw.length (gF 0 e m).1/\TC (gF 0 e m).2
 | .mk op pl s0 s1 s2 s3 tx mn mx nl [],m,hm,hl=>by
  simp only[gF] at hl ⊢;unfold kF at hl ⊢;split
  ·exact⟨by simp only[wN,Ef],⟨PX,PX⟩,hm⟩
  ·rename_i aF;simp only[aF,bZ] at hl;refine⟨?_,⟨W_ (by simp),W_ (by simp)⟩,λp hp=>?_⟩
   ·simp only[wN,FJ,zpG,bY,List.map_append,bW,cM,Ef,b_]
   ·simp only[uo,uk] at hp;rcases hp with hp|rfl
    ·exact(hm p hp).mono (by simp)
    ·exact PX
 | .mk op pl s0 s1 s2 s3 tx mn mx nl (a::tl),m,hm,hl=>by
  rw[Ww] at hl ⊢;rw[Ww];rw[Tb] at hl;obtain⟨h1,h2,h3⟩:=zpJ hN (a::tl) op 0 p0 m hm zsX hl;rw[znx] at h1;rw[h1,zq9 hN h2 hl];have hs:(yl op mn mx (pX 0 op 0 p0 (a::tl) m)).2.bw.length=(pX 0 op 0 p0 (a::tl) m).2.bw.length:=by rw[Tb]
  refine⟨rfl,?_,?_⟩
  ·rw[hs];exact(zki h2 h3).1
  ·unfold TC;rw[hs];exact(zki h2 h3).2
def zpJ(hN:N.length=S.length):∀(es:List E)(op:Int)(k:Nat)(a:Part)(m:Mk),TC m->nh m.bw.length a->S.length+(pX 0 op k a es m).2.bw.length<=1216 ->
  pX r op k (wN S.length a) es (FJ S R N r m)=(wN S.length (pX 0 op k a es m).1,FJ S R N r (pX 0 op k a es m).2)/\nh (pX 0 op k a es m).2.bw.length (pX 0 op k a es m).1/\TC (pX 0 op k a es m).2
 | [],op,k,a,m,hm,ha,hl=>by
  simp only[zih];exact⟨trivial,ha,hm⟩
 | e::es,op,k,a,m,hm,ha,hl=>by
  rw[Ta] at hl ⊢;rw[Ta];have hg1:m.bw.length<=(gF 0 e m).2.bw.length:=pY e m;have Cm:S.length+(gF 0 e m).2.bw.length<=1216:=cZ (Nat.add_le_add_left (pZ es op (k+1) (qL op k a (gF 0 e m).1 (gF 0 e m).2.next).1 { (gF 0 e m).2 with next:=(qL op k a (gF 0 e m).1 (gF 0 e m).2.next).2 }) _) hl
  obtain⟨h1,h2,h3⟩:=zpI hN e m hm Cm;rw[h1];have tC:=ha.mono hg1;have hj:=zny (op:=op) (k:=k) (ns:=(gF 0 e m).2.next) hN tC h2 Cm
  have e1:(FJ S R N r (gF 0 e m).2).next=N++(gF 0 e m).2.next.map (lX S.length):=rfl
  rw[e1,hj];exact zpJ hN es op (k+1) (qL op k a (gF 0 e m).1 (gF 0 e m).2.next).1 { (gF 0 e m).2 with next:=(qL op k a (gF 0 e m).1 (gF 0 e m).2.next).2 } (zkh h2 h3) (zkg tC h2) hl
end
end
def Hy(K r b n y:Nat):Nat:=if y=n then K+r else y+b
def xE(e:E):bR×Mk:=j9 (ey e) 0 e m0
def zmh{q:Nat->Bool}{ks:bR}{ns:List (Nat->Bool)}{j:Nat}(hj:j<ns.length):ri (iF q ks ns) j=if j∈ks then jn (ri ns j) q else ri ns j:=by
 funext y
 rw[WQ hj]
 by_cases h:j∈ks
 ·rw[if_pos h,decide_eq_true h,eH];rfl
 ·rw[if_neg h,decide_eq_false h,fm,fD]
def zf7{ns:List (Nat->Bool)}{j:Nat}{p:Nat->Bool}(h:ns[j]?=some p):ri ns j=p:=by
 rw[ri,HP,h];rfl
def Xc{ns:List (Nat->Bool)}{j:Nat}(h:j<ns.length):ns[j]?=some (ri ns j):=by
 rw[ri,HP,mq h];rfl
def zmi{K r b n:Nat}{l:bR}(h:∀y∈l,y<n):l.map (Hy K r b n)=l.map (b + ·) :=
 List.map_congr_left λy hy=>by
  have:=h y hy;rw[Hy,if_neg (by omega)]
  omega
def Xd{n:Nat}{p:Nat->Bool}(h:nI n p):∀y∈jo p 19,y<n:=λy hy=>h y (iU.1 hy).2
def zmj{K r b n:Nat}{p:Nat->Bool}(h:nI n p)(hb:b+n<=K)(hK:K+r<1216)(c:Bool) :
  jo (if c then jn (lX b p) (jz cI (K+r)) else lX b p) 19=(jo (if c then jn p (jz cI n) else p) 19).map (Hy K r b n):=by
 have hs:nI (K+r) (lX b p):=(zk8 h).mono (by omega)
 cases c with
 | true =>
  rw[if_pos rfl,if_pos rfl,zkf hs hK,zkf h (by omega),TA h (by omega),List.map_append,zmi (Xd h)]
  simp[Hy]
 | false =>
  rw[if_neg (by decide),if_neg (by decide),TA h (by omega),zmi (Xd h)]
structure Step(K r b:Nat)(e:E)(f:bR)(S:List (Int×Int×Int×Int))(R:List Int)(N:List (Nat->Bool)):Prop where
 hf:f=(xE e).1.map (Hy K r b (ey e))
 hs:S=(xE e).2.bw
 hr:R=List.replicate (ey e) (r:Int)
 hn:N.length=ey e
 row:∀(j:Nat)(p:Nat->Bool),(xE e).2.next[j]?=some p->∃p',N[j]?=some p'/\jo p' 19=(jo p 19).map (Hy K r b (ey e))
 sup:∀p∈N,nI (K+r+1) p
 acC:∀y∈f,y<K+r+1
def zkj{e:E}(hg:gd e=true)(hn:ey e<=1200):(gF 0 e m0).2.bw.length=ey e/\(gF 0 e m0).2.Ok:=by
 obtain⟨_,_,g3,g4⟩:=A0 (r:=0) e m0 hg ⟨rfl,rfl⟩ (by simp[m0];omega)
 exact⟨by rw[g3];simp[m0],g4⟩
def znz{e:E}:(xE e).2.bw=(gF 0 e m0).2.bw:=by
 have h:((0:Nat):Int)=0:=rfl;rw[xE,WK,h]
def znA{α β:Type}{l:List α}{c:β}:l.map (λ_=>c)=List.replicate l.length c:=by
 induction l with
 | nil=>rfl
 | cons a l ih=>simp[List.replicate_succ,ih]
def zrb{K r:Nat}{e:E}{m:Mk}(dP:m.Ok)(hg:gd e=true)(hK:m.bw.length+ey e<=K)(hr:K+r<1216)(hn:ey e<=1200) :
  ∃S R N,(j9 K r e m).2=⟨m.bw++S,m.rules++R,m.next++N⟩/\Step K r m.bw.length e (j9 K r e m).1 S R N:=by
 obtain⟨hl,ho⟩:=zkj hg hn;have hm:FJ m.bw m.rules m.next (r:Int) m0=m:=by simp[FJ,m0]
 obtain⟨h1,h2,h3⟩:=zpI (S:=m.bw) (R:=m.rules) (N:=m.next) (r:=(r:Int)) dP.n e m0 (λp hp=>by simp[m0] at hp) (by rw[hl];omega)
 rw[hm] at h1;generalize hW:gF 0 e m0=W at *;obtain⟨p,m1⟩:=W;simp only at hl ho h1 h2 h3;have Eg:xE e=(jo (if p.null then jn p.first (jz cI (ey e)) else p.first) 19,{ m1 with next:=iF (jz cI (ey e)) (jo p.last 19) m1.next }):=by
  have h0:gF ((0:Nat):Int) e m0=(p,m1):=hW;simp only[xE,j9,h0,cL]
 rw[hl] at h2;have TD:∀q∈m1.next,nI (ey e) q:=λq hq=>by have:=h3 q hq;rwa [hl] at this
 generalize hb:m.bw.length=b at *;have rA:jz cI (K+r)=lX b (jz cI (K+r - b)):=by rw[zpG];congr 1;omega
 have L5:j9 K r e m=(jo (if p.null then jn (lX b p.first) (jz cI (K+r)) else lX b p.first) 19,⟨m.bw++m1.bw,m.rules++m1.rules.map (λ_=>(r:Int)),m.next++(iF (jz cI (K+r - b)) (jo p.last 19) m1.next).map (lX b)⟩):=by
  simp only[j9,h1];have e1:(FJ m.bw m.rules m.next (r:Int) m1).next=m.next++m1.next.map (lX b):=by rw[<- hb];rfl
  have e2:jo (wN b p).last 19=(jo p.last 19).map (b + ·):=TA h2.2 (by omega)
  rw[e1,e2,rA,Xb (by rw[dP.n,hb])]
  rfl
 rw[L5];clear L5 h1 hm;generalize jo p.last 19=ks at Eg ⊢;refine⟨_,_,_,rfl,?_⟩;have gX:m1.next.length=ey e:=by rw[ho.n,hl]
 have eN:∀j,j<ey e->ri ((iF (jz cI (K+r - b)) (ks) m1.next).map (lX b)) j=if decide (j∈ks) then jn (lX b (ri m1.next j)) (jz cI (K+r)) else lX b (ri m1.next j):=λj hj=>by
  have hj2:j<(iF (jz cI (K+r - b)) (ks) m1.next).length:=by rw[wb,gX];exact hj
  have:((iF (jz cI (K+r - b)) (ks) m1.next).map (lX b))[j]?=some (lX b (ri (iF (jz cI (K+r - b)) (ks) m1.next) j)):=by rw[mS,Xc hj2];rfl
  rw[zf7 this,zmh (by rw[gX];exact hj)]
  by_cases h:j∈ks
  ·rw[if_pos h,decide_eq_true h,if_pos rfl,Xa,<- rA]
  ·rw[if_neg h,decide_eq_false h,if_neg (by decide)]
 have PT:((iF (jz cI (K+r - b)) (ks) m1.next).map (lX b)).length=ey e:=by rw[eF,wb,gX]
 refine⟨?_,?_,?_,PT,?_,?_,?_⟩
 ·rw[Eg];exact zmj h2.1 hK hr p.null
 ·rw[Eg]
 ·rw[znA,ho.r,hl]
 ·intro j q hj;rw[Eg] at hj;simp only at hj;have Ah:j<ey e:=by
   have:=(eE.1 hj).1
   rwa [wb,gX] at this
  refine⟨_,Xc (by rw[PT];exact Ah),?_⟩
  rw[eN j Ah,<- zf7 hj,zmh (by rw[gX];exact Ah)]
  have hs:nI (ey e) (ri m1.next j):=TD _ (nF (Xc (by rw[gX];exact Ah)))
  have:=zmj (K:=K) (r:=r) (b:=b) hs hK hr (decide (j∈ks));rw[this]
  by_cases h:j∈ks
  ·rw[decide_eq_true h,if_pos rfl,if_pos h]
  ·rw[decide_eq_false h,if_neg (by decide),if_neg h]
 ·intro q hq;obtain⟨j,hj,rfl⟩:=List.getElem_of_mem hq;rw[PT] at hj;have:((iF (jz cI (K+r - b)) (ks) m1.next).map (lX b))[j]=ri ((iF (jz cI (K+r - b)) (ks) m1.next).map (lX b)) j:=(zf7 (mq _)).symm
  rw[this,eN j hj];have hs:nI (ey e) (ri m1.next j):=TD _ (nF (Xc (by rw[gX];exact hj)))
  have DA:nI (K+r+1) (lX b (ri m1.next j)):=(zk8 hs).mono (by omega)
  split
  ·exact xD DA (W_ (by omega))
  ·exact DA
 ·have DA:nI (K+r+1) (lX b p.first):=(zk8 h2.1).mono (by omega)
  intro y hy;simp only at hy;refine Xd ?_ y hy;split
  ·exact xD DA (W_ (by omega))
  ·exact DA
structure One(K r b:Nat)(e:E)(res:List bR×Mk)(i:Nat):Prop where
 hf:res.1[i]?=some ((xE e).1.map (Hy K r b (ey e)))
 hs:∀(j:Nat)(q:Int×Int×Int×Int),(xE e).2.bw[j]?=some q->res.2.bw[b+j]?=some q
 hr:∀(j:Nat),j<ey e->res.2.rules[b+j]?=some (r:Int)
 hn:∀(j:Nat)(p:Nat->Bool),(xE e).2.next[j]?=some p->∃p',res.2.next[b+j]?=some p'/\jo p' 19=(jo p 19).map (Hy K r b (ey e))
def zir{α:Type}{a b c:List α}{j:Nat}{x:α}(h:b[j]?=some x):(a++b++c)[a.length+j]?=some x:=by
 rw[b_,oe (by omega),show a.length+j - a.length=j by omega,mz (eE.1 h).1,h]
def zkk{K:Nat}(es:List E):∀(r:Nat)(m:Mk),m.Ok->(∀e∈es,gd e=true)->m.bw.length+eG es<=K->K<=1000->K+r+es.length<=1216 ->
  (∃S R N,(q5 K r es m).2=⟨m.bw++S,m.rules++R,m.next++N⟩/\∀p∈N,nI (K+r+es.length) p) /\
  (∀l∈(q5 K r es m).1,∀y∈l,y<K+r+es.length) /\
  ∀i e,es[i]?=some e->One K (r+i) (m.bw.length+eG (es.take i)) e (q5 K r es m) i:=by
 induction es with
 | nil =>
  intro r m dP hg hK hK2 hr;exact⟨⟨[],[],[],by simp[q5],λp hp=>(by cases hp)⟩,λl hl=>(by cases hl),λi e he=>(by simp at he)⟩
 | cons e es ih =>
  intro r m dP hg hK hK2 hr;simp only[eG] at hK;simp only[bq] at hr;obtain⟨S,R,N,h1,h2⟩:=zrb (K:=K) (r:=r) (e:=e) dP (hg e (eS ..)) (by omega) (by omega) (by omega)
  obtain⟨hl,ho⟩:=zkj (hg e (eS ..)) (by omega)
  have JT:S.length=ey e:=by rw[h2.hs,znz];exact hl
  have uQ:(j9 K r e m).2.Ok:=by
   rw[h1];exact⟨by simp[dP.r,h2.hr,JT],by simp[dP.n,h2.hn,JT]⟩
  have Bz:(j9 K r e m).2.bw.length=m.bw.length+ey e:=by rw[h1];simp[JT]
  obtain⟨⟨S',R',N',g1,g2⟩,g3,g4⟩:=ih (r+1) (j9 K r e m).2 uQ (λe he=>hg e (dB _ he)) (by omega) hK2 (by omega)
  have hM:(q5 K r (e::es) m).2=⟨m.bw++S++S',m.rules++R++R',m.next++N++N'⟩:=by
   simp only[q5];rw[g1,h1]
  refine⟨⟨S++S',R++R',N++N',by rw[hM];simp,λp hp=>?_⟩,?_,?_⟩
  ·rcases uo.1 hp with hp|hp
   ·exact(h2.sup p hp).mono (by simp only[bq];omega)
   ·exact(g2 p hp).mono (by simp only[bq];omega)
  ·intro l hl y hy;simp only[q5] at hl;simp only[bq];rcases dh.1 hl with hl|hl
   ·rw[hl] at hy;have:=h2.acC y hy;omega
   ·have:=g3 l hl y hy;omega
  ·intro i e' he;cases i with
   | zero =>
    simp only[Ba,aR] at he;subst he;simp only[List.take_zero,eG,cL];refine⟨?_,λj q hq=>?_,λj hj=>?_,λj p hp=>?_⟩
    ·simp only[q5,Ba,h2.hf]
    ·rw[hM];exact zir (by rw[h2.hs];exact hq)
    ·rw[hM,<- dP.r];exact zir (by rw[h2.hr,Ki,if_pos hj])
    ·obtain⟨p',k1,k2⟩:=h2.row j p hp;refine⟨p',?_,k2⟩;rw[hM,<- dP.n];exact zir k1
   | succ i =>
    simp only[Dr] at he;have:=g4 i e' he;rw[Bz,show m.bw.length+ey e+eG (es.take i)=m.bw.length+eG ((e::es).take (i+1)) by simp[eG];omega,show r+1+i=r+(i+1) by omega] at this
    refine⟨?_,this.hs,this.hr,this.hn⟩;simp only[q5,Dr];exact this.hf
section
open Go.Vm.Sx
def TE{l:List Cr}(h:Bq l)(he:bE l=.cV):∃k:Nat,ym l=((k:Int),true)/\k<=1000/\k=eG (l.map dX)/\l.length<=200/\lV 0 l=((k:Int),true)/\(∀c∈l,nodes c.1<=1800/\nodes c.2.2<=1800)/\∀e∈l.map dX,gd e=true:=by
 obtain⟨p,ok,A7⟩:∃p ok,ym l=(p,ok):=⟨_,_,rfl⟩;rw[bE,A7] at he;cases ok with
 | false=>cases he
 | true =>
  simp only[uT] at he;have hp:p<=1000:=by
   rcases Int.lt_or_le 1000 p with h|h
   ·rw[if_pos h] at he;cases he
   ·exact h
  have hlen:l.length<=200/\lV 0 l=(p,true):=by
   unfold ym at A7;cases hx:gx 200 (l.length:Int) with
   | true=>rw[hx] at A7;simp at A7
   | false =>
    rw[hx] at A7;simp only[cond_false] at A7;refine⟨?_,A7⟩;rcases lP 200 l.length with hh|hh
    ·rw[ER (by omega)] at hx;cases hx
    ·exact hh
  have Hu:∀c∈l,nodes c.1<=1800/\nodes c.2.2<=1800:=by
   rcases h.nod with hh|hh
   ·omega
   ·exact hh
  obtain⟨m1,_,m3⟩:=A6 l 0 Hu (by omega) (by omega) (by rw[hlen.2]) (by rw[hlen.2];exact hp)
  rw[hlen.2] at m1;simp only[Int.zero_add] at m1;exact⟨eG (l.map dX),by rw[A7,m1],by omega,rfl,hlen.1,by rw[hlen.2,m1],Hu,m3⟩
def zf8{n:Nat}(es:List E):∀(r:Nat)(m:Mk),(q5 n r es m).1.length=es.length:=by
 induction es with
 | nil=>intro r m;rfl
 | cons e es ih=>intro r m;simp only[q5,bq,ih]
def zf9{p:Nat->Bool}:(jo p 19).length<=1216:=by
 have:=Pu (p:=p) 19;rw[Nb,eF] at this;omega
def zga{n:Nat}(es:List E):∀(r:Nat)(m:Mk),∀x∈(q5 n r es m).1,x.length<=1216:=by
 induction es with
 | nil=>intro r m x h;cases h
 | cons e es ih =>
  intro r m x h;simp only[q5] at h;rcases dh.1 h with h|h
  ·rw[h];simp only[j9];exact zf9
  ·exact ih _ _ x h
def zsY{l:List Cr}(h:Bq l)(he:bE l=.cV):bA l=Bo (kD l)/\abW (kD l):=by
 obtain⟨k,h1,h2,h3,h4,_,_,h7⟩:=TE h he;have hA:bA l=Bo (kD l):=by
  rw[bA,h1];simp only[uT,if_neg (show ¬(1000<(k:Int)) by omega)]
 refine⟨hA,?_⟩;obtain⟨r1,_,r3⟩:=WT (n:=k) (l.map dX) 0 m0 h7 ⟨rfl,rfl⟩ (by simp[m0];omega) (by rw[eF];omega) (λx hx=>by simp[m0] at hx)
 have hm:1216<=maxLen:=by decide
 have hf:kD l=⟨(q5 k 0 (l.map dX) m0).2.bw,(q5 k 0 (l.map dX) m0).2.rules,(q5 k 0 (l.map dX) m0).1.map (·.map Int.ofNat),(q5 k 0 (l.map dX) m0).2.next.map λp=>(jo p 19).map Int.ofNat⟩:=by
  rw[kD,h1];simp only[l9]
 have e0:m0.bw.length=0:=rfl;rw[hf];refine⟨?_,?_,⟨?_,?_⟩,?_,?_⟩
 ·show(q5 k 0 (l.map dX) m0).2.bw.length<=_;omega
 ·show(q5 k 0 (l.map dX) m0).2.rules.length<=_;rw[r3.r];omega
 ·show((q5 k 0 (l.map dX) m0).1.map _).length<=_;rw[eF,zf8,eF];omega
 ·intro x hx;obtain⟨y,hy,rfl⟩:=ni.1 hx;rw[eF];have:=zga _ _ _ y hy;omega
 ·show((q5 k 0 (l.map dX) m0).2.next.map _).length<=_
  rw[eF,r3.n];omega
 ·intro x hx;obtain⟨y,hy,rfl⟩:=ni.1 hx;rw[eF];have:=zf9 (p:=y);omega
def Hz:∀(l:List Cr)(p:Int),(∀c∈l,nodes c.1<=1800/\nodes c.2.2<=1800)->0<=p->p<=1001->(lV p l).2=true->(lV p l).1<=1000->∀c∈l,Ls c=true/\AY 0 c<=1000
 | [],p,_,h0,h1,_,h2=>λc hc=>by cases hc
 | c::l,p,h,h0,h1,dP,h2=>by
  obtain⟨n1,n2⟩:=h c (eS ..);simp only[lV] at dP h2;cases ho:Ls c with
  | false=>rw[ho] at dP;cases dP
  | true =>
   rw[ho] at dP h2;simp only[uT] at dP h2;have k1:=om c.1;have k2:=om c.2.2;have gp:∀e:E,nodes e<=4000->0<=wD e/\wD e<=1001:=λe he=>by
    rw[Tl he];split
    ·split<;>omega
    ·omega
   have Yf:=gp c.1 (by omega)
   have DA:=gp c.2.2 (by omega)
   have oD:∀p:Int,0<=p->p<=1001->AY p c=if 1001<p+wD c.1+wD c.2.2 then 1001 else p+wD c.1+wD c.2.2:=λp h0 h1=>by
    unfold AY;rw[Ld (x:=p+wD c.1) (by omega) (by omega),Ld (by omega) (by omega)]
    by_cases h4:1001<p+wD c.1+wD c.2.2
    ·rw[ER h4,if_pos h4];rfl
    ·rw[Io (by omega),if_neg h4];rfl
   have hb:0<=AY p c/\AY p c<=1001:=by rw[oD p h0 h1];split<;>omega
   obtain⟨g1,g2,_⟩:=A6 l (AY p c) (λc hc=>h c (dB _ hc)) hb.1 hb.2 dP h2;intro x hx;rcases dh.1 hx with rfl|hx
   ·refine⟨ho,?_⟩;rw[oD p h0 h1] at g2;rw[oD 0 (by omega) (by omega)]
    split at g2
    ·omega
    ·rw[if_neg (by omega)];omega
   ·exact Hz l (AY p c) (λc hc=>h c (dB _ hc)) hb.1 hb.2 dP h2 x hx
def zsl{l:List Cr}(h:Bq l)(he:bE l=.cV){c:Cr}(hc:c∈l):Bq [c]/\bE [c]=.cV:=by
 obtain⟨k,m1,m2,_,m4,m5,m6,_⟩:=TE h he;have hm:1<=maxLen:=by decide
 refine⟨⟨by simpa using hm,λx hx=>?_,λx hx=>?_,.inr λx hx=>?_⟩,?_⟩
 ·obtain rfl:=uk.1 hx;exact h.wf _ hc
 ·obtain rfl:=uk.1 hx;exact h.can _ hc
 ·obtain rfl:=uk.1 hx;exact m6 _ hc
 ·obtain⟨a1,a2⟩:=Hz l 0 m6 (by omega) (by omega) (by rw[m5]) (by rw[m5];omega) c hc
  have e0:gx 200 (([c]:List Cr).length:Int)=false:=rfl;have e1:ym [c]=(AY 0 c,true):=by
   unfold ym;rw[e0];simp only[cond_false,lV,a1,uT]
  simp only[bE,e1,uT,if_neg (show ¬(1000<AY 0 c) by omega)]
def zk9{es:List E}{i:Nat}{e:E}(h:es[i]?=some e):eG (es.take (i+1))=eG (es.take i)+ey e:=by
 induction es generalizing i with
 | nil=>simp at h
 | cons a es ih =>
  cases i with
  | zero =>
   simp only[Ba,aR] at h;subst h;simp[eG]
  | succ i =>
   simp only[Dr] at h;have:=ih h;simp only[List.take_succ_cons,eG,this];omega
def HE:m0.Ok:=⟨rfl,rfl⟩
def NO{l:List Cr}(h:Bq l)(he:bE l=.cV)(hl:l≠[]):W9 (kD l)/\(kD l).f.length=l.length/\(kD l).s.length=eG (l.map dX):=by
 obtain⟨k,m1,m2,m3,m4,_,_,m7⟩:=TE h he;obtain⟨⟨S,R,N,g1,g2⟩,g3,_⟩:=zkk (K:=k) (l.map dX) 0 m0 HE m7 (by rw[m3];simp[m0]) m2 (by rw[eF];omega)
 obtain⟨r1,_,r3⟩:=WT (n:=k) (l.map dX) 0 m0 m7 HE (by simp[m0];omega) (by rw[eF];omega) (λx hx=>by simp[m0] at hx)
 have hf:kD l=⟨(q5 k 0 (l.map dX) m0).2.bw,(q5 k 0 (l.map dX) m0).2.rules,(q5 k 0 (l.map dX) m0).1.map (·.map Int.ofNat),(q5 k 0 (l.map dX) m0).2.next.map λp=>(jo p 19).map Int.ofNat⟩:=by
  rw[kD,m1];simp only[l9]
 have e0:m0.bw.length=0:=rfl;have hs:(q5 k 0 (l.map dX) m0).2.bw.length=k:=by rw[r1,e0,m3];omega
 have mO:((q5 k 0 (l.map dX) m0).1.map (·.map Int.ofNat)).length=l.length:=by rw[eF,zf8,eF]
 have hnx:(q5 k 0 (l.map dX) m0).2.next=N:=by rw[g1];rfl
 rw[eF] at g2 g3;rw[hf];refine⟨⟨?_,?_,?_,?_,?_,?_⟩,mO,?_⟩
 ·show((q5 k 0 (l.map dX) m0).2.next.map _).length=_
  rw[eF,r3.n]
 ·exact r3.r
 ·intro e;have e':((q5 k 0 (l.map dX) m0).1.map (·.map Int.ofNat))=[]:=e;rw[e'] at mO;exact hl (Kh mO.symm)
 ·show(q5 k 0 (l.map dX) m0).2.bw.length<=_;omega
 ·show((q5 k 0 (l.map dX) m0).1.map (·.map Int.ofNat)).length<=_;rw[mO];omega
 ·intro x hx;have mC:x∈(q5 k 0 (l.map dX) m0).2.next.map (λp=>(jo p 19).map Int.ofNat)++(q5 k 0 (l.map dX) m0).1.map (·.map Int.ofNat):=hx
  show x.length<=4000/\∀y∈x,0<=y/\y<((q5 k 0 (l.map dX) m0).2.bw.length:Int)+(((q5 k 0 (l.map dX) m0).1.map (·.map Int.ofNat)).length:Int);rw[hs,mO];rcases uo.1 mC with hx|hx
  ·obtain⟨p,hp,rfl⟩:=ni.1 hx;rw[hnx] at hp;refine⟨by rw[eF];have:=zf9 (p:=p);omega,λy hy=>?_⟩
   obtain⟨z,hz,rfl⟩:=ni.1 hy;have:=Xd (g2 p hp) z hz;constructor
   ·exact Int.natCast_nonneg z
   ·show(z:Int)<_;omega
  ·obtain⟨p,hp,rfl⟩:=ni.1 hx;refine⟨by rw[eF];have:=zga _ _ _ p hp;omega,λy hy=>?_⟩
   obtain⟨z,hz,rfl⟩:=ni.1 hy;have:=g3 p hp z hz;constructor
   ·exact Int.natCast_nonneg z
   ·show(z:Int)<_;omega
 ·exact hs.trans m3
def NP(K r b n:Nat)(x:Int):Int:=if x=n then (K:Int)+r else x+b
def zrr{K r b n:Nat}{l:bR}:(l.map (Hy K r b n)).map Int.ofNat=(l.map Int.ofNat).map (NP K r b n):=by
 rw[List.map_map,List.map_map];refine List.map_congr_left λy _=>?_;show((Hy K r b n y:Nat):Int)=NP K r b n (y:Int);unfold Hy NP
 by_cases h:y=n
 ·rw[if_pos h,if_pos (by omega)];omega
 ·rw[if_neg h,if_neg (by omega)];omega
structure Ap(l:List Cr)(i:Nat)(c:Cr)(b:Nat)(G:Fo)(a:List Int):Prop where
 f:G.f=[a]
 ff:(kD l).f[i]?=some (a.map (NP (kD l).s.length i b G.s.length))
 s:∀(j:Nat)(q:Int×Int×Int×Int),G.s[j]?=some q->(kD l).s[b+j]?=some q
 r:∀(j:Nat),j<G.s.length->(kD l).r[b+j]?=some (i:Int)
 n:∀(j:Nat)(x:List Int),G.n[j]?=some x->(kD l).n[b+j]?=some (x.map (NP (kD l).s.length i b G.s.length))
 bn:b+G.s.length=eG ((l.map dX).take (i+1))
def apart{l:List Cr}(h:Bq l)(he:bE l=.cV){i:Nat}{c:Cr}(hc:l[i]?=some c):∃a,Ap l i c (eG ((l.map dX).take i)) (kD [c]) a:=by
 obtain⟨k,m1,m2,m3,m4,_,_,m7⟩:=TE h he;obtain⟨h1,e1⟩:=zsl h he (nF hc);obtain⟨n,q1,_,q3,_⟩:=TE h1 e1;have q3':n=ey (dX c):=by rw[q3];simp[eG]
 obtain⟨_,_,g4⟩:=zkk (K:=k) (l.map dX) 0 m0 HE m7 (by rw[m3];simp[m0]) m2 (by rw[eF];omega)
 have s_:(l.map dX)[i]?=some (dX c):=by rw[mS,hc];rfl
 have g:=g4 i (dX c) s_;have e0:m0.bw.length=0:=rfl;rw[e0,cK,cK] at g;have hf:kD l=⟨(q5 k 0 (l.map dX) m0).2.bw,(q5 k 0 (l.map dX) m0).2.rules,(q5 k 0 (l.map dX) m0).1.map (·.map Int.ofNat),(q5 k 0 (l.map dX) m0).2.next.map λp=>(jo p 19).map Int.ofNat⟩:=by
  rw[kD,m1];simp only[l9]
 have hg:kD [c]=⟨(xE (dX c)).2.bw,(xE (dX c)).2.rules,[(xE (dX c)).1.map Int.ofNat],(xE (dX c)).2.next.map λp=>(jo p 19).map Int.ofNat⟩:=by
  rw[kD,q1];simp only[l9,bW,cM,q5,q3'];rfl
 have hs:(kD l).s.length=k:=by rw[(NO h he (λe=>by rw[e] at hc;simp at hc)).2.2,m3]
 have hn:(kD [c]).s.length=ey (dX c):=by rw[(NO h1 e1 (by simp)).2.2,<- q3,q3']
 refine⟨(xE (dX c)).1.map Int.ofNat,?_,?_,?_,?_,?_,?_⟩
 ·rw[hg]
 ·rw[hs,hn,hf,<- zrr]
  dsimp only
  rw[mS,g.hf];rfl
 ·intro j q hj;rw[hg] at hj;rw[hf]
  dsimp only at hj ⊢
  exact g.hs j q hj
 ·intro j hj;rw[hn] at hj;rw[hf]
  dsimp only
  exact g.hr j hj
 ·intro j x hj;rw[hg] at hj
  dsimp only at hj
  rw[mS] at hj;obtain⟨p,hp,rfl⟩:=l8.1 hj;obtain⟨p',k1,k2⟩:=g.hn j p hp;rw[hs,hn,hf,<- zrr,<- k2]
  dsimp only
  rw[mS,k1];rfl
 ·rw[hn,zk9 s_]
end
end Go.Proofs.YthohlnmcjkjeiaaGreatDoor
