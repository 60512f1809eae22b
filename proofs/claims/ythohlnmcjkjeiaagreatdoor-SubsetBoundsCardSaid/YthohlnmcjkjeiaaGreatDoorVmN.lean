/- Seat 8: Build, known: expressions told apart by their values. Conditions: none but those named. -/
import Derived.Test.YthohlnmcjkjeiaaGreatDoorVmG
import Derived.Test.YthohlnmcjkjeiaaGreatDoorVmH
import Derived.Test.YthohlnmcjkjeiaaGreatDoorVmJ
import Derived.Test.YthohlnmcjkjeiaaGreatDoorVmM
namespace Go.Proofs.YthohlnmcjkjeiaaGreatDoor
open Go Go.Vm
open Go.Proofs.Tryz
set_option maxRecDepth 100000
section
open Go.Vm.Sx
mutual
def Can:E->Prop
 | .mk _ _ _ _ _ _ _ _ _ nl args=>(nl=true->args=[])/\D3 args
def D3:List E->Prop
 | []=>True
 | e::l=>Can e/\D3 l
end
theorem zmq{nl Iy:Bool}{a b:aG}(h1:nl=true->a=[])(h2:Iy=true->b=[])(h:yT nl a=yT Iy b):a=b/\nl=Iy:=by
 unfold yT at h;cases nl with
 | true =>
  have:=h1 rfl;subst this;cases Iy with
  | true=>exact⟨(h2 rfl).symm,rfl⟩
  | false=>simp at h
 | false =>
  cases Iy with
  | true =>
   have:=h2 rfl;subst this;simp at h
  | false =>
   simp only[Ec,gh,bD] at h;injection h with _ h;exact⟨h,rfl⟩
mutual
theorem Ab:∀(e e':E),Can e->Can e'->enc e=enc e'->e=e'
 | .mk op pl s0 s1 s2 s3 tx mn mx nl args,.mk op' pl' s0' s1' s2' s3' tx' mn' mx' Iy AZ,h,h',he=>by
  simp only[enc] at he;injection he with he;simp only[List.cons.injEq,V.int.injEq,V.str.injEq,lJ,and_true] at he;obtain⟨e1,e2,e3,e4,e5,e6,e7,e8,e9,sq⟩:=he;obtain⟨f1,f2⟩:=zmq (λhn=>by rw[h.1 hn];rfl) (λhn=>by rw[h'.1 hn];rfl) sq
  have:=Bj args AZ h.2 h'.2 f1;subst e1 e2 e3 e4 e5 e6 e7 e8 e9 f2 this;rfl
theorem Bj:∀(l l':List E),D3 l->D3 l'->fO l=fO l'->l=l'
 | [],[],_,_,_=>rfl
 | [],_::_,_,_,h=>by simp[fO] at h
 | _::_,[],_,_,h=>by simp[fO] at h
 | a::l,b::l',h,h',he=>by
  simp only[fO,List.cons.injEq] at he;rw[Ab a b h.1 h'.1 he.1,Bj l l' h.2 h'.2 he.2]
end
def QJ(c:Cr):Prop:=Can c.1/\Can c.2.2
theorem zn9{c c':Cr}(h:QJ c)(h':QJ c')(he:DZ c=DZ c'):c=c':=by
 obtain⟨a,t,b⟩:=c;obtain⟨a',t',b'⟩:=c';simp only[DZ,mT,V.agg.injEq,bp] at he;have hl:(aR a).length=(aR a').length:=by rw[z7,z7]
 obtain⟨e1,e2⟩:=List.append_inj he hl;simp only[br,bt,List.cons.injEq,V.bool.injEq] at e2;have h1:=Ab a a' h.1 h'.1 (by rw[q9,q9,e1])
 have h2:=Ab b b' h.2 h'.2 (by rw[q9,q9,e2.2])
 subst h1 h2;rw[e2.1]
theorem zkA{nl Iy:Bool}:∀{l l':List Cr},(∀c∈l,QJ c)->(∀c∈l',QJ c)->jb nl l=jb Iy l'->l=l':=by
 intro l l' h h' he;have hm:l.map DZ=l'.map DZ:=by
  have e1:=zhh nl l;have e2:=zhh Iy l';rw[<- e1,he,e2]
 clear he
 induction l generalizing l' with
 | nil=>cases l' with
  | nil=>rfl
  | cons a l'=>simp at hm
 | cons a l ih=>cases l' with
  | nil=>simp at hm
  | cons b l' =>
   simp only[bk,List.cons.injEq] at hm;rw[zn9 (h a (fy ..)) (h' b (fy ..)) hm.1,ih (λc hc=>h c (eo _ hc)) (λc hc=>h' c (eo _ hc)) hm.2]
structure Iz(l:List Cr):Prop where
 len:l.length<=maxLen
 wf:∀c∈l,WfC c
 can:∀c∈l,QJ c
 YT:200<l.length\/∀c∈l,nodes c.1<=1800/\nodes c.2.2<=1800
open Classical in
noncomputable def NY(F:List Cr->V)(args:aG):cj :=
 if h:∃p:Bool×List Cr,Iz p.2/\args=[jb p.1 p.2] then some (F (Classical.choose h).2) else none
theorem zoa{F:List Cr->V}{nl:Bool}{l:List Cr}(h:Iz l):NY F [jb nl l]=some (F l):=by
 unfold NY;have hex:∃p:Bool×List Cr,Iz p.2/\[jb nl l]=[jb p.1 p.2]:=⟨(nl,l),h,rfl⟩;rw[dif_pos hex];have hs:=Classical.choose_spec hex;have e:=List.cons.inj hs.2;rw[zkA hs.1.can h.can e.1.symm]
theorem zkC{F:List Cr->V}{args:aG}{v:V}(h:NY F args=some v):∃nl l,Iz l/\args=[jb nl l]/\v=F l:=by
 unfold NY at h;split at h
 next hex=>have hs:=Classical.choose_spec hex;exact⟨_,_,hs.1,hs.2,(BQ h).symm⟩
 ·cases h
theorem YU{f:FuncId}{back:Bool}{ty:Nat}(_h:ty<1048576):eg (Ge f back ty)=false:=by
 have hk:∀n:Nat,n<1099511627776->Nat.beq (Ge f back ty) n=false:=λn hn=>by
  cases hb:Nat.beq (Ge f back ty) n with
  | false=>rfl
  | true =>
   have:=fo hb;simp only[Ge] at this;omega
 simp only[eg,hk _ (show(115:Nat)<1099511627776 by decide),hk _ (show(157:Nat)<1099511627776 by decide),hk _ (show(117:Nat)<1099511627776 by decide),hk _ (show w8 205<1099511627776 by decide),Bool.or_false]
def NZ:Gl:={ g:=fj,hk:=λ_ _=>none }
theorem YV:GK NZ []:=⟨λ_ _ _=>rfl,λ_ _ _ _ _=>rfl,λ_=>rfl⟩
theorem Fj:nt prog NZ:=⟨λf args v h=>(by cases h),λn f args H out H' h=>(by cases h),λ_ _ _ _ h=>(by cases h)⟩
def T6(l:List Cr):V:=.bx [.int .i64 (xe l).1,.bool (xe l).2]
noncomputable def JQ:Gl:={ g:=fj,uq:=eg,hk:=λf args=>if Nat.beq f 54 then NY T6 args else none }
theorem hkb:nt prog JQ:=by
 refine⟨λf args v h d H g w bG lc h1 h2 h3=>?_,λn f args H out H' h=>(by cases h),λ_ _ _ r_ h=>(by rw[show JQ.uq=eg from rfl,YU r_] at h;cases h)⟩
 simp only[JQ] at h;split at h
 next hf=>obtain rfl:f=54:=fo hf;obtain⟨nl,l,hg,rfl,rfl⟩:=zkC h;obtain⟨k,hk⟩:=A2.Yw YV rfl rfl nl l hg.len hg.wf;exact xC mixed gK ff Fj (hk k (dB _) ⟨[],[]⟩) (by simp[aL,zeT]) rfl h1 h2 h3
 ·cases h
theorem GWb:GW JQ where
 uq:=rfl
 fq:=λ_ _ _ _=>rfl
 tab:=λo ho=>by
  show HQ 396 ks [(4,A5)] 4 o=nth A5 o;rfl
 hk:=λf args h=>by
  show(if Nat.beq f 54 then NY T6 args else none)=none
  rw[if_neg];intro hf;have:=fo hf;subst this;revert h;decide
end
section
open Go.Vm.Sx
def IA(l:List Cr):Fo :=
 ⟨(qq (xe l).1.toNat 0 (l.map fh) m0).2.sets,(qq (xe l).1.toNat 0 (l.map fh) m0).2.rules,(qq (xe l).1.toNat 0 (l.map fh) m0).1.map (·.map Int.ofNat),(qq (xe l).1.toNat 0 (l.map fh) m0).2.next.map λp=>(jl p 19).map Int.ofNat⟩
def YW:V:=.dX 396 (.obj 0)
def YX:V:=.dX 396 (.obj 1)
def bA(l:List Cr):aG:=bif (xe l).2 then (if 1000<(xe l).1 then zF else Qh (IA l)) else zF
def bE(l:List Cr):V:=bif (xe l).2 then (if 1000<(xe l).1 then YX else .bP) else YW
def bV(l:List Cr):V:=.bx [.agg (bA l),bE l]
theorem QK{n:Nat}{e:aD}{xs:aG}:bg (zm n e xs)=lv n true xs:=by cases xs<;>rfl
theorem zjD(l:bO):jJ l=nv (l.map Int.ofNat):=by
 unfold jJ nv;rw[QK,List.map_map];rfl
theorem CH:∀(l:List Cr)(p:Int),(∀c∈l,nodes c.1<=1800/\nodes c.2.2<=1800)->0<=p->p<=1001->(nu p l).2=true->(nu p l).1<=1000->(nu p l).1=p+(mN (l.map fh):Int)/\p<=1000/\∀e∈l.map fh,gd e=true
 | [],p,_,h0,h1,_,h2=>by
  simp only[nu] at h2 ⊢;exact⟨by simp[mN],h2,λe he=>by cases he⟩
 | c::l,p,h,h0,h1,ek,h2=>by
  obtain⟨n1,n2⟩:=h c (fy ..);simp only[nu] at ek h2 ⊢;cases ho:CB c with
  | false=>rw[ho] at ek;cases ek
  | true =>
   rw[ho] at ek h2;simp only[oo] at ek h2 ⊢;have k1:=so c.1;have k2:=so c.2.2;have fD:∀e:E,nodes e<=4000->0<=vw e/\vw e<=1001:=λe he=>by
    rw[TT he];split
    ·split<;>omega
    ·omega
   have AQ:=fD c.1 (by omega)
   have Oy:=fD c.2.2 (by omega)
   have oC:Fz p c=if 1001<p+vw c.1+vw c.2.2 then 1001 else p+vw c.1+vw c.2.2:=by
    unfold Fz;rw[Nx (x:=p+vw c.1) (by omega) (by omega),Nx (by omega) (by omega)]
    by_cases h4:1001<p+vw c.1+vw c.2.2
    ·rw[Px h4,if_pos h4];rfl
    ·rw[WY (by omega),if_neg h4];rfl
   have hb:0<=Fz p c/\Fz p c<=1001:=by rw[oC];split<;>omega
   obtain⟨g1,g2,g3⟩:=CH l (Fz p c) (λc hc=>h c (eo _ hc)) hb.1 hb.2 ek h2;have h4:¬(1001<p+vw c.1+vw c.2.2):=λh4=>by rw[oC,if_pos h4] at g2;omega
   have JR:Fz p c=p+vw c.1+vw c.2.2:=by rw[oC,if_neg h4]
   rw[JR] at g2;simp only[CB,eF] at ho;obtain⟨o1,o2⟩:=ho;rw[zmd (by omega)] at o1
   have T7:=TT (show nodes c.1<=4000 by omega)
   rw[o1] at T7;simp only[aI] at T7;have QL:vw c.1=lE c.1:=by
    rw[T7]
    by_cases hx:1001<(lE c.1:Int)
    ·rw[if_pos hx] at T7;omega
    ·rw[if_neg hx]
   have Gu:gd (fh c)=true/\(lE (fh c):Int)=vw c.1+vw c.2.2:=by
    cases hb:c.2.1 with
    | false =>
     rw[hb] at o2;simp only[rB] at o2;have:fh c=c.1:=by simp[fh,hb]
     have hz:vw c.2.2=0:=by rw[TT (by omega),zme o2];rfl
     rw[this,hz,QL];exact⟨o1,by omega⟩
    | true =>
     rw[hb] at o2;simp only[oo] at o2;rw[zmd (by omega)] at o2
     have:fh c=.mk 5 0 0 0 0 0 [] 0 0 false [c.1,c.2.2]:=by simp[fh,hb]
     have T8:=TT (show nodes c.2.2<=4000 by omega)
     rw[o2] at T8;simp only[aI] at T8;have YY:vw c.2.2=lE c.2.2:=by
      rw[T8]
      by_cases hx:1001<(lE c.2.2:Int)
      ·rw[if_pos hx] at T8;omega
      ·rw[if_neg hx]
     have e1:lB (.mk 5 0 0 0 0 0 [] 0 0 false [c.1,c.2.2])=true:=rfl;have e2:fU (.mk 5 0 0 0 0 0 [] 0 0 false [c.1,c.2.2])=true:=rfl;rw[this,QL,YY];refine⟨by simp only[gd,e1,e2,JJ,o1,o2,Bool.and_self],?_⟩
     simp only[lE,iO,show((5:Int) == 2)=false from rfl,gh,bD];omega
   refine⟨?_,by omega,λe he=>?_⟩
   ·rw[g1,JR];simp only[bk,mN]
    push_cast
    omega
   ·simp only[bk,dM] at he;rcases he with rfl|he
    ·exact Gu.1
    ·exact g3 e he
mutual
theorem Bk:∀e:E,wE e+2<=5 * nodes e
 | .mk _ _ _ _ _ _ _ _ _ _ args=>by
  have:=uG args;simp only[wE,nodes];omega
theorem uG:∀l:List E,DY l<=5 * fP l
 | []=>by simp[DY,fP]
 | a::l=>by
  have:=Bk a;have:=uG l;simp only[DY,fP];omega
end
theorem zhn(nl:Bool)(l:List Cr)(h:Iz l):∃u H',zj prog JQ 30001 14 [jb nl l] ⟨[],[]⟩=some (.ret u,H')/\mG H' u (bV l):=by
 have hm:JQ.hk 54 [jb nl l]=some (T6 l):=zoa h;have g0:JQ.g 0 0=some YW:=by kernel_rfl
 have g1:JQ.g 1 0=some YX:=by kernel_rfl
 obtain⟨p,ok,Ac⟩:∃p ok,xe l=(p,ok):=⟨_,_,rfl⟩;rw[T6,Ac] at hm;simp only at hm
 by_cases lR:ok=false\/1000<p
 ·refine⟨_,_,zky GWb (n:=30000) (by omega) hm g0 g1 rfl rfl ⟨_,_,rfl⟩ ⟨_,_,rfl⟩ lR,?_⟩
  have:bV l=.bx [.agg zF,if ok then YX else YW]:=by
   rw[bV,bA,bE,Ac];cases ok with
   | false=>rfl
   | true =>
    have:1000<p:=by rcases lR with h|h;cases h;exact h
    simp only[oo,if_pos this,aI]
  rw[this];exact .same (by cases ok<;>rfl)
 ·have ek:ok=true:=by cases ok with
   | false=>exact absurd (.inl rfl) lR
   | true=>rfl
  subst ek;have hp:p<=1000:=by
   rcases Int.lt_or_le 1000 p with h|h
   ·exact absurd (.inr h) lR
   ·exact h
  have hlen:l.length<=200/\nu 0 l=(p,true):=by
   unfold xe at Ac;cases hx:dV 200 (l.length:Int) with
   | true=>rw[hx] at Ac;simp at Ac
   | false =>
    rw[hx] at Ac;simp only[rB] at Ac;refine⟨?_,Ac⟩;rcases eY 200 l.length with hh|hh
    ·rw[Px (by omega)] at hx;cases hx
    ·exact hh
  have FG:∀c∈l,nodes c.1<=1800/\nodes c.2.2<=1800:=by
   rcases h.YT with hh|hh
   ·omega
   ·exact hh
  obtain⟨m1,_,m3⟩:=CH l 0 FG (by omega) (by omega) (by rw[hlen.2]) (by rw[hlen.2];exact hp)
  rw[hlen.2] at m1;simp only[Int.zero_add] at m1;obtain⟨k,rfl⟩:∃k:Nat,p=k:=⟨mN (l.map fh),m1⟩;have hkn:k=mN (l.map fh):=by omega
  obtain⟨r1,r2,r3⟩:=Yh (n:=k) (l.map fh) 0 m0 m3 ⟨rfl,rfl⟩ (by simp[m0];omega) (by rw[iK];omega) (λx hx=>by simp[m0] at hx)
  have uT:∀c∈l,nodes (fh c)<=3601:=λc hc=>by
   obtain⟨a1,a2⟩:=FG c hc;unfold fh;split
   ·simp only[nodes,fP];omega
   ·omega
  obtain⟨H',N,hc,hN⟩:=zkz GWb (n:=30000) (k:=k) hm (by omega) hlen.1 (by rw[r1];simp[m0];omega) (zjv r2) (λc hc=>by have:=Bk (fh c);have:=uT c hc;omega) (by omega)
  refine⟨_,H',hc,?_⟩;have hbv:bV l=.bx [TS (IA l),.bP]:=by
   rw[bV,bA,bE,Ac];simp only[oo,if_neg (show ¬(1000<(k:Int)) by omega)]
   rfl
  have pq:IA l=⟨(qq k 0 (l.map fh) m0).2.sets,(qq k 0 (l.map fh) m0).2.rules,(qq k 0 (l.map fh) m0).1.map (·.map Int.ofNat),(qq k 0 (l.map fh) m0).2.next.map λp=>(jl p 19).map Int.ofNat⟩:=by
   rw[IA,Ac];simp only[uP]
  rw[hbv,pq];generalize hR:qq k 0 (l.map fh) m0=R at *;obtain⟨FT,MT⟩:=R;simp only at hN r2 ⊢;have FA:=zjv r2;have e1:bg (zm 4 50 MT.lC)=TR MT.sets:=QK;have e2:bg (zm 1 3 MT.fW)=nv MT.rules:=QK;have e3:bg (zm 1 27 (FT.map jJ))=GL (FT.map (·.map Int.ofNat)):=by
   rw[QK,GL,List.map_map]
   congr 1
   exact List.map_congr_left λa _=>zjD a
  rw[e1,e2,e3];have cC:∀p∈MT.next,nv ((jl p 19).map Int.ofNat)=.sl 1 ((jl p 19).map Fw) .no:=λp hp=>by
   have cK:=FA p hp;rw[<- zjD];unfold jJ;cases hx:jl p 19 with
   | nil=>exact absurd hx cK
   | cons a b=>rfl
  have e4:mG H' (bg (zm 1 27 N)) (GL (MT.next.map λp=>(jl p 19).map Int.ofNat)):=by
   rw[QK,GL,List.map_map];cases hx:MT.next with
   | nil =>
    have:N=[]:=G0 (by rw[hN.1,hx];rfl)
    rw[this];exact .same rfl
   | cons a b =>
    have hNn:N≠[]:=λe=>by have:=hN.1;rw[e,hx] at this;simp at this
    have tG:lv 1 true N=.sl 1 N .no:=by
     cases N with
     | nil=>exact absurd rfl hNn
     | cons x y=>rfl
    rw[tG,<- hx];have Gq:lv 1 true (MT.next.map ((nv ∘ λp=>(jl p 19).map Int.ofNat)))=.sl 1 (MT.next.map ((nv ∘ λp=>(jl p 19).map Int.ofNat))) .no:=by rw[hx];rfl
    rw[Gq];refine .sl (by rw[iK,hN.1]) (λj x hj=>?_) (λj y hj=>?_) (λj x y hj hy=>?_)
    ·have Av:j<MT.next.length:=by rw[<- hN.1];exact(dA.1 hj).1
     obtain⟨bb,f1,f2⟩:=hN.2 j _ (gG Av);rw[hj] at f1;cases f1;exact⟨rfl,rfl⟩
    ·rw[mu] at hj;obtain⟨q,hq,rfl⟩:=mS.1 hj;simp only[Function.comp_apply,cC q (pG hq)];exact⟨rfl,rfl⟩
    ·rw[mu] at hy;obtain⟨q,hq,rfl⟩:=mS.1 hy;obtain⟨bb,f1,f2⟩:=hN.2 j q hq;rw[hj] at f1;cases f1;simp only[Function.comp_apply,cC q (pG hq)];have hf:=mG.sr (H:=H') (b:=bb) (off:=0) (len:=(jl q 19).length) (cap:=(jl q 19).length) (cs:=(jl q 19).map Fw) (t:=3) (by rw[<- zg];exact f2) (wo (λ_=>rfl) _) (by simp)
     rwa [ny,su (by simp)] at hf
  refine .bx rfl λj x y hx hy=>?_
  match j,hx,hy with
  | 0,hx,hy =>
   cases hx;cases hy;refine .agg rfl (λi y hy=>?_) λi x y hx hy=>?_
   ·have:∀sz nl (l:aG),(lv sz nl l).one=true:=λsz nl l=>by
     rcases cO sz nl l with h|⟨_,h⟩<;>rw[h]<;>rfl
    match i,hy with
    | 0,hy=>cases hy;exact this ..
    | 1,hy=>cases hy;exact this ..
    | 2,hy=>cases hy;exact this ..
    | 3,hy=>cases hy;exact this ..
    | i+4,hy=>simp[Qh] at hy
   ·match i,hx,hy with
    | 0,hx,hy=>cases hx;cases hy;exact .same (zn3 _)
    | 1,hx,hy=>cases hx;cases hy;exact .same (zmc _)
    | 2,hx,hy=>cases hx;cases hy;exact .same (zn2 _)
    | 3,hx,hy=>cases hx;cases hy;exact e4
    | i+4,hx,hy=>simp at hx
  | 1,hx,hy=>cases hx;cases hy;exact .same rfl
  | j+2,hx,hy=>simp at hx
end
section
open Go.RowKit Go.ChangeAt Go.WideShapes
set_option maxRecDepth 1000000
def sD:Nat×aG:=(5,[.dX 275 (.agg [.eV 19 37])])
def JS:Nat->Nat->cj:=HQ 396 ks [(4,A5),sD]
theorem QM{k off:Nat}{v:V}(h:fj k off=some v):JS k off=some v:=by
 have h':=h;unfold fj HQ at h';unfold JS HQ;simp only[Nq,sD] at h' ⊢;cases h4:Nat.beq k 4 with
 | true=>simp only[h4] at h' ⊢;exact h'
 | false =>
  simp only[h4] at h' ⊢;cases h5:Nat.beq k 5 with
  | false=>exact h'
  | true =>
   exfalso;have:=fo h5;subst this;unfold Nm at h';revert h';simp[ks]
theorem zp6{g:Gh}(h:iu prog JS g):iu prog fj g :=
 ⟨λk off v hv=>h.1 k off v (QM hv),λk U j hv=>⟨(h.2 k U j (QM hv)).1,λk' U' j' lV e=>(h.2 k U j (QM hv)).2 k' U' j' (QM lV) e⟩⟩
def zp7(f:FuncId)(args:aG):cj:=if Nat.beq f 123 then match args with
 | [.dX 396 (.obj i),.dX 396 (.obj j)]=>if ks.any (Nat.beq i) && ks.any (Nat.beq j) then some (.bool (Nat.beq i j)) else none
 | _=>none else none
def zp8(_:Nat)(f:FuncId)(args:aG)(H:Hp):Option (Out×Hp):=if Nat.beq f 99 then match args with
 | [.dX 396 (.obj _),.dX tt (.ptr _ _)]=>if Nat.beq tt 167 || Nat.beq tt 171 || Nat.beq tt 176 || Nat.beq tt 180 then some (.ret (.bool false),H) else none
 | _=>none else none
def T9:Gl:={ g:=JS,hk:=zp7,fq:=zp8 }
theorem YZ{k:Nat}(h:ks.any (Nat.beq k)=true):JS k 0=some (.dX 396 (.obj k)):=by
 refine QM ?_;obtain⟨x,hx,hk⟩:=List.any_eq_true.1 h;obtain rfl:=fo hk;simp only[ks,dM,uh,tB] at hx;rcases hx with rfl|rfl|rfl|rfl|rfl|rfl|rfl|rfl|rfl|rfl|rfl|rfl|rfl|rfl|rfl|rfl<;>rfl
theorem rL{g:Gh}{n:Nat}{a b:V}{bG:dR}(h:eS g n [a,b] bG):∃x y,bG=#[x,y]/\aX g a x/\aX g b y:=by
 obtain⟨l⟩:=bG;have:=h.len
 match l,this with
 | [x,y],_=>exact⟨x,y,rfl,h.rel 0 a x rfl rfl,h.rel 1 b y rfl rfl⟩
theorem hkE:nt prog T9:=by
 refine⟨λf args v h d H g w bG lc h1 h2 h3=>?_,λn f args H out H' h d hd g w bG lc h1 h2 h3=>?_,λ_ _ _ _ h=>(by cases h)⟩
 ·simp only[T9,zp7] at h;split at h
  ·rename_i hf;obtain rfl:f=123:=fo hf;split at h
   ·rename_i i j;split at h
    ·rename_i hk;simp only[eF] at hk;cases h;obtain⟨x,y,rfl,r1,r2⟩:=rL h3;cases r1 with
     | dX r1=>cases r2 with
      | dX r2=>cases r1 with
       | obj _=>cases r2 with
        | obj _ =>
         have hA:=zcA (d:=d) h2 (Below.refl w.heap.size w);cases Hq:Nat.beq i j with
         | true =>
          obtain rfl:=fo Hq;refine Calls.mono (znT (g.obj i) w) λe w' he=>?_;obtain⟨rfl,rfl⟩:=he;exact⟨_,g,rfl,hA,.bool true,trivial,dP _⟩
         | false =>
          obtain⟨k1,k2⟩:=h1.2 i 396 i (YZ hk.1);obtain⟨k3,k4⟩:=h1.2 j 396 j (YZ hk.2);have cK:g.obj i≠g.obj j:=λe=>by
           have:=k2 j 396 j (YZ hk.2) e;subst this;simp at Hq
          obtain⟨⟨xs,t,l1⟩,_⟩:=h2.laid _ k1;obtain⟨⟨ys,t',l2⟩,_⟩:=h2.laid _ k3;refine Calls.mono (zlS (g.obj i) (g.obj j) xs ys t t' w cK l1 l2) λe w' he=>?_;obtain⟨rfl,rfl⟩:=he;exact⟨_,g,rfl,hA,.bool false,trivial,dP _⟩
    ·cases h
   ·cases h
  ·cases h
 ·simp only[T9,zp8] at h;split at h
  ·rename_i hf;obtain rfl:f=99:=fo hf;split at h
   ·rename_i i tt b o;split at h
    ·rename_i hk;cases h;obtain⟨x,y,rfl,r1,r2⟩:=rL h3;obtain⟨cv,m1,m2,_⟩:=h1.1 5 0 (.dX 275 (.agg [.eV 19 37])) rfl;have hc:cv=.iface 275 (.agg #[.pointer (some ⟨19,37,none⟩)]):=by
      cases m2 with
      | dX m=>cases m with
       | agg e1 e2 e3 =>
        rename_i arr;obtain⟨l⟩:=arr
        match l,e1 with
        | [z],_ =>
         have:=e3 0 _ z rfl rfl;cases this;rfl
     subst hc;have dy:=h2.mem 5 0 _ m1;have hF:En 167 165/\En 171 170/\En 176 175/\En 180 179:=⟨Lq,Lr,Ls,Lt⟩;have main:∀tt te,En tt te->aX g (.dX tt (.ptr b o)) y->Calls prog 99 #[x,y] w (fA d H g w lc (.ret (.bool false)) H):=λtt te F q2=>by
      clear r2;cases r1 with
      | dX r1=>cases q2 with
       | dX q2=>cases r1 with
        | obj _=>cases q2 with
         | ptr _ _ =>
          refine Calls.mono (znU F (g.obj i) _ w dy) λe w' he=>?_;obtain⟨rfl,rfl⟩:=he;refine⟨_,g,rfl,zcA h2 ?_,.bool false,trivial,dP _⟩;exact(((Below.refl _ w).alloc (dB _) _).alloc (by simp) _).alloc (by simp;omega) _
     simp only[tf] at hk;rcases hk with((hk|hk)|hk)|hk
     all_goals (have hh:=fo hk;subst hh)
     ·exact main _ _ hF.1 r2
     ·exact main _ _ hF.2.1 r2
     ·exact main _ _ hF.2.2.1 r2
     ·exact main _ _ hF.2.2.2 r2
    ·cases h
   ·cases h
  ·cases h
def JT(k:Int):V:=.agg [.int .i64 k,.int .i64 0,.int .i64 0,.int .i64 0,.aH]
end
end Go.Proofs.YthohlnmcjkjeiaaGreatDoor
