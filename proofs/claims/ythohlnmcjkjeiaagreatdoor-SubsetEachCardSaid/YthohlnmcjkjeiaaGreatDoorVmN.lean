/- Seat 8: Build, known: expressions told apart by their values. Conditions: none but those named. -/
import Derived.Test.YthohlnmcjkjeiaaGreatDoorVmG
import Derived.Test.YthohlnmcjkjeiaaGreatDoorVmH
import Derived.Test.YthohlnmcjkjeiaaGreatDoorVmJ
import Derived.Test.YthohlnmcjkjeiaaGreatDoorVmM
namespace Go.Proofs.YthohlnmcjkjeiaaGreatDoor
open Go Go.Vm
open Go.Proofs.Tryz
set_option maxRecDepth 100000
section
open Go.Vm.Sx
mutual
def Can:E->Prop
 | .mk _ _ _ _ _ _ _ _ _ nl args=>(nl=true->args=[])/\Eb args
def Eb:List E->Prop
 | []=>True
 | e::l=>Can e/\Eb l
end
theorem zmn{nl IU:Bool}{a b:aD}(h1:nl=true->a=[])(h2:IU=true->b=[])(h:ye nl a=ye IU b):a=b/\nl=IU:=by
 unfold ye at h;cases nl with
 | true =>
  have:=h1 rfl;subst this;cases IU with
  | true=>exact⟨(h2 rfl).symm,rfl⟩
  | false=>simp at h
 | false =>
  cases IU with
  | true =>
   have:=h2 rfl;subst this;simp at h
  | false =>
   simp only[EU,fP,bw] at h;injection h with _ h;exact⟨h,rfl⟩
mutual
theorem Ac:∀(e e':E),Can e->Can e'->enc e=enc e'->e=e'
 | .mk op pl s0 s1 s2 s3 tx mn mx nl args,.mk op' pl' s0' s1' s2' s3' tx' mn' mx' IU A7,h,h',he=>by
  simp only[enc] at he;injection he with he;simp only[Aq,V.int.injEq,V.str.injEq,iU,At] at he;obtain⟨e1,e2,e3,e4,e5,e6,e7,e8,e9,sg⟩:=he;obtain⟨f1,f2⟩:=zmn (λhn=>by rw[h.1 hn];rfl) (λhn=>by rw[h'.1 hn];rfl) sg
  have:=Br args A7 h.2 h'.2 f1;subst e1 e2 e3 e4 e5 e6 e7 e8 e9 f2 this;rfl
theorem Br:∀(l l':List E),Eb l->Eb l'->fe l=fe l'->l=l'
 | [],[],_,_,_=>rfl
 | [],_::_,_,_,h=>by simp[fe] at h
 | _::_,[],_,_,h=>by simp[fe] at h
 | a::l,b::l',h,h',he=>by
  simp only[fe,Aq] at he;rw[Ac a b h.1 h'.1 he.1,Br l l' h.2 h'.2 he.2]
end
def IV(c:Cr):Prop:=Can c.1/\Can c.2.2
theorem zn9{c c':Cr}(h:IV c)(h':IV c')(he:BS c=BS c'):c=c':=by
 obtain⟨a,t,b⟩:=c;obtain⟨a',t',b'⟩:=c';simp only[BS,iS,V.agg.injEq,bh] at he;have hl:(aK a).length=(aK a').length:=by rw[zZ,zZ]
 obtain⟨e1,e2⟩:=List.append_inj he hl;simp only[a_,bg,Aq,V.bool.injEq] at e2;have h1:=Ac a a' h.1 h'.1 (by rw[qA,qA,e1])
 have h2:=Ac b b' h.2 h'.2 (by rw[qA,qA,e2.2])
 subst h1 h2;rw[e2.1]
theorem zkB{nl IU:Bool}:∀{l l':List Cr},(∀c∈l,IV c)->(∀c∈l',IV c)->z0 nl l=z0 IU l'->l=l':=by
 intro l l' h h' he;have hm:l.map BS=l'.map BS:=by
  have e1:=zhy nl l;have e2:=zhy IU l';rw[<- e1,he,e2]
 clear he
 induction l generalizing l' with
 | nil=>cases l' with
  | nil=>rfl
  | cons a l'=>simp at hm
 | cons a l ih=>cases l' with
  | nil=>simp at hm
  | cons b l' =>
   simp only[aY,Aq] at hm;rw[zn9 (h a (eH ..)) (h' b (eH ..)) hm.1,ih (λc hc=>h c (dR _ hc)) (λc hc=>h' c (dR _ hc)) hm.2]
structure IW(l:List Cr):Prop where
 len:l.length<=maxLen
 wf:∀c∈l,Mb c
 can:∀c∈l,IV c
 nod:200<l.length\/∀c∈l,nodes c.1<=1800/\nodes c.2.2<=1800
open Classical in
noncomputable def Oh(F:List Cr->V)(args:aD):bX :=
 if h:∃p:Bool×List Cr,IW p.2/\args=[z0 p.1 p.2] then some (F (Classical.choose h).2) else none
theorem zoa{F:List Cr->V}{nl:Bool}{l:List Cr}(h:IW l):Oh F [z0 nl l]=some (F l):=by
 unfold Oh;have hex:∃p:Bool×List Cr,IW p.2/\[z0 nl l]=[z0 p.1 p.2]:=⟨(nl,l),h,rfl⟩;rw[dif_pos hex];have hs:=Classical.choose_spec hex;have e:=List.cons.inj hs.2;rw[zkB hs.1.can h.can e.1.symm]
theorem zkD{F:List Cr->V}{args:aD}{v:V}(h:Oh F args=some v):∃nl l,IW l/\args=[z0 nl l]/\v=F l:=by
 unfold Oh at h;split at h
 next hex=>have hs:=Classical.choose_spec hex;exact⟨_,_,hs.1,hs.2,(DH h).symm⟩
 ·cases h
theorem Zg{f:FuncId}{back:Bool}{ty:Nat}(_h:ty<1048576):fy (Gr f back ty)=false:=by
 have hk:∀n:Nat,n<1099511627776->Nat.beq (Gr f back ty) n=false:=λn hn=>by
  cases hb:Nat.beq (Gr f back ty) n with
  | false=>rfl
  | true =>
   have:=eU hb;simp only[Gr] at this;omega
 simp only[fy,hk _ (show(115:Nat)<1099511627776 by decide),hk _ (show(157:Nat)<1099511627776 by decide),hk _ (show(117:Nat)<1099511627776 by decide),hk _ (show vd 205<1099511627776 by decide),Bool.or_false]
def Oi:Gl:={ g:=lK,hk:=λ_ _=>none }
theorem Zh:GK Oi []:=⟨λ_ _ _=>rfl,λ_ _ _ _ _=>rfl,λ_=>rfl⟩
theorem FB:nW prog Oi:=⟨λf args v h=>(by cases h),λn f args H out H' h=>(by cases h),λ_ _ _ _ h=>(by cases h)⟩
def Ui(l:List Cr):V:=.bq [.int .i64 (yO l).1,.bool (yO l).2]
noncomputable def Kd:Gl:={ g:=lK,uq:=fy,hk:=λf args=>if Nat.beq f 54 then Oh Ui args else none }
theorem hkb:nW prog Kd:=by
 refine⟨λf args v h d H g w bx lc h1 h2 h3=>?_,λn f args H out H' h=>(by cases h),λ_ _ _ s7 h=>(by rw[show Kd.uq=fy from rfl,Zg s7] at h;cases h)⟩
 simp only[Kd] at h;split at h
 next hf=>obtain rfl:f=54:=eU hf;obtain⟨nl,l,hg,rfl,rfl⟩:=zkD h;obtain⟨k,hk⟩:=A2.YU Zh rfl rfl nl l hg.len hg.wf;exact Py mixed iK fO FB (hk k (dI _) ⟨[],[]⟩) (by simp[aI,zeY]) rfl h1 h2 h3
 ·cases h
theorem GWb:GW Kd where
 uq:=rfl
 fG:=λ_ _ _ _=>rfl
 tab:=λo ho=>by
  show Ii 396 ks [(4,Bb)] 4 o=nth Bb o;rfl
 hk:=λf args h=>by
  show(if Nat.beq f 54 then Oh Ui args else none)=none
  rw[if_neg];intro hf;have:=eU hf;subst this;revert h;decide
end
section
open Go.Vm.Sx
def IX(l:List Cr):Fo :=
 ⟨(qt (yO l).1.toNat 0 (l.map ff) m0).2.bZ,(qt (yO l).1.toNat 0 (l.map ff) m0).2.rules,(qt (yO l).1.toNat 0 (l.map ff) m0).1.map (·.map Int.ofNat),(qt (yO l).1.toNat 0 (l.map ff) m0).2.next.map λp=>(jh p 19).map Int.ofNat⟩
def Zi:V:=.ec 396 (.obj 0)
def Zj:V:=.ec 396 (.obj 1)
def bA(l:List Cr):aD:=bif (yO l).2 then (if 1000<(yO l).1 then zF else QF (IX l)) else zF
def bE(l:List Cr):V:=bif (yO l).2 then (if 1000<(yO l).1 then Zj else .bM) else Zi
def bV(l:List Cr):V:=.bq [.agg (bA l),bE l]
theorem Q8{n:Nat}{e:aB}{xs:aD}:aW (zl n e xs)=lv n true xs:=by cases xs<;>rfl
theorem zjD(l:bN):jH l=nv (l.map Int.ofNat):=by
 unfold jH nv;rw[Q8,List.map_map];rfl
theorem CV:∀(l:List Cr)(p:Int),(∀c∈l,nodes c.1<=1800/\nodes c.2.2<=1800)->0<=p->p<=1001->(m7 p l).2=true->(m7 p l).1<=1000->(m7 p l).1=p+(mH (l.map ff):Int)/\p<=1000/\∀e∈l.map ff,gd e=true
 | [],p,_,h0,h1,_,h2=>by
  simp only[m7] at h2 ⊢;exact⟨by simp[mH],h2,λe he=>by cases he⟩
 | c::l,p,h,h0,h1,ek,h2=>by
  obtain⟨n1,n2⟩:=h c (eH ..);simp only[m7] at ek h2 ⊢;cases ho:CO c with
  | false=>rw[ho] at ek;cases ek
  | true =>
   rw[ho] at ek h2;simp only[mJ] at ek h2 ⊢;have k1:=r9 c.1;have k2:=r9 c.2.2;have fu:∀e:E,nodes e<=4000->0<=vv e/\vv e<=1001:=λe he=>by
    rw[T_ he];split
    ·split<;>omega
    ·omega
   have AZ:=fu c.1 (by omega)
   have OP:=fu c.2.2 (by omega)
   have nY:FO p c=if 1001<p+vv c.1+vv c.2.2 then 1001 else p+vv c.1+vv c.2.2:=by
    unfold FO;rw[Es (x:=p+vv c.1) (by omega) (by omega),Es (by omega) (by omega)]
    by_cases h4:1001<p+vv c.1+vv c.2.2
    ·rw[JQ h4,if_pos h4];rfl
    ·rw[Xo (by omega),if_neg h4];rfl
   have hb:0<=FO p c/\FO p c<=1001:=by rw[nY];split<;>omega
   obtain⟨g1,g2,g3⟩:=CV l (FO p c) (λc hc=>h c (dR _ hc)) hb.1 hb.2 ek h2;have h4:¬(1001<p+vv c.1+vv c.2.2):=λh4=>by rw[nY,if_pos h4] at g2;omega
   have Ke:FO p c=p+vv c.1+vv c.2.2:=by rw[nY,if_neg h4]
   rw[Ke] at g2;simp only[CO,eo] at ho;obtain⟨o1,o2⟩:=ho;rw[zmc (by omega)] at o1
   have Uj:=T_ (show nodes c.1<=4000 by omega)
   rw[o1] at Uj;simp only[aF] at Uj;have Q9:vv c.1=lH c.1:=by
    rw[Uj]
    by_cases hx:1001<(lH c.1:Int)
    ·rw[if_pos hx] at Uj;omega
    ·rw[if_neg hx]
   have GG:gd (ff c)=true/\(lH (ff c):Int)=vv c.1+vv c.2.2:=by
    cases hb:c.2.1 with
    | false =>
     rw[hb] at o2;simp only[oq] at o2;have:ff c=c.1:=by simp[ff,hb]
     have hz:vv c.2.2=0:=by rw[T_ (by omega),zmd o2];rfl
     rw[this,hz,Q9];exact⟨o1,by omega⟩
    | true =>
     rw[hb] at o2;simp only[mJ] at o2;rw[zmc (by omega)] at o2
     have:ff c=.mk 5 0 0 0 0 0 [] 0 0 false [c.1,c.2.2]:=by simp[ff,hb]
     have Uk:=T_ (show nodes c.2.2<=4000 by omega)
     rw[o2] at Uk;simp only[aF] at Uk;have Zk:vv c.2.2=lH c.2.2:=by
      rw[Uk]
      by_cases hx:1001<(lH c.2.2:Int)
      ·rw[if_pos hx] at Uk;omega
      ·rw[if_neg hx]
     have e1:lC (.mk 5 0 0 0 0 0 [] 0 0 false [c.1,c.2.2])=true:=rfl;have e2:fU (.mk 5 0 0 0 0 0 [] 0 0 false [c.1,c.2.2])=true:=rfl;rw[this,Q9,Zk];refine⟨by simp only[gd,e1,e2,J5,o1,o2,Bool.and_self],?_⟩
     simp only[lH,iL,show((5:Int) == 2)=false from rfl,fP,bw];omega
   refine⟨?_,by omega,λe he=>?_⟩
   ·rw[g1,Ke];simp only[aY,mH]
    push_cast
    omega
   ·simp only[aY,dH] at he;rcases he with rfl|he
    ·exact GG.1
    ·exact g3 e he
mutual
theorem Bs:∀e:E,wE e+2<=5 * nodes e
 | .mk _ _ _ _ _ _ _ _ _ _ args=>by
  have:=uD args;simp only[wE,nodes];omega
theorem uD:∀l:List E,D9 l<=5 * eR l
 | []=>by simp[D9,eR]
 | a::l=>by
  have:=Bs a;have:=uD l;simp only[D9,eR];omega
end
theorem zhE(nl:Bool)(l:List Cr)(h:IW l):∃u H',zj prog Kd 30001 14 [z0 nl l] ⟨[],[]⟩=some (.ret u,H')/\mC H' u (bV l):=by
 have hm:Kd.hk 54 [z0 nl l]=some (Ui l):=zoa h;have g0:Kd.g 0 0=some Zi:=by kernel_rfl
 have g1:Kd.g 1 0=some Zj:=by kernel_rfl
 obtain⟨p,ok,Ad⟩:∃p ok,yO l=(p,ok):=⟨_,_,rfl⟩;rw[Ui,Ad] at hm;simp only at hm
 by_cases iH:ok=false\/1000<p
 ·refine⟨_,_,zkx GWb (n:=30000) (by omega) hm g0 g1 rfl rfl ⟨_,_,rfl⟩ ⟨_,_,rfl⟩ iH,?_⟩
  have:bV l=.bq [.agg zF,if ok then Zj else Zi]:=by
   rw[bV,bA,bE,Ad];cases ok with
   | false=>rfl
   | true =>
    have:1000<p:=by rcases iH with h|h;cases h;exact h
    simp only[mJ,if_pos this,aF]
  rw[this];exact .same (by cases ok<;>rfl)
 ·have ek:ok=true:=by cases ok with
   | false=>exact absurd (.inl rfl) iH
   | true=>rfl
  subst ek;have hp:p<=1000:=by
   rcases Int.lt_or_le 1000 p with h|h
   ·exact absurd (.inr h) iH
   ·exact h
  have hlen:l.length<=200/\m7 0 l=(p,true):=by
   unfold yO at Ad;cases hx:dj 200 (l.length:Int) with
   | true=>rw[hx] at Ad;simp at Ad
   | false =>
    rw[hx] at Ad;simp only[oq] at Ad;refine⟨?_,Ad⟩;rcases eX 200 l.length with hh|hh
    ·rw[JQ (by omega)] at hx;cases hx
    ·exact hh
  have FY:∀c∈l,nodes c.1<=1800/\nodes c.2.2<=1800:=by
   rcases h.nod with hh|hh
   ·omega
   ·exact hh
  obtain⟨m1,_,m3⟩:=CV l 0 FY (by omega) (by omega) (by rw[hlen.2]) (by rw[hlen.2];exact hp)
  rw[hlen.2] at m1;simp only[Int.zero_add] at m1;obtain⟨k,rfl⟩:∃k:Nat,p=k:=⟨mH (l.map ff),m1⟩;have hkn:k=mH (l.map ff):=by omega
  obtain⟨r1,r2,r3⟩:=YH (n:=k) (l.map ff) 0 m0 m3 ⟨rfl,rfl⟩ (by simp[m0];omega) (by rw[gC];omega) (λx hx=>by simp[m0] at hx)
  have uT:∀c∈l,nodes (ff c)<=3601:=λc hc=>by
   obtain⟨a1,a2⟩:=FY c hc;unfold ff;split
   ·simp only[nodes,eR];omega
   ·omega
  obtain⟨H',N,hc,hN⟩:=zkA GWb (n:=30000) (k:=k) hm (by omega) hlen.1 (by rw[r1];simp[m0];omega) (zjv r2) (λc hc=>by have:=Bs (ff c);have:=uT c hc;omega) (by omega)
  refine⟨_,H',hc,?_⟩;have hbv:bV l=.bq [T9 (IX l),.bM]:=by
   rw[bV,bA,bE,Ad];simp only[mJ,if_neg (show ¬(1000<(k:Int)) by omega)]
   rfl
  have oS:IX l=⟨(qt k 0 (l.map ff) m0).2.bZ,(qt k 0 (l.map ff) m0).2.rules,(qt k 0 (l.map ff) m0).1.map (·.map Int.ofNat),(qt k 0 (l.map ff) m0).2.next.map λp=>(jh p 19).map Int.ofNat⟩:=by
   rw[IX,Ad];simp only[uP]
  rw[hbv,oS];generalize hR:qt k 0 (l.map ff) m0=R at *;obtain⟨FT,MT⟩:=R;simp only at hN r2 ⊢;have FP:=zjv r2;have e1:aW (zl 4 50 MT.lG)=T8 MT.bZ:=Q8;have e2:aW (zl 1 3 MT.fW)=nv MT.rules:=Q8;have e3:aW (zl 1 27 (FT.map jH))=GX (FT.map (·.map Int.ofNat)):=by
   rw[Q8,GX,List.map_map]
   congr 1
   exact List.map_congr_left λa _=>zjD a
  rw[e1,e2,e3];have b_:∀p∈MT.next,nv ((jh p 19).map Int.ofNat)=.sl 1 ((jh p 19).map FL) .no:=λp hp=>by
   have cI:=FP p hp;rw[<- zjD];unfold jH;cases hx:jh p 19 with
   | nil=>exact absurd hx cI
   | cons a b=>rfl
  have e4:mC H' (aW (zl 1 27 N)) (GX (MT.next.map λp=>(jh p 19).map Int.ofNat)):=by
   rw[Q8,GX,List.map_map];cases hx:MT.next with
   | nil =>
    have:N=[]:=He (by rw[hN.1,hx];rfl)
    rw[this];exact .same rfl
   | cons a b =>
    have hNn:N≠[]:=λe=>by have:=hN.1;rw[e,hx] at this;simp at this
    have so:lv 1 true N=.sl 1 N .no:=by
     cases N with
     | nil=>exact absurd rfl hNn
     | cons x y=>rfl
    rw[so,<- hx];have GA:lv 1 true (MT.next.map ((nv ∘ λp=>(jh p 19).map Int.ofNat)))=.sl 1 (MT.next.map ((nv ∘ λp=>(jh p 19).map Int.ofNat))) .no:=by rw[hx];rfl
    rw[GA];refine .sl (by rw[gC,hN.1]) (λj x hj=>?_) (λj y hj=>?_) (λj x y hj hy=>?_)
    ·have AG:j<MT.next.length:=by rw[<- hN.1];exact(c_.1 hj).1
     obtain⟨bb,f1,f2⟩:=hN.2 j _ (gh AG);rw[hj] at f1;cases f1;exact⟨rfl,rfl⟩
    ·rw[iY] at hj;obtain⟨q,hq,rfl⟩:=m9.1 hj;simp only[Function.comp_apply,b_ q (m_ hq)];exact⟨rfl,rfl⟩
    ·rw[iY] at hy;obtain⟨q,hq,rfl⟩:=m9.1 hy;obtain⟨bb,f1,f2⟩:=hN.2 j q hq;rw[hj] at f1;cases f1;simp only[Function.comp_apply,b_ q (m_ hq)];have hf:=mC.sr (H:=H') (b:=bb) (off:=0) (len:=(jh q 19).length) (cap:=(jh q 19).length) (cs:=(jh q 19).map FL) (t:=3) (by rw[<- zg];exact f2) (wu (λ_=>rfl) _) (by simp)
     rwa [mg,p9 (by simp)] at hf
  refine .bq rfl λj x y hx hy=>?_
  match j,hx,hy with
  | 0,hx,hy =>
   cases hx;cases hy;refine .agg rfl (λi y hy=>?_) λi x y hx hy=>?_
   ·have:∀sz nl (l:aD),(lv sz nl l).one=true:=λsz nl l=>by
     rcases cH sz nl l with h|⟨_,h⟩<;>rw[h]<;>rfl
    match i,hy with
    | 0,hy=>cases hy;exact this ..
    | 1,hy=>cases hy;exact this ..
    | 2,hy=>cases hy;exact this ..
    | 3,hy=>cases hy;exact this ..
    | i+4,hy=>simp[QF] at hy
   ·match i,hx,hy with
    | 0,hx,hy=>cases hx;cases hy;exact .same (zn2 _)
    | 1,hx,hy=>cases hx;cases hy;exact .same (zmb _)
    | 2,hx,hy=>cases hx;cases hy;exact .same (zn1 _)
    | 3,hx,hy=>cases hx;cases hy;exact e4
    | i+4,hx,hy=>simp at hx
  | 1,hx,hy=>cases hx;cases hy;exact .same rfl
  | j+2,hx,hy=>simp at hx
end
section
open Go.RowKit Go.ChangeAt Go.WideShapes
set_option maxRecDepth 1000000
def s9:Nat×aD:=(5,[.ec 275 (.agg [.fq 19 37])])
def Ul:Nat->Nat->bX:=Ii 396 ks [(4,Bb),s9]
theorem Um{k off:Nat}{v:V}(h:lK k off=some v):Ul k off=some v:=by
 have h':=h;unfold lK Ii at h';unfold Ul Ii;simp only[NO,s9] at h' ⊢;cases h4:Nat.beq k 4 with
 | true=>simp only[h4] at h' ⊢;exact h'
 | false =>
  simp only[h4] at h' ⊢;cases h5:Nat.beq k 5 with
  | false=>exact h'
  | true =>
   exfalso;have:=eU h5;subst this;unfold NI at h';revert h';simp[ks]
theorem zqn{g:Gh}(h:iu prog Ul g):iu prog lK g :=
 ⟨λk off v hv=>h.1 k off v (Um hv),λk U j hv=>⟨(h.2 k U j (Um hv)).1,λk' U' j' lf e=>(h.2 k U j (Um hv)).2 k' U' j' (Um lf) e⟩⟩
theorem uk{g:Gh}{n:Nat}{a b:V}{bx:dN}(h:eP g n [a,b] bx):∃x y,bx=#[x,y]/\aR g a x/\aR g b y:=by
 obtain⟨l⟩:=bx;have:=h.len
 match l,this with
 | [x,y],_=>exact⟨x,y,rfl,h.rel 0 a x rfl rfl,h.rel 1 b y rfl rfl⟩
end
end Go.Proofs.YthohlnmcjkjeiaaGreatDoor
