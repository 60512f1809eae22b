/- Vm: append. Conditions: none but those named. -/
import Derived.Laws.MakeOwn
import Derived.Scope
import Derived.LoopN
import Derived.Recover
import Derived.RangeFuncOwn
import Derived.RangeFuncLeaves
import Derived.RangeFuncRecord
import Derived.Test.YtlnijcffanjieaaGreatDoorVmA
set_option linter.defProp false
namespace Go.Vm
open Go
section
variable{P:aD}{B:dK}{g:Gh}{s:St}{a:Act}{w:aB}
def zfu(h:Rel B g s a w){e sz:Nat}{xs:aj}{ow:Own}{cv:aP}{vs:dy}(hr:aL g (.sl sz xs ow) cv)(ho:w.ownsRow 0 e sz cv xs.length vs):bz g (zL xs) vs:=by
 cases hr with
 | sl f h1 h2 h3 h4 h5 h6 =>
  rename_i ad cap c o;refine⟨by rw[qd h1,ho.1],h4,λj x v hx hv=>?_⟩
  have cg:xs≠[]:=by rintro rfl;simp[zL] at hx
  have e1:=h3 cg;subst e1;have P3:=ho;obtain⟨_,Mp⟩:=P3;rcases Mp with⟨e2,_⟩|⟨c',o5,cur,e2,_⟩
  ·cases e2
  ·cases e2;have:=ho.cells (g:=c) rfl j v hv;rw[Addr.add_lit] at this;have hm:=h.bW.mem _ _ _ (h5 j x hx);rw[hm] at this;cases this;exact h6 j x hx
def Gh.NQ(n:Nat){g:Gh}{w:aB}(hm:∀c o v,g.M c o=some v->w.cell? ⟨c,o,none⟩=some v)(vs:dy)(l:Option Loc):Gh.Le n g (g.row w.heap.size vs l):=by
 refine⟨λc o v hv=>?_,λ_ _=>rfl,rfl,λ_ _ _ _ e=>e⟩;have:=wP (hm c o v hv);simp only[Gh.row];rw[if_neg (by omega)]
 exact hv
def zhC(h:Rel B g s a w){e sz:Nat}{z:aP}{zs:aj}{vs:dy}(H_:∀y:V,y∈zs->y.cells.length=sz)(dA:bz g (zL zs) vs)(ht:aA zs<=s.H.af.length)(hz:z.cells.size=sz)(NR:zs.length<=maxLen)(old:Nat)(l:Loc){arr:cO}(k_:arr.toList=vs) :
  ∃g',Rel B g' s a (w.drew.alloc (.cells (arr++Builtin.zeroCells z.cells (grownCap w zs.length old e - zs.length)) e))/\aL g' (.sl sz zs (.yes e)) (.slice (some ⟨w.heap.size,0,none⟩) zs.length (grownCap w zs.length old e)) /\
   iW g' s.H.af.length (w.drew.alloc (.cells (arr++Builtin.zeroCells z.cells (grownCap w zs.length old e - zs.length)) e)) l e sz zs.length (.slice (some ⟨w.heap.size,0,none⟩) zs.length (grownCap w zs.length old e)):=by
 have hlen:vs.length=zs.length * sz:=by rw[<- dA.len,qd H_]
 have oL:arr.size=zs.length * sz:=by rw[<- hlen,<- k_];simp
 have tH:=grownCap_ge w zs.length old e;generalize tJ:grownCap w zs.length old e=cap at tH ⊢;have sZ:cap<=maxLen:=by rw[<- tJ];exact grownCap_le_maxLen w _ old e NR
 generalize nC:arr++Builtin.zeroCells z.cells (cap - zs.length)=cur;have fZ:(w.drew.alloc (.cells cur e)).heap[w.heap.size]?=some (.cells cur e (0,0)):=heap_alloc_new w.drew _;have eS:∀o v,vs[o]?=some v->(w.drew.alloc (.cells cur e)).cell? ⟨w.heap.size,o,none⟩=some v:=λo v hv=>by
  rw[cell_of_row _ _ _ cur _ _ fZ,<- nC];have ho:o<arr.size:=by rw[oL,<- hlen];exact(dW.1 hv).1
  rw[Array.getElem?_append_left ho,<- Me,k_];exact hv
 have hR:=h.settle vs (some l) (w':=w.drew.alloc (.cells cur e)) (by simp) (λc hc=>Go.heap_alloc_old w.drew _ hc) eS rfl rfl rfl
 refine⟨_,hR,aL.settled (n:=s.H.af.length) H_ tH dA (cR yl ht) (Gh.NQ _ h.bW.mem _ _),vs,⟨hlen,.inr ⟨w.heap.size,cap,cur,rfl,dJ _,fZ,tH,sZ,?_,?_⟩⟩,λc hc=>?_⟩
 ·rw[<- nC,Array.size_append,oL,size_zeroCells,hz,<- CA];congr 1;omega
 ·rw[<- nC,Array.toList_append,List.take_append_of_le_length (by simp;omega),k_]
  exact Af (by omega)
 ·simp only[Value.ownBlock,aO] at hc;subst hc;refine⟨by simp[Gh.row],λo ho=>?_,λb hb e=>?_⟩
  ·simp only[Gh.row,aT];exact tE (by omega)
  ·have:=h.bW.lt b hb;simp only[Gh.row] at e;omega
def bz.append{xs ys:aj}{vs news:dy}(hold:bz g (zL xs) vs)(dA:bz g (zL ys) news):bz g (zL (xs++ys)) (vs++news):=by
 simp only[zL,List.flatMap_append] at *;refine⟨by simp only[oI,hold.len,dA.len],λj x hx=>?_,λj x v hx cP=>?_⟩
 ·rcases iT j (xs.flatMap V.cells).length with h1|h1
  ·rw[nH h1] at hx;exact hold.one j x hx
  ·rw[nN h1] at hx;exact dA.one _ x hx
 ·rcases iT j (xs.flatMap V.cells).length with h1|h1
  ·rw[nH h1] at hx;rw[nH (by rw[<- hold.len];exact h1)] at cP
   exact hold.rel j x v hx cP
  ·rw[nN h1] at hx;rw[nN (by rw[<- hold.len];exact h1),<- hold.len] at cP
   exact dA.rel _ x v hx cP
def zi5(h:Rel B g s a w){e sz:Nat}{xs ys:aj}{news:dy}{cv:aP}(hv:aL g (.sl sz xs (.yes e)) cv){t0:Nat}(CF:s.env.length<=t0)(RO:t0<=s.env.length)(ho:iW g s.H.af.length w (.slot B.d t0) e sz xs.length cv)
  (H_:∀y:V,y∈xs++ys->y.cells.length=sz) (dA:bz g (zL ys) news) (ht:aA (xs++ys)<=s.H.af.length) (l:Loc) {c cap:Nat} {cur:cO} (nJ:cv=.slice (some ⟨c,0,none⟩) xs.length cap)
  (nC:w.heap[c]?=some (.cells cur e (0,0))) (mG:xs.length+ys.length<=cap) :
  ∃g',Rel B g' s a (w.setRow c (cur.toList.take (xs.length * sz)++news++cur.toList.drop (xs.length * sz+news.length)).toArray)/\aL g' (.sl sz (xs++ys) (.yes e)) (.slice (some ⟨c,0,none⟩) (xs.length+ys.length) cap) /\
   iW g' s.H.af.length (w.setRow c (cur.toList.take (xs.length * sz)++news++cur.toList.drop (xs.length * sz+news.length)).toArray) l e sz (xs.length+ys.length) (.slice (some ⟨c,0,none⟩) (xs.length+ys.length) cap):=by
 subst nJ;obtain⟨vs,Vo,Mp⟩:=ho;have hold:=zfu h hv Vo;obtain⟨E8,ho3⟩:=Vo;rcases ho3 with⟨e2,_⟩|⟨c',o5,akn,e2,_,um,hn,sZ,fR,Mq⟩
 ·cases e2
 cases e2;rw[nC] at um;cases um;obtain⟨YJ,YK,YL⟩:=Mp c rfl;have mq:news.length=ys.length * sz:=by rw[<- dA.len,qd λy hy=>H_ y (FQ _ hy)]
 have ako:xs.length * sz+ys.length * sz<=cap * sz:=by rw[<- CA];exact Nz _ mG
 generalize Ia:cur.toList.take (xs.length * sz)++news++cur.toList.drop (xs.length * sz+news.length)=L;have hL:L=(vs++news)++cur.toList.drop (xs.length * sz+news.length):=by rw[<- Ia,Mq]
 have bu:c<w.heap.size:=(ud.1 nC).1;have fZ:(w.setRow c L.toArray).heap[c]?=some (.cells L.toArray e (0,0)):=setRow_heap w c _ _ _ _ nC;have ur:∀c',c'≠c->(w.setRow c L.toArray).heap[c']?=w.heap[c']?:=λc' cg=>setRow_other w c c' _ cg;have oQ:(w.setRow c L.toArray).heap.size=w.heap.size:=setRow_size w c _
 have eS:∀o v,(vs++news)[o]?=some v->(w.setRow c L.toArray).cell? ⟨c,o,none⟩=some v:=λo v cP=>by
  rw[cell_of_row _ _ _ _ _ _ fZ,List.getElem?_toArray,hL,nH (dW.1 cP).1];exact cP
 have KY:∀o v,g.M c o=some v->(vs++news)[o]?=some v:=λo v hm=>by
  have bu:o<vs.length:=by
   rcases iT o (xs.length * sz) with h1|h1
   ·omega
   ·rw[YK o h1] at hm;cases hm
  rw[nH bu];have:=h.bW.mem _ _ _ hm;rw[cell_of_row w _ _ _ _ _ nC] at this;rw[<- Mq,Bk,if_pos (by omega)]
  simpa using this
 have hR:=h.KX CF RO YJ bu (vs++news) (some l) ur oQ eS KY rfl rfl rfl
 have hle:Gh.Le s.H.af.length g (g.grown c (vs++news) (some l)):=⟨λc' o v hm=>by
  simp only[Gh.grown];split
  next e=>subst e;exact KY o v hm
  ·exact hm,λ_ _=>rfl,rfl,λ_ _ _ _ e=>e⟩
 have dz:bz g (zL (xs++ys)) (vs++news):=hold.append dA;refine⟨_,hR,?_,vs++news,⟨by rw[oI,E8,mq,CA],.inr ⟨c,cap,L.toArray,rfl,dJ _,fZ,mG,sZ,?_,?_⟩⟩,λc' ez=>?_⟩
 ·rw[show xs.length+ys.length=(xs++ys).length by simp]
  refine .sl (c:=c) (o:=0) (λj=>(vs++news).getD j .nilFunc) H_ (by simpa using mG) (λ_=>rfl) dz.one (λj x hj=>?_) (λj x hj=>?_)
  ·obtain⟨v,cP,_⟩:=dz.get hj;simp[Gh.grown,cP,List.getD]
  ·obtain⟨v,cP,hr⟩:=dz.get hj;have:=hr.le hle (cR (zk (zy hj)) (cR yl ht));simpa[List.getD,cP] using this
 ·rw[<- fR];simp only[List.size_toArray,<- Ia,oI,tR,List.length_drop,DJ];omega
 ·rw[CA,<- mq,<- E8];simp only[hL];rw[List.take_append_of_le_length (by simp)]
  exact Af (by simp)
 ·simp only[Value.ownBlock,aO] at ez;subst ez;refine⟨by simp[Gh.grown],λo ho=>?_,λb hb e=>YL b hb e⟩
  simp only[Gh.grown,aT];exact tE (by rw[oI,E8,mq,<- CA];exact ho)
end
section
variable{P:aD}{B:dK}{g:Gh}{s:St}{a:Act}{w:aB}
def YM{e:ai}{n:Nat}{i:TypeInfo}(hn:z9 P e=some n)(hi:P.info? e=some i):i.size=n:=by
 simpa[z9,hi] using hn
def aL.Ib{sz:Nat}{xs:aj}{ow:Own}{cv:aP}(h:aL g (.sl sz xs ow) cv):∃base cap,cv=.slice base xs.length cap/\xs.length<=cap:=by
 cases h;exact⟨_,_,rfl,by assumption⟩
def aL.pV{cv:aP}(h:aL g .aU cv):cv=.slice none 0 0:=by
 cases h;rfl
def sk(h:Rel B g s a w){t ty:ai}{x y:aH}{yv v r:V}{bB:aj}
  (hy:aq s.env y=some yv) (hx:take s.env x=some (v,bB)) (hr:jN P s.H t v yv=some r) (l0:Nat) :
  ∃g' cv w',(Builtin.append_ #[t,t] ty #[a.eval x,a.eval y]).run P w=.ok cv w'/\Rel B g' { s with env:=bB } a w'/\aL g' r cv/\cq g' s.H.af.length w' (.slot B.d l0) r cv/\r.top<=s.H.af.length:=by
 obtain⟨y1,y3,_⟩:=zD h hy;unfold jN at hr;simp only[Option.bind_eq_bind,fy] at hr;obtain⟨td,ht,hr⟩:=hr;split at hr<;>try (cases hr;done)
 rename_i e;simp only[fy] at hr;obtain⟨n,hn,i,hi,z,hz,hr⟩:=hr;have uu:=YM hn hi;split at hr<;>try (cases hr;done)
 rename_i YN;have H_:z.cells.size=n:=eT (by simpa using YN)
 simp only[fy] at hr;obtain⟨ys,AQ,hr⟩:=hr;have RQ:=Vn h hn AQ y1 y3
 by_cases cg:ys=[]
 ·subst cg;obtain⟨ad,cap,AR,_⟩:=RQ.form;obtain⟨g1,h1,v1,v2,v3,DV⟩:=gN h hx (.slot B.d l0);have hzero:∃base DX DY,a.eval x=.slice base DX DY/\DX<=DY/\aL g1 r (a.eval x)/\cq g1 s.H.af.length w (.slot B.d l0) r (a.eval x)/\r.top<=s.H.af.length:=by
   split at hr
   ·simp only[aO] at hr;subst hr;have e:=v1.pV;exact⟨_,_,_,e,bV _,v1,trivial,dJ _⟩
   ·split at hr<;>simp only[aO,reduceCtorEq] at hr;rename_i hc;simp only[bN] at hc;have e1:=eT hc.1.1.1;have e2:=eT hc.1.1.2;subst e1;subst e2;subst hr;simp only[uf];obtain⟨base,cap,f1,f2⟩:=v1.Ib;exact⟨_,_,_,f1,f2,v1,v2,v3⟩
   ·cases hr
  obtain⟨base,DX,DY,e1,e2,r1,r2,r3⟩:=hzero;refine⟨g1,a.eval x,w,?_,h1,r1,r2,r3⟩;rw[AR];have:=wk (P:=P) (ty:=ty) ht hn (a.eval x) base DX DY e1 e2 ad cap w;exact this
 ·obtain⟨g1,h1,v1,v2,v3,DV⟩:=gN h hx (.slot B.d s.env.length);have lf:=Vn h1 (s:={ s with env:=bB }) hn AQ (DV.rel y1) y3;obtain⟨ad,cy,AR,nV⟩:=lf.form;obtain⟨a0,news,rfl,dA,f_⟩:=nV cg;have iq:0<ys.length:=NA.2 cg;have mq:news.length=ys.length * i.size:=by rw[<- dA.len,qd lf.sized,uu]
  have sn:∀u∈news,u.oneCell'=true:=λu hu=>by
   obtain⟨j,hj⟩:=List.getElem?_of_mem hu;have Ml:j<(zL ys).length:=by rw[dA.len];exact(dW.1 hj).1
   have hx:=lB Ml;exact(dA.rel j _ u hx hj).pQ (dA.one j _ hx)
  have uw:∀m,jJ m i.bytes=true->m<=maxLen/\m * i.bytes<=140737488355328:=λm hm=>by
   simp only[jJ,bN] at hm;exact⟨by have:=pO hm.1;simp only[maxLen];omega,pO hm.2⟩
  have oK:({ s with env:=bB }:St).env.length<=s.env.length:=by
   rw[h1.len,h.len];exact bV _
  have RR:s.env.length<=({ s with env:=bB }:St).env.length:=by
   rw[h1.len,h.len];exact bV _
  have fresh:∀(zs:aj),zs=ys->a.eval x=.slice none 0 0->jJ ys.length i.bytes=true->r=.sl n ys (.yes e) ->
    ∃g' cv w',(Builtin.append_ #[t,t] ty #[a.eval x,a.eval y]).run P w=.ok cv w'/\Rel B g' { s with env:=bB } a w'/\aL g' r cv/\cq g' s.H.af.length w' (.slot B.d l0) r cv/\r.top<=s.H.af.length:=by
   intro _ _ Qc KZ er;obtain⟨m1,m2⟩:=uw _ KZ;obtain⟨g2,k1,k2,k3⟩:=zhC h1 (e:=e) (sz:=n) (z:=z) lf.sized dA lf.aA H_ m1 0 (.slot B.d l0) (arr:=news.toArray) (by simp)
   refine⟨g2,_,_,?_,k1,by rw[er];exact k2,by rw[er];exact k3,by rw[er];exact lf.aA⟩
   rw[Qc,AR];exact run_append_nil (P:=P) w t ty e i z ht hi hz a0 ys.length cy news mq f_ iq (by simp only[maxLen] at m1;omega) (by omega)
  split at hr
  ·split at hr
   ·exact absurd rfl cg
   ·split at hr<;>simp only[aO,reduceCtorEq] at hr;rename_i hc;simp only[bN] at hc;have Qc:a.eval x=.slice none 0 0:=v1.pV;exact fresh ys rfl Qc hc.1 hr.symm
  ·split at hr<;>simp only[aO,reduceCtorEq] at hr;rename_i sz xs e' hc;simp only[bN] at hc;have e1:=eT hc.1.1.1;have e2:=eT hc.1.1.2;subst e1;subst e2;obtain⟨m1,m2⟩:=uw _ hc.2;have iE:iW g1 s.H.af.length w (.slot B.d s.env.length) e n xs.length (a.eval x):=v2;obtain⟨vs,ho,_⟩:=id iE;have hold:=zfu h1 v1 ho;have s4:∀y:V,y∈xs->y.cells.length=n:=by
    generalize a.eval x=c at v1;cases v1;assumption
   have dz:∀y:V,y∈xs++ys->y.cells.length=n:=λy hy=>(rO.1 hy).elim (s4 y) (lf.sized y);have pT:aA (xs++ys)<=s.H.af.length:=qU λy hy=>(rO.1 hy).elim (λh=>cR (zk h) v3) (λh=>cR (zk h) lf.aA);rcases id ho with⟨E8,⟨e3,e4⟩|⟨c,cap,cur,e3,_,nC,hle,sZ,DZ,iX⟩⟩
   ·have NO:xs=[]:=Md.1 e4;subst NO;exact fresh ys rfl e3 (by simpa using hc.2) (by simpa using hr.symm)
   ·by_cases Ic:xs.length+ys.length<=cap
    ·obtain⟨g2,k1,k2,k3⟩:=zi5 h1 v1 oK RR iE dz dA pT (.slot B.d l0) e3 nC Ic;refine⟨g2,_,_,?_,k1,by rw[<- hr];exact k2,by rw[<- hr];simpa[cq] using k3,by rw[<- hr];exact pT⟩
     rw[e3,AR];have:=run_append_room (P:=P) w t ty e i ht hi c xs.length cap cur nC a0 ys.length cy news mq f_ sn Ic (by rw[mq,uu,DZ,<- CA];exact Nz _ Ic)
     rw[uu] at this;exact this
    ·have RT:bz g1 (zL (xs++ys)) (vs++news):=hold.append dA;obtain⟨g2,k1,k2,k3⟩:=zhC h1 (e:=e) (sz:=n) (z:=z) dz RT pT H_ (by simpa using m1) cap (.slot B.d l0) (arr:=vs.toArray++news.toArray) (by simp)
     simp only[oI] at k1 k2 k3;refine⟨g2,_,_,?_,k1,by rw[<- hr];exact k2,by rw[<- hr];simpa[cq] using k3,by rw[<- hr];exact pT⟩
     rw[e3,AR];exact run_append_grow (P:=P) w t ty e i z ht hi hz ⟨c,0,none⟩ xs.length cap vs (by rw[E8,uu]) (ho.cells (by rw[e3];rfl)) a0 ys.length cy news mq f_ (by omega) (by simp only[maxLen] at m1;omega) (growslice_fits (by omega) m2)
  ·cases hr
end
section
variable{P:aD}{B:dK}{g:Gh}{s:St}{a:Act}{w:aB}
def fT(P:aD)(B:dK)(s':St)(a:Act)(w:aB)(o:Oper)(v:V):Prop :=
 ∃g' cv w',(execOp a.eval o).run P w=.ok (.value cv) w'/\F2 B g' s' a w' o.dst v cv
def zi6{w:aB}{c:Nat}{cs:cO}{t:ai}(h:w.heap[c]?=some (.cells cs t (0,0)))(k:Nat):(w.freeze { block:=c,off:=cs.size } 1).heap[k]?=if k=c then some (.cells cs t (cs.size,cs.size+1)) else w.heap[k]?:=by
 unfold World.freeze;simp only[Nat.one_ne_zero,aZ,Array.getElem?_modify]
 by_cases hk:k=c
 ·subst hk;simp[h]
 ·simp[hk,Ne.symm hk]
def zfi{P:aD}{t e:ai}{w:aB}{c len cap:Nat}{cs:cO}{et:ai}(hs:P.underlying t=some (.slice e))(h8:P.underlying e=some (.int .u8))(h:w.heap[c]?=some (.cells cs et (0,0))) :
  (convert t t (.slice (some ⟨c,0,none⟩) len cap)).run P w=.ok (.slice (some ⟨c,0,none⟩) len cap) (w.freeze { block:=c,off:=cs.size } 1):=by
 have hsh:w.shape? c=some (et,cs.size):=by simp[World.shape?,h]
 simp[convert,run_underlying hs,run_underlying h8,markStringish,shape,freeze,Sem.run,hsh]
def zoD(h:Rel B g s a w){src dst:ai}{x:aH}{o:Oper}{v:V}{bB:aj}(hm:vO P src dst x s.env=some (v,bB))(ho:o.op=.convert src dst x):fT P B { s with env:=bB } a w o v:=by
 unfold vO at hm;split at hm<;>try (cases hm;done)
 rename_i e AT hs;have YO:=eT AT;subst YO;split at hm<;>simp only[aO,reduceCtorEq,bP] at hm;rename_i sz y ys e' bT h8 ht;obtain⟨rfl,rfl⟩:=hm;obtain⟨g',k1,k2,k3,k4,_⟩:=gN h ht (.slot B.d s.env.length);have hlen:bT.length=s.env.length:=by
  have:=k1.len.trans h.len.symm;simpa using this
 have k3':iW g' s.H.af.length w (.slot B.d s.env.length) e' sz (y::ys).length (a.eval x):=k3;obtain⟨vs,⟨_,gU⟩,iE⟩:=k3';rcases gU with⟨_,h0⟩|⟨c,cap,cur,nJ,_,hc,_⟩
 ·simp at h0
 obtain⟨o1,o2,o3⟩:=iE c (by rw[nJ];rfl)
 rw[nJ] at k2;have dO:=zi6 hc;have eS:∀ad,(w.freeze { block:=c,off:=cur.size } 1).cell? ad=w.cell? ad:=λad=>by
  simp only[World.cell?,dO]
  by_cases e0:ad.block=c
  ·rw[if_pos e0,e0,hc]
  ·rw[if_neg e0]
 have oQ:(w.freeze { block:=c,off:=cur.size } 1).heap.size=w.heap.size:=by simp[World.freeze]
 have hle:Gh.Le s.H.af.length g' { g' with own:=λk=>if k=c then none else g'.own k }:=⟨λ_ _ _ h=>h,λ_ _=>rfl,rfl,λ_ _ _ _ h=>h⟩
 have eW:lG B.d none (some (.slot B.d s.env.length)) s.H.af.length g' w { g' with own:=λk=>if k=c then none else g'.own k } (w.freeze { block:=c,off:=cur.size } 1):=by
  refine⟨hle,λk _ _ hk=>?_,λk _ hk=>?_,λ_ _ _ _=>rfl,by rw[oQ];exact bV _,λ_ _ _=>rfl,λl hl=>.inl ⟨_,(tU hl).symm⟩,λb hb=>(by cases hb),λ_ _ _ _=>rfl,rfl,rfl,rfl⟩
  ·have cg:¬k=c:=λe0=>hk _ rfl (by rw[e0];exact o1)
   rw[dO,if_neg cg]
  ·have cg:¬k=c:=λe0=>hk _ rfl (by rw[e0];exact o1)
   simp only;rw[if_neg cg]
 refine⟨{ g' with own:=λk=>if k=c then none else g'.own k },.slice (some ⟨c,0,none⟩) (y::ys).length cap,w.freeze { block:=c,off:=cur.size } 1,?_,?_,?_,λ_ _=>trivial,k4⟩
 ·simp only[execOp,ho,nJ,Sem.run_bind,zfi hs h8 hc,Result.andThen_ok,Sem.run_pure]
 ·refine k1.ij (b0:=none) (l0:=some (.slot B.d s.env.length)) eW (bV _) (λ_ _ _=>rfl) (λb x hb hx=>?_) (λb h1 h2=>?_) (λb b' h1 h2=>?_) (λc' o' v' cP=>?_) (λc' l hl=>?_) (λb j e0=>by cases e0) rfl rfl (λt x hx=>⟨x,hx,.inl ⟨rfl,λe0=>?_⟩⟩) k1.aS k1.gm k1.nB (λt e0=>?_)
  ·rcases hb with hb|hb
   ·cases hb
   ·exact absurd (dW.1 hx).1 (J9.2 hb)
  ·exact absurd h2 (J9.2 h1)
  ·exact absurd h2 (J9.2 h1)
  ·rw[eS];exact k1.bW.mem c' o' v' cP
  ·simp only at hl;rw[oQ];split at hl
   ·cases hl
   ·exact k1.bW.dF c' l hl
  ·simp only[aO,Loc.slot.injEq,fK] at e0;have:=(dW.1 hx).1;simp only at this;omega
  ·simp only[aO,Loc.slot.injEq,fK] at e0;simp only;omega
 ·exact(k2.le hle k4).aX
def o8(P:aD)(B:dK)(s':St)(a:Act)(w:aB)(o:Oper):Prop :=
 ∃g' w',(execOp a.eval o).run P w=.ok .skip w'/\Rel B g' s' a w'
def YP(g:Gh)(n N:Nat):aL (g.var n N) (.ptr n 0) (.pointer (some ⟨N,0,none⟩)):=by
 have:=aL.ptr (g:=g.var n N) n 0;simpa[Gh.var] using this
def ux(h:Rel B g s a w){t:ai}{z:V}(hz:qO P t=some z)(hc:eF z=true){o:Oper}(ho:o.op=.alloc t) :
  fT P B { s with H:=s.H.push (.cells z.cells t) } a w o (.ptr s.H.af.length 0):=by
 obtain⟨cz,z1,z2,z3,_,z5⟩:=xu (g:=g) hz w;have dA:=vQ z2 hc
 have mq:=λx hx=>YE (v:=cz) (z:=z) (by
  simp only[qO,fy] at hz;obtain⟨i,hi,zz,Qa,hv⟩:=hz;simp only[hi,cG] at z5
  rw[Qa] at z5;cases z5;exact hv) x hx
 refine⟨g.var s.H.af.length w.heap.size,.pointer (some ⟨w.heap.size,0,none⟩),w.alloc (.cells cz.cells t),?_,?_,?_,λ_ _=>trivial,?_⟩
 ·simp[execOp,ho,Instr.alloc,z1,newVar,newRow]
 ·refine h.si dA (qU λx hx=>cR (Vc hx) (by omega)) λj x v hx hv=>⟨?_,λsz xs e=>mq x (zy hx) _ _ _ e⟩
  cases x with
  | sl sz xs o=>exact absurd rfl (mq _ (zy hx) sz xs o)
  | _=>trivial
 ·exact YP _ _ _
 ·simp[V.top,Hp.push]
def D3(h:Rel B g s a w){t:ai}{x:aH}{v:V}{bB:aj}(ht:take s.env x=some (v,bB))(hc:eF v=true){o:Oper}(ho:o.op=.box t x) :
  fT P B { s with env:=bB,H:=s.H.push (.cells v.laid t) } a w o (.ptr s.H.af.length 0):=by
 obtain⟨g',h1,v1,v2,v3,DV⟩:=gN h ht (.cell s.H.af.length 0);obtain⟨l1,l2,l3⟩:=zj2 v1 hc v2 (zbm ht) v3;refine⟨g'.var s.H.af.length w.heap.size,.pointer (some ⟨w.heap.size,0,none⟩),w.alloc (.cells (a.eval x).cells t),?_,?_,?_,λ_ _=>trivial,?_⟩
 ·simp[execOp,ho,Instr.box,newVar,newRow]
 ·exact h1.si l1 l2 λj y u hy hu=>by have:=l3 j y u hy hu;rw[eM] at this;exact this
 ·exact YP _ _ _
 ·simp[V.top,Hp.push]
def zi7(h:Rel B g s a w){t:ai}{o:Oper}(ho:o.op=.makeMap t none):fT P B { s with H:=s.H.push (.map []) } a w o (.map s.H.af.length):=by
 have hv:(g.var s.H.af.length w.heap.size).br s.H.af.length=w.heap.size:=by simp[Gh.var]
 refine⟨g.var s.H.af.length w.heap.size,.map (some w.heap.size),w.alloc (.map #[] 0),?_,?_,?_,λ_ _=>trivial,?_⟩
 ·simp[execOp,ho,Instr.makeMap]
 ·refine h.push (.map []) rfl rfl rfl rfl ⟨#[],0,?_,rfl,λj x me hx=>by simp at hx⟩ (by simp[aN.top,aA])
  rw[hv];exact YD (w':=w.alloc (.map #[] 0)) rfl
 ·have:=aL.map (g:=g.var s.H.af.length w.heap.size) s.H.af.length;rw[hv] at this;exact this
 ·simp[V.top,Hp.push]
def zmq(h:Rel B g s a w){t:ai}{x:aH}{l:aR}(ht:P.underlying t=some .string)(hx:aq s.env x=some (.str l)){o:Oper}(ho:o.op=.range t x) :
  fT P B { s with H:=s.H.push (.iter l 0) } a w o (.ptr s.H.af.length 0):=by
 have x1:=(zD h hx).1;generalize Mr:a.eval x=cx at x1;cases x1 with
 | str hl =>
  have hv:(g.var s.H.af.length w.heap.size).br s.H.af.length=w.heap.size:=by simp[Gh.var]
  refine⟨g.var s.H.af.length w.heap.size,.pointer (some ⟨w.heap.size,0,none⟩),w.alloc (.stringIter (bytes l) 0),?_,?_,?_,λ_ _=>trivial,?_⟩
  ·simp[execOp,ho,Instr.range,Mr,run_underlying ht]
  ·refine h.push (.iter l 0) rfl rfl rfl rfl ⟨?_,hl⟩ (by simp[aN.top])
   rw[hv];exact YD (w':=w.alloc (.stringIter (bytes l) 0)) rfl
  ·exact YP _ _ _
  ·simp[V.top,Hp.push]
def zmr{n:Nat}{z:V}{cz:aP}(hz:aL g z cz)(eA:eF z=true)(hl:z.cells.length=n)(hn:n≠0)(len:Nat):bz g (zL (List.replicate len z)) (madeCells cz.cells (len * n)).toList:=by
 have HY:=vQ hz eA;have HZ:cz.cells.size=n:=by rw[<- hl,HY.len];simp
 have nT:(zL (List.replicate len z)).length=len * n:=by rw[qd (sz:=n) λy hy=>by rw[(List.mem_replicate.1 hy).2];exact hl];simp
 refine⟨by rw[nT];simp[madeCells],λj x hx=>?_,λj x v hx hv=>?_⟩
 ·have hj:j<len * n:=by rw[<- nT];exact(dW.1 hx).1
  rw[kH hl len j hj] at hx;exact HY.one _ x hx
 ·have hj:j<len * n:=by rw[<- nT];exact(dW.1 hx).1
  rw[kH hl len j hj] at hx;have hm:j % n<cz.cells.size:=by rw[HZ];exact Nat.mod_lt _ (by omega)
  simp only[madeCells,Array.toList_map,Array.toList_range,pH,List.getElem?_range,hj,cA,aO,HZ] at hv;rw[getElem!_pos cz.cells (j % n) hm] at hv;refine HY.rel _ x v hx ?_;rw[Me,HI hm,hv]
def zbn(z:V):∀n,(List.replicate n z.cells).flatten=zL (List.replicate n z)
 | 0=>rfl
 | n+1=>by simp only[List.replicate_succ,List.flatten_cons,zbn z n,zL,FU]
def zgl(h:Rel B g s a w){t e:ai}{lx cx:aH}{k k':IntKind}{l c:Int}{n:Nat}{i:TypeInfo}{z:V}(ht:P.underlying t=some (.slice e))(hlx:aq s.env lx=some (.int k l))(mu:aq s.env cx=some (.int k' c))
  (hn:z9 P e=some n) (hi:P.info? e=some i) (hz:qO P e=some z) (hc:(Nat.beq n 0 || l<0 || c<l || !jJ c.toNat i.bytes || !Nat.beq z.cells.length n || !eF z)=false) {o:Oper} (ho:o.op=.makeSlice t lx cx) :
  (l=0->fT P B s a w o (.sl n [] (.yes e)))/\fT P B { s with H:=s.H.push (.cells (List.replicate c.toNat z.cells).flatten e) } a w o (.sr s.H.af.length 0 l.toNat c.toNat):=by
 simp only[KD,Bool.not_eq_false',decide_eq_false_iff_not] at hc;obtain⟨⟨⟨⟨⟨c1,c2⟩,c3⟩,c4⟩,c5⟩,eA⟩:=hc;have Kf:n≠0:=by intro e;subst e;simp at c1
 have hzl:z.cells.length=n:=eT c5;simp only[jJ,bN] at c4;have b1:=pO c4.1;have b2:=pO c4.2;obtain⟨cz,z1,z2,z3,_,z5⟩:=xu (g:=g) hz w;simp only[hi,cG] at z5;have l1:=(zD h hlx).1;have k1:=(zD h mu).1;generalize hle:a.eval lx=cl at l1;generalize pK:a.eval cx=cc at k1;cases l1;cases k1;have uu:=YM hn hi;have NS:(i.bytes:Int) * c<=281474976710656:=by
  have h1:(i.bytes:Int) * c=((c.toNat * i.bytes:Nat):Int):=by
   rw[Int.natCast_mul,Int.toNat_of_nonneg (by omega),Int.mul_comm]
  rw[h1];omega
 have cj:=run_make (P:=P) w t e i cz ht hi z5 k k' l c (by omega) (by omega) NS (by omega)
 have Ie:(execOp a.eval o).run P w=.ok (.value (.slice (some ⟨w.heap.size,0,none⟩) l.toNat c.toNat)) (w.alloc (.cells (madeCells cz.cells (c.toNat * i.size)) e)):=by
  simp[execOp,ho,hle,pK,cj]
 constructor
 ·intro h0;subst h0;refine⟨_,_,_,Ie,h.settle [] (some (.slot B.d (o.dst.getD 0))) (by simp) (λj hj=>Go.heap_alloc_old w _ hj) (λ_ _ e=>by simp at e) rfl rfl rfl,?_,λd hd=>?_,dJ _⟩
  ·exact .sl (c:=w.heap.size) (o:=0) (λ_=>.nilFunc) (λ_ e=>by simp at e) (dJ _) (λe=>absurd rfl e) (λ_ _ e=>by simp[zL] at e) (λ_ _ e=>by simp[zL] at e) (λ_ _ e=>by simp[zL] at e)
  ·refine⟨[],World.ownsRow_made w _ c.toNat (dJ _) (by simp only[maxLen];omega) (by rw[size_madeCells,uu]),λc' ez=>?_⟩
   simp only[Value.ownBlock,aO] at ez;subst ez;refine⟨by simp[Gh.row,hd],λo' _=>by simp[Gh.row],λb hb e=>?_⟩
   have:=h.bW.lt b hb;simp only[Gh.row] at e;omega
 ·have hm:=zmr z2 eA hzl Kf c.toNat
  have mq:=λx hx=>YE (v:=cz) (z:=z) (by
   simp only[qO,fy] at hz;obtain⟨i',tF,zz,Qa,hv⟩:=hz;rw[hi] at tF;cases tF
   rw[Qa] at z5;cases z5;exact hv) x hx
  have lC:∀x∈zL (List.replicate c.toNat z),∀sz xs o,x≠.sl sz xs o:=λx hx=>by
   obtain⟨y,hy,Bo⟩:=List.mem_flatMap.1 hx;rw[(List.mem_replicate.1 hy).2] at Bo;exact mq x Bo
  have hv:(g.var s.H.af.length w.heap.size).br s.H.af.length=w.heap.size:=by simp[Gh.var]
  rw[uu] at Ie;refine⟨g.var s.H.af.length w.heap.size,_,_,Ie,?_,?_,λ_ _=>trivial,by simp[V.top,Hp.push]⟩
  ·rw[zbn];refine h.si hm (qU λx hx=>?_) λj x v hx cP=>⟨?_,λsz xs e=>lC x (zy hx) _ _ _ e⟩
   ·obtain⟨y,hy,Bo⟩:=List.mem_flatMap.1 hx;rw[(List.mem_replicate.1 hy).2] at Bo;exact cR (Vc Bo) (by omega)
   ·cases x with
    | sl sz xs o=>exact absurd rfl (lC _ (zy hx) sz xs o)
    | _=>trivial
  ·have:=aL.sr (g:=g.var s.H.af.length w.heap.size) (b:=s.H.af.length) (off:=0) (show l.toNat<=c.toNat by omega)
   rw[hv] at this;exact this
def zoE(h:Rel B g s a w){t:ai}{p:aH}{b off sz:Nat}{xs:aj}{e:ai}{cs:aj}{ty:ai}(nD:jI P t=some false)(hp:aq s.env p=some (.ptr b off))(hb:s.H.get b=some (.cells cs ty))
  (hc:cs[off]?=some (.sl sz xs (.yes e))) {o:Oper} (ho:o.op=.load t p) :
  fT P B { s with H:=s.H.set b (.cells (cs.set off (.sl sz xs .lock)) ty),lk:=(b,off)::s.lk } a w o (.sl sz xs (.yes e)):=by
 have p1:=(zD h hp).1;generalize Dt:a.eval p=cp at p1;cases p1;have Bv:s.H.af[b]?=some (.cells cs ty):=by simpa[Hp.get,zf] using hb
 have lU:b<s.H.af.length:=(dW.1 Bv).1;obtain⟨arr,a1,a2,a3⟩:=h.bW.ok b _ Bv;have bX:=h.bW.aA b _ Bv;have NT:off<cs.length:=(dW.1 hc).1;have hoa:off<arr.size:=by omega
 have nJ:arr[off]?=some arr[off]:=HI hoa;generalize arr[off]=cv at nJ;obtain⟨c1,c2,c3,_⟩:=a3 off _ cv hc nJ;have iE:iW g s.H.af.length w (.cell b off) e sz xs.length cv:=c3;have eS:w.cell? ⟨g.br b,off,none⟩=some cv:=by rw[cell_of_row w _ _ arr _ _ a1];exact nJ
 have cj:(execOp a.eval o).run P w=.ok (.value cv) w:=by
  simp[execOp,ho,Dt,Instr.loadAt,Instr.sureAddr,loadVar,Vf nD,eS]
 let l1:Loc:=.slot B.d (o.dst.getD 0)
 let g':Gh:={ g with own:=λc=>if cv.ownBlock=some c then some l1 else g.own c,lk:=λb' o'=>if b'=b/\o'=off then cv else g.lk b' o' }
 have NU:∀c,(∀l,some (Loc.cell b off)=some l->g.own c≠some l)->cv.ownBlock≠some c:=λc ez e=>by
  obtain⟨vs,_,Mp⟩:=iE;exact ez _ rfl (Mp c e).1
 have eW:lG B.d (some b) (some (.cell b off)) s.H.af.length g w g' w :=
  ⟨⟨λ_ _ _ e=>e,λ_ _=>rfl,rfl,λ_ _ _ _ e=>e⟩,λ_ _ _ _=>rfl,λc _ ez=>by show(if _ then _ else _)=_;rw[if_neg (NU c ez)],λ_ _ _ _=>rfl,bV _,
   λb' o' hl=>by show(if _ then _ else _)=_;rw[if_neg];rintro⟨rfl,rfl⟩;exact hl _ rfl rfl,λl hl=>.inr ⟨b,off,by cases hl;rfl,rfl⟩,λb' bY=>by cases bY;exact lU,λ_ _ _ _=>rfl,rfl,rfl,rfl⟩
 have mq:¬qP s.H.af b off:=by
  rintro⟨cs',t',mj,Cj,h1,h2⟩;rw[Bv] at h1;cases h1;rw[hc] at h2;cases h2
 have hlen:(s.H.set b (.cells (cs.set off (.sl sz xs .lock)) ty)).af.length=s.H.af.length:=by simp[Hp.set]
 have uy:(s.H.set b (.cells (cs.set off (.sl sz xs .lock)) ty)).af[b]?=some (.cells (cs.set off (.sl sz xs .lock)) ty):=by simp[Hp.set,lU]
 have ur:∀b',b'≠b->(s.H.set b (.cells (cs.set off (.sl sz xs .lock)) ty)).af[b']?=s.H.af[b']?:=λb' cg=>by simp[Hp.set,GZ (Ne.symm cg)]
 have E9:(aN.cells (cs.set off (.sl sz xs .lock)) ty).top<=(aN.cells cs ty).top :=
  Yw (cs:=cs) (bV _) (by show aA xs<=_;exact zk (zy hc))
 have RU:∀b' o',qP s.H.af b' o'->qP (s.H.set b (.cells (cs.set off (.sl sz xs .lock)) ty)).af b' o':=by
  rintro b' o' ⟨cs',t',mj,Cj,h1,h2⟩
  by_cases e1:b'=b
  ·subst e1;rw[Bv] at h1;cases h1
   by_cases e2:o'=off
   ·subst e2;exact⟨_,_,sz,xs,uy,J7 NT⟩
   ·exact⟨_,_,mj,Cj,uy,by rw[GZ (Ne.symm e2)];exact h2⟩
  ·exact⟨cs',t',mj,Cj,by rw[ur b' e1];exact h1,h2⟩
 have hR:Rel B g' { s with H:=s.H.set b (.cells (cs.set off (.sl sz xs .lock)) ty),lk:=(b,off)::s.lk } a w:=by
  refine h.ij (s':={ s with H:=s.H.set b (.cells (cs.set off (.sl sz xs .lock)) ty),lk:=(b,off)::s.lk }) eW (by rw[hlen];exact bV _) (λb' _ cg=>ur b' λe=>cg (by rw[e])) (λb' x Dw hx=>?_) (λb' h1 h2=>?_) (λb1 b2 h1 h2=>?_) h.bW.mem (λc l gI=>?_)
   (λb' j e=>by cases e;exact mq) rfl rfl (λt x hx=>⟨x,hx,.inl ⟨rfl,λe=>by cases e⟩⟩) (λb' x hx=>?_) (λb' o' hl=>RU b' o' (h.gm b' o' hl)) (λq hq=>?_) (λ_ e=>by cases e)
  ·have bY:b'=b:=by
    rcases Dw with Dw|Dw
    ·cases Dw;rfl
    ·have:=(dW.1 hx).1;rw[hlen] at this;omega
   subst bY;rw[uy] at hx;cases hx;rw[hlen];refine⟨⟨arr,a1,by simpa using a2,λj x v hx hv=>?_⟩,cR E9 bX⟩
   by_cases e2:j=off
   ·subst e2;rw[J7 NT] at hx;cases hx;rw[nJ] at hv;cases hv;refine⟨rfl,?_,trivial,?_⟩
    ·have:=c2.le eW.le (cR (zk (zy hc)) bX);cases this with
     | sl f h1 h2 h3 h4 h5 h6=>exact .sl f h1 h2 h3 h4 h5 h6
    ·show cv=(if _ then _ else _)
     rw[if_pos ⟨rfl,rfl⟩]
   ·rw[GZ (Ne.symm e2)] at hx;obtain⟨d1,d2,d3,d4⟩:=a3 j x v hx hv;refine⟨d1,d2.le eW.le (cR (zk (zy hx)) bX),cq.same eW (λe=>by cases e;exact e2 rfl) (λb1 h2 h3=>absurd h3 (J9.2 h2)) d3,?_⟩
    unfold NJ at *;split
    ·show v=(if _ then _ else _)
     rw[if_neg (λe=>e2 e.2)];exact d4
    ·trivial
  ·rw[hlen] at h2;omega
  ·rw[hlen] at h2;omega
  ·simp only[g'] at gI;split at gI
   next e=>exact iE.lt c e
   ·exact h.bW.dF c l gI
  ·by_cases e1:b'=b
   ·subst e1;rw[show({ s with H:=s.H.set b' (.cells (cs.set off (.sl sz xs .lock)) ty),lk:=(b',off)::s.lk }:St).H.af[b']?=_ from uy] at hx;cases hx;rcases h.aS b' _ Bv with h1|⟨m,h1,h2⟩|⟨y,h1,h2⟩
    ·exact .inl (cR E9 h1)
    ·exact .inr (.inl ⟨m,h1,cR E9 h2⟩)
    ·exact .inr (.inr ⟨y,h1,cR E9 h2⟩)
   ·rw[show({ s with H:=s.H.set b (.cells (cs.set off (.sl sz xs .lock)) ty),lk:=(b,off)::s.lk }:St).H.af[b']?=s.H.af[b']? from ur b' e1] at hx;exact h.aS b' x hx
  ·rcases cS.1 hq with rfl|hq
   ·exact λhl=>mq (h.gm b off hl)
   ·exact h.nB q hq
 have RV:aA xs<=s.H.af.length:=cR (show(V.sl sz xs (.yes e)).top<=_ from zk (zy hc)) bX;refine⟨g',cv,w,cj,hR,c2.le eW.le (cR (zk (zy hc)) bX),λd hd=>?_,by rw[hlen];exact RV⟩
 obtain⟨vs,Vo,Mp⟩:=iE;refine⟨vs,Vo,λc ez=>⟨?_,(Mp c ez).2.1,?_⟩⟩
 ·show(if _ then _ else _)=_
  rw[if_pos ez];simp only[l1,hd,tS]
 ·rw[hlen];exact(Mp c ez).2.2
end
section
variable{P:aD}{B:dK}{g:Gh}{s:St}{a:Act}{w:aB}
def zqB{s':St}{o:Oper}{v:V}(h:fT P B s' a w o v){K:Act->aB->Prop}{Q:Exit->Act->aB->Prop}(hk:∀g' cv w',F2 B g' s' a w' o.dst v cv->K (a.put o.dst cv) w'):o.wp P a w K Q:=by
 obtain⟨g',cv,w',h1,h2⟩:=h;unfold Oper.wp;rw[h1,Oper.upon_value];exact hk g' cv w' h2
def wp_skip{s':St}{o:Oper}(h:o8 P B s' a w o){K:Act->aB->Prop}{Q:Exit->Act->aB->Prop}(hk:∀g' w',Rel B g' s' a w'->K (a.put o.dst undef) w'):o.wp P a w K Q:=by
 obtain⟨g',w',h1,h2⟩:=h;unfold Oper.wp;rw[h1,Oper.upon_skip];exact hk g' w' h2
def zhD(h:Rel B g s a w){x:aH}{v:V}{bB:aj}(ht:take s.env x=some (v,bB)){o:Oper}(ho:o.op=.move x\/o.op=.assign x):fT P B { s with env:=bB } a w o v:=by
 obtain⟨g',h1,v1,v2,v3,_⟩:=gN h ht (.slot B.d (o.dst.getD 0));refine⟨g',a.eval x,w,by rcases ho with ho|ho<;>simp[execOp,ho],h1,v1,λd hd=>?_,v3⟩
 simpa[hd] using v2
def zoF(h:Rel B g s a w){x:aH}{v:V}{t ty:ai}{n:Int}(hx:aq s.env x=some v)(hl:jM P s.H t v=some n):(Builtin.len_ #[t] ty #[a.eval x]).run P w=.ok (.int .i64 n) w:=by
 have x1:=(zD h hx).1;unfold jM at hl;split at hl
 next ht=>simp only[aO] at hl;subst hl;generalize a.eval x=c at x1;cases x1;simp[Builtin.len_,run_underlying ht,goInt,jR]
 next ht=>simp only[aO] at hl;subst hl;rw[x1.pV];simp[Builtin.len_,run_underlying ht,goInt]
 next ht=>simp only[aO] at hl;subst hl;obtain⟨b,c,e,_⟩:=x1.Ib;rw[e];simp[Builtin.len_,run_underlying ht,goInt]
 next ht=>simp only[aO] at hl;subst hl;generalize a.eval x=c at x1;cases x1;simp[Builtin.len_,run_underlying ht,goInt]
 next ht=>simp only[aO] at hl;subst hl;generalize a.eval x=c at x1;cases x1;simp[Builtin.len_,run_underlying ht,goInt]
 next ht=>simp only[aO] at hl;subst hl;generalize a.eval x=c at x1;cases x1;simp[Builtin.len_,run_underlying ht,goInt]
 ·rename_i b ht;split at hl<;>simp only[aO,reduceCtorEq] at hl;rename_i es hb;subst hl;obtain⟨en,ck,e1,e2,_⟩:=Yt h hb;generalize a.eval x=c at x1;cases x1;have hg:(getObj (g.br b)).run P w=.ok (.map en ck) w:=by simp[getObj,Sem.run,e1]
  have:es.length=en.size:=by have:=e2.len;simpa using this
  simp[Builtin.len_,run_underlying ht,hg,goInt,this]
 ·cases hl
def zfv(h:Rel B g s a w){x y:aH}{k k':IntKind}{m n:Int}(hx:aq s.env x=some (.int k m))(hy:aq s.env y=some (.int k' n))(ps:Array ai)(ty:ai) :
  (Builtin.min_ ps ty #[a.eval x,a.eval y]).run P w=.ok (.int k (if n<m then n else m)) w/\(Builtin.max_ ps ty #[a.eval x,a.eval y]).run P w=.ok (.int k (if n > m then n else m)) w:=by
 have x1:=(zD h hx).1;have y1:=(zD h hy).1;generalize a.eval x=c at x1;generalize a.eval y=d at y1;cases x1;cases y1;constructor
 ·simp[Builtin.min_,Builtin.min2]
 ·simp[Builtin.max_,Builtin.max2]
end
section
variable{P:aD}{B:dK}{g:Gh}{s:St}{a:Act}{w:aB}
structure iY(d:Nat)(H:Hp)(g:Gh)(w:aB)(H':Hp)(g':Gh)(w':aB):Prop where
 bW:m8 g' H'.af w'
 fr:Fr d H.af g w g' w'
 len:H.af.length<=H'.af.length
 cK:∀b,H.af.length<=b->b<H'.af.length->w.heap.size<=g'.br b
 aS:∀(b:Nat)(x:aN),H'.af[b]?=some x->x.top<=b+1\/(∃m,(b,m)∈H'.aS/\x.top<=m)\/∃y:aN,H.af[b]?=some y/\x.top<=y.top
 uz:∀p∈H.aS,p∈H'.aS
 gm:∀b off,qP H.af b off->qP H'.af b off
def dP(d:Nat)(H:Hp)(g:Gh)(w:aB)(l:Loc)(out:Out)(H':Hp):Ending->aB->Prop
 | .returned cv,w'=>∃v g',out=.ret v/\iY d H g w H' g' w'/\aL g' v cv/\cq g' H'.af.length w' l v cv/\v.top<=H'.af.length
 | .panicked chain,w'=>∃v cv g',out=.rQ v/\chain=[{ v:=cv,recovered:=false }]/\iY d H g w H' g' w'/\aL g' v cv/\v.top<=H'.af.length
 | .outgrown,_=>False
def zhE(args:aj):Prop:=∀x∈args,∀sz xs e,x≠.sl sz xs (.yes e)
structure dG(g:Gh)(n:Nat)(args:aj)(aM:cO):Prop where
 len:args.length=aM.size
 rel:∀(j:Nat)(x:V)(v:aP),args[j]?=some x->aM[j]?=some v->aL g x v
 top:aA args<=n
 no:zhE args
def xQ(P:aD)(gl:Nat->Nat->bS)(call:FuncId->aj->Hp->Option (Out×Hp))(d:Nat):Prop :=
 ∀f args H out H',call f args H=some (out,H')->∀g w aM l,gv P gl g->m8 g H.af w->dG g H.af.length args aM->Calls P f aM w (dP d H g w l out H')
def pR.mono{d d' n:Nat}(h:d<=d'){c:Nat}(hp:pR d' n g w c):pR d n g w c :=
 ⟨hp.1,hp.2.1,hp.2.2.imp id λ⟨k,t,e,hk⟩=>⟨k,t,e,Nat.lt_of_le_of_lt h hk⟩⟩
def Fr.mono{d d':Nat}(h:d<=d'){bs:List aN}{g':Gh}{w':aB}(hf:Fr d bs g w g' w'):Fr d' bs g w g' w' :=
 ⟨hf.le,λc hc=>hf.heap c (hc.mono h),λc hc=>hf.own c (hc.mono h),λc hc=>hf.M c (hc.mono h),hf.size,hf.lk,hf.os,hf.tape,hf.output⟩
def cq.after{d dd t:Nat}(hd:d<dd){H H':Hp}{g':Gh}{w':aB}(hA:iY d H g w H' g' w'){x:V}{cv:aP}(h:cq g H.af.length w (.slot dd t) x cv):cq g' H'.af.length w' (.slot dd t) x cv:=by
 unfold cq at *;split
 ·rename_i sz xs e;have h':iW g H.af.length w (.slot dd t) e sz xs.length cv:=h;have bu:=h'.lt;obtain⟨vs,h1,h2⟩:=h';have hp:∀c,cv.ownBlock=some c->pR d H.af.length g w c:=λc hc=>⟨bu c hc,(h2 c hc).2.2,.inr ⟨dd,t,(h2 c hc).1,hd⟩⟩;refine⟨vs,v7 h1 λc hc=>hA.fr.heap c (hp c hc),λc hc=>⟨?_,λo ho=>?_,λb hb e=>?_⟩⟩
  ·rw[hA.fr.own c (hp c hc)];exact(h2 c hc).1
  ·rw[hA.fr.M c (hp c hc)];exact(h2 c hc).2.1 o ho
  ·rcases iT b H.af.length with bY|bY
   ·exact(h2 c hc).2.2 b bY ((hA.fr.le.br b bY).symm.trans e)
   ·have:=hA.cK b bY hb;have:=bu c hc;omega
 ·trivial
def Rel.call(h:Rel B g s a w){d:Nat}(hd:d<B.d){H':Hp}{g':Gh}{w':aB}(hA:iY d s.H g w H' g' w'):Rel B g' { s with H:=H' } a w':=by
 refine { bW:=hA.bW,len:=h.len,env:=λt x v hx hv=>?_,b_:=λt x hx=>cR (h.b_ t x hx) hA.len,n0:=cR h.n0 hA.len,aS:=λb x hx=>?_,cK:=λb h1 h2=>?_,fr:=?_,gm:=λb off hl=>hA.gm b off (h.gm b off hl),nB:=h.nB,bh:=λp hp=>?_,cY:=h.cY,defers:=λj x q hx hq=>(h.defers j x q hx hq).le hA.fr.le hA.len,marks:=λdm YQ D hD=>?_,iD:=h.iD }
 ·obtain⟨h1,h2⟩:=h.env t x v hx hv;exact⟨h1.le hA.fr.le (h.b_ t x hx),h2.after hd hA⟩
 ·rcases hA.aS b x hx with h1|h1|⟨y,h1,h2⟩
  ·exact .inl h1
  ·exact .inr (.inl h1)
  ·rcases h.aS b y h1 with h3|⟨m,h3,h4⟩|⟨z,h3,h4⟩
   ·exact .inl (cR h2 h3)
   ·exact .inr (.inl ⟨m,hA.uz _ h3,cR h2 h4⟩)
   ·exact .inr (.inr ⟨z,h3,cR h2 h4⟩)
 ·rcases iT b s.H.af.length with h3|h3
  ·rw[hA.fr.le.br b h3];exact h.cK b h1 h3
  ·exact cR h.fr.size (hA.cK b h3 h2)
 ·exact h.fr.trans h.n0 h.cK (λb off hl=>h.gm b off (.inl hl)) (hA.fr.mono (DK hd))
 ·obtain⟨p1,p2,p3,p4,p5⟩:=h.bh p hp;refine⟨p1,p2.le hA.fr.le p4,p3.after hd hA,cR p4 hA.len,λb off e=>?_⟩;rw[hA.fr.lk b off (h.gm b off (.inr ⟨p,hp,e⟩))];exact p5 b off e
 ·obtain⟨h0,h1,h2,h3⟩:=h.marks dm YQ D hD;have bu:D<w.heap.size:=(ud.1 h1).1;have hp:pR d s.H.af.length g w D:=⟨bu,h2,.inl h3⟩;refine⟨h0,(hA.fr.heap D hp).trans h1,λb hb e=>?_,(hA.fr.own D hp).trans h3⟩;rcases iT b s.H.af.length with h4|h4
  ·rw[hA.fr.le.br b h4] at e;exact h2 b h4 e
  ·have:=hA.cK b h4 hb;omega
structure Ends(P:aD)(B:dK)(o:Oper)(r:OR)(s':St)(K:Act->aB->Prop)(Q:Exit->Act->aB->Prop):Prop where
 val:∀v,r=.val v->∀g' cv a' w',F2 B g' s' a' w' o.dst v cv->K (a'.put o.dst cv) w'
 skip:r=.skip->∀g' a' w',Rel B g' s' a' w'->K (a'.put o.dst undef) w'
 rQ:∀v,r=.rQ v->∀g' cv a' w',Rel B g' s' a' w'->aL g' v cv->v.top<=s'.H.af.length->Q (.panic [{ v:=cv,recovered:=false }]) a' w'
def yQ(P:aD):Prop:=∀(f:FuncId)(fn:Func),P.funcs[f]?=some fn->(fn.name == "runtime.NumGoroutine")=false
def wQ(P:aD):Prop:=∀(f:FuncId)(fn:Func)(args:aj)(v:V),P.funcs[f]?=some fn->fn.body=none->Yd fn.name args=some v ->
 ∀g n aM w,dG g n args aM->∃cv,(callFunc f aM).run P w=.ok (.value cv) w/\aL g v cv/\v.top=0/\(∀k l,cq g k w l v cv)
def zhF{cx:Cx}(hP:cx.P=P)(gx:yQ P)(eB:wQ P){d:Nat}(hd:d<B.d)(cU:gv P cx.gl B.g)(dQ:xQ P cx.gl cx.call d)(h:Rel B g s a w){f:FuncId}{args:aj}{aM:cO}{r:OR}{H':Hp}
  (hc:cx.cX f args s.H=some (r,H')) (de:dG g s.H.af.length args aM) {o:Oper} (ho:(execOp a.eval o).run P w=(callFunc f aM).run P w) {K:Act->aB->Prop} {Q:Exit->Act->aB->Prop} (hE:Ends P B o r { s with H:=H' } K Q):o.wp P a w K Q:=by
 have Ig:gv P cx.gl g:=cU.le h.fr.le;unfold Cx.cX at hc;rw[hP] at hc;cases hf:P.funcs[f]? with
 | none=>rw[hf] at hc;cases hc
 | some fn =>
  rw[hf] at hc;simp only at hc;cases hb:fn.body with
  | none =>
   rw[hb] at hc;simp only at hc;split at hc<;>simp only[aO,reduceCtorEq,bP] at hc;rename_i v hv;obtain⟨rfl,rfl⟩:=hc;obtain⟨cv,h1,h2,h3,h4⟩:=eB f fn args v hf hb hv g _ aM w de;unfold Oper.wp;rw[ho,h1,Oper.upon_value];exact hE.val v rfl g cv a w ⟨h,h2,λ_ _=>h4 _ _,by omega⟩
  | some c =>
   rw[hb] at hc;simp only at hc;split at hc<;>simp only[aO,reduceCtorEq] at hc;rename_i res fG;obtain⟨out,H1⟩:=res;have cj:(callFunc f aM).run P w=.ok (.enter f aM) w:=by
    have cg:fn.name≠ "runtime.NumGoroutine":=by simpa using gx f fn hf
    simp[callFunc,hf,hb,cg]
   unfold Oper.wp;rw[ho,cj,Oper.upon_enter];refine Calls.mono (dQ f args s.H out H1 fG g w aM (.slot B.d (o.dst.getD 0)) Ig h.bW de) λe w' hp=>?_;cases e with
   | returned cv =>
    obtain⟨v,g',rfl,hA,v1,v2,v3⟩:=hp;simp only[KJ,bP] at hc;obtain⟨rfl,rfl⟩:=hc;exact hE.val v rfl g' cv a w' ⟨h.call hd hA,v1,λt ht=>by simpa[ht] using v2,v3⟩
   | panicked chain =>
    obtain⟨v,cv,g',rfl,rfl,hA,v1,v3⟩:=hp;simp only[KJ,bP] at hc;obtain⟨rfl,rfl⟩:=hc;exact hE.rQ v rfl g' cv a w' (h.call hd hA) v1 v3
   | outgrown=>exact hp.elim
end
section
variable{P:aD}{B:dK}{g:Gh}{s:St}{a:Act}{w:aB}
def zgm(l:aj):zhE (l.map aX):=λx hx sz xs e h=>by
 obtain⟨y,_,rfl⟩:=r7.1 hx;exact vP y sz xs e h
def dG.Ih{n:Nat}{l:aj}{arr:cO}(hl:l.length=arr.size)(hr:∀(j:Nat)(x:V)(v:aP),l[j]?=some x->arr[j]?=some v->aL g x v)(ht:aA l<=n):dG g n (l.map aX) arr :=
 ⟨by simpa using hl,λj x v hx hv=>by
  simp only[pH,nq] at hx;obtain⟨y,hy,rfl⟩:=hx
  exact(hr j y v hy hv).aX,by rw[ju];exact ht,zgm l⟩
def vq{l m:aj}{x y:cO}(h1:l.length=x.size)(hl:∀(j:Nat)(z:V)(v:aP),l[j]?=some z->x[j]?=some v->aL g z v)(hm:∀(j:Nat)(z:V)(v:aP),m[j]?=some z->y[j]?=some v->aL g z v) :
  ∀(j:Nat)(z:V)(v:aP),(l++m)[j]?=some z->(x++y)[j]?=some v->aL g z v:=λj z v hz hv=>by
 rcases iT j l.length with h|h
 ·rw[nH h] at hz;rw[Array.getElem?_append_left (by omega)] at hv
  exact hl j z v hz hv
 ·rw[nN h] at hz;rw[Array.getElem?_append_right (by omega),<- h1] at hv
  exact hm _ z v hz hv
def wz{l m:aj}{n:Nat}(h1:aA l<=n)(h2:aA m<=n):aA (l++m)<=n :=
 qU λ_ hx=>(rO.1 hx).elim (λh=>cR (zk h) h1) (λh=>cR (zk h) h2)
def zlj{t:ai}{v rv:V}{cv:aP}{name:String}{f:FuncId}(hm:qJ P t v name=some (f,rv))(k:Nat):rv=v/\(method (k+1) t cv name).run P w=.ok (f,cv) w:=by
 simp only[qJ,Option.bind_eq_bind,fy] at hm;obtain⟨i,hi,m,hmm,hm⟩:=hm;split at hm<;>try (cases hm;done)
 rename_i hp;simp only[fy] at hm;obtain⟨⟨f',pr⟩,hf,ds,RW,hm⟩:=hm;have CG:m.path=#[]:=by simpa using hp
 simp only at hm;split at hm<;>simp only[aO,reduceCtorEq,bP] at hm
 ·obtain⟨rfl,rfl⟩:=hm;refine⟨rfl,?_⟩;simp[method,typeInfo,hi,hmm,CG,follow,hf,receiverAt,run_underlying RW,Place.get]
 ·obtain⟨rfl,rfl⟩:=hm;refine⟨rfl,?_⟩;cases ds<;>first
   |(simp[method,typeInfo,hi,hmm,CG,follow,hf,receiverAt,run_underlying RW,Place.get];done)
   |(exfalso;simp_all;done)
def zi8(P:aD):∃k,P.types.size+Made.depth=k+1:=⟨P.types.size+(Made.depth - 1),by simp[Made.depth]⟩
def zhG{cx:Cx}(hP:cx.P=P)(gx:yQ P)(eB:wQ P){d:Nat}(hd:d<B.d)(cU:gv P cx.gl B.g)(dQ:xQ P cx.gl cx.call d)(h:Rel B g s a w){fv:V}{args:aj}{fn:Fn}{fa fc aM:cO}{r:OR}{H':Hp}
  (hc:cx.mD fv args s.H=some (r,H')) (E_:aL g fv (.func fn fa fc)) (Vp:fv.top<=s.H.af.length) (hl:args.length=aM.size) (hr:∀(j:Nat)(x:V)(v:aP),args[j]?=some x->aM[j]?=some v->aL g x v) (ht:aA args<=s.H.af.length)
  {o:Oper} (ho:(execOp a.eval o).run P w=(invoke (.fn fn fc) (fa++aM)).run P w) {K:Act->aB->Prop} {Q:Exit->Act->aB->Prop} (hE:Ends P B o r { s with H:=H' } K Q):o.wp P a w K Q:=by
 unfold Cx.mD at hc;split at hc
 ·rename_i f first cap
  simp only[dN] at hc;cases E_ with
  | fn f1 f2 f3 f4 =>
   have Vq:aA first<=s.H.af.length/\aA cap<=s.H.af.length:=Ar.1 Vp
   refine zhF hP gx eB hd cU dQ h hc (aM:=fa++aM++fc) (dG.Ih (by simp[f1,f2,hl]) (vq (by simp[f1,hl]) (vq f1 f3 hr) f4) (wz (wz Vq.1 ht) Vq.2)) ?_ hE
   rw[ho];rfl
 ·rename_i name first cap
  split at hc<;>try (cases hc;done)
  rename_i t v rest RX;split at hc<;>try (cases hc;done)
  rename_i f rv hm;rw[hP] at hm;simp only[dN] at hc;cases E_ with
  | fn f1 f2 f3 f4 =>
   have Vq:aA first<=s.H.af.length/\aA cap<=s.H.af.length:=Ar.1 Vp
   have dz:=vq f1 f3 hr;have hlen:(first++args).length=(fa++aM).size:=by simp[f1,hl]
   have bX:=wz Vq.1 ht;rw[RX] at dz hlen bX;have h0:0<(fa++aM).size:=by rw[<- hlen];simp
   have mH:=dz 0 _ _ rfl (HI h0);generalize Ms:(fa++aM)[0]=cr at mH;cases mH with
   | bf hv =>
    rename_i cv;obtain⟨k,hk⟩:=zi8 P;obtain⟨rfl,hmr⟩:=zlj (P:=P) (w:=w) (cv:=cv) hm k;have CH:(fa++aM)[0]?=some (.iface t cv):=by rw[HI h0,Ms]
    refine zhF hP gx eB hd cU dQ h hc (aM:=#[cv]++(fa++aM).extract 1 (fa++aM).size) (dG.Ih ?_ (λj x u hx hu=>?_) ?_) ?_ hE
    ·simp only[fY] at hlen;simp only[fY,Array.size_append,Array.size_extract,List.size_toArray,List.length_nil] at *;omega
    ·cases j with
     | zero =>
      rw[Array.getElem?_append_left (by simp)] at hu
      simp only[Ce,aO,List.getElem?_toArray] at hx hu;subst hx;subst hu;exact hv
     | succ j =>
      refine dz (j+1) x u (by simpa using hx) ?_
      rw[Array.getElem?_append_right (by simp)] at hu
      simp only[List.size_toArray,fY,List.length_nil,eM,Nat.add_sub_cancel] at hu;rw[Array.getElem?_extract] at hu;split at hu
      ·rw[Nat.add_comm] at hu;exact hu
      ·cases hu
    ·exact qU λx hx=>by
      rcases cS.1 hx with rfl|hx
      ·exact cR (show _<=(V.bf t x).top from bV _) (cR (zk (ew ..)) bX)
      ·exact cR (zk (cZ _ hx)) bX
    ·rw[ho];simp only[invoke,CH,callMethod];simp[hk,hmr]
 ·cases hc
end
section
variable{P:aD}{B:dK}{g:Gh}{s:St}{a:Act}{w:aB}
def s5{args:nO}{x y:aH}(h:args.toList=[x,y]):args=#[x,y]:=by
 apply Array.ext';simpa using h
def zrF{args:nO}{x:aH}(h:args.toList=[x]):args=#[x]:=by
 apply Array.ext';simpa using h
def zms{args:Array ai}{x y:ai}(h:args.toList=[x,y]):args=#[x,y]:=by
 apply Array.ext';simpa using h
def zqC{args:Array ai}{x:ai}(h:args.toList=[x]):args=#[x]:=by
 apply Array.ext';simpa using h
def zi9{cx:Cx}(hP:cx.P=P)(h:Rel B g s a w){b:Builtin}{ts:Array ai}{args:nO}{r:OR}{bB:aj}(hb:cx.builtin b ts args s.env s.H=some (r,bB)){o:Oper}{c:Call}(ho:o.op=.call c)(hc:c.callee=.builtin b)(YR:c.argTypes=ts)(de:c.args=args) :
  ∃v,r=.val v/\fT P B { s with env:=bB } a w o v:=by
 have cj:∀m:Sem aP,(∀x,builtin b ts o.type x (args.map a.eval)=(do pure (.value (<- m))))->∀cv w',m.run P w=.ok cv w'->(execOp a.eval o).run P w=.ok (.value cv) w':=by
  intro m hm cv w' hr;simp[execOp,ho,resolve,hc,YR,de,invoke,hm,hr]
 unfold Cx.builtin at hb;split at hb
 next x t hx ht=>have e1:=zrF hx;have e2:=zqC ht;subst e1;subst e2;simp only[Option.bind_eq_bind,fy,aO,bP] at hb;obtain⟨v,hv,n,hn,rfl,rfl⟩:=hb;rw[hP] at hn;exact⟨_,rfl,g,.int .i64 n,w,cj (Builtin.len_ #[t] o.type #[a.eval x]) (λ_=>by simp[builtin]) _ _ (zoF h hv hn),h,.int _ _,λ_ _=>trivial,dJ _⟩
 ·rename_i x y t u hx ht;have e1:=s5 hx;have e2:=zms ht;subst e1;subst e2;split at hb<;>try (cases hb;done)
  rename_i NV;have e3:t=u:=eT (by simpa using NV)
  subst e3;simp only[Option.bind_eq_bind,fy,aO,bP] at hb;obtain⟨yv,hy,⟨v,bE⟩,m_,r',Qb,rfl,rfl⟩:=hb;rw[hP] at Qb;obtain⟨g',cv,w',h1,h2,h3,h4,h5⟩:=sk (ty:=o.type) h hy m_ Qb (o.dst.getD 0);exact⟨_,rfl,g',cv,w',cj (Builtin.append_ #[t,t] o.type #[a.eval x,a.eval y]) (λ_=>by simp[builtin]) _ _ h1,h2,h3,λd hd=>by simpa[hd] using h4,h5⟩
 next x y hx=>have e1:=s5 hx;subst e1;simp only[Option.bind_eq_bind,fy] at hb;obtain⟨u,hu,v,hv,hb⟩:=hb;split at hb<;>simp only[aO,reduceCtorEq,bP] at hb;obtain⟨rfl,rfl⟩:=hb;exact⟨_,rfl,g,_,w,cj (Builtin.min_ ts o.type #[a.eval x,a.eval y]) (λ_=>by simp[builtin]) _ _ (zfv h hu hv ts o.type).1,h,.int _ _,λ_ _=>trivial,dJ _⟩
 next x y hx=>have e1:=s5 hx;subst e1;simp only[Option.bind_eq_bind,fy] at hb;obtain⟨u,hu,v,hv,hb⟩:=hb;split at hb<;>simp only[aO,reduceCtorEq,bP] at hb;obtain⟨rfl,rfl⟩:=hb;exact⟨_,rfl,g,_,w,cj (Builtin.max_ ts o.type #[a.eval x,a.eval y]) (λ_=>by simp[builtin]) _ _ (zfv h hu hv ts o.type).2,h,.int _ _,λ_ _=>trivial,dJ _⟩
 ·cases hb
end
section
variable{P:aD}{B:dK}{g:Gh}{s:St}{a:Act}{w:aB}
def Gh.bZ(g:Gh)(b u:Nat)(v:aP)(own:Nat->Option Loc):Gh :=
 {g with fD:=λb' u'=>if b'=b/\u'=u then some v else g.fD b' u',own:=own }
def zhH{H:Hp}{Ah:List aN}(h:Vd Ah H){b:Nat}{x0 x:aN}{v:V}(hb:H.af[b]?=some x0)(g_:x.top<=max x0.top v.top):Vd Ah ((H.set b x).bQ b v):=by
 have lU:b<H.af.length:=(dW.1 hb).1;have nt:((H.set b x).bQ b v).af=H.af.set b x:=by simp only[Hp.bQ,Hp.set];split<;>rfl
 have fE:∀p∈H.aS,p∈((H.set b x).bQ b v).aS:=by
  intro p hp;simp only[Hp.bQ,Hp.set];split
  ·exact hp
  ·exact cZ _ hp
 intro b' y hy;rw[nt] at hy
 by_cases e:b'=b
 ·subst e;rw[J7 lU] at hy;cases hy;rcases Nat.le_total x0.top v.top with h2|h2
  ·rw[Nat.max_eq_right h2] at g_
   by_cases h3:v.top<=b'+1
   ·exact .inl (cR g_ h3)
   ·refine .inr (.inl ⟨v.top,?_,g_⟩);simp only[Hp.bQ,Hp.set];rw[if_neg h3];exact ew ..
  ·rw[Nat.max_eq_left h2] at g_;rcases h b' x0 hb with h1|⟨m,h1,h2⟩|⟨y,h1,h2⟩
   ·exact .inl (cR g_ h1)
   ·exact .inr (.inl ⟨m,fE _ h1,cR g_ h2⟩)
   ·exact .inr (.inr ⟨y,h1,cR g_ h2⟩)
 ·rw[GZ (λe'=>e e'.symm)] at hy;rcases h b' y hy with h1|⟨m,h1,h2⟩|h1
  ·exact .inl h1
  ·exact .inr (.inl ⟨m,fE _ h1,h2⟩)
  ·exact .inr (.inr h1)
def Rel.Ii(h:Rel B g s a w){b bZ sz:Nat}{cs:aj}{e:ai}{x:aN}{v:V}{g':Gh}{w':aB}(hb:s.H.get b=some (.ul bZ sz cs e))
  (hs:lG B.d (some b) (some (.cell b 0)) s.H.af.length g w g' w') (hM:g'.M=g.M) (sV:∀c o v,g.M c o=some v->w'.heap[c]?=w.heap[c]?) (DO:∀c l,g'.own c=some l->c<w'.heap.size)
  (eA:fO g' s.H.af.length w' b x) (bX:x.top<=s.H.af.length) (g_:x.top<=max (aA cs) v.top):Rel B g' { s with H:=(s.H.set b x).bQ b v } a w':=by
 simp only[Hp.get,zf] at hb;have lU:b<s.H.af.length:=(dW.1 hb).1;have nt:((s.H.set b x).bQ b v).af=s.H.af.set b x:=by
  simp only[Hp.bQ,Hp.set];split<;>rfl
 have hlen:((s.H.set b x).bQ b v).af.length=s.H.af.length:=by rw[nt];simp
 have mq:∀off,¬qP s.H.af b off:=by
  rintro off ⟨cs',t',mj,Cj,h1,h2⟩;rw[hb] at h1;cases h1
 refine h.ij (s':={ s with H:=(s.H.set b x).bQ b v }) hs (by rw[hlen];exact bV _) (λb' bY cg=>?_) (λb' y H7 hy=>?_) (λb' h1 h2=>?_) (λb1 b2 h1 h2=>?_) (λc o u hu=>?_) DO
  (λb' j e=>by cases e;exact mq 0) rfl rfl (λt y hy=>⟨y,hy,.inl ⟨rfl,λe=>by cases e⟩⟩) (zhH h.aS hb g_) (λb' off KW=>?_) h.nB (λ_ e=>by cases e)
 ·rw[nt,GZ (λe=>cg (by rw[e]))]
 ·have bY:b'=b:=by
   rcases H7 with H7|H7
   ·cases H7;rfl
   ·have:=(dW.1 hy).1;rw[hlen] at this;omega
  subst bY;rw[nt,J7 lU] at hy;cases hy;rw[hlen];exact⟨eA,bX⟩
 ·rw[hlen] at h2;omega
 ·rw[hlen] at h2;omega
 ·rw[hM] at hu;rw[xw (sV c o u hu)];exact h.bW.mem c o u hu
 ·have h0:=h.gm b' off KW;have cg:b'≠b:=λe=>mq off (e ▸ h0);obtain⟨cs,t,sz,xs,h1,h2⟩:=h0;exact⟨cs,t,sz,xs,by rw[nt,GZ (λe'=>cg e'.symm)];exact h1,h2⟩
def Vr(h:Rel B g s a w){b bZ sz:Nat}{cs:aj}{e:ai}(hb:s.H.get b=some (.ul bZ sz cs e)):b<s.H.af.length/\(g.own (g.br b)=none):=by
 simp only[Hp.get,zf] at hb;have lU:b<s.H.af.length:=(dW.1 hb).1;exact⟨lU,h.bW.cF b lU⟩
def Gh.NW{n:Nat}{g:Gh}{b u:Nat}{v:aP}{own:Nat->Option Loc}(hf:g.fD b u=none):Gh.Le n g (g.bZ b u v own):=by
 refine⟨λ_ _ _ e=>e,λ_ _=>rfl,rfl,λb' u' v' _ e=>?_⟩;simp only[Gh.bZ];split
 next e'=>obtain⟨rfl,rfl⟩:=e';rw[hf] at e;cases e
 ·exact e
def iI:∀(l:aj),dr l=zL l
 | []=>rfl
 | x::xs=>by simp[dr,zL,iI xs]
def Vs(h:Rel B g s a w){b bZ sz:Nat}{cs cs':aj}{e:ai}{c len cap c' CJ o5:Nat}{vs oz:dy}{v:V}{w':aB}(hb:s.H.get b=some (.ul bZ sz cs e))(hu:KK g s.H.af.length w b bZ sz cs e c len cap vs)
  (ur:∀k,k<w.heap.size->k≠c->w'.heap[k]?=w.heap[k]?) (fR:w.heap.size<=w'.heap.size) (Au:w'.os=w.os) (ht:w'.tape=w.tape) (mm:w'.output=w.output) (ez:c'=c\/c'=w.heap.size)
  (gU:w'.ownsRow 0 e sz (.slice (some ⟨c',0,none⟩) CJ o5) CJ oz) (dA:bz g cs' oz) (bX:aA cs'<=s.H.af.length) (g_:aA cs'<=max (aA cs) v.top) :
  ∃g',Rel B g' { s with H:=(s.H.set b (.ul (bZ+1) sz cs' e)).bQ b v } a w'/\aL g' (.fA b (bZ+1) CJ) (.slice (some ⟨c',0,none⟩) CJ o5):=by
 obtain⟨lU,Bw⟩:=Vr h hb;have bu:c<w.heap.size:=(hu.row.lt c rfl).2;have YS:c'<w'.heap.size:=(gU.lt c' rfl).2;have lC:∀k,k<w.heap.size->(∀b',some b=some b'->g.br b'≠k)->(∀l,some (Loc.cell b 0)=some l->g.own k≠some l)->k≠c:=λk _ h1 h2 e=>by
  subst e;rcases hu.uk with h3|h3
  ·exact h1 b rfl h3.symm
  ·exact h2 _ rfl h3
 let own:Nat->Option Loc:=λk=>if c'≠c/\k=c' then some (.cell b 0) else g.own k
 let g':Gh:=g.bZ b (bZ+1) (.slice (some ⟨c',0,none⟩) CJ o5) own
 have iE:∀k,k<w.heap.size->own k=g.own k:=λk hk=>by
  show(if _ then _ else _)=_
  rw[if_neg];rintro⟨h1,rfl⟩;rcases ez with h2|h2
  ·exact h1 h2
  ·omega
 have hle:Gh.Le s.H.af.length g g':=Gh.NW (hu.fresh _ (PV _));have Ij:g'.fD b (bZ+1)=some (.slice (some ⟨c',0,none⟩) CJ o5):=by simp[g',Gh.bZ]
 have hS:lG B.d (some b) (some (.cell b 0)) s.H.af.length g w g' w' :=
  ⟨hle,λk hk h1 h2=>ur k hk (lC k hk h1 h2),λk hk _=>iE k hk,λ_ _ _ _=>rfl,fR,λ_ _ _=>rfl,λl hl=>.inr ⟨b,0,by cases hl;rfl,rfl⟩,λb' bY=>by cases bY;exact lU,
   λb' u bY cg=>by
    show(if _ then _ else _)=_
    rw[if_neg];rintro⟨rfl,_⟩;exact cg rfl,Au,ht,mm⟩
 refine⟨g',h.Ii hb hS rfl (λk o x hx=>?_) (λk l hk=>?_) ⟨c',CJ,o5,oz,Ij,hu.pos,gU,?_,λo=>?_,λb' bY cg e'=>?_,dA.len,λj x u hx hv=>⟨dA.one j x hx,?_⟩,λu Ve=>?_⟩ bX g_,.fA Ij⟩
 ·refine ur k (wP (h.bW.mem k o x hx)) λe=>?_;subst e;rw[hu.M o] at hx;cases hx
 ·have:(if c'≠c/\k=c' then some (Loc.cell b 0) else g.own k)=some l:=hk
  split at this
  next e=>rw[e.2];exact YS
  ·exact rY (h.bW.dF k l this) fR
 ·rcases ez with e'|e'
  ·subst e';rcases hu.uk with h1|h1
   ·exact .inl h1
   ·refine .inr ?_;show(if _ then _ else _)=_
    rw[if_neg (λe=>e.1 rfl)];exact h1
  ·refine .inr ?_;show(if _ then _ else _)=_
   rw[if_pos ⟨by omega,rfl⟩]
 ·show g.M c' o=none;rcases ez with e'|e'
  ·subst e';exact hu.M o
  ·cases hm:g.M c' o with
   | none=>rfl
   | some x=>have:=wP (h.bW.mem _ _ _ hm);omega
 ·rcases ez with e2|e2
  ·subst e2;exact hu.others b' bY cg e'
  ·have:=h.bW.lt b' bY;have e3:g.br b'=c':=e';omega
 ·exact(dA.rel j x u hx hv).le hle (cR (zk (zy hx)) bX)
 ·show(if _ then _ else _)=_
  rw[if_neg (λe=>by omega)]
  exact hu.fresh u (by omega)
def zhI{w:aB}{e:ai}{sz c len cap k:Nat}{vs:dy}(h:w.ownsRow 0 e sz (.slice (some ⟨c,0,none⟩) len cap) len vs)(hk:k<=len):w.ownsRow 0 e sz (.slice (some ⟨c,0,none⟩) k cap) k (vs.take (k * sz)):=by
 obtain⟨hl,h|⟨c',o5,cur,hv,h0,hb,h1,h2,h3,hx⟩⟩:=h
 ·cases h.1
 ·cases hv;have hm:k * sz<=len * sz:=Nz _ hk;refine⟨by rw[tR,hl];omega,.inr ⟨c,cap,cur,rfl,h0,hb,by omega,h2,h3,?_⟩⟩
  rw[<- hx,List.take_take,NC hm]
def lD(cs:aj)(k:Nat):aA (cs.take k)<=aA cs:=qU λ_ hx=>zk (EZ hx)
def zlk{cx:Cx}(hP:cx.P=P)(h:Rel B g s a w){t:ai}{x:aH}{lo hi:Option aH}{r:OR}{s':St}(az:cx.oZ t x lo hi s.env s.H s.lk s.defers=some (r,s')){o:Oper}(ho:o.op=.slice t x lo hi none) :
  ∃v,r=.val v/\fT P B s' a w o v:=by
 unfold Cx.oZ at az;rw[hP] at az;split at az<;>try (cases az;done)
 rotate_left
 next b off len cap lo' tF hx tI r9=>split at az<;>simp only[aO,reduceCtorEq,bP] at az;rename_i v hv;obtain⟨rfl,rfl⟩:=az;obtain⟨x1,x2,_⟩:=zD h hx;obtain⟨cv,e1,e2,e3,e4⟩:=zft (P:=P) (n:=s.H.af.length) hv x1 (P_ h tI) (P_ h r9) x2 w;exact⟨v,rfl,g,cv,w,by simp[execOp,ho,e1],h,e2,λd _=>e4 _ _,e3⟩
 rename_i e' b u len k hh ht hx tI r9;split at az<;>try (cases az;done)
 rename_i m bZ sz cs e hm hb;split at az<;>try (cases az;done)
 rename_i hc;simp only[dN,qh,qx,aO,bP] at az;obtain⟨rfl,rfl⟩:=az;simp only[bN,decide_eq_true_eq] at hc;obtain⟨⟨hv,h0⟩,hle⟩:=hc;have hv:=eT hv;have hle:=pO hle;subst hv;obtain⟨x1,x2,_⟩:=zD h hx;obtain⟨c,l0,cap,vs,hu,h2,h3⟩:=Vh h hb;have YT:=P_ h tI;have RY:=P_ h r9;have tJ:l0<=cap:=by
  obtain⟨_,hr|⟨_,_,_,hr,_,_,h5,_⟩⟩:=hu.row
  ·cases hr.1
  ·cases hr;exact h5
 generalize Mr:a.eval x=Vt at x1;cases x1 with
 | fA hh' =>
  rw[hu.fD] at hh';cases hh';have bY:=Vg (P:=P) (isSlice:=true) (len:=len) (cap:=cap) (l:=0) (h:=hh.toNat) YT RY (by simp[jL,h0]) rfl (dJ _) hle tJ w
  obtain⟨g',r1,r2⟩:=Vs (v:=.dx) h hb hu (λ_ _ _=>rfl) (bV _) rfl rfl rfl (.inl rfl) (zhI hu.row hle) (h2.take _) (cR (lD _ _) h3) (cR (lD _ _) (FX _ _));refine⟨_,rfl,g',_,w,?_,r1,r2,λ_ _=>trivial,?_⟩
  ·have hs:(Instr.sliceAt t (.slice (some ⟨c,0,none⟩) len cap) (lo.map a.eval) (hi.map a.eval) none).run P w=.ok (.slice (some ⟨c,0,none⟩) hh.toNat cap) w:=by
    simp[Instr.sliceAt,run_underlying ht,Instr.slice,bY,jq hm,Addr.add_lit]
   simp[execOp,ho,Mr,hs]
  ·have:((s.H.set b (.ul (bZ+1) sz (cs.take (hh.toNat * sz)) e)).bQ b .dx).af.length=s.H.af.length:=by
    simp only[Hp.bQ,Hp.set];split<;>simp
   rw[this];have:=(Vr h hb).1;simp only[V.top];omega
end
section
variable{P:aD}{B:dK}{g:Gh}{s:St}{a:Act}{w:aB}
def zdD{α:Type}(l vs:List α)(off m:Nat)(h:off+vs.length<=m)(hm:m<=l.length):(storeCells l off vs).take m=storeCells (l.take m) off vs:=by
 apply HO;intro j;rw[Bk,zZ _ _ _ _ (by omega),zZ _ _ _ _ (by rw[tR];omega),Bk]
 by_cases hj:j<m
 ·simp[hj]
 ·have:¬(off<=j/\j<off+vs.length):=by omega
  simp[hj,this]
def zhJ(H:Hp)(b:Nat)(x:aN)(v:V):((H.set b x).bQ b v).af.length=H.af.length:=by
 simp only[Hp.bQ,Hp.set];split<;>simp
def zll{w:aB}{e:ai}{sz c len cap off:Nat}{vs news:dy}(h:w.ownsRow 0 e sz (.slice (some ⟨c,0,none⟩) len cap) len vs)(hf:off+news.length<=vs.length)(h1:∀u∈news,u.oneCell'=true) :
  ∃w',(Go.storeCells ⟨c,off,none⟩ news 0).run P w=.ok () w'/\w'.ownsRow 0 e sz (.slice (some ⟨c,0,none⟩) len cap) len (storeCells vs off news)/\(∀k,k≠c->w'.heap[k]?=w.heap[k]?)/\w'.heap.size=w.heap.size/\w'.os=w.os/\w'.tape=w.tape/\w'.output=w.output:=by
 obtain⟨hl,h|⟨c',o5,cur,hv,h0,hb,H9,h2,h3,hx⟩⟩:=h
 ·cases h.1
 ·cases hv;have E8:vs.length<=cur.toList.length:=by rw[<- hx];simp;omega
  have k_:cur.toList.take off++news++cur.toList.drop (off+news.length)=storeCells cur.toList off news:=by
   have o7:cur.toList=cur.toList.take off++(cur.toList.drop off).take news.length++cur.toList.drop (off+news.length):=by
    rw[nI,<- List.drop_drop,Cy,Cy]
   have hlen:(cur.toList.take off).length=off:=by rw[tR];omega
   have:=ji news ((cur.toList.drop off).take news.length) (cur.toList.take off) (cur.toList.drop (off+news.length)) (by rw[tR,List.length_drop];omega)
   rw[hlen,<- o7] at this;rw[this]
  have b8:=run_storeCells_at P c off e news 0 cur w hb (by simp at E8 ⊢;omega) h1
  simp only[rP] at b8;rw[k_] at b8;refine⟨_,b8,⟨by rw[jO];exact hl,.inr ⟨c,cap,_,rfl,h0,setRow_heap w c _ _ _ _ hb,H9,h2,by simp[jO,h3],?_⟩⟩,λk hk=>setRow_other w c k _ hk,setRow_size w c _,rfl,rfl,rfl⟩
  show(storeCells cur.toList off news).take (len * sz)=_;have hle:len * sz<=cur.toList.length:=by rw[<- hl];exact E8
  rw[zdD _ _ _ _ (by omega) hle,hx]
def Rel.YU(h:Rel B g s a w){b bZ sz:Nat}{cs cs':aj}{e:ai}{c len cap:Nat}{vs oz:dy}{v:V}{w':aB}(hb:s.H.get b=some (.ul bZ sz cs e))(hu:KK g s.H.af.length w b bZ sz cs e c len cap vs)
  (ur:∀k,k≠c->w'.heap[k]?=w.heap[k]?) (fR:w'.heap.size=w.heap.size) (Au:w'.os=w.os) (ht:w'.tape=w.tape) (mm:w'.output=w.output)
  (gU:w'.ownsRow 0 e sz (.slice (some ⟨c,0,none⟩) len cap) len oz) (dA:bz g cs' oz) (bX:aA cs'<=s.H.af.length) (g_:aA cs'<=max (aA cs) v.top) :
  Rel B g { s with H:=(s.H.set b (.ul bZ sz cs' e)).bQ b v } a w':=by
 obtain⟨lU,Bw⟩:=Vr h hb;have lC:∀k,k<w.heap.size->(∀b',some b=some b'->g.br b'≠k)->(∀l,some (Loc.cell b 0)=some l->g.own k≠some l)->k≠c:=λk _ h1 h2 e=>by
  subst e;rcases hu.uk with h3|h3
  ·exact h1 b rfl h3.symm
  ·exact h2 _ rfl h3
 have hS:lG B.d (some b) (some (.cell b 0)) s.H.af.length g w g w' :=
  ⟨.refl _ _,λk hk h1 h2=>ur k (lC k hk h1 h2),λk hk _=>rfl,λ_ _ _ _=>rfl,by omega,λ_ _ _=>rfl,λl hl=>.inr ⟨b,0,by cases hl;rfl,rfl⟩,λb' bY=>by cases bY;exact lU,
   λb' u bY cg=>rfl,Au,ht,mm⟩
 refine h.Ii hb hS rfl (λk o x hx=>?_) (λk l hk=>?_) ⟨c,len,cap,oz,hu.fD,hu.pos,gU,hu.uk,hu.M,hu.others,dA.len,λj x u hx hv=>⟨dA.one j x hx,dA.rel j x u hx hv⟩,hu.fresh⟩ bX g_
 ·refine ur k λe=>?_;subst e;rw[hu.M o] at hx;cases hx
 ·rw[fR];exact h.bW.dF k l hk
def bz.pW{cs:aj}{vs:dy}(h:bz g cs vs):∀u∈vs,u.oneCell'=true:=λu hu=>by
 obtain⟨j,hj⟩:=List.getElem?_of_mem hu;have Ml:j<cs.length:=by rw[h.len];exact(dW.1 hj).1
 have hx:=lB Ml;exact(h.rel j _ u hx hj).pQ (h.one j _ hx)
def zlm(h:Rel B g s a w){t:ai}{p x:aH}{b bZ k n sz:Nat}{v0 v:V}{bB:aj}{cs:aj}{e:ai}(hp:aq s.env p=some (.ny b bZ k))(hx:take s.env x=some (v0,bB))(hv:aX v0=v)(hn:z9 P t=some n)
  (hb:s.H.get b=some (.ul bZ sz cs e)) (eA:eF v=true) (hl:v.cells.length=n) (hle:k+n<=cs.length) :
  ∃g' w',(Instr.storeAt t (a.eval p) (a.eval x)).run P w=.ok () w'/\Rel B g' { s with env:=bB,H:=(s.H.set b (.ul bZ sz (storeCells cs k v.cells) e)).bQ b v } a w':=by
 obtain⟨p1,p2,_⟩:=zD h hp;obtain⟨g',h1,v1,_,v2,DV⟩:=gN h hx .ret;have v1:=v1.aX;rw[hv] at v1;have v2:v.top<=s.H.af.length:=by rw[<- hv,dw];exact v2
 have p1:=DV.rel p1;have bY:({ s with env:=bB }:St).H.get b=some (.ul bZ sz cs e):=hb;obtain⟨c,len,cap,vs,hu,h2,h3⟩:=Vh h1 bY;generalize Dt:a.eval p=cp at p1;cases p1 with
 | ny _ hh =>
  rw[hu.fD] at hh;cases hh;have dA:=vQ v1 eA;have sj:(a.eval x).cells.size=n:=by rw[<- hl,dA.len];simp
  obtain⟨w',e1,e2,e3,e4,e5,e6,e7⟩:=zll (P:=P) (off:=k) hu.row (by rw[<- hu.len,DJ,sj];exact hle) dA.pW
  refine⟨g',w',?_,h1.YU (v:=v) bY hu e3 e4 e5 e6 e7 e2 (h2.store k dA) (vo h3 (cR (yA v) v2)) (cR xh (Ar.2 ⟨FX _ _,cR (yA v) (KF _ _)⟩))⟩;unfold Instr.storeAt storeVar;simp[Instr.sureAddr,jq hn,sj,e1]
def Gh.pX(g:Gh)(n N:Nat)(v:aP):Gh:={ g.var n N with fD:=λb u=>if b=n then (if u=0 then some v else none) else g.fD b u }
def Gh.Fa(g:Gh)(n N:Nat)(v:aP):Gh.Le n g (g.pX n N v) :=
 ⟨λ_ _ _ h=>h,λb hb=>by simp only[Gh.pX,Gh.var];rw[if_neg (by omega)],rfl,λb u x hb e=>by simp only[Gh.pX];rw[if_neg (by omega)];exact e⟩
def Rel.RZ(h:Rel B g s a w)(br:aN){obj:Obj}{w':aB}{v:aP}(hw:w'.heap=w.heap.push obj)(Au:w'.os=w.os)(ht:w'.tape=w.tape)(mm:w'.output=w.output)
  (eA:fO (g.pX s.H.af.length w.heap.size v) (s.H.af.length+1) w' s.H.af.length br) (bX:br.top<=s.H.af.length+1):Rel B (g.pX s.H.af.length w.heap.size v) { s with H:=s.H.push br } a w':=by
 have hl:(s.H.push br).af.length=s.H.af.length+1:=by simp[Hp.push]
 have dO:∀b,b<s.H.af.length->(s.H.push br).af[b]?=s.H.af[b]?:=λb hb=>by simp only[Hp.push];rw[nH hb]
 have pU:(s.H.push br).af[s.H.af.length]?=some br:=by simp[Hp.push]
 have hv:(g.pX s.H.af.length w.heap.size v).br s.H.af.length=w.heap.size:=by simp[Gh.pX,Gh.var]
 have fR:w'.heap.size=w.heap.size+1:=by rw[hw];simp
 have hS:lG B.d none none s.H.af.length g w (g.pX s.H.af.length w.heap.size v) w' :=
  ⟨g.Fa _ _ _,λc hc _ _=>Vk hw hc,λ_ _ _=>rfl,λ_ _ _ _=>rfl,by rw[hw];simp,λ_ _ _=>rfl,λl hl=>(by cases hl),λb hb=>(by cases hb),λb u hb _=>by simp only[Gh.pX];rw[if_neg (by omega)],Au,ht,mm⟩
 refine h.ij (s':={ s with H:=s.H.push br }) hS (by rw[hl];omega) (λb hb _=>dO b hb) (λb x hb hx=>?_) (λb h1 h2=>?_) (λb b' h1 h2 h3 h4 _=>?_) (λc o v hv=>?_) (λc l hc=>?_)
  (λb j e=>by cases e) rfl rfl (λt x hx=>⟨x,hx,.inl ⟨rfl,λe=>by cases e⟩⟩) ?_ (λb off mW=>xg dO (h.gm b off mW)) h.nB (λ_ e=>by cases e)
 ·have bY:b=s.H.af.length:=by
   rcases hb with hb|hb
   ·cases hb
   ·have:=(dW.1 hx).1;rw[hl] at this;omega
  subst bY;rw[pU] at hx;cases hx;rw[hl];exact⟨eA,bX⟩
 ·have:b=s.H.af.length:=by rw[hl] at h2;omega
  subst this;rw[hv];refine⟨bV _,by omega,?_,λo=>?_⟩
  ·show g.own w.heap.size=none;cases ho:g.own w.heap.size with
   | none=>rfl
   | some l=>have:=h.bW.dF _ _ ho;omega
  ·show g.M w.heap.size o=none;cases hm:g.M w.heap.size o with
   | none=>rfl
   | some v=>have:=wP (h.bW.mem _ _ _ hm);omega
 ·rw[hl] at h2 h4;omega
 ·rw[xw (Vk hw (wP (h.bW.mem c o v hv)))];exact h.bW.mem c o v hv
 ·have:=h.bW.dF c l hc;omega
 ·intro b x hx;rcases iT b s.H.af.length with h1|h1
  ·rw[show({ s with H:=s.H.push br }:St).H.af[b]?=s.H.af[b]? from dO b h1] at hx;exact h.aS b x hx
  ·have bY:b=s.H.af.length:=by
    have:=(dW.1 hx).1;have lY:({ s with H:=s.H.push br }:St).H.af.length=s.H.af.length+1:=hl;omega
   subst bY;rw[show({ s with H:=s.H.push br }:St).H.af[s.H.af.length]?=some br from pU] at hx;cases hx;exact .inl bX
def zqD(h:Rel B g s a w){cs:aj}{vs:dy}{e:ai}{sz len cap:Nat}{cur:cO}{w':aB}(hw:w'.heap=w.heap.push (.cells cur e (0,0)))(Au:w'.os=w.os)(ht:w'.tape=w.tape)(mm:w'.output=w.output)
  (iq:0<sz) (gU:w'.ownsRow 0 e sz (.slice (some ⟨w.heap.size,0,none⟩) len cap) len vs) (dA:bz g cs vs) (bX:aA cs<=s.H.af.length) :
  ∃g',Rel B g' { s with H:=s.H.push (.ul 0 sz cs e) } a w'/\aL g' (.fA s.H.af.length 0 len) (.slice (some ⟨w.heap.size,0,none⟩) len cap):=by
 have Ij:(g.pX s.H.af.length w.heap.size (.slice (some ⟨w.heap.size,0,none⟩) len cap)).fD s.H.af.length 0=some (.slice (some ⟨w.heap.size,0,none⟩) len cap):=by simp[Gh.pX]
 refine⟨_,h.RZ (.ul 0 sz cs e) hw Au ht mm ⟨w.heap.size,len,cap,vs,Ij,iq,gU,.inl (by simp[Gh.pX,Gh.var]),λo=>?_,λb' bY cg e'=>?_,dA.len,λj x u hx hv=>⟨dA.one j x hx,?_⟩,λu hu=>?_⟩ (Nat.le_succ_of_le bX),.fA Ij⟩
 ·show g.M w.heap.size o=none;cases hm:g.M w.heap.size o with
  | none=>rfl
  | some v=>have:=wP (h.bW.mem _ _ _ hm);omega
 ·have h1:b'<s.H.af.length:=by omega
  have:=h.bW.lt b' h1;simp only[Gh.pX,Gh.var] at e';rw[if_neg cg] at e';omega
 ·exact(dA.rel j x u hx hv).le (g.Fa _ _ _) (cR (zk (zy hx)) bX)
 ·simp only[Gh.pX,aT];rw[if_neg (by omega)]
def zbo{w:aB}{e:ai}{sz k old:Nat}{z:aP}{vs:dy}{arr:cO}(k_:arr.toList=vs)(hl:vs.length=k * sz)(hz:z.cells.size=sz)(NR:k<=maxLen) :
  (w.drew.alloc (.cells (arr++Builtin.zeroCells z.cells (grownCap w k old e - k)) e)).ownsRow 0 e sz (.slice (some ⟨w.heap.size,0,none⟩) k (grownCap w k old e)) k vs:=by
 have tH:=grownCap_ge w k old e;have sZ:grownCap w k old e<=maxLen:=grownCap_le_maxLen w k old e NR;have oL:arr.size=k * sz:=by rw[<- hl,<- k_];simp
 refine⟨hl,.inr ⟨w.heap.size,_,_,rfl,dJ _,heap_alloc_new w.drew _,tH,sZ,?_,?_⟩⟩
 ·rw[Array.size_append,oL,size_zeroCells,hz,<- CA];congr 1;omega
 ·rw[Array.toList_append,List.take_append_of_le_length (by simp;omega),k_]
  exact Af (by omega)
end
section
variable{P:aD}{B:dK}{g:Gh}{s:St}{a:Act}{w:aB}
def zmt(v:V):aX (aX v)=aX v:=by cases v<;>rfl
def YV(h:Rel B g s a w){b off:Nat}{cs L:aj}{tt:ai}{arr:cO}{news:dy}(hb:s.H.get b=some (.cells cs tt))(a1:w.heap[g.br b]?=some (.cells arr tt (0,0)))(a2:bz g cs arr.toList)(a3:aA cs<=s.H.af.length)
  (a4:∀(j:Nat)(x:V)(v:aP),cs[j]?=some x->arr[j]?=some v->cq g s.H.af.length w (.cell b j) x v/\NJ g b j x v) (fZ:bz g L news) (gI:∀q∈L,aX q=q) (YW:aA L<=s.H.af.length) (c3:off+L.length<=cs.length) (Av:wK s.lk b off L.length (cs.drop off)=true) :
  Rel B g { s with H:=(s.H.set b (.cells (storeCells cs off L) tt)).bQ b (.bx L) } a (w.setRow (g.br b) (storeCells arr.toList off news).toArray):=by
 have oL:cs.length=arr.size:=by have:=a2.len;simpa using this
 have lU:b<s.H.af.length:=by simp only[Hp.get,zf] at hb;exact(dW.1 hb).1
 have mq:news.length=L.length:=fZ.len.symm;have hLc:∀q∈L,(∀sz xs o,q=.sl sz xs o->o=.no):=λq hq sz xs o e=>by
  have:=gI q hq;subst e;simp[aX] at this;exact this.symm
 have DW:(w.setRow (g.br b) (storeCells arr.toList off news).toArray).heap[g.br b]?=some (.cells (storeCells arr.toList off news).toArray tt (0,0)):=setRow_heap w _ _ _ tt _ a1;have eW:lG B.d (some b) none s.H.af.length g w g (w.setRow (g.br b) (storeCells arr.toList off news).toArray) :=
  ⟨.refl _ _,λc _ hc _=>setRow_other w _ c _ (λe=>hc b rfl e.symm),λ_ _ _=>rfl,λ_ _ _ _=>rfl,by simp[World.setRow],λ_ _ _=>rfl,λl hl=>(by cases hl),λb' bY=>(by cases bY;exact lU),λ_ _ _ _=>rfl,rfl,rfl,rfl⟩
 refine Rel.write (l:=s.lk) (v:=.bx L) h (b:=b) (x0:=.cells cs tt) (x:=.cells (storeCells cs off L) tt) (N:=g.br b) rfl hb (λc hc=>setRow_other w _ c _ hc) (by simp[World.setRow]) rfl rfl rfl
  ⟨_,DW,by simp[jO,oL],λj y u hy hu=>?_⟩ (vo a3 YW) (.inr (.inr (.inr (cR xh (Ar.2 ⟨FX _ _,KF _ _⟩))))) (λo tI=>?_) h.nB
 ·have b8:=a2.store off fZ;have hr:=b8.rel j y u hy (by simpa using hu)
  refine⟨b8.one j y hy,hr,?_,?_⟩
  ·rw[zZ _ _ _ _ (by omega)] at hy
   have Aw:(storeCells arr.toList off news)[j]?=some u:=by simpa using hu
   rw[zZ _ _ _ _ (by have:arr.toList.length=arr.size:=DJ;omega)] at Aw
   by_cases hj:off<=j/\j<off+L.length
   ·rw[if_pos hj] at hy;have:=hLc y (zy hy);cases y with
    | sl sz xs o=>have e:=this sz xs o rfl;subst e;trivial
    | _=>trivial
   ·rw[if_neg hj] at hy;rw[if_neg (by rw[mq];exact hj)] at Aw
    exact cq.same eW (λe=>by cases e) (λb1 h2 h3=>absurd (show b1<s.H.af.length from h3) (J9.2 h2)) (a4 j y u hy (by simpa using Aw)).1
  ·rw[zZ _ _ _ _ (by omega)] at hy
   have Aw:(storeCells arr.toList off news)[j]?=some u:=by simpa using hu
   rw[zZ _ _ _ _ (by have:arr.toList.length=arr.size:=DJ;omega)] at Aw
   by_cases hj:off<=j/\j<off+L.length
   ·rw[if_pos hj] at hy;have:=hLc y (zy hy);cases y with
    | sl sz xs o=>have e:=this sz xs o rfl;subst e;trivial
    | _=>trivial
   ·rw[if_neg hj] at hy;rw[if_neg (by rw[mq];exact hj)] at Aw
    exact(a4 j y u hy (by simpa using Aw)).2
 ·obtain⟨Ke,t2',sz,xs,d1,d2⟩:=h.gm b o tI;have Bv:s.H.af[b]?=some (.cells cs tt):=by simpa[Hp.get,zf] using hb
  rw[Bv] at d1;cases d1;refine⟨_,_,sz,xs,rfl,?_⟩;rw[zZ _ _ _ _ (by omega)]
  by_cases hj:off<=o/\o<off+L.length
  ·have:=YF Av (o - off) (.sl sz xs .lock) (by omega) (by rw[HN,show off+(o - off)=o by omega];exact d2) rfl
   rw[show off+(o - off)=o by omega] at this
   exact absurd tI (h.nB _ this)
  ·rw[if_neg hj];exact d2
def zja{cx:Cx}(hP:cx.P=P)(h:Rel B g s a w){t ty:ai}{x y:aH}{r:OR}{s':St}(az:cx.m6 t x y s.env s.H s.lk s.defers=some (r,s')) :
  ∃v g' cv w',r=.val v/\(Builtin.append_ #[t,t] ty #[a.eval x,a.eval y]).run P w=.ok cv w'/\Rel B g' s' a w'/\aL g' v cv/\(∀n l,cq g' n w' l v cv)/\v.top<=s'.H.af.length:=by
 unfold Cx.m6 at az;rw[hP] at az;simp only[Option.bind_eq_bind,fy] at az;obtain⟨td,ht,az⟩:=az;split at az<;>try (cases az;done)
 rename_i e;simp only[fy] at az;obtain⟨n,hn,i,hi,z,hz,yv,hy,ys,AQ,az⟩:=az;have uu:=YM hn hi;split at az<;>try (cases az;done)
 rename_i CL;simp only[gZ,not_or,Bool.not_eq_true,Bool.not_eq_false'] at CL;have H_:z.cells.size=n:=eT (by simpa using CL.1)
 have Kf:0<n:=by
  rcases NB n with e|e
  ·subst e;simp at CL
  ·exact e
 simp only[fy] at az;obtain⟨xv,hx,az⟩:=az;obtain⟨y1,y3,_⟩:=zD h hy;obtain⟨x1,x3,x4⟩:=zD h hx;clear x4;have lf:=Vn h hn AQ y1 y3;have uw:∀m,jJ m i.bytes=true->m<=maxLen/\m * i.bytes<=140737488355328:=λm hm=>by
  simp only[jJ,bN] at hm;exact⟨by have:=pO hm.1;simp only[maxLen];omega,pO hm.2⟩
 split at az
 ·have Qc:=x1.pV;split at az
  ·simp only[aO,bP] at az;obtain⟨rfl,rfl⟩:=az;obtain⟨ad,cap,AR,_⟩:=lf.form;refine⟨.aU,g,.slice none 0 0,w,rfl,?_,h,.aU,λ_ _=>trivial,dJ _⟩;rw[Qc,AR];exact wk (P:=P) (ty:=ty) ht hn _ none 0 0 rfl (bV _) ad cap w
  ·rename_i cg;have cg:ys≠[]:=λe=>cg e;split at az<;>try (cases az;done)
   rename_i KZ;simp only[dD,qh,qb,aO,bP] at az;obtain⟨rfl,rfl⟩:=az;obtain⟨ad,cy,AR,nV⟩:=lf.form;obtain⟨a0,news,rfl,dA,f_⟩:=nV cg;obtain⟨m1,m2⟩:=uw _ KZ;have iq:0<ys.length:=NA.2 cg;have mq:news.length=ys.length * i.size:=by rw[<- dA.len,qd lf.sized,uu]
   have gU:=zbo (w:=w) (e:=e) (old:=0) (k:=ys.length) (sz:=n) (z:=z) (arr:=news.toArray) (vs:=news) (by simp) (by rw[mq,uu]) H_ m1
   have DZ:bz g (dr ys) news:=by rw[iI];exact dA
   obtain⟨g',r1,r2⟩:=zqD (w':=w.drew.alloc (.cells (news.toArray++Builtin.zeroCells z.cells (grownCap w ys.length 0 e - ys.length)) e)) h rfl rfl rfl rfl Kf gU DZ (by rw[iI];exact cR yl lf.aA)
   refine⟨_,g',_,_,rfl,?_,r1,r2,λ_ _=>trivial,by simp[V.top,Hp.push]⟩
   rw[Qc,AR];exact run_append_nil (P:=P) w t ty e i z ht hi hz a0 ys.length cy news mq f_ iq (by simp only[maxLen] at m1;omega) (by omega)
 ·rename_i b u len;split at az<;>try (cases az;done)
  rename_i bZ sz cs e' hb;split at az<;>try (cases az;done)
  rename_i hc;simp only[dD,qh,qx,aO,bP] at az;obtain⟨rfl,rfl⟩:=az;simp only[bN] at hc;obtain⟨⟨⟨c1,c2⟩,c3⟩,KZ⟩:=hc;have c1:=eT c1;have c2:=eT c2;have c3:=eT c3;subst c1;subst c2;subst c3;obtain⟨m1,m2⟩:=uw _ KZ;obtain⟨c,l0,cap,vs,hu,h2,h3⟩:=Vh h hb;have nu:aA (cs++dr ys)<=max (aA cs) (V.bx ys).top:=by
   refine qU λq hq=>?_;rcases rO.1 hq with hq|hq
   ·exact cR (zk hq) (FX _ _)
   ·rw[iI] at hq;exact cR (Yi hq) (KF _ _)
  have NX:aA (cs++dr ys)<=s.H.af.length:=cR nu (Ar.2 ⟨h3,lf.aA⟩);have bX:(V.fA b (bZ+1) (len+ys.length)).top<=((s.H.set b (.ul (bZ+1) n (cs++dr ys) e)).bQ b (.bx ys)).af.length:=by
   rw[zhJ];have:=(Vr h hb).1;simp only[V.top];omega
  generalize Mr:a.eval x=Vt at x1;cases x1 with
  | fA hh =>
   rw[hu.fD] at hh;cases hh
   by_cases cg:ys=[]
   ·subst cg;obtain⟨ad,o5,AR,_⟩:=lf.form;have Ak:len<=cap:=by
     obtain⟨_,hr|⟨_,_,_,hr,_,_,h5,_⟩⟩:=hu.row
     ·cases hr.1
     ·cases hr;exact h5
    obtain⟨g',r1,r2⟩:=Vs (v:=.bx []) h hb hu (λ_ _ _=>rfl) (bV _) rfl rfl rfl (.inl rfl) hu.row (cs':=cs++dr []) (by simpa[dr] using h2) NX nu
    refine⟨_,g',_,w,rfl,?_,r1,r2,λ_ _=>trivial,bX⟩;rw[AR];exact wk (P:=P) (ty:=ty) ht hn _ (some ⟨c,0,none⟩) len cap rfl Ak ad o5 w
   ·obtain⟨ad,cy,AR,nV⟩:=lf.form;obtain⟨a0,news,rfl,dA,f_⟩:=nV cg;have iq:0<ys.length:=NA.2 cg;have mq:news.length=ys.length * i.size:=by rw[<- dA.len,qd lf.sized,uu]
    have DZ:bz g (dr ys) news:=by rw[iI];exact dA
    have dz:bz g (cs++dr ys) (vs++news):=by
     refine⟨by simp only[oI,h2.len,DZ.len],λj q hq=>?_,λj q v' hq cP=>?_⟩
     ·rcases iT j cs.length with h4|h4
      ·rw[nH h4] at hq;exact h2.one j q hq
      ·rw[nN h4] at hq;exact DZ.one _ q hq
     ·rcases iT j cs.length with h4|h4
      ·rw[nH h4] at hq;rw[nH (by rw[<- h2.len];exact h4)] at cP
       exact h2.rel j q v' hq cP
      ·rw[nN h4] at hq;rw[nN (by rw[<- h2.len];exact h4),<- h2.len] at cP
       exact DZ.rel _ q v' hq cP
    obtain⟨E8,hr|⟨c',o5,cur,hr,_,nC,Ak,sZ,sj,iX⟩⟩:=id hu.row
    ·cases hr.1
    cases hr;have hlen:(vs++news).length=(len+ys.length) * n:=by rw[oI,E8,mq,uu,CA]
    by_cases Ic:len+ys.length<=cap
    ·have R1:len * i.size+news.length<=cur.size:=by rw[mq,uu,sj,<- CA];exact Nz _ Ic
     have cj:=run_append_room (P:=P) w t ty e i ht hi c len cap cur nC a0 ys.length cy news mq f_ dA.pW Ic R1;rw[uu] at cj R1;have gU:(w.setRow c (cur.toList.take (len * n)++news++cur.toList.drop (len * n+news.length)).toArray).ownsRow 0 e n (.slice (some ⟨c,0,none⟩) (len+ys.length) cap) (len+ys.length) (vs++news):=by
      refine⟨hlen,.inr ⟨c,cap,_,rfl,dJ _,setRow_heap w c cur _ e _ nC,Ic,sZ,?_,?_⟩⟩
      ·simp only[List.size_toArray,oI,tR,List.length_drop,DJ];omega
      ·rw[iX,<- hlen];exact List.take_left
     obtain⟨g',r1,r2⟩:=Vs (v:=.bx ys) h hb hu (λk _ hk=>setRow_other w c k _ hk) (Nat.le_of_eq (setRow_size w c _).symm) rfl rfl rfl (.inl rfl) gU dz NX nu;refine⟨_,g',_,_,rfl,?_,r1,r2,λ_ _=>trivial,bX⟩;rw[AR];exact cj
    ·have gU:=zbo (w:=w) (e:=e) (old:=cap) (k:=len+ys.length) (sz:=n) (z:=z) (arr:=vs.toArray++news.toArray) (vs:=vs++news) (by simp) hlen H_ m1
     obtain⟨g',r1,r2⟩:=Vs (v:=.bx ys) h hb hu (λk hk _=>heap_alloc_old w.drew _ hk) (by simp) rfl rfl rfl (.inr rfl) gU dz NX nu
     refine⟨_,g',_,_,rfl,?_,r1,r2,λ_ _=>trivial,bX⟩;rw[AR];exact run_append_grow (P:=P) w t ty e i z ht hi hz ⟨c,0,none⟩ len cap vs (by rw[E8,uu]) (hu.row.cells rfl) a0 ys.length cy news mq f_ (by omega) (by simp only[maxLen] at m1;omega) (growslice_fits (by omega) m2)
 ·rename_i b off len cap;split at az<;>try (cases az;done)
  rename_i cs tt hb;split at az<;>try (cases az;done)
  rename_i hc;simp only[dD,qh,qx,aO,bP] at az;obtain⟨rfl,rfl⟩:=az;simp only[bN] at hc;obtain⟨⟨⟨⟨⟨⟨c1,c2⟩,c3⟩,c4⟩,c5⟩,c6⟩,Av⟩:=hc;have c1:=eT c1;have c2:=eT c2;have c3:=eT c3;have c4:=eT c4;have c5:=pO c5;have c6:=pO c6;subst c1;subst c2;subst c3;rw[iI] at c4 ⊢;have lU:b<s.H.af.length:=by simp only[Hp.get,zf] at hb;exact(dW.1 hb).1
  have bX:(V.sr b 0 (len+ys.length) cap).top<=((s.H.set b (.cells (storeCells cs len ((zL ys).map aX)) tt)).bQ b (.bx ((zL ys).map aX))).af.length:=by
   rw[zhJ];simp only[V.top];omega
  generalize Mr:a.eval x=Vt at x1;cases x1 with
  | sr Ak =>
   obtain⟨arr,a1,a2,a3,a4⟩:=xr h hb;have oL:cs.length=arr.size:=by have:=a2.len;simpa using this
   obtain⟨ad,cy,AR,nV⟩:=lf.form;have bu:aA ((zL ys).map aX)<=s.H.af.length:=by
    rw[ju];exact cR yl lf.aA
   have gI:∀q∈(zL ys).map aX,aX q=q:=λq hq=>by
    obtain⟨q',_,rfl⟩:=r7.1 hq;exact zmt q'
   by_cases cg:ys=[]
   ·subst cg;have:=YV (news:=[]) (off:=len) h hb a1 a2 a3 a4 (L:=[]) ⟨rfl,λ_ _ e=>by simp at e,λ_ _ _ e=>by simp at e⟩ (λq hq=>by cases hq) (dJ _) (by simp at c6 ⊢;omega) (by simp[wK])
    have e1:(w.setRow (g.br b) (storeCells arr.toList len []).toArray)=w:=by
     show w.setRow (g.br b) arr.toList.toArray=w;rw[Array.toArray_toList];exact setRow_self w _ arr _ _ a1
    rw[e1] at this;refine⟨_,g,_,w,rfl,?_,by simpa[zL] using this,.sr (by simpa using Ak),λ_ _=>trivial,bX⟩
    rw[AR];exact wk (P:=P) (ty:=ty) ht hn _ (some ⟨g.br b,0,none⟩) len cap rfl Ak ad _ w
   ·obtain⟨a0,news,rfl,dA,f_⟩:=nV cg;have mq:news.length=ys.length:=by rw[<- dA.len,qd lf.sized,ND]
    have cj:=run_append_room (P:=P) w t ty tt i ht hi (g.br b) len cap arr a1 a0 ys.length cy news (by rw[mq,uu,ND]) f_ dA.pW c5 (by rw[mq,uu];omega)
    have dz:=YV (off:=len) h hb a1 a2 a3 a4 (L:=(zL ys).map aX) (news:=news) dA.Bp gI bu (by rw[c4];exact c6) (by rw[c4];exact Av)
    have k_:arr.toList.take (len * i.size)++news++arr.toList.drop (len * i.size+news.length)=storeCells arr.toList len news:=by
     rw[uu,ND];have o7:arr.toList=arr.toList.take len++(arr.toList.drop len).take ys.length++arr.toList.drop (len+ys.length):=by
      rw[nI,<- List.drop_drop,Cy,Cy]
     have hlen:(arr.toList.take len).length=len:=by rw[tR,DJ];omega
     have:=ji news ((arr.toList.drop len).take ys.length) (arr.toList.take len) (arr.toList.drop (len+ys.length)) (by have hL:arr.toList.length=arr.size:=DJ;simp only[tR,List.length_drop];omega)
     rw[hlen,<- o7] at this;rw[this,mq]
    rw[k_] at cj;refine⟨_,g,_,_,rfl,?_,dz,.sr (by omega),λ_ _=>trivial,bX⟩
    rw[AR];exact cj
 ·cases az
def zmu{cx:Cx}(hP:cx.P=P)(h:Rel B g s a w){t t2 ty:ai}{x y:aH}{r:OR}{s':St}(az:cx.uh t x y s.env s.H s.lk s.defers=some (r,s')) :
  ∃v g' cv w',r=.val v/\(Builtin.copy_ #[t,t2] ty #[a.eval x,a.eval y]).run P w=.ok cv w'/\Rel B g' s' a w'/\aL g' v cv/\(∀n l,cq g' n w' l v cv)/\v.top<=s'.H.af.length:=by
 unfold Cx.uh at az;rw[hP] at az;simp only[Option.bind_eq_bind,fy] at az;obtain⟨td,ht,az⟩:=az;split at az<;>try (cases az;done)
 rename_i e;simp only[fy] at az;obtain⟨n,hn,yv,hy,ys,AQ,xv,hx,az⟩:=az;obtain⟨y1,y3,_⟩:=zD h hy;obtain⟨x1,x3,x4⟩:=zD h hx;clear x4;have lf:=Vn h hn AQ y1 y3;split at az<;>try (cases az;done)
 rename_i b off len cap;split at az<;>try (cases az;done)
 rename_i cs tt hb;split at az<;>try (cases az;done)
 rename_i hc;simp only[dD,qx,aO,bP] at az;obtain⟨rfl,rfl⟩:=az;simp only[bN] at hc;obtain⟨⟨⟨c1,c2⟩,c3⟩,Av⟩:=hc;have c1:=eT c1;have c2:=eT c2;have c3:=pO c3;subst c1;rw[iI] at c2;have NY:(P.info? e).map (·.size)=some 1:=hn;generalize hm:min len ys.length=m at c2 c3 Av ⊢;generalize Mr:a.eval x=Vt at x1;cases x1 with
 | sr Ak =>
  obtain⟨arr,a1,a2,a3,a4⟩:=xr h hb;have oL:cs.length=arr.size:=by have:=a2.len;simpa using this
  have lU:b<s.H.af.length:=by simp only[Hp.get,zf] at hb;exact(dW.1 hb).1
  obtain⟨ad,cy,AR,nV⟩:=lf.form;obtain⟨news,fZ,cj⟩:∃news,bz g ((zL (ys.take m)).map aX) news/\(Builtin.copy_ #[t,t2] ty #[.slice (some ⟨g.br b,off,none⟩) len cap,a.eval y]).run P w=.ok (goInt m) (w.setRow (g.br b) (storeCells arr.toList off news).toArray):=by
   by_cases cg:ys=[]
   ·subst cg;have R2:m=0:=by rw[<- hm];simp
    subst R2;refine⟨[],⟨by simp[zL],λ_ _ e=>by simp[zL] at e,λ_ _ _ e=>by simp[zL] at e⟩,?_⟩
    rw[AR];have e1:(w.setRow (g.br b) (storeCells arr.toList off []).toArray)=w:=by
     show w.setRow (g.br b) arr.toList.toArray=w;rw[Array.toArray_toList];exact setRow_self w _ arr _ _ a1
    rw[e1];simp only[z9,nq] at hn;obtain⟨i,hi,He⟩:=hn;cases ad<;>simp[Builtin.copy_,run_underlying ht,Builtin.lenOf,Builtin.firstCells,sizeOf,typeInfo,hi,Go.storeCells,loadCells,loadCellsFrom]
   ·obtain⟨a0,news,rfl,dA,f_⟩:=nV cg;have mq:news.length=ys.length:=by rw[<- dA.len,qd lf.sized];simp
    have Ik:m<=ys.length:=by omega
    have Vp:zL (ys.take m)=(zL ys).take m:=by
     have h1:zL ys=zL (ys.take m)++zL (ys.drop m):=by rw[<- Yp,Cy]
     have h2:(zL (ys.take m)).length=m:=by rw[qd (sz:=1) λy hy=>lf.sized y (EZ hy)];simp;omega
     rw[h1,List.take_append_of_le_length (by omega)];exact(Af (by omega)).symm
    refine⟨news.take m,by rw[Vp];exact(dA.take m).Bp,?_⟩
    have Ms:=run_copy_row P w t t2 ty e (g.br b) off len cap a0 ys.length cy arr tt (news.take m) ht NY a1 (by rw[tR,mq,<- hm];show min (min len ys.length) ys.length=min ys.length len;omega) (λj v hv=>f_ j v (by
     rw[Bk] at hv;split at hv
     ·exact hv
     ·cases hv)) (by rw[tR,mq];omega) (dA.take m).pW
    rw[AR,Ms];have e1:(news.take m).length=m:=by rw[tR,mq];omega
    have k_:arr.toList.take off++news.take m++arr.toList.drop (off+(news.take m).length)=storeCells arr.toList off (news.take m):=by
     have o7:arr.toList=arr.toList.take off++(arr.toList.drop off).take m++arr.toList.drop (off+m):=by
      rw[nI,<- List.drop_drop,Cy,Cy]
     have hlen:(arr.toList.take off).length=off:=by rw[tR,DJ];omega
     have:=ji (news.take m) ((arr.toList.drop off).take m) (arr.toList.take off) (arr.toList.drop (off+m)) (by rw[tR,List.length_drop,DJ];omega)
     rw[hlen,<- o7] at this;rw[this,e1]
    rw[k_,e1]
  have mq:news.length=m:=fZ.len.symm.trans c2;simp only[iI];generalize hL:(zL (ys.take m)).map aX=L at *;have YW:aA L<=s.H.af.length:=by
   rw[<- hL,ju];exact cR yl (cR (lD _ _) lf.aA)
  refine⟨_,g,_,_,rfl,cj,YV h hb a1 a2 a3 a4 fZ (λq hq=>?_) YW (by omega) (by rw[c2];exact Av),.int _ _,λ_ _=>trivial,dJ _⟩
  rw[<- hL] at hq;obtain⟨q',_,rfl⟩:=r7.1 hq;exact zmt q'
end
section
variable{P:aD}{B:dK}{g:Gh}{s:St}{a:Act}{w:aB}
structure pY(P:aD)(cx:Cx)(B:dK):Prop where
 prog:cx.P=P
 num:yQ P
 YX:wQ P
 gl:gv P cx.gl B.g
 calls:∃d,d<B.d/\xQ P cx.gl cx.call d
def fT.ends{s':St}{o:Oper}{v:V}(hv:fT P B s' a w o v){r:OR}(hr:r=.val v){K:Act->aB->Prop}{Q:Exit->Act->aB->Prop}(hE:Ends P B o r s' K Q):o.wp P a w K Q :=
 zqB hv λg' cv w' hk=>hE.val v hr g' cv a w' hk
def o8.ends{s':St}{o:Oper}(hv:o8 P B s' a w o){r:OR}(hr:r=.skip){K:Act->aB->Prop}{Q:Exit->Act->aB->Prop}(hE:Ends P B o r s' K Q):o.wp P a w K Q :=
 wp_skip hv λg' w' hk=>hE.skip hr g' a w' hk
def YY(h:Rel B g s a w){xs:nO}{vs:aj}(hp:bt s.env xs.toList=some vs):vs.length=(xs.map a.eval).size/\(∀(j:Nat)(x:V)(v:aP),vs[j]?=some x->(xs.map a.eval)[j]?=some v->aL g x v)/\aA vs<=s.H.af.length:=by
 obtain⟨h1,h2,h3,_⟩:=Vi h hp;refine⟨by simp[h1],λj x v hx hv=>h2 j x v hx ?_,h3⟩
 rw[<- Me] at hv;simpa using hv
def NZ{cx:Cx}(mu:pY P cx B)(h:Rel B g s a w){takes:bA}{o:Oper}{r:OR}{s':St}(az:cx.op takes o s.env s.H s.lk s.defers=some (r,s')){K:Act->aB->Prop}{Q:Exit->Act->aB->Prop}(hE:Ends P B o r s' K Q):o.wp P a w K Q:=by
 obtain⟨hP,gx,eB,cU,d,hd,dQ⟩:=mu;subst hP;have Ig:gv cx.P cx.gl g:=cU.le h.fr.le;have read:∀v,qi cx.P cx.gl o s.env s.H=some v->r=.val v->s'=s->o.wp cx.P a w K Q:=by
  intro v hv hr hs;subst hs;exact fT.ends (Yz h Ig hv) hr hE
 have CM:(match qi cx.P cx.gl o s.env s.H with|none=>none|some v=>some (OR.val v,(⟨s.env,s.H,s.lk,s.defers⟩:St)))=some (r,s')->o.wp cx.P a w K Q:=by
  intro hh;split at hh<;>simp only[aO,reduceCtorEq,bP] at hh;rename_i v hv;exact read v hv hh.1.symm hh.2.symm
 unfold Cx.op at az;simp only at az;split at az
 ·rename_i x ho;split at az
  ·split at az<;>simp only[aO,reduceCtorEq,bP] at az;rename_i v bB ht;obtain⟨rfl,rfl⟩:=az;exact(zhD h ht (.inl ho)).ends rfl hE
  ·exact CM az
 next x ho=>split at az<;>simp only[aO,reduceCtorEq,bP] at az;rename_i v bB ht;obtain⟨rfl,rfl⟩:=az;exact(zhD h ht (.inr ho)).ends rfl hE
 ·rename_i t p ho;split at az
  ·exact CM az
  ·split at az<;>try (cases az;done)
   rename_i b off nD hp;split at az<;>try (cases az;done)
   rename_i cs ty hb;split at az<;>try (cases az;done)
   next sz xs e hc=>simp only[eV,qx,aO,bP] at az;obtain⟨rfl,rfl⟩:=az;rw[zf] at hc;have:=zoE h nD hp hb hc ho;refine fT.ends (v:=.sl sz xs (.yes e)) ?_ rfl hE;simpa[Hp.bQ,V.top] using this
   ·rename_i hc;simp only[aO,bP] at az;obtain⟨rfl,rfl⟩:=az;rw[zf] at hc;have hl:zA cx.P s.H cx.gl t (.ptr b off)=some .aU:=by
     simp[zA,hb,jZ,nD,zf,hc]
    have Qd:qi cx.P cx.gl o s.env s.H=some .aU:=by
     obtain⟨dst,op,type,pos,after,guard⟩:=o;simp only at ho;subst ho;simp[qi,hp,hl,aX]
    exact fT.ends (Yz h Ig Qd) rfl hE
   ·rename_i c9 u9 n9 hc;simp only[aO,bP] at az;obtain⟨rfl,rfl⟩:=az;rw[zf] at hc;have hl:zA cx.P s.H cx.gl t (.ptr b off)=some (.fA c9 u9 n9):=by
     simp[zA,hb,jZ,nD,zf,hc]
    have Qd:qi cx.P cx.gl o s.env s.H=some (.fA c9 u9 n9):=by
     obtain⟨dst,op,type,pos,after,guard⟩:=o;simp only at ho;subst ho;simp[qi,hp,hl,aX]
    exact fT.ends (Yz h Ig Qd) rfl hE
 ·rename_i t ho;split at az<;>try (cases az;done)
  rename_i z hz;split at az<;>try (cases az;done)
  rename_i eA;simp only[zQ,qb,aO,bP] at az;obtain⟨rfl,rfl⟩:=az;exact(ux h hz (by simpa using eA) ho).ends rfl hE
 ·rename_i t x ho;split at az<;>try (cases az;done)
  rename_i v bB ht;split at az<;>try (cases az;done)
  rename_i eA;simp only[zQ,dD,qb,aO,bP] at az;obtain⟨rfl,rfl⟩:=az;exact(D3 h ht (by simpa using eA) ho).ends rfl hE
 ·rename_i t p x ho;split at az<;>try (cases az;done)
  ·rename_i b off hp;split at az<;>try (cases az;done)
   rename_i v bB n cs ty ht hn hb;simp only[zQ,dD,dN,qx] at az;split at az<;>simp only[aO,reduceCtorEq,bP] at az;rename_i hc;obtain⟨rfl,rfl⟩:=az;simp only[bN] at hc;obtain⟨g',w',h1,h2⟩:=uo h hp ht hn hb hc.1.1.1 (eT hc.1.1.2) (pO hc.1.2) hc.2;exact o8.ends ⟨g',w',by simp[execOp,ho,h1],h2⟩ rfl hE
  ·rename_i b u k hp;split at az<;>try (cases az;done)
   rename_i xv bB n bZ sz cs e hx hn hb;simp only[zQ,dN,qx] at az;split at az<;>simp only[aO,reduceCtorEq,bP] at az;rename_i hc;obtain⟨rfl,rfl⟩:=az;simp only[bN] at hc;have hv:=eT hc.1.1.1;subst hv;obtain⟨g',w',h1,h2⟩:=zlm h hp hx rfl hn hb hc.1.1.2 (eT hc.1.2) (pO hc.2);exact o8.ends ⟨g',w',by simp[execOp,ho,h1],h2⟩ rfl hE
 ·rename_i t rr ho;split at az<;>try (cases az;done)
  simp only[qb,aO,bP] at az;obtain⟨rfl,rfl⟩:=az;exact(zi7 h ho).ends rfl hE
 ·rename_i t l c ho;split at az<;>try (cases az;done)
  rename_i e k lv k' cv ht hl hc;split at az<;>try (cases az;done)
  rename_i n i z hn hi hz;split at az<;>try (cases az;done)
  rename_i CL;have hm:=zgl h ht hl hc hn hi hz (Bool.eq_false_iff.2 CL) ho;split at az
  ·simp only[dD,qh,qb,aO,bP] at az;obtain⟨rfl,rfl⟩:=az;exact hm.2.ends rfl hE
  split at az
  next h0=>simp only[aO,bP] at az;obtain⟨rfl,rfl⟩:=az;exact(hm.1 h0).ends rfl hE
  ·split at az<;>try (cases az;done)
   simp only[dD,qb,aO,bP] at az;obtain⟨rfl,rfl⟩:=az;exact hm.2.ends rfl hE
 ·rename_i t m k x ho;split at az<;>try (cases az;done)
  rename_i b kv v hm hk hx;split at az<;>try (cases az;done)
  rename_i Br;simp only[zQ,dN,qx] at az;split at az<;>try (cases az;done)
  rename_i es hb;split at az<;>simp only[aO,reduceCtorEq,bP] at az;rename_i fJ hs;obtain⟨rfl,rfl⟩:=az;obtain⟨w',h1,h2⟩:=zb7 h hm hk hx (by simpa using Br) hb hs
  exact o8.ends ⟨g,w',by simp[execOp,ho,h1],h2⟩ rfl hE
 ·rename_i t m k x ho;split at az<;>try (cases az;done)
  rename_i b kv v hm hk hx;split at az<;>try (cases az;done)
  rename_i Br;simp only[zQ,dN,qx] at az;split at az<;>try (cases az;done)
  rename_i es hb;split at az<;>simp only[aO,reduceCtorEq,bP] at az;rename_i fJ hs;obtain⟨rfl,rfl⟩:=az;obtain⟨w',h1,h2⟩:=zb7 h hm hk hx (by simpa using Br) hb hs
  exact o8.ends ⟨g,w',by simp[execOp,ho,h1],h2⟩ rfl hE
 ·rename_i t x ho;split at az<;>try (cases az;done)
  rename_i l ht hx;simp only[qb,aO,bP] at az;obtain⟨rfl,rfl⟩:=az;exact(zmq h ht hx ho).ends rfl hE
 ·rename_i it ho;split at az<;>try (cases az;done)
  rename_i b hi;split at az<;>try (cases az;done)
  rename_i l pos hb;have hn:=zoC (P:=cx.P) h hi hb o.type;split at az
  next bu=>rw[if_pos bu] at hn;obtain⟨cv,w',h1,h2,h3⟩:=hn;simp only[qh,qx,aO,bP] at az;obtain⟨rfl,rfl⟩:=az;exact fT.ends ⟨g,cv,w',by simp[execOp,ho,h1],h3,h2,λ_ _=>trivial,by simp[V.top,aA]⟩ rfl hE
  next bu=>rw[if_neg bu] at hn;obtain⟨cv,h1,h2⟩:=hn;simp only[aO,bP] at az;obtain⟨rfl,rfl⟩:=az;exact fT.ends ⟨g,cv,w,by simp[execOp,ho,h1],h,h2,λ_ _=>trivial,by simp[V.top,aA]⟩ rfl hE
 ·rename_i src dst x ho;split at az
  next v bB hv=>simp only[aO,bP] at az;obtain⟨rfl,rfl⟩:=az;exact(zoD (P:=cx.P) h hv ho).ends rfl hE
  ·exact CM az
 ·rename_i t x lo hi ho;split at az
  ·obtain⟨v,e1,e2⟩:=zlk rfl h az ho;exact e2.ends e1 hE
  ·exact CM az
 ·rename_i c ho;split at az
  ·rename_i b gV;have plain:(match cx.builtin b c.argTypes c.args s.env s.H with|none=>none|some (r,env)=>some (r,(⟨env,s.H,s.lk,s.defers⟩:St)))=some (r,s')->o.wp cx.P a w K Q:=by
    intro az;split at az<;>simp only[aO,reduceCtorEq,bP] at az;rename_i r' bB hb;obtain⟨rfl,rfl⟩:=az;obtain⟨v,hv,eA⟩:=zi9 rfl h hb ho gV rfl rfl;exact eA.ends hv hE
   split at az
   ·rename_i x y t ts de D4;obtain⟨v,g',cv,w',e1,e2,e3,e4,e5,e6⟩:=zmu (t2:=ts.headD 0) (ty:=o.type) rfl h az;have ea:=s5 de;have cj:(execOp a.eval o).run cx.P w=.ok (.value cv) w':=by
     have:(Builtin.copy_ c.argTypes o.type #[a.eval x,a.eval y]).run cx.P w=.ok cv w':=by
      rw[<- e2];have:c.argTypes[0]?=some t:=by rw[<- Me,D4];rfl
      simp[Builtin.copy_,this]
     simp[execOp,ho,resolve,gV,ea,invoke,builtin,this]
    exact fT.ends ⟨g',cv,w',cj,e3,e4,λ_ _=>e5 _ _,e6⟩ e1 hE
   ·rename_i x y t u de D4;split at az
    ·split at az<;>try (cases az;done)
     rename_i NV;have NV:=eT NV;subst NV;obtain⟨v,g',cv,w',e1,e2,e3,e4,e5,e6⟩:=zja (ty:=o.type) rfl h az;have ea:=s5 de;have et:=zms D4;have cj:(execOp a.eval o).run cx.P w=.ok (.value cv) w':=by
      simp[execOp,ho,resolve,gV,ea,et,invoke,builtin,e2]
     exact fT.ends ⟨g',cv,w',cj,e3,e4,λ_ _=>e5 _ _,e6⟩ e1 hE
    ·exact plain az
   ·exact plain az
  ·rename_i f gV;split at az<;>try (cases az;done)
   rename_i fv args hf ha;split at az<;>simp only[aO,reduceCtorEq,bP] at az;rename_i r' H' hc;obtain⟨rfl,rfl⟩:=az;obtain⟨f1,f2,_⟩:=zD h hf;obtain⟨a1,a2,a3⟩:=YY h ha;have nV:∃fn fa fc,a.eval f=.func fn fa fc:=by
    unfold Cx.mD at hc;split at hc
    ·generalize a.eval f=c at f1;cases f1;exact⟨_,_,_,rfl⟩
    ·generalize a.eval f=c at f1;cases f1;exact⟨_,_,_,rfl⟩
    ·cases hc
   obtain⟨fn,fa,fc,Vu⟩:=nV;rw[Vu] at f1;refine zhG rfl gx eB hd cU dQ h hc f1 f2 a1 a2 a3 ?_ hE;simp[execOp,ho,resolve,gV,Vu,Deferred.ofValue]
  ·rename_i rcv m gV;split at az<;>try (cases az;done)
   rename_i rv args hf ha;split at az<;>simp only[aO,reduceCtorEq,bP] at az;rename_i r' H' hc;obtain⟨rfl,rfl⟩:=az;obtain⟨f1,f2,_⟩:=zD h hf;obtain⟨a1,a2,a3⟩:=YY h ha
   refine zhG (fn:=.method m) (fa:=#[]) (fc:=#[]) (aM:=#[a.eval rcv]++c.args.map a.eval) rfl gx eB hd cU dQ h hc (.fn rfl rfl (λ_ _ _ e=>by simp at e) (λ_ _ _ e=>by simp at e)) (by simp[V.top,aA]) (by simp at a1 ⊢;omega) ?_ (Ar.2 ⟨f2,a3⟩) ?_ hE
   ·exact vq (l:=[rv]) (x:=#[a.eval rcv]) rfl (λj z v hz hv=>by
     cases j with
     | zero=>simp at hz hv;subst hz;subst hv;exact f1
     | succ j=>simp at hz) a2
   ·simp[execOp,ho,resolve,gV]
 ·rename_i c ho;split at az<;>try (cases az;done)
  rename_i f gV;split at az<;>simp only[aO,reduceCtorEq,bP] at az;rename_i f' first cap args hf ha
  obtain⟨rfl,rfl⟩:=az;obtain⟨f1,f2,_⟩:=zD h hf;obtain⟨a1,a2,a3⟩:=YY h ha;generalize Vu:a.eval f=cf at f1;cases f1 with
  | fn e1 e2 e3 e4 =>
   rename_i fa fc;have ht:=Ar.1 (show max (aA first) (aA cap)<=s.H.af.length from f2)
   have cj:(execOp a.eval o).run cx.P w=.ok (.defer { target:=.fn (.func f') fc,args:=fa++c.args.map a.eval }) w:=by
    simp[execOp,ho,resolve,gV,Vu,Deferred.ofValue]
   unfold Oper.wp;rw[cj,Oper.upon_defer];refine hE.skip rfl g { a with defers:={ target:=.fn (.func f') fc,args:=fa++c.args.map a.eval }::a.defers } w ?_
   refine { bW:=h.bW,len:=h.len,env:=h.env,b_:=h.b_,n0:=h.n0,aS:=h.aS,cK:=h.cK,fr:=h.fr,gm:=h.gm,nB:=h.nB,bh:=h.bh,cY:=by simp[h.cY],defers:=λj x q hx hq=>?_,marks:=λd hd D hD=>(by rcases cS.1 hd with e|Qe;{ subst e;cases hD };{ exact h.marks d Qe D hD }),iD:=.cons (λ_ _ D hD=>nomatch hD) h.iD }
   cases j with
   | zero =>
    simp only[Ce,aO] at hx hq;subst hx;subst hq;exact .inl ⟨f',first,cap,fc,rfl,rfl,by rw[oI,e1,Array.size_append,a1],e2,vq e1 e3 a2,e4,wz ht.1 a3,ht.2⟩
   | succ j=>exact h.defers j x q (by simpa using hx) (by simpa using hq)
 ·rename_i x ho;split at az<;>simp only[aO,reduceCtorEq,bP] at az;rename_i t v hx;obtain⟨rfl,rfl⟩:=az;obtain⟨x1,x2,_⟩:=zD h hx;generalize Mr:a.eval x=Vt at x1;cases x1 with
  | bf hv =>
   rename_i cv;unfold Oper.wp;have:(execOp a.eval o).run cx.P w=.halt (.panic (.iface t cv)) w:=by
    simp[execOp,ho,Mr,Instr.panic,goPanic]
   rw[this,Oper.upon_panic];exact hE.rQ _ rfl g (.iface t cv) a w h (.bf hv) x2
 ·exact CM az
end
section
variable{P:aD}{B:dK}{g:Gh}{s:St}{a:Act}{w:aB}
def R3(g:Gh)(n:Nat):Ex->Exit->Prop
 | .normal,.normal=>True
 | .exit i,.exit j=>i=j
 | .goto i,.goto j=>i=j
 | .ret,.ret=>True
 | .rQ v,.panic chain=>∃cv,chain=[{ v:=cv,recovered:=false }]/\aL g v cv/\v.top<=n
 | _,_=>False
def yB(B:dK)(ex:Ex)(s':St):Exit->Act->aB->Prop:=λe a w=>∃g,Rel B g s' a w/\R3 g s'.H.af.length ex e
def ym(h:Rel B g s a w){ops:Array Oper}{o:Oper}{b:Bool}(hw:zN ops o s.env=some b):Region.wanted o (yielded ops a.tmps)=b:=by
 unfold zN at hw;unfold Region.wanted;split at hw
 next hg=>simp only[aO] at hw;rw[hg,<- hw]
 ·rename_i j want hg;rw[hg];simp only;split at hw<;>try (cases hw;done)
  rename_i d hd;rw[zf] at hw;unfold yielded;rw[hd];simp only[cG];split at hw<;>simp only[aO,reduceCtorEq] at hw
  next c hc=>obtain⟨cv,nJ,_⟩:=h.slot hc;have hr:=(h.env d _ cv hc nJ).1;cases hr;rw[nJ];simp only[<- hw];cases c<;>cases want<;>rfl
  next c hc=>obtain⟨cv,nJ,_⟩:=h.slot hc;have hr:=(h.env d _ cv hc nJ).1;cases hr;rw[nJ,<- hw];rfl
def xy(h:Rel B g s a w)(o:Oper):F2 B g s a w o.dst (.bx []) undef :=
 ⟨h,.bx rfl (λ_ _ _ e=>by simp at e),λ_ _=>trivial,dJ _⟩
def YZ{cx:Cx}(mu:pY P cx B){all:Array Oper}{takes:bA}{ex:Ex}{s':St}{Q:Exit->Act->aB->Prop}(hQ:∀e a w,yB B ex s' e a w->Q e a w):∀(l:List Oper)(s:St)(g:Gh)(a:Act)(w:aB),Rel B g s a w->cx.ops all takes l s=some (ex,s')->wpList P all Q l a w
 | [],s,g,a,w,h,hc=>by
  simp only[Cx.ops,aO,bP] at hc;obtain⟨rfl,rfl⟩:=hc;exact hQ _ _ _ ⟨g,h,trivial⟩
 | o::os,⟨env,H,lk,df⟩,g,a,w,h,hc=>by
  have ih:=YZ mu (all:=all) (takes:=takes) hQ os;simp only[Cx.ops] at hc;unfold wpList;split at hc<;>try (cases hc;done)
  ·rename_i hw;rw[if_neg (by rw[ym h hw];simp)]
   rw[jc] at hc;exact ih _ g _ w (yx (xy h o)) hc
  ·rename_i hw;rw[if_pos (ym h hw)]
   left
   split at hc<;>try (cases hc;done)
   next v bB H' oM Fb az=>rw[jc] at hc;refine NZ mu h az ⟨λv' hv g' cv a' w' hk=>?_,(λhv=>nomatch hv),(λv' hv=>nomatch hv)⟩;cases hv;exact ih _ g' _ w' (yx hk) hc
   next bB H' oM Fb az=>rw[jc] at hc;refine NZ mu h az ⟨(λv' hv=>nomatch hv),λ_ g' a' w' hk=>?_,(λv' hv=>nomatch hv)⟩;exact ih _ g' _ w' (yx (xy hk o)) hc
   next v s1 az=>simp only[aO,bP] at hc;obtain⟨rfl,rfl⟩:=hc;refine NZ mu h az ⟨(λv' hv=>nomatch hv),(λhv=>nomatch hv),λv' hv g' cv a' w' hk h1 h2=>?_⟩;cases hv;exact hQ _ _ _ ⟨g',hk,cv,rfl,h1,h2⟩
def Rel.bD(h:Rel B g s a w):Rel B g { s with lk:=[] } a w :=
 {bW:=h.bW,len:=h.len,env:=h.env,b_:=h.b_,n0:=h.n0,aS:=h.aS,cK:=h.cK,fr:=h.fr,gm:=h.gm,nB:=λ_ hp=>by simp at hp,bh:=h.bh,cY:=h.cY,defers:=h.defers,marks:=h.marks,iD:=h.iD }
def Qf(P:aD)(cx:Cx)(B:dK):Prop:=pY P cx B->∀(id:Nat)(ops:Array Oper)(s s':St)(ex:Ex)(g:Gh)(a:Act)(w:aB),cx.draw ops s=some (ex,s')->Rel B g s a w->(Code.region id ops true).wp P (yB B ex s') a w
def Qg(P:aD)(cx:Cx)(B:dK):Prop:=pY P cx B->∀(n:Nat)(f:aH)(ps:Array Tmp)(as bd:Code)(s s':St)(ex:Ex)(g:Gh)(a:Act)(w:aB),cx.code n (.rangeFunc f ps as bd) s=some (ex,s')->Rel B g s a w->(Code.rangeFunc f ps as bd).wp P (yB B ex s') a w
def wA{B:dK}{ex:Ex}{s':St}{K:Act->aB->Prop}{Q:Exit->Act->aB->Prop}(hn:ex=.normal->∀g a w,Rel B g s' a w->K a w)(ho:ex≠.normal->∀e a w,yB B ex s' e a w->Q e a w):∀e a w,yB B ex s' e a w->Exit.then K Q e a w:=by
 rintro e a w ⟨g,h1,h2⟩;cases ex<;>cases e<;>first
  |(exact h2.elim)
  |(exact hn rfl g a w h1)
  | (exact ho (λe=>by cases e) _ _ _ ⟨g,h1,h2⟩)
def zj4{cx:Cx}(mu:pY P cx B)(fD:Qf P cx B)(R4:Qg P cx B)(n:Nat):∀(c:Code)(s s':St)(ex:Ex)(g:Gh)(a:Act)(w:aB),cx.code n c s=some (ex,s')->Rel B g s a w->c.wp P (yB B ex s') a w:=by
 intro c
 induction c with
 | skip =>
  intro s s' ex g a w hc h;simp only[Cx.code,aO,bP] at hc;obtain⟨rfl,rfl⟩:=hc;exact Go.wp_skip ⟨g,h,trivial⟩
 | label l =>
  intro s s' ex g a w hc h;simp only[Cx.code,aO,bP] at hc;obtain⟨rfl,rfl⟩:=hc;exact wp_label ⟨g,h,trivial⟩
 | region id ops draw =>
  intro s s' ex g a w hc h;cases draw with
  | false =>
   obtain⟨env,H,lk,df⟩:=s;simp only[Cx.code] at hc;exact wp_region_list (YZ mu (λ_ _ _ q=>q) _ _ g a w h.bD hc)
  | true =>
   simp only[Cx.code] at hc;exact fD mu id ops s s' ex g a w hc h
 | seq x y Fc Il =>
  intro s s' ex g a w hc h;simp only[Cx.code] at hc;split at hc<;>try (cases hc;done)
  next s1 hx=>refine wp_seq (Code.wp_mono (wA (λ_ g' a' w' h'=>Il s1 s' ex g' a' w' hc h') (λe=>absurd rfl e)) (Fc s s1 .normal g a w hx h))
  next e1 s1 cg hx=>simp only[aO,bP] at hc;obtain⟨rfl,rfl⟩:=hc;refine wp_seq (Code.wp_mono (wA (λe=>absurd e ?_) (λ_ _ _ _ q=>q)) (Fc s _ _ g a w hx h));exact λe=>by simp_all
 | cond c x y Fc Il =>
  intro s s' ex g a w hc h;simp only[Cx.code] at hc;split at hc<;>try (cases hc;done)
  next hp=>have c1:=(zD h hp).1;generalize pK:a.eval c=cc at c1;cases c1;exact wp_cond_true pK (Fc s s' ex g a w hc h)
  next hp=>have c1:=(zD h hp).1;generalize pK:a.eval c=cc at c1;cases c1;exact wp_cond_false pK (Il s s' ex g a w hc h)
 | block id c ih =>
  intro s s' ex g a w hc h;simp only[Cx.code] at hc;split at hc<;>try (cases hc;done)
  ·rename_i i s1 hx;simp only[aO,bP] at hc;obtain⟨rfl,rfl⟩:=hc;refine wp_block (Code.wp_mono ?_ (ih s s1 (.exit i) g a w hx h));rintro e a' w' ⟨g',h1,h2⟩;cases e<;>first|(exact h2.elim)|skip
   rename_i j;have:i=j:=h2;subst this;simp only[Exit.inBlock];split
   next e=>subst e;exact⟨g',h1,by simp[R3]⟩
   ·rename_i e;refine⟨g',h1,?_⟩;have:Nat.beq i id=false:=by
     cases hb:Nat.beq i id with
     | false=>rfl
     | true=>exact absurd (eT hb) e
    simp[this,R3]
  ·rename_i e1 s1 cg hx;simp only[aO,bP] at hc;obtain⟨rfl,rfl⟩:=hc;refine wp_block (Code.wp_mono ?_ (ih s _ _ g a w hx h));rintro e a' w' ⟨g',h1,h2⟩;cases e with
   | exit j=>cases e1<;>first|(exact h2.elim)|(exact(cg _ rfl).elim)
   | _=>exact⟨g',h1,h2⟩
 | loop c ih =>
  intro s s' ex g a w hc h;simp only[Cx.code] at hc;refine wp_loop_rounds n ?_;have key:∀(m:Nat)(s:St)(g:Gh)(a:Act)(w:aB),yP (cx.code n c) m s=some (ex,s')->Rel B g s a w->Code.rounds P c (yB B ex s') m a w:=by
   intro m
   induction m with
   | zero=>intro s g a w hi;simp[yP] at hi
   | succ m Y0 =>
    intro s g a w hi h;simp only[yP] at hi;rw[rounds_succ];split at hi<;>try (cases hi;done)
    next s1 hx=>exact Code.wp_mono (wA (λ_ g' a' w' h'=>Y0 s1 g' a' w' hi h') (λe=>absurd rfl e)) (ih s s1 .normal g a w hx h)
    next e1 s1 cg hx=>simp only[aO,bP] at hi;obtain⟨rfl,rfl⟩:=hi;exact Code.wp_mono (wA (λe=>absurd e (λe=>by simp_all)) (λ_ _ _ _ q=>q)) (ih s _ _ g a w hx h)
  exact key n s g a w hc h
 | exit id =>
  intro s s' ex g a w hc h;simp only[Cx.code,aO,bP] at hc;obtain⟨rfl,rfl⟩:=hc;exact wp_exit ⟨g,h,rfl⟩
 | ret =>
  intro s s' ex g a w hc h;simp only[Cx.code,aO,bP] at hc;obtain⟨rfl,rfl⟩:=hc;exact wp_ret ⟨g,h,trivial⟩
 | scope c ih =>
  intro s s' ex g a w hc h;simp only[Cx.code] at hc;split at hc<;>try (cases hc;done)
  rename_i e1 s1 hng hx;simp only[aO,bP] at hc;obtain⟨rfl,rfl⟩:=hc;refine wp_scope_straight (Code.wp_mono ?_ (ih s _ _ g a w hx h));rintro e a' w' ⟨g',h1,h2⟩;cases e with
  | goto l=>cases e1<;>first|(exact h2.elim)|(exact(hng _ rfl).elim)|(exact(hng _ _ rfl).elim)|(simp_all;done)
  | _=>exact⟨g',h1,h2⟩
 | rangeFunc f ps as bd=>intro s s' ex g a w hc h;exact R4 mu n f ps as bd s s' ex g a w hc h
 | _=>intro s s' ex g a w hc;simp[Cx.code] at hc
end
section
variable{P:aD}{B:dK}{g:Gh}{s:St}{a:Act}{w:aB}
def zfj(n:Nat):aA (List.replicate n (V.bx []))=0:=by
 induction n with
 | zero=>rfl
 | succ n ih=>simp[List.replicate_succ,aA,V.top,ih]
def zhK{H:Hp}{args:aj}{aM:cO}(hw:m8 g H.af w)(ha:dG g H.af.length args aM)(d n:Nat) :
  Rel ⟨d,H.af,g,w,[]⟩ g ⟨args++List.replicate (n - args.length) (.bx []),⟨H.af,[]⟩,[],[]⟩ { tmps:=aM++Array.replicate (n - aM.size) undef,defers:=[] } w:=by
 have Y1:aL g (.bx []) undef:=.bx rfl (λ_ _ _ e=>by simp at e)
 refine { bW:=hw,len:=by simp[ha.len],env:=λt x v hx hv=>?_,b_:=λt x hx=>?_,n0:=bV _,aS:=λb x hx=>.inr (.inr ⟨x,hx,bV _⟩),cK:=λb h1 h2=>absurd h1 (Nat.not_le.2 h2),fr:=.refl _ _ _ _,gm:=λb off hl=>?_,nB:=λ_ hp=>by simp at hp,bh:=λ_ hp=>by simp at hp,cY:=rfl,defers:=(λ_ _ _ hx=>by simp at hx),marks:=(λ_ hd=>by simp at hd),iD:=.nil }
 ·rcases iT t args.length with h|h
  ·have cP:aM[t]?=some v:=by rw[Array.getElem?_append_left (by rw[<- ha.len];exact h)] at hv;exact hv
   have m_:args[t]?=some x:=by
    have:(args++List.replicate (n - args.length) (V.bx []))[t]?=some x:=hx
    rwa [nH h] at this
   refine⟨ha.rel t x v m_ cP,?_⟩;have:=ha.no x (zy m_);unfold cq;split
   ·exact absurd rfl (this _ _ _)
   ·trivial
  ·have m_:(List.replicate (n - args.length) (V.bx []))[t - args.length]?=some x:=by
    have:(args++List.replicate (n - args.length) (V.bx []))[t]?=some x:=hx
    rwa [nN h] at this
   have cP:(Array.replicate (n - aM.size) undef)[t - aM.size]?=some v:=by rw[Array.getElem?_append_right (by rw[<- ha.len];exact h)] at hv;exact hv
   rw[List.getElem?_replicate] at m_;rw[Array.getElem?_replicate] at cP;split at m_<;>simp only[aO,reduceCtorEq] at m_;split at cP<;>simp only[aO,reduceCtorEq] at cP;subst m_;subst cP;exact⟨Y1,trivial⟩
 ·have m_:(args++List.replicate (n - args.length) (V.bx []))[t]?=some x:=hx;refine cR (zk (zy m_)) (wz ha.top ?_);rw[zfj];exact dJ _
 ·rcases hl with hl|⟨q,hq,_⟩
  ·exact hl
  ·simp at hq
def ql(n0:Nat)(es:aC)(top:Nat)(H:Hp):Hp :=
 if Nat.ble top n0 && H.aS.all (λe=>Nat.ble n0 e.1 || Nat.ble e.2 n0) then ⟨H.af.take n0,H.aS.filter (λe=>Nat.blt e.1 n0)++es⟩ else ⟨H.af,H.aS++es⟩
def kI{β:Type}(n0:Nat)(es:aC)(top:Nat)(H:Hp)(k:Hp->β):RB n0 es top H k=k (ql n0 es top H):=by
 cases H;simp only[RB,ql,dN];split<;>rfl
def cq.less{n n':Nat}(hn:n'<=n){l:Loc}{x:V}{cv:aP}(h:cq g n w l x cv):cq g n' w l x cv:=by
 unfold cq at *;split
 ·obtain⟨vs,h1,h2⟩:=h;exact⟨vs,h1,λc hc=>⟨(h2 c hc).1,(h2 c hc).2.1,λb hb=>(h2 c hc).2.2 b (rY hb hn)⟩⟩
 ·trivial
def fO.less{n n' b:Nat}(hn:n'<=n){x:aN}(h:fO g n w b x):fO g n' w b x:=by
 cases x with
 | cells cs t =>
  obtain⟨arr,h1,h2,h3⟩:=h;exact⟨arr,h1,h2,λj x v hx hv=>⟨(h3 j x v hx hv).1,(h3 j x v hx hv).2.1,(h3 j x v hx hv).2.2.1.less hn,(h3 j x v hx hv).2.2.2⟩⟩
 | map es=>exact h
 | iter l p=>exact h
 | ul bZ sz cs e =>
  obtain⟨c,len,cap,vs,hu⟩:=h;exact⟨c,len,cap,vs,{ hu with others:=λb' bY=>hu.others b' (rY bY hn) }⟩
def Y2{d:Nat}{H0:Hp}{g0:Gh}{w0:aB}(Y3:m8 g0 H0.af w0)(h:Rel ⟨d,H0.af,g0,w0,[]⟩ g s a w){top:Nat}(ht:top<=s.H.af.length) :
  iY d H0 g0 w0 (ql H0.af.length H0.aS top s.H) g w/\top<=(ql H0.af.length H0.aS top s.H).af.length/\(ql H0.af.length H0.aS top s.H).af.length<=s.H.af.length:=by
 have Kf:H0.af.length<=s.H.af.length:=h.n0;have KN:∀b off,qP H0.af b off->qP s.H.af b off:=λb off hl=>h.gm b off (.inl hl);unfold ql;split
 ·rename_i hc;simp only[bN,Cf,gZ] at hc;obtain⟨rR,um⟩:=hc;have hlen:(s.H.af.take H0.af.length).length=H0.af.length:=by simp[Kf]
  have dO:∀b,b<H0.af.length->(s.H.af.take H0.af.length)[b]?=s.H.af[b]?:=λb hb=>by rw[Bk,if_pos hb]
  have CH:∀(b:Nat)(x:aN),(s.H.af.take H0.af.length)[b]?=some x->b<H0.af.length/\s.H.af[b]?=some x:=λb x hx=>by
   have hb:=(dW.1 hx).1;rw[hlen] at hb;exact⟨hb,(dO b hb) ▸ hx⟩
  have g_:∀(b:Nat)(x:aN),b<H0.af.length->s.H.af[b]?=some x->x.top<=b+1\/(∃m,(b,m)∈s.H.aS/\m<=H0.af.length/\x.top<=m)\/∃y:aN,H0.af[b]?=some y/\x.top<=y.top:=λb x hb hx=>by
   rcases h.aS b x hx with h1|⟨m,h1,h2⟩|h1
   ·exact .inl h1
   ·refine .inr (.inl ⟨m,h1,?_,h2⟩);rcases um _ h1 with h3|h3
    ·have:=pO h3;simp only at this;omega
    ·exact pO h3
   ·exact .inr (.inr h1)
  refine⟨{ bW:={ mem:=h.bW.mem,lt:=λb hb=>h.bW.lt b (by simp only at hb;omega),inj:=λb b' hb bY e=>h.bW.inj b b' (by simp only at hb;omega) (by simp only at bY;omega) e,apart:=λb hb=>h.bW.apart b (by simp only at hb;omega),dF:=h.bW.dF,cF:=λb hb=>h.bW.cF b (by simp only at hb;omega),ok:=λb x hx=>?_,aA:=λb x hx=>?_,laid:=λc hc=>⟨(h.bW.laid c hc).1,(h.bW.laid c hc).2.1,λb hb=>(h.bW.laid c hc).2.2 b (by simp only at hb;omega)⟩ },fr:=h.fr,len:=by simp only;omega,cK:=λb h1 h2=>by simp only at h2;omega,aS:=λb x hx=>?_,uz:=λp hp=>FQ _ hp,gm:=λb off hl=>?_ },by simp only;rw[hlen];exact pO rR,by simp only;omega⟩
  ·obtain⟨_,m_⟩:=CH b x hx;simp only;exact(h.bW.ok b x m_).less (by omega)
  ·obtain⟨hb,m_⟩:=CH b x hx;simp only;rw[hlen];rcases g_ b x hb m_ with h1|⟨m,_,h1,h2⟩|⟨y,h1,h2⟩
   ·omega
   ·omega
   ·exact cR h2 (Y3.aA b y h1)
  ·obtain⟨hb,m_⟩:=CH b x hx;rcases g_ b x hb m_ with h1|⟨m,h0,h1,h2⟩|h1
   ·exact .inl h1
   ·refine .inr (.inl ⟨m,DI _ (List.mem_filter.2 ⟨h0,?_⟩),h2⟩);simpa[G6] using hb
   ·exact .inr (.inr h1)
  ·obtain⟨cs,t,sz,xs,h1,h2⟩:=KN b off hl;obtain⟨_,_,_,_,k1,_⟩:=hl;exact⟨cs,t,sz,xs,by simp only;rw[dO b (dW.1 k1).1];exact h1,h2⟩
 ·refine⟨{ bW:=h.bW,fr:=h.fr,len:=Kf,cK:=h.cK,aS:=λb x hx=>?_,uz:=λp hp=>FQ _ hp,gm:=KN },ht,bV _⟩;rcases h.aS b x hx with h1|⟨m,h1,h2⟩|h1
  ·exact .inl h1
  ·exact .inr (.inl ⟨m,DI _ h1,h2⟩)
  ·exact .inr (.inr h1)
end
section
variable{P:aD}{B:dK}{g:Gh}{s:St}{a:Act}{w:aB}
def Y4{tmps:cO}{t:Nat}{cv:aP}(h:tmps[t]?=some cv):tmps.getD t undef=cv:=by
 obtain⟨h1,h2⟩:=ud.1 h;simp[Array.getD,h1,h2]
def zhL{p:V}{cp:aP}(hr:aL g p cp){t:ai}{v:V}{H:Hp}(hl:zA P H (λ_ _=>none) t p=some v):(do loadVar t (<- asAddr cp):Sem aP).run P w=(Instr.loadAt t cp).run P w:=by
 unfold zA at hl;split at hl
 ·cases hr;simp[Instr.loadAt,Instr.sureAddr,asAddr]
 ·cases hr;simp[Instr.loadAt,Instr.sureAddr,asAddr]
 ·cases hr;simp[Instr.loadAt,Instr.sureAddr,asAddr]
 ·cases hr;simp[Instr.loadAt,Instr.sureAddr,asAddr]
 ·cases hl
def K0(tmps:cO):ResultVar->Sem aP
 | .tmp t=>pure (tmps.getD t undef)
 | .cell x t=>do loadVar t (<- asAddr (tmps.getD x undef))
def N0:dy->aP
 | [v]=>v
 | vs=>.tuple vs.toArray
def zjc(fn:Func)(tmps:cO):results fn tmps=(do let vs <- fn.results.toList.mapM (K0 tmps);pure (N0 vs)):=by
 have h1:results fn tmps=(do let vs <- fn.results.mapM (K0 tmps);pure (if h:vs.size=1 then vs[0] else .tuple vs)):=by
  unfold results
  congr 1
  try (congr 1;try (funext x;cases x<;>rfl))
 rw[h1,Array.mapM_eq_mapM_toList];simp only[bind_map_left]
 congr 1
 funext vs
 match vs with
 | []=>rfl
 | [v]=>rfl
 | v::u::r=>simp[N0]
def zgr{H:Hp}{env:aj}:∀{rs:List ResultVar},zG P H env rs=some []->rs=[]
 | [],_=>rfl
 | .tmp t::rs,h=>by
  simp only[zG] at h;split at h<;>simp at h
 | .cell c t::rs,h=>by
  simp only[zG] at h;split at h<;>try (cases h;done)
  split at h<;>simp at h
def Y5(h:Rel B g s a w):∀{rs:List ResultVar}{vs:aj},zG P s.H s.env rs=some vs ->
  ∃F3:dy,(rs.mapM (K0 a.tmps)).run P w=.ok F3 w/\vs.length=F3.length /\
   (∀(j:Nat)(x:V)(v:aP),vs[j]?=some x->F3[j]?=some v->aL g x v)/\aA vs<=s.H.af.length
 | [],vs,hr=>by
  simp only[zG,aO] at hr;subst hr;exact⟨[],by simp,rfl,λ_ _ _ hx=>by simp at hx,dJ _⟩
 | .tmp t::rs,vs,hr=>by
  simp only[zG] at hr;split at hr<;>simp only[aO,reduceCtorEq] at hr;rename_i v us hv DS;subst hr;rw[zf] at hv;obtain⟨F3,h1,h2,h3,h4⟩:=Y5 h DS;obtain⟨cv,nJ,_⟩:=h.slot hv;refine⟨cv::F3,?_,by simp[h2],λj x u hx hu=>?_,Ar.2 ⟨h.b_ t v hv,h4⟩⟩
  ·have hF:K0 a.tmps (.tmp t)=pure cv:=by simp only[K0];rw[Y4 nJ]
   simp[List.mapM_cons,hF,h1]
  ·cases j with
   | zero=>simp at hx hu;subst hx;subst hu;exact(h.env t _ _ hv nJ).1
   | succ j=>exact h3 j x u (by simpa using hx) (by simpa using hu)
 | .cell c t::rs,vs,hr=>by
  simp only[zG] at hr;split at hr<;>try (cases hr;done)
  rename_i p hp;split at hr<;>simp only[aO,reduceCtorEq] at hr;rename_i v us hl DS;subst hr;rw[zf] at hp;obtain⟨F3,h1,h2,h3,h4⟩:=Y5 h DS;obtain⟨cp,N1,_⟩:=h.slot hp;have hrp:=(h.env c _ _ hp N1).1;obtain⟨cv,l1,l2,l3⟩:=zhv h (gl:=λ_ _=>none) ⟨λ_ _ _ e=>(nomatch e),λ_ _ _ e=>(nomatch e)⟩ hrp (h.b_ c p hp) hl
  refine⟨cv::F3,?_,by simp[h2],λj x u hx hu=>?_,Ar.2 ⟨by rw[dw];exact l3,h4⟩⟩
  ·have hF:(K0 a.tmps (.cell c t)).run P w=.ok cv w:=by
    simp only[K0];rw[Y4 N1];exact(zhL (P:=P) (w:=w) hrp hl).trans l1
   simp[List.mapM_cons,hF,h1]
  ·cases j with
   | zero=>simp at hx hu;subst hx;subst hu;exact l2.aX
   | succ j=>exact h3 j x u (by simpa using hx) (by simpa using hu)
def zef(h:Rel B g s a w){fn:Func}{vs:aj}(hr:zG P s.H s.env fn.results.toList=some vs)(l:Loc) :
  ∃g' s' cv,(results fn a.tmps).run P w=.ok cv w/\s'.H=s.H/\Rel B g' s' a w/\aL g' (fN vs) cv/\cq g' s.H.af.length w l (fN vs) cv/\(fN vs).top<=s.H.af.length:=by
 obtain⟨F3,h1,h2,h3,h4⟩:=Y5 h hr;have cj:(results fn a.tmps).run P w=.ok (N0 F3) w:=by
  rw[zjc];simp[h1]
 match vs,h2,h3,h4,hr with
 | [v],h2,h3,h4,hr =>
  obtain⟨cv,rfl⟩:∃cv,F3=[cv]:=by
   match F3,h2 with
   | [cv],_=>exact⟨cv,rfl⟩
  have hv:aL g v cv:=h3 0 v cv rfl rfl;have ht:v.top<=s.H.af.length:=cR (FX _ _) h4;have plain:(∀k,cq g k w l v cv)->∃g' s' cv,(results fn a.tmps).run P w=.ok cv w/\s'.H=s.H/\Rel B g' s' a w/\aL g' (fN [v]) cv/\cq g' s.H.af.length w l (fN [v]) cv/\(fN [v]).top<=s.H.af.length :=
   λho=>⟨g,s,cv,cj,rfl,h,hv,ho _,ht⟩
  by_cases iE:∃sz xs e,v=.sl sz xs (.yes e)
  ·obtain⟨sz,xs,e,rfl⟩:=iE;cases R5:fn.results.toList with
   | nil=>rw[R5] at hr;simp[zG] at hr
   | cons r rs =>
    rw[R5] at hr;cases r with
    | tmp t =>
     simp only[zG] at hr;split at hr<;>simp only[aO,reduceCtorEq,rZ] at hr;rename_i y us hy DS;obtain⟨rfl,rfl⟩:=hr;rw[zf] at hy;have iX:take s.env (.tmp t)=some (.sl sz xs (.yes e),s.env.set t (.sl sz xs .no)):=by
      simp[take,zf,hy,eV]
     obtain⟨g',k1,k2,k3,k4,_⟩:=gN h iX l;obtain⟨cv',Y6,he⟩:=h.slot hy;have lX:a.eval (.tmp t)=cv:=by
      rw[he];have Y7:=zgr DS;have hF:K0 a.tmps (.tmp t)=pure cv':=by simp only[K0];rw[Y4 Y6]
      rw[R5,Y7] at h1;simp[List.mapM_cons,hF] at h1;exact h1
     rw[lX] at k2 k3;exact⟨g',{ s with env:=s.env.set t (.sl sz xs .no) },cv,cj,rfl,k1,k2,k3,ht⟩
    | cell c t =>
     exfalso;simp only[zG] at hr;split at hr<;>try (cases hr;done)
     split at hr<;>simp only[aO,reduceCtorEq,rZ] at hr;exact vP _ _ _ _ hr.1
  ·refine plain λk=>?_;unfold cq;split
   next sz xs e=>exact absurd ⟨sz,xs,e,rfl⟩ iE
   ·trivial
 | [],h2,h3,h4,hr =>
  have:F3=[]:=Md.1 h2.symm;subst this;exact⟨g,s,_,cj,rfl,h,.bx rfl (λ_ _ _ e=>by simp at e),trivial,dJ _⟩
 | v::u::r,h2,h3,h4,hr =>
  match F3,h2 with
  | cv::cu::cr,h2 =>
   refine⟨g,s,_,cj,rfl,h,?_,trivial,?_⟩
   ·refine .bx (by simpa using h2) λj x y hx hy=>?_
    simp only[pH,nq] at hx;obtain⟨z,hz,rfl⟩:=hx;exact(h3 j z y hz (by simpa using hy)).aX
   ·show aA ((v::u::r).map aX)<=_;rw[ju];exact h4
end
section
variable{P:aD}{B:dK}{g:Gh}{s:St}{a:Act}{w:aB}
def eO:Option aP->Bool->FrameMode
 | none,_=>.returning
 | some cv,r=>.panicking [{ v:=cv,recovered:=r }]
def oR(g:Gh)(n:Nat):bS->Option aP->Prop
 | none,none=>True
 | some v,some cv=>aL g v cv/\v.top<=n
 | _,_=>False
def oR.le{n n':Nat}{g g':Gh}(hg:Gh.Le n g g')(hn:n<=n'){p:bS}{pc:Option aP}(h:oR g n p pc):oR g' n' p pc:=by
 cases p<;>cases pc<;>first|exact h|exact⟨h.1.le hg h.2,cR h.2 hn⟩
def Y8(B:dK)(ex:Ex)(s':St)(pc:Option aP)(r:Bool)(c0:Frame)(CN:List Frame):Exit->Act->List Frame->aB->Prop :=
 λe a cs w=>yB B ex s' e a w/\cs={ c0 with mode:=eO pc r }::CN
def zj5{cx:Cx}(mu:pY P cx B){all:Array Oper}{takes:bA}{ex:Ex}{r':Bool}{s':St}{iV:bS}{pc:Option aP}(hp:oR B.g B.bs.length iV pc)(c0:Frame)(CN:List Frame){Q:Exit->Act->List Frame->aB->Prop}(hQ:∀e a cs w,Y8 B ex s' pc r' c0 CN e a cs w->Q e a cs w) :
  ∀(l:List Oper)(k:Nat)(s:St)(r:Bool)(g:Gh)(a:Act)(w:aB),(∀j:Nat,l[j]?=all[k+j]?)->Rel B g s a w->cx.As iV all takes l r s=some (ex,r',s')->wpOpsS P all Q (List.range' k l.length) a ({ c0 with mode:=eO pc r }::CN) w
 | [],k,s,r,g,a,w,hl,h,hc=>by
  simp only[Cx.As,aO,bP] at hc;obtain⟨rfl,rfl,rfl⟩:=hc;exact hQ _ _ _ _ ⟨⟨g,h,trivial⟩,rfl⟩
 | o::os,k,⟨env,H,lk,df⟩,r,g,a,w,hl,h,hc=>by
  have ih:=zj5 mu (all:=all) (takes:=takes) hp c0 CN hQ os (k+1);have lY:∀j:Nat,os[j]?=all[k+1+j]?:=λj=>by have:=hl (j+1);simpa[HP,Nat.add_comm 1 j] using this
  have h0:all[k]?=some o:=by simpa using (hl 0).symm
  simp only[Cx.As] at hc;simp only[fY,List.range'_succ,wpOpsS,h0];split at hc<;>try (cases hc;done)
  ·rename_i hw;rw[if_neg (by rw[ym h hw];simp)]
   rw[jc] at hc;exact ih _ r g _ w lY (yx (xy h o)) hc
  ·rename_i hw;rw[if_pos (ym h hw)];split at hc
   ·rename_i mH;have cj:(execOp a.eval o).run P w=.ok .recover w:=by
     unfold zpZ at mH;split at mH<;>try (cases mH;done)
     rename_i c ho;split at mH<;>try (cases mH;done)
     rename_i gV;simp[execOp,ho,resolve,gV,invoke,builtin]
    rw[cj];simp only;have nil:∀r1,cx.As iV all takes os r1 ⟨aI env o.dst .bq,H,lk,df⟩=some (ex,r',s')->wpOpsS P all Q (List.range' (k+1) os.length) (a.put o.dst .nilIface) ({ c0 with mode:=eO pc r1 }::CN) w:=λr1 rR =>
     ih _ r1 g _ w lY (yx (s:=⟨env,H,lk,df⟩) (v:=.bq) (cv:=.nilIface) ⟨h,.bq,λ_ _=>trivial,dJ _⟩) rR
    split at hc
    ·rename_i v;rw[jc] at hc;cases pc with
     | none=>exact hp.elim
     | some cv =>
      have hv:aL g v cv:=hp.1.le h.fr.le hp.2;have ht:v.top<=H.af.length:=cR hp.2 h.n0;exact ih _ true g _ w lY (yx (s:=⟨env,H,lk,df⟩) (v:=aX v) (cv:=cv) ⟨h,hv.aX,λ_ _=>ko _ _ _ _ _ _,by rw[dw];exact ht⟩) hc
    ·rename_i lC;rw[jc] at hc;have R6:recoverD ({ c0 with mode:=eO pc r }::CN)=none:=by
      cases pc with
      | none=>rfl
      | some cv =>
       cases iV with
       | none=>exact hp.elim
       | some v =>
        cases r with
        | false=>exact(lC v rfl rfl).elim
        | true=>rfl
     rw[R6];exact nil r hc
   ·have cg:∀{K:Act->aB->Prop}{Q':Exit->Act->aB->Prop},o.wp P a w K Q'->(match (execOp a.eval o).run P w with
      | .ok .recover w'=>False
      | rr=>o.upon P a K Q' rr):=by
     intro K Q' Vv;unfold Oper.wp at Vv;generalize (execOp a.eval o).run P w=rr at Vv;split
     ·exact Vv
     ·exact Vv
    have fin:o.wp P a w (λa' w'=>wpOpsS P all Q (List.range' (k+1) os.length) a' ({ c0 with mode:=eO pc r }::CN) w') (λe a' w'=>Q e a' ({ c0 with mode:=eO pc r }::CN) w'):=by
     split at hc<;>try (cases hc;done)
     next v bB H' oM Fb az=>rw[jc] at hc;refine NZ mu h az ⟨λv' hv g' cv a' w' hk=>?_,(λhv=>nomatch hv),(λv' hv=>nomatch hv)⟩;cases hv;exact ih _ r g' _ w' lY (yx hk) hc
     next bB H' oM Fb az=>rw[jc] at hc;refine NZ mu h az ⟨(λv' hv=>nomatch hv),λ_ g' a' w' hk=>?_,(λv' hv=>nomatch hv)⟩;exact ih _ r g' _ w' lY (yx (xy hk o)) hc
     next v s1 az=>simp only[aO,bP] at hc;obtain⟨rfl,rfl,rfl⟩:=hc;refine NZ mu h az ⟨(λv' hv=>nomatch hv),(λhv=>nomatch hv),λv' hv g' cv a' w' hk h1 h2=>?_⟩;cases hv;exact hQ _ _ _ _ ⟨⟨g',hk,cv,rfl,h1,h2⟩,rfl⟩
    have:=cg fin;split
    next w1 hrr=>rw[hrr] at this;exact this.elim
    next rr hnr=>unfold Oper.wp at fin;exact fin
def Y9{c:Code}{Q Q':Exit->Act->List Frame->aB->Prop}{cs:List Frame}(h:c.wpS P Q a cs w)(hq:∀e a cs w,Q e a cs w->Q' e a cs w):c.wpS P Q' a cs w :=
 λb k hb hr=>let ⟨e,a',cs',w',q,r⟩:=h b k hb hr;⟨e,a',cs',w',hq _ _ _ _ q,r⟩
def zmw{cx:Cx}(mu:pY P cx B)(fD:Qf P cx B/\Qg P cx B)(n:Nat){iV:bS}{pc:Option aP}(hp:oR B.g B.bs.length iV pc)(c0:Frame)(CN:List Frame):∀(c:Code)(s s':St)(ex:Ex)(r r':Bool)(g:Gh)(a:Act)(w:aB),
  cx.nr n iV c r s=some (ex,r',s')->Rel B g s a w->c.wpS P (Y8 B ex s' pc r' c0 CN) a ({ c0 with mode:=eO pc r }::CN) w:=by
 have plain:∀(c:Code)(s s':St)(ex:Ex)(r:Bool)(g:Gh)(a:Act)(w:aB),cx.code n c s=some (ex,s')->Rel B g s a w->c.wpS P (Y8 B ex s' pc r c0 CN) a ({ c0 with mode:=eO pc r }::CN) w :=
  λc s s' ex r g a w hx h=>wpS_of_wp (Code.wp_mono (λ_ _ _ q=>⟨q,rfl⟩) (zj4 mu fD.1 fD.2 n c s s' ex g a w hx h))
 intro c
 induction c with
 | seq x y Fc Il =>
  intro s s' ex r r' g a w hc h;simp only[Cx.nr] at hc;split at hc<;>try (cases hc;done)
  ·rename_i r1 s1 hx;refine wpS_seq (Y9 (Fc s s1 .normal r r1 g a w hx h) ?_);rintro e a' cs' w' ⟨⟨g',h1,h2⟩,rfl⟩;cases e<;>first
    |(exact h2.elim)
    |(exact Il s1 s' ex r1 r' g' a' w' hc h1)
  ·rename_i x1 cg hx;simp only[aO] at hc;subst hc;refine wpS_seq (Y9 (Fc s _ _ r _ g a w hx h) ?_);rintro e a' cs' w' ⟨⟨g',h1,h2⟩,rfl⟩;cases ex<;>cases e<;>first
    |(exact h2.elim)
    |(exact(cg _ _ rfl).elim)
    |(exact⟨⟨g',h1,h2⟩,rfl⟩)
 | cond c x y Fc Il =>
  intro s s' ex r r' g a w hc h;simp only[Cx.nr] at hc;split at hc<;>try (cases hc;done)
  next l5=>have c1:=(zD h l5).1;generalize pK:a.eval c=cc at c1;cases c1;exact wpS_cond pK (by simpa using Fc s s' ex r r' g a w hc h)
  next l5=>have c1:=(zD h l5).1;generalize pK:a.eval c=cc at c1;cases c1;exact wpS_cond pK (by simpa using Il s s' ex r r' g a w hc h)
 | region id ops draw =>
  intro s s' ex r r' g a w hc h;cases draw with
  | false =>
   obtain⟨env,H,lk,df⟩:=s;simp only[Cx.nr] at hc;refine wpS_region ?_;have:=zj5 mu hp c0 CN (λ_ _ _ _ q=>q) ops.toList 0 _ r g a w (by simp) h.bD hc
   rw[List.range_eq_range',<- DJ];exact this
  | true =>
   simp only[Cx.nr] at hc;split at hc<;>simp only[aO,reduceCtorEq,bP] at hc;rename_i e1 s1 hx;obtain⟨rfl,rfl,rfl⟩:=hc;exact plain _ s s1 e1 r g a w hx h
 | _ =>
   intro s s' ex r r' g a w hc h;simp only[Cx.nr] at hc;split at hc<;>simp only[aO,reduceCtorEq,bP] at hc;rename_i e1 s1 hx;obtain⟨rfl,rfl,rfl⟩:=hc;exact plain _ s s1 e1 r g a w hx h
end
section
variable{P:aD}{B:dK}{g:Gh}{s:St}{a:Act}{w:aB}
def zmx{gl:Nat->Nat->bS}{uq:ai->Bool}{call:FuncId->aj->Hp->Option (Out×Hp)}{d n:Nat}(gx:yQ P)(eB:wQ P)(dQ:xQ P gl call d)(fD:∀B,Qf P { P,gl,call,uq } B/\Qg P { P,gl,call,uq } B){iV:bS}{pc:Option aP}{f:FuncId}{args:aj}{H H':Hp}{r:Bool}{aM:cO}
  (hc:NI P gl uq call n iV f args H=some (r,H')) (cU:gv P gl g) (hw:m8 g H.af w) (ha:dG g H.af.length args aM) (hp:oR g H.af.length iV pc) :
  CallsD P f aM (eO pc false) w λe u' w'=>∃cv g',e=.returned cv/\u'=eO pc r/\iY (d+1) H g w H' g' w':=by
 obtain⟨bs,es⟩:=H;simp only[NI] at hc;split at hc<;>try (cases hc;done)
 rename_i fn hf;split at hc<;>try (cases hc;done)
 rename_i body hb;simp only[qh,dN] at hc;have mu:pY P { P,gl,call,uq } ⟨d+1,bs,g,w,[]⟩:=⟨rfl,gx,eB,cU,d,PV d,dQ⟩;have h0:=zhK (H:=⟨bs,es⟩) hw ha (d+1) fn.ntmps;have fin:∀(ex:Ex)(env:aj)(H1:Hp)(lk:aC),(ex=.normal\/ex=.ret)->Cx.nr { P,gl,call,uq } n iV body false ⟨args++List.replicate (fn.ntmps - args.length) (.bx []),⟨bs,[]⟩,[],[]⟩=some (ex,r,⟨env,H1,lk,[]⟩) ->
   ∀us,zG P H1 env fn.results.toList=some us->H'=ql bs.length es 0 H1 ->
   CallsD P f aM (eO pc false) w λe u' w'=>∃cv g',e=.returned cv/\u'=eO pc r/\iY (d+1) ⟨bs,es⟩ g w H' g' w':=by
  intro ex env H1 lk hex hx us DS hH;refine callsD_of_wpS hf hb λc0 cs hm=>?_;have key:=zmw mu (fD _) n (iV:=iV) (pc:=pc) hp c0 cs body _ _ ex false r g _ w hx h0;have Bx:({ c0 with mode:=eO pc false }:Frame)=c0:=by rw[<- hm]
  rw[Bx] at key;refine Y9 key ?_;rintro e a' cs' w' ⟨⟨g',h1,h2⟩,rfl⟩;have KM:a'.defers=[]:=Md.1 (by rw[<- h1.cY];rfl)
  obtain⟨g2,s2,cv,r1,r2,r3,_⟩:=zef h1 DS .ret;have D5:=(Y2 hw h1 (top:=0) (dJ _)).1;have sq:a'.defers=[]/\∃u',({ c0 with mode:=eO pc r }:Frame)::cs={ c0 with mode:=u' }::cs/\∃v,(results fn a'.tmps).run P w'=.ok v w'/\∃cv g',Ending.returned v=.returned cv/\u'=eO pc r/\iY (d+1) ⟨bs,es⟩ g w H' g' w' :=
   ⟨KM,_,rfl,cv,r1,cv,g',rfl,rfl,by rw[hH];exact D5⟩
  rcases hex with rfl|rfl<;>cases e<;>first|(exact h2.elim)|(exact sq)
 split at hc
 ·rename_i r1 env H1 lk hx;split at hc<;>try (cases hc;done)
  rename_i us DS;rw[kI] at hc;simp only[aO,bP] at hc;obtain⟨rfl,rfl⟩:=hc;exact fin .normal env H1 lk (.inl rfl) hx us DS rfl
 ·rename_i r1 env H1 lk hx;split at hc<;>try (cases hc;done)
  rename_i us DS;rw[kI] at hc;simp only[aO,bP] at hc;obtain⟨rfl,rfl⟩:=hc;exact fin .ret env H1 lk (.inr rfl) hx us DS rfl
 ·cases hc
def zhM(pc:Option aP):settle (eO pc true)=.returning:=by
 cases pc<;>rfl
def zgs(pc:Option aP):settle (eO pc false)=eO pc false:=by
 cases pc<;>rfl
def Vw{gl:Nat->Nat->bS}{uq:ai->Bool}{call:FuncId->aj->Hp->Option (Out×Hp)}{d n:Nat}(gx:yQ P)(eB:wQ P)(dQ:xQ P gl call d)(fD:∀B,Qf P { P,gl,call,uq } B/\Qg P { P,gl,call,uq } B)(hd:d+1<B.d)(cU:gv P gl B.g){fn:Func}{tmps:cO}{R:Ending->aB->Prop}{H':Hp}{N2:bS} :
  ∀(df:aV)(iV:bS)(pc:Option aP)(env:aj)(H:Hp)(lk:aC)(g:Gh)(dc:List Deferred)(w:aB),Rel B g ⟨env,H,lk,df⟩ ⟨tmps,dc⟩ w->oR g H.af.length iV pc->wj (NI P gl uq call n) iV df H=some (N2,H') ->
   (∀g' Qh w',Rel B g' ⟨env,H',lk,[]⟩ ⟨tmps,[]⟩ w'->oR g' H'.af.length N2 Qh->match Qh with
    | none=>∃v,(results fn tmps).run P w'=.ok v w'/\R (.returned v) w'
    | some cv=>R (.panicked [{ v:=cv,recovered:=false }]) w')->Leaves P fn tmps R dc (eO pc false) w
 | [],iV,pc,env,H,lk,g,dc,w,h,hp,hc,hR=>by
  have Fe:dc=[]:=Md.1 (h.cY.symm);subst Fe;simp only[wj,aO,bP] at hc;obtain⟨rfl,rfl⟩:=hc;have:=hR g pc w h hp;cases pc with
  | none=>exact this
  | some cv=>exact this
 | (fv,args)::df,iV,pc,env,H,lk,g,dc,w,h,hp,hc,hR=>by
  cases dc with
  | nil=>have:=h.cY;simp at this
  | cons dd dc =>
   rcases h.defers 0 (fv,args) dd rfl rfl with su|⟨Ck,_⟩
   rotate_left
   ·simp only[bP] at Ck;obtain⟨e1,e2⟩:=Ck;subst e1 e2;simp[wj] at hc
   obtain⟨f,as,cs,fc,e1,e2,e3,e4,e5,e6,e7,e8⟩:=su;simp only at e1;subst e1;obtain⟨tg,da⟩:=dd;simp only at e2 e3 e5;subst e2;simp only[wj,dN] at hc;have Y_:∃r H1,NI P gl uq call n iV f ((as++args++cs).map aX) H=some (r,H1)/\wj (NI P gl uq call n) (if r then none else iV) df H1=some (N2,H'):=by
    split at hc<;>try (cases hc;done)
    next H1 hx=>exact⟨true,H1,hx,hc⟩
    next H1 hx=>exact⟨false,H1,hx,hc⟩
   obtain⟨r,H1,hx,s6⟩:=Y_;have de:dG g H.af.length ((as++args++cs).map aX) (da++fc):=dG.Ih (by simp only[oI,Array.size_append] at e3 ⊢;omega) (vq e3 e5 e6) (wz e7 e8)
   have Za:gv P gl g:=cU.le h.fr.le;have hinv:(invoke (.fn (.func f) fc) da).run P w=.ok (.enter f (da++fc)) w:=by
    unfold NI at hx;simp only at hx;split at hx<;>try (cases hx;done)
    rename_i fn' H8;split at hx<;>try (cases hx;done)
    rename_i body bY;have cg:fn'.name≠ "runtime.NumGoroutine":=by simpa using gx f fn' H8
    simp[invoke,callFunc,H8,bY,cg]
   refine leaves_cons (by cases pc<;>simp[eO]) hinv (CallsD.mono (zmx gx eB dQ fD hx Za h.bW de hp) λe u' w' he=>?_)
   obtain⟨cv,g',rfl,rfl,hA⟩:=he;have fF:=h.call hd hA;have Ff:Rel B g' ⟨env,H1,lk,df⟩ ⟨tmps,dc⟩ w' :=
    {bW:=fF.bW,len:=fF.len,env:=fF.env,b_:=fF.b_,n0:=fF.n0,aS:=fF.aS,cK:=fF.cK,fr:=fF.fr,gm:=fF.gm,nB:=fF.nB,bh:=fF.bh,cY:=by have:=fF.cY;simpa using this,defers:=λj x q hx hq=>fF.defers (j+1) x q (by simpa using hx) (by simpa using hq),marks:=λd hd D hD=>fF.marks d (cZ _ hd) D hD,iD:=(List.pairwise_cons.1 fF.iD).2 }
   have CG:oR g' H1.af.length iV pc:=hp.le hA.fr.le hA.len;cases r with
   | true =>
    simp only[zhM];exact Vw gx eB dQ fD hd cU df none none env H1 lk g' dc w' Ff trivial s6 hR
   | false =>
    simp only[zgs];exact Vw gx eB dQ fD hd cU df iV pc env H1 lk g' dc w' Ff CG s6 hR
end
section
variable{P:aD}{B:dK}{g:Gh}{s:St}{a:Act}{w w':aB}
def wB(w w':aB):Prop:=∀(c:Nat)(cs:cO)(t:ai)(k:Nat×Nat),w.heap[c]?=some (Obj.cells cs t k)->w'.heap[c]?=w.heap[c]?
def Zb{row:Option Nat}(hg:w.grownBy w' row)(gU:∀r,row=some r->∃o:Obj,w.heap[r]?=some o/\o.isCells=false):wB w w':=λc cs t k h=>by
 refine hg.block c (ud.1 h).1 λe=>?_;obtain⟨o,h1,h2⟩:=gU c e.symm;rw[h] at h1;cases h1;cases h2
def zeh(hk:wB w w'){ad:Addr}{v:aP}(h:w.cell? ad=some v):w'.cell? ad=some v:=by
 obtain⟨o,h1,h2⟩:=cells_of_cell h;cases o with
 | cells cs t k=>rw[World.cell?_of_block (hk _ cs t k h1)];exact h
 | _=>cases h2
def zb8(hk:wB w w'){base e sz n:Nat}{cv:aP}{xs:dy}(h:w.ownsRow base e sz cv n xs):w'.ownsRow base e sz cv n xs:=by
 refine⟨h.1,h.2.imp id ?_⟩;rintro⟨c,cap,cur,rfl,hb,hc,r⟩;exact⟨c,cap,cur,rfl,hb,by rw[hk c _ _ _ hc];exact hc,r⟩
def cq.kept(hk:wB w w'){n:Nat}{l:Loc}{x:V}{cv:aP}(h:cq g n w l x cv):cq g n w' l x cv:=by
 unfold cq at *;split
 ·obtain⟨xs,h1,h2⟩:=h;exact⟨xs,zb8 hk h1,h2⟩
 ·trivial
def fO.kept(hk:wB w w'){n b:Nat}{x:aN}(hm:x.NH=false->w'.heap[g.br b]?=w.heap[g.br b]?)(h:fO g n w b x):fO g n w' b x:=by
 cases x with
 | cells cs t =>
  obtain⟨arr,h1,h2,h3⟩:=h;refine⟨arr,(hk _ _ _ _ h1).trans h1,h2,λj x v hx hv=>?_⟩;obtain⟨k1,k2,k3,k4⟩:=h3 j x v hx hv;exact⟨k1,k2,k3.kept hk,k4⟩
 | map es =>
  obtain⟨en,ck,h1,h2⟩:=h;exact⟨en,ck,(hm rfl).trans h1,h2⟩
 | iter s pos=>exact⟨(hm rfl).trans h.1,h.2⟩
 | ul bZ sz cs e =>
  obtain⟨c,len,cap,vs,hu⟩:=h;exact⟨c,len,cap,vs,hu.fD,hu.pos,zb8 hk hu.row,hu.uk,hu.M,hu.others,hu.len,hu.cells,hu.fresh⟩
def m8.kept{bs:List aN}(h:m8 g bs w)(hk:wB w w')(fR:w.heap.size<=w'.heap.size)(hm:∀(b:Nat)(x:aN),bs[b]?=some x->x.NH=false->w'.heap[g.br b]?=w.heap[g.br b]?):m8 g bs w' where
 mem:=λc o v hv=>zeh hk (h.mem c o v hv)
 lt:=λb hb=>rY (h.lt b hb) fR
 inj:=h.inj
 apart:=h.apart
 dF:=λc l hc=>rY (h.dF c l hc) fR
 cF:=h.cF
 ok:=λb x hx=>(h.ok b x hx).kept hk (hm b x hx)
 aA:=h.aA
 laid:=λc hc=>by
  obtain⟨⟨cs,t,h1⟩,h2,h3⟩:=h.laid c hc;exact⟨⟨cs,t,(hk _ _ _ _ h1).trans h1⟩,h2,h3⟩
def Rel.CO(h:Rel B g s a w){row:Option Nat}(hg:w.grownBy w' row)(gU:∀r,row=some r->B.w.heap.size<=r/\(∃o:Obj,w.heap[r]?=some o/\o.isCells=false)/\(∀(b:Nat)(x:aN),s.H.af[b]?=some x->x.NH=false->g.br b≠r)/\∀d∈a.defers,∀D,d.target=.collected D->D≠r):Rel B g s a w':=by
 have hk:wB w w':=Zb hg λr e=>(gU r e).2.1;refine { bW:=h.bW.kept hk hg.size λb x hx hc=>?_,len:=h.len,env:=λt x v hx hv=>⟨(h.env t x v hx hv).1,(h.env t x v hx hv).2.kept hk⟩,b_:=h.b_,n0:=h.n0,aS:=h.aS,cK:=h.cK,fr:=?_,gm:=h.gm,nB:=h.nB,bh:=λp hp=>?_,cY:=h.cY,defers:=h.defers,marks:=λd hd D hD=>?_,iD:=h.iD }
 ·refine hg.block _ (h.bW.lt b (dW.1 hx).1) λe=>?_;exact(gU _ e.symm).2.2.1 b x hx hc rfl
 ·refine⟨h.fr.le,λc hc=>?_,h.fr.own,h.fr.M,cR h.fr.size hg.size,h.fr.lk,hg.os.trans h.fr.os,hg.tape.trans h.fr.tape,hg.output.trans h.fr.output⟩;have rR:=hc.1;have:=h.fr.size;refine(hg.block c (by omega) λe=>?_).trans (h.fr.heap c hc)
  have:=(gU c e.symm).1;omega
 ·obtain⟨p1,p2,p3,p4,p5⟩:=h.bh p hp;exact⟨p1,p2,p3.kept hk,p4,p5⟩
 ·obtain⟨h0,h1,h2,h3⟩:=h.marks d hd D hD;refine⟨h0,(hg.block D (ud.1 h1).1 λe=>?_).trans h1,h2,h3⟩;exact(gU D e.symm).2.2.2 d hd D hD rfl
end
section
variable{P:aD}{B:dK}{g:Gh}{w:aB}
inductive uA(P:aD):List Deferred->aB->List Deferred->aB->Prop
 |refl (ds:List Deferred) (w:aB):uA P ds w ds w
 |step {d:Deferred} {r:Nat} {ds K1:List Deferred} {w w1 w':aB}:d.target=.collected r->(Instr.takeDeferred r).run P w=.ok [] w1->uA P ds w1 K1 w'->uA P (d::ds) w K1 w'
def Zc{ds K1:List Deferred}{w w':aB}(h:uA P ds w K1 w'):∀(fr:Frame)(cs:List Frame),fr.mode≠.run->fr.defers=ds->Steps P (lone fr cs w) (lone { fr with defers:=K1 } cs w'):=by
 induction h with
 | refl ds w =>
  intro fr cs hm hd;subst hd;exact Steps.refl P _
 | @step d r ds K1 w w1 w' ht hk _ ih =>
  intro fr cs hm hd;have h1:=step_collected (cs:=cs) hm hd ht hk;have h2:=ih { fr with defers:=[]++ds } cs hm rfl;exact .head h1 h2
def zfw(P:aD)(fn:Func)(R:Ending->aB->Prop):Exit->Act->aB->Prop
 | .normal,a,w|.ret,a,w=>∃ds w',uA P a.defers w ds w'/\Leaves P fn a.tmps R ds .returning w'
 | .panic chain,a,w=>∃ds w',uA P a.defers w ds w'/\Leaves P fn a.tmps R ds (.panicking chain) w'
 | _,_,_=>False
def zcV{f:FuncId}{fn:Func}{c:Code}{args:cO}{w:aB}{R:Ending->aB->Prop}(hf:P.funcs[f]?=some fn)(hb:fn.body=some c)
  (h:c.wp P (zfw P fn R) { tmps:=args++Array.replicate (fn.ntmps - args.size) undef,defers:=[] } w):Calls P f args w R:=by
 intro cs
 let b:Frame:={ (default:Frame) with fn:=f,kind:=.normal }
 have N3:Frame.enter P f args .normal=b.at { tmps:=args++Array.replicate (fn.ntmps - args.size) undef,defers:=[] } [.code c]:=by
  simp[Frame.enter,Frame.at,hf,hb,b]
 obtain⟨e,a',w',hq,k_⟩:=h b [] cs;rw[<- N3] at k_;cases e with
 | normal =>
  obtain⟨ds,w1,hp,hl⟩:=hq;have h1:=Zc hp { b.at a' [] with mode:=.returning } cs (by simp) rfl
  obtain⟨e',R7,Fg,hR,hs,su,lY⟩:=leaves_steps ds .returning w1 { b.at a' [] with mode:=.returning,defers:=ds } cs rfl rfl rfl hf rfl hl;exact⟨e',R7,Fg,hR,Comes.of_steps (Steps.trans k_ (.head step_end h1)) hs,su,lY⟩
 | ret =>
  obtain⟨todo,Im⟩:=k_;obtain⟨ds,w1,hp,hl⟩:=hq;have h1:=Zc hp { b.at a' todo with mode:=.returning } cs (by simp) rfl
  obtain⟨e',R7,Fg,hR,hs,su,lY⟩:=leaves_steps ds .returning w1 { b.at a' todo with mode:=.returning,defers:=ds } cs rfl rfl rfl hf rfl hl;exact⟨e',R7,Fg,hR,Comes.of_steps (Steps.trans Im h1) hs,su,lY⟩
 | panic chain =>
  obtain⟨todo,Im⟩:=k_;obtain⟨ds,w1,hp,hl⟩:=hq;have h1:=Zc hp { b.at a' todo with mode:=.panicking chain } cs (by simp) rfl
  obtain⟨e',R7,Fg,hR,hs,su,lY⟩:=leaves_steps ds (.panicking chain) w1 { b.at a' todo with mode:=.panicking chain,defers:=ds } cs rfl rfl rfl hf rfl hl;exact⟨e',R7,Fg,hR,Comes.of_steps (Steps.trans Im h1) hs,su,lY⟩
 | exit id=>exact hq.elim
 | goto l=>exact hq.elim
 | outgrown=>exact hq.elim
def zj6{tmps:cO}{env:aj}{H:Hp}{lk:aC}:∀(df:aV)(dc:List Deferred)(w:aB),Rel B g ⟨env,H,lk,df⟩ ⟨tmps,dc⟩ w ->
  ∃Vx w',uA P dc w Vx w'/\Rel B g ⟨env,H,lk,ef df⟩ ⟨tmps,Vx⟩ w'
 | [],dc,w,h=>⟨dc,w,.refl _ _,h⟩
 | (x,l)::df,dc,w,h=>by
  by_cases hx:x=.dx/\l=[]
  ·obtain⟨rfl,rfl⟩:=hx;cases dc with
   | nil=>have:=h.cY;simp at this
   | cons d dc =>
    rcases h.defers 0 _ d rfl rfl with hd|⟨_,D,rfl⟩
    ·obtain⟨f,as,cs,fc,e1,_⟩:=hd;cases e1
    ·obtain⟨h0,h1,h2,h3⟩:=h.marks _ (ew ..) D rfl;have hmd:=List.pairwise_cons.1 h.iD;have fF:Rel B g ⟨env,H,lk,df⟩ ⟨tmps,dc⟩ w :=
      {bW:=h.bW,len:=h.len,env:=h.env,b_:=h.b_,n0:=h.n0,aS:=h.aS,cK:=h.cK,fr:=h.fr,gm:=h.gm,nB:=h.nB,bh:=h.bh,cY:=by have:=h.cY;simpa using this,defers:=λj x q hx hq=>h.defers (j+1) x q (by simpa using hx) (by simpa using hq),marks:=λd hd D hD=>h.marks d (cZ _ hd) D hD,iD:=hmd.2 }
     have Ff:=fF.CO (grownBy_putObj' w D (.deferred none)) λr e=>by
      cases e;exact⟨h0,⟨_,h1,rfl⟩,λb x hx _=>h2 b (dW.1 hx).1,λd hd D' Qi e=>hmd.1 d hd D rfl (e ▸ Qi)⟩
     obtain⟨Vx,w',k1,k2⟩:=zj6 df dc _ Ff;exact⟨Vx,w',.step rfl (run_takeDeferred h1) k1,k2⟩
  ·refine⟨dc,w,.refl _ _,?_⟩;have:ef ((x,l)::df)=(x,l)::df:=by
    unfold ef;split
    next e=>cases e;exact absurd ⟨rfl,rfl⟩ hx
    ·rfl
   rw[this];exact h
end
end Go.Vm
