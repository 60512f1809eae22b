/- Sx: calls. Conditions: none but those named. -/
import Derived.Test.YthohlnmcjkjeiaaGreatDoorVmE
set_option linter.defProp false
namespace Go.Vm.Sx
open Go Go.Vm
section
set_option linter.unusedSectionVars false
variable{P:aM}{gl:Gl}{ph:PH}{N:Nat}{r:Nat×aA}{ρ bp:aA}{pa bU:bR}{σ:Sg}{s:St}{n0:Nat}{B:List br}{env:aA}{H:Hp}{lk:bk}{df:bH}{takes:bP}{k:KT}{t:Tree}
variable [mw gl]
variable{dst:fQ}{type:aq}{pos:String}{after:Array Edge}{guard:oq}
def vf(θ:bR):AV->V
 | .d x=>x
 | .p j off=>.ptr (pd θ j) off
def xw(H:Hp):bR->List (aA×aq)->Prop
 | [],[]=>True
 | b::θ,(cs,t)::r=>H.get b=some (.cells cs t)/\xw H θ r
 | _,_=>False
def yX(H:Hp):bR->List (aA×aq)->List aA->Hp
 | b::θ,(_,t)::r,o::out=>yX (H.set b (.cells o t)) θ r out
 | _,_,_=>H
def CY:List (aA×aq)->List aA->Prop
 | [],[]=>True
 | (cs,_)::r,l::ls=>cs.length=l.length/\CY r ls
 | _,_=>False
def Ev(P:aM)(gl:Gl)(f:FuncId)(gA:List AV)(fp:List (aA×aq))(v:V)(out:List aA):Prop :=
 v.top=0/\aI (aV out)=0/\CY fp out/\∀(θ:bR)(H:Hp),θ.Nodup->xw H θ fp->∃k,∀n,k<=n->qt P gl n f (gA.map (vf θ)) H=some (.ret v,yX H θ fp out)
def RO(P:aM)(gl:Gl)(ph:PH):Prop:=∀f gA fp v out,ph f gA fp=some (v,out)->Ev P gl f gA fp v out
def ZG{a:Nat}:∀{ns:bR}{j:Nat},ME a ns=some j->nth ns j=some a
 | b::r,j,h=>by
  simp only[ME] at h;split at h
  next hb=>cases h;rw[kZ hb];rfl
  ·split at h
   next i hi=>cases h;exact ZG (ns:=r) hi
   ·cases h
def ZH{a:Nat}:∀{ns:bR},ME a ns=none->a ∉ ns
 | [],_=>by simp
 | b::r,h=>by
  simp only[ME] at h;split at h
  ·cases h
  ·rename_i hb;split at h
   ·cases h
   ·rename_i hi;intro hm;rcases dh.1 hm with rfl|hm
    ·simp at hb
    ·exact ZH hi hm
def oS(hr:Rel n0 B ρ pa σ ⟨env,H,lk,df⟩):∀{args:List aO}{ns ns':bR}{vs:List AS},MF σ ns args=some (vs,ns')->ns.Nodup ->
  ∃nB,aL env args=some nB/\nB.map aT=(jq ρ vs).map (vf (ns'.map (pd pa)))/\ns <+: ns'/\ns'.Nodup
 | [],ns,ns',vs,h,hn=>by cases h;exact⟨[],rfl,rfl,dL _,hn⟩
 | x::xs,ns,ns',vs,h,hn=>by
  simp only[MF] at h;split at h
  ·rename_i a off hx;have e0:=wZ hr.here hx;simp only[qq,bB] at e0;have pt:∀(ns':bR)(j:Nat),nth ns' j=some a->vf (ns'.map (pd pa)) (.p j off)=.ptr (pd pa a) off:=λns' j hj=>by
    simp only[vf,pd,eR,hj,bG]
   split at h
   ·rename_i j hj;split at h
    ·rename_i Aw DV lu;cases h;obtain⟨nB,h1,h2,h3,h4⟩:=oS hr lu hn;refine⟨.ptr (pd pa a) off::nB,by simp only[aL,e0,qd,h1],?_,h3,h4⟩
     obtain⟨y,rfl⟩:=h3;simp only[bW,jq,fF,aT,h2];rw[pt _ j (O2 (ZG hj))]
    ·cases h
   ·rename_i hj;split at h
    ·rename_i Aw DV lu;cases h
     obtain⟨nB,h1,h2,h3,h4⟩:=oS hr lu (by
      rw[List.nodup_append]
      exact⟨hn,by simp,λb hb c hc=>by simp at hc;subst hc;intro e;subst e;exact ZH hj hb⟩)
     refine⟨.ptr (pd pa a) off::nB,by simp only[aL,e0,qd,h1],?_,DW h3,h4⟩
     obtain⟨y,rfl⟩:=h3;simp only[bW,jq,fF,aT,h2];rw[pt _ ns.length (O2 (by simp[zV]))]
    ·cases h
  ·rename_i v hv hx;split at h
   ·rename_i Aw DV hd lu;cases h;obtain⟨nB,h1,h2,h3,h4⟩:=oS hr lu hn;have e0:=wZ hr.here hx;refine⟨qq ρ pa v::nB,by simp only[aL,e0,qd,h1],?_,h3,h4⟩
    simp only[bW,jq,fF,vf,h2];rw[(y6 (pa:=pa) hr.here.ks hr.top hd).2 [],BP e0]
   ·cases h
  ·cases h
 where
 DW {ns DV:bR} {a:Nat} (h:ns++[a] <+: DV):ns <+: DV:=(tZ _ _).trans h
 BP {x:aO} {v:V} (h:aB env x=some v):aT v=v:=by
  cases x with
  | tmp t =>
   simp only[aB] at h;split at h
   ·cases h;exact pP _
   ·cases h
  | const u =>
   simp only[aB] at h;cases v<;>first|rfl|skip
   exfalso;unfold aH at h;split at h
   all_goals first|(cases h;done)|skip
   simp only[fJ] at h;obtain⟨l,_,h⟩:=h;split at h<;>cases h
  | global g=>cases h;rfl
  | func f=>cases h;rfl
def KY(σ:Sg):bR->List (List C×aq)->Prop
 | [],[]=>True
 | a::ns,x::r=>kN a σ.aj=some x/\ye σ.ks x.1=true/\KY σ ns r
 | _,_=>False
def tG:∀{ns:bR}{l:List (List C×aq)},OS σ ns=some l->KY σ ns l
 | [],l,h=>by cases h;trivial
 | a::ns,l,h=>by
  simp only[OS] at h;split at h
  ·rename_i cs t l' h1 h2;split at h
   next hd=>cases h;exact⟨h1,hd,tG h2⟩
   ·cases h
  ·cases h
def ZI(hr:Rel n0 B ρ pa σ ⟨env,H,lk,df⟩):∀{ns:bR}{l:List (List C×aq)},KY σ ns l->xw H (ns.map (pd pa)) (qK ρ l)
 | [],[],_=>trivial
 | a::ns,(cs,t)::r,h=>by
  refine⟨?_,ZI hr h.2.2⟩;have:=hr.here.aj _ _ _ h.1;rw[(vF (pa:=pa) hr.here.ks hr.top h.2.1).2.2 []];exact this
 | [],_::_,h=>h.elim
 | _::_,[],h=>h.elim
def ZJ(hr:Rel n0 B ρ pa σ s):∀{ns:bR}{l:List (List C×aq)},KY σ ns l->∀a∈ns,a<σ.na
 | a::ns,_::r,h,b,hb=>by
  rcases dh.1 hb with rfl|hb
  ·exact hr.bn _ _ h.1
  ·exact ZJ hr h.2.2 b hb
def zjs(hr:Rel n0 B ρ pa σ s){ns:bR}(hn:ns.Nodup)(hl:∀a∈ns,a<σ.na):(ns.map (pd pa)).Nodup:=by
 induction ns with
 | nil=>simp
 | cons a ns ih =>
  simp only[bW,List.nodup_cons] at hn ⊢;refine⟨λh=>?_,ih hn.2 λb hb=>hl b (dB _ hb)⟩;obtain⟨b,hb,he⟩:=ni.1 h;have:=hr.inj b a (hl b (dB _ hb)) (hl a eS) he;subst this;exact hn.1 hb
def zrZ{ks:List CK}{c:C}(h:GC ks c=true):Rn ks c≠.raw:=by
 cases c with
 | k v=>cases v<;>simp[Rn]
 | v i cl =>
  simp only[GC] at h;simp only[Rn];cases hn:nth ks i with
  | none=>rw[hn] at h;cases h
  | some k=>rw[hn] at h;cases k<;>first|(cases h;done)|(simp)
 | p a off=>cases h
 | BL i=>cases h
 | _=>simp[Rn]
def Aa:∀{l:List (List C×aq)}{ns:bR},KY σ ns l->∀k∈yL σ.ks l,k≠.raw
 | [],_,_,k,hk=>by simp[yL] at hk
 | (cs,t)::r,[],h,_,_=>h.elim
 | (cs,t)::r,a::ns,h,k,hk=>by
  simp only[yL,uo,ni] at hk;rcases hk with⟨c,hc,rfl⟩|hk
  ·have hd:=h.2.1;simp only at hd;clear h
   induction cs with
   | nil=>simp at hc
   | cons x xs ih =>
    simp only[ye,cR] at hd;rcases dh.1 hc with rfl|hc
    ·exact zrZ hd.1
    ·exact ih hc hd.2
  ·exact Aa (ns:=ns) h.2.2 k hk
def GH:∀{BN:List CK}{x:aA},lB BN x=true->(∀k∈BN,k≠.raw)->∀v∈x,locked v=false
 | [],[],_,_,v,hv=>by simp at hv
 | c::cs,w::ws,h,hn,v,hv=>by
  simp only[lB,cR] at h;rcases dh.1 hv with rfl|hv
  ·exact(xU h.1 (hn c eS)).2
  ·exact GH h.2 (λk hk=>hn k (dB _ hk)) v hv
 | [],_::_,h,_,_,_=>by cases h
 | _::_,[],h,_,_,_=>by cases h
def zm2{H:Hp}{b:Nat}:H.bI b .ef=H:=by simp[Hp.bI,V.top]
def DX:∀{ns:bR}{l:List (List C×aq)}{out:List aA}{i:Nat}{σ:Sg}{H:Hp}{x y:aA},Rel n0 B ρ pa σ ⟨env,H,lk,df⟩->(∀p∈List.zip ns l,kN p.1 σ.aj=some p.2)->ns.length=l.length->ns.Nodup->aP l out=true->(∀v∈aV out,locked v=false)->ρ=x++aV out++y->x.length=i->aI ρ=0 ->
  Rel n0 B ρ pa { σ with aj:=y_ ns l i σ.aj } ⟨env,yX H (ns.map (pd pa)) (qK ρ l) out,lk,df⟩
 | [],[],[],i,σ,H,x,y,hr,_,_,_,_,_,_,_,_=>hr
 | a::ns,(cs,t)::r,o::out,i,σ,H,x,y,hr,hz,hlen,hn,hs,hu,hx,hi,cS=>by
  simp only[aP,cR] at hs;have EA:=kZ hs.1;have Oh:kN a σ.aj=some (cs,t):=hz (a,(cs,t)) (by simp)
  simp only[aV] at hx hu;have lH:∀aD aE,ρ <+: aD->pa <+: aE->qk aD aE (lits (cs.map λ_=>CK.raw) i)=o:=by
   rintro aD aE ⟨z,rfl⟩ _;have:=RD (pa:=aE) (x:=x) (z:=o) (ks:=cs.map λ_=>CK.raw) (y:=aV out++y++z) (i:=i) (by simp[EA]) hi
   rw[hx];simpa only[b_] using this
  have hw:=hr.write (v:=.ef) (mG:=σ.lk) (oh:=lk) Oh lH (.inr rfl) (λb o hb=>hr.ln b o hb) (λb o _ _ hb=>hb) (λx hx=>hx) (λoff c hb hc nk=>by
   rw[zV] at hc
   rw[hu c (Ck _ (nF hc))] at nk;cases nk)
  rw[zm2] at hw;simp only[List.nodup_cons] at hn
  have:=DX (ns:=ns) (l:=r) (out:=out) (i:=i+cs.length) (x:=x++o) (y:=y) hw (λp hp=>by
    simp only[Vr];have cG:a≠p.1:=λe=>hn.1 (by rw[e];exact(List.of_mem_zip hp).1)
    simp only[cG,bZ]
    exact hz p (by simp[hp])) (by simpa using hlen) hn.2 hs.2 (λv hv=>hu v (CA _ hv)) (by rw[hx];simp) (by simp[hi,EA]) cS
  simpa[y_,yX,qK] using this
 | [],_::_,_,_,_,_,_,_,_,_,h,_,_,_,_,_,_=>by simp at h
 | _::_,[],_,_,_,_,_,_,_,_,h,_,_,_,_,_,_=>by simp at h
 | [],[],_::_,_,_,_,_,_,_,_,_,_,h,_,_,_,_=>by cases h
 | _::_,_::_,[],_,_,_,_,_,_,_,_,_,h,_,_,_,_=>by cases h
def Ab:∀{ns:bR}{l:List (List C×aq)},KY σ ns l->ns.length=l.length/\∀p∈List.zip ns l,kN p.1 σ.aj=some p.2
 | [],[],_=>⟨rfl,λp hp=>by simp at hp⟩
 | a::ns,x::r,h=>by
  obtain⟨h1,h2⟩:=Ab h.2.2;refine⟨by simp[h1],λp hp=>?_⟩
  simp only[List.zip_cons_cons,dh] at hp;rcases hp with rfl|hp
  ·exact h.1
  ·exact h2 p hp
 | [],_::_,h=>h.elim
 | _::_,[],h=>h.elim
def ZK{kk:Sg->List SC->Option Tree}:∀{ts:List aq}{σ:Sg}{ρ:aA}{i:Nat}{acc:List SC}{t:Tree},Rp P kk σ ts i acc=some t->Rel n0 B ρ pa σ s->i+ts.length<=σ.ks.length->cw ph gl N t ρ=some r ->
  ∃j_ ys bp t',kk { σ with ks:=j_ } (acc++ys)=some t'/\cw ph gl N t' bp=some r/\ρ <+: bp/\Rel n0 B bp pa { σ with ks:=j_ } s/\∀aD aE,bp <+: aD->q0 aD aE ys=(List.range' i ts.length).map (at' ρ)
 | [],σ,ρ,i,acc,t,h,hr,hi,hq=>⟨σ.ks,[],ρ,t,by rw[oZ];exact h,hq,dL _,hr,λ_ _ _=>rfl⟩
 | ty::ts,σ,ρ,i,acc,t,h,hr,hi,hq=>by
  simp only[bq] at hi;have RP:i<ρ.length:=by rw[hr.kl];omega
  have rng:∀(bp:aA),ρ <+: bp->(List.range' (i+1) ts.length).map (at' bp)=(List.range' (i+1) ts.length).map (at' ρ):=λbp e=>by
   apply List.map_congr_left;intro j hj;simp only[List.mem_range'_1] at hj;exact yr e (by rw[hr.kl];omega)
  simp only[Rp] at h;split at h
  ·split at h
   ·rename_i ks hl;split at h
    ·rename_i t1 ht;cases h;simp only[cw] at hq;split at hq
     ·rename_i cs ej;rw[cond_eq_ite] at hq;split at hq
      ·rename_i hk;have cS:aI cs=0:=by have:=ML hr.top i;rw[ej] at this;exact this
       have hlen:=nU hk;have mZ:=hr.push hk cS;obtain⟨j_,ys,bp,t',g1,g2,g3,g4,g5⟩:=ZK ht mZ (by simp;omega) hq
       refine⟨j_,.agg (lits ks σ.ks.length)::ys,bp,t',by simpa using g1,g2,O7 g3,g4,λaD aE e=>?_⟩
       simp only[q0,g5 aD aE e,bq,List.range'_succ,bW];rw[rng _ (tZ _ _),ej]
       congr 1
       obtain⟨z,rfl⟩:=g3.trans e;simp only[qq];rw[RD hlen hr.kl]
      ·cases hq
     ·cases hq
    ·cases h
   ·cases h
  ·obtain⟨j_,ys,bp,t',g1,g2,g3,g4,g5⟩:=ZK h hr (by omega) hq
   refine⟨j_,.one (.v i false)::ys,bp,t',by simpa using g1,g2,g3,g4,λaD aE e=>?_⟩
   simp only[q0,g5 aD aE e,bq,List.range'_succ,bW,qq,bB];rw[yr (g3.trans e) RP]
  ·cases h
def pT:∀{ts:List aq}{ks:List CK},U_ P ts=some ks->ks.length=ts.length
 | [],ks,h=>by cases h;rfl
 | t::ts,ks,h=>by
  simp only[U_] at h;split at h
  next r hr=>cases h;simp[pT hr]
  ·rename_i r hr;split at h
   ·cases h;simp[pT hr]
   ·cases h
  ·cases h
def zm3{f:FuncId}{args:ot}{ts:Array aq}{b:Nat}(h:wo takes σ ⟨dst,.call ⟨.value (.func f),args,ts⟩,type,pos,after,guard⟩=some (.wr b)):False:=by
 simp only[wo] at h;split at h<;>cases h
def zgS{o:Oper}{ns:bR}{bu:List (List C×aq)}{v:V}{out:List aA}{t0:Tree}{tys:List aq}(mu:∀b,wo takes σ o=some (.wr b)->False)(hL:KY σ ns bu)(p4:ns.Nodup)(e1:v.top=0)(e2:aI (aV out)=0)
  (hc:aP bu out=true/\lB (yL σ.ks bu) (aV out)=true) (hr:Rel n0 B ρ pa σ ⟨env,H,lk,df⟩)
  (uz:Va P { σ with ks:=σ.ks++(CK.raw::yL σ.ks bu),aj:=y_ ns bu (σ.ks.length+1) σ.aj } σ.ks.length k tys=some t0) (hq:cw ph gl N t0 (ρ++(v::aV out))=some r)
  (cX:∃k0,∀n,k0<=n->Cx.op ⟨P,gl,qt P gl n,gl.uq⟩ takes o env H lk df=some (.val v,⟨env,yX H (ns.map (pd pa)) (qK ρ bu) out,lk,df⟩)) :
  Step P gl ph N r n0 B k takes o σ ρ pa ⟨env,H,lk,df⟩:=by
 obtain⟨z1,z2⟩:=Ab hL;have O9:lB (CK.raw::yL σ.ks bu) (v::aV out)=true:=by simp[lB,fh,hc.2]
 have AA:=hr.push O9 (by simp only[aI,e1,e2];rfl)
 have mZ:=DX (ns:=ns) (l:=bu) (out:=out) (i:=σ.ks.length+1) (x:=ρ++[v]) (y:=[]) AA z2 z1 p4 hc.1 (GH hc.2 (Aa hL)) (by simp) (by simp[hr.kl]) AA.top
 have hE:qK (ρ++v::aV out) bu=qK ρ bu:=by
  have key:∀{ns:bR}{l:List (List C×aq)},KY σ ns l->qK (ρ++v::aV out) l=qK ρ l:=by
   intro ns l
   induction l generalizing ns with
   | nil=>intro _;rfl
   | cons x l ih =>
    obtain⟨cs,ty⟩:=x;intro hh;cases ns with
    | nil=>exact hh.elim
    | cons a ns =>
     simp only[qK,ih hh.2.2];have a1:=hr.here.aj _ _ _ hh.1;have a2:=(hr.ext (ρ++v::aV out) pa (tZ _ _) (dL _)).aj _ _ _ hh.1;rw[a1] at a2;simp only[aR,br.cells.injEq,Bt] at a2;have b1:=(vF (pa:=pa) hr.here.ks hr.top hh.2.1).2.2 [];have b2:=(vF (σ:={ σ with ks:=σ.ks }) (pa:=pa) (ρ:=ρ++v::aV out) (hr.ext (ρ++v::aV out) pa (tZ _ _) (dL _)).ks AA.top hh.2.1).2.2 []
     rw[b1,b2,a2]
  exact key hL
 rw[hE] at mZ;have nP:at' (ρ++v::aV out) σ.ks.length=v:=by rw[<- hr.kl,xp];simp
 have fU:ρ <+: ρ++v::aV out:=tZ _ _;have bD:σ.ks.length<(ρ++v::aV out).length:=by rw[<- hr.kl];simp
 unfold Va at uz;split at uz
 ·refine⟨_,_,_,pa,t0,.val v,_,v,uz,hq,fU,dL _,mZ,cX,.inl rfl,λaD aE f1 f2 v' dG=>?_,λb hb=>(mu b hb).elim⟩;cases dG;simp only[qq,bB];rw[yr f1 bD,nP]
 ·obtain⟨j_,sc,bp,t',g1,g2,g3,g4,g5,g6⟩:=Vv uz mZ (by simp) hq
  refine⟨_,_,bp,pa,t',.val v,_,v,g1,g2,fU.trans g3,dL _,g4,cX,.inl rfl,λaD aE f1 f2 v' dG=>?_,λb hb=>(mu b hb).elim⟩;cases dG;rw[g5 aD aE f1,nP]
 ·split at uz
  ·rename_i ks hks;split at uz
   ·rename_i t1 L1;cases uz;simp only[cw] at hq;split at hq
    ·rename_i cs ej;rw[nP] at ej;rw[cond_eq_ite] at hq;split at hq
     ·rename_i hk;have cS:aI cs=0:=by rw[ej] at e1;exact e1
      have ZE:=mZ.push hk cS;have ZL:cs.length=tys.length:=by rw[nU hk,pT hks]
      obtain⟨j_,ys,bp,t',g1,g2,g3,g4,g5⟩:=ZK L1 ZE (by simp[pT hks];omega) hq
      refine⟨_,_,bp,pa,t',.val v,_,v,g1,g2,(fU.trans (tZ _ _)).trans g3,dL _,g4,cX,.inl rfl,λaD aE f1 f2 v' dG=>?_,λb hb=>(mu b hb).elim⟩;cases dG;simp only[cq,g5 aD aE f1,ej]
      congr 1
      rw[<- ZL];have hx:(ρ++v::aV out).length=(σ.ks++CK.raw::yL σ.ks bu).length:=mZ.kl;rw[ej] at hx;apply Dt;intro j
      by_cases hj:j<cs.length
      ·simp only[mS,List.getElem?_range' hj,bG,xp,Nat.one_mul];rw[<- hx,oe (Nat.le_add_right _ _)];simp[hj]
      ·rw[uj (by simp;omega),uj (by omega)]
     ·cases hq
    ·cases hq
   ·cases uz
  ·cases uz
def zqw{f:FuncId}{args:ot}{ts:Array aq}(MO:RO P gl ph)(h:Vb P σ f args.toList k=some t)(hr:Rel n0 B ρ pa σ ⟨env,H,lk,df⟩)(hq:cw ph gl N t ρ=some r) :
  Step P gl ph N r n0 B k takes ⟨dst,.call ⟨.value (.func f),args,ts⟩,type,pos,after,guard⟩ σ ρ pa ⟨env,H,lk,df⟩:=by
 unfold Vb at h;split at h
 ·rename_i fn vs ns p9 mP;split at h
  ·rename_i body bu iP l6;obtain⟨nB,p1,p2,_,p4⟩:=oS hr mP (by simp)
   have hL:=tG l6;split at h
   ·rename_i t0 uz;cases h;simp only[cw] at hq;split at hq
    ·rename_i v out hv;rw[cond_eq_ite] at hq;split at hq
     next hc=>simp only[cR] at hc;obtain⟨e1,e2,e3,e4⟩:=MO _ _ _ _ _ hv;obtain⟨k0,e4⟩:=e4 (ns.map (pd pa)) H (zjs hr p4 (ZJ hr hL)) (ZI hr hL);refine zgS (λb=>zm3) hL p4 e1 e2 hc hr uz hq ⟨k0,λn hn=>?_⟩;have:=e4 n hn;rw[<- p2] at this;rw[zW,p1,zi,ji p9 iP this,zfq]
     ·cases hq
    ·cases hq
   ·cases h
  ·cases h
 ·cases h
def BQ(ρ:aA)(pa:bR):List SV->aA->Prop
 | [],[]=>True
 | sv::lJ,w::ws=>kK ρ pa sv=some w/\aT w=w/\BQ ρ pa lJ ws
 | _,_=>False
def BQ.app:∀{a:List SV}{x:aA}{b:List SV}{y:aA},BQ ρ pa a x->BQ ρ pa b y->BQ ρ pa (a++b) (x++y)
 | [],[],_,_,_,h=>h
 | _::_,_::_,_,_,h1,h=>⟨h1.1,h1.2.1,h1.2.2.app h⟩
 | [],_::_,_,_,h,_=>h.elim
 | _::_,[],_,_,h,_=>h.elim
def zjt(hr:Rel n0 B ρ pa σ ⟨env,H,lk,df⟩):∀{xs:List aO}{lJ:List SV},U9 σ xs=some lJ->∃ws,aL env xs=some ws/\BQ ρ pa lJ ws
 | [],lJ,h=>by cases h;exact⟨[],rfl,trivial⟩
 | x::xs,lJ,h=>by
  simp only[U9] at h;split at h
  next sv vs h1 h2=>cases h;obtain⟨w,e1,e2⟩:=vD hr.here h1;obtain⟨ws,e3,e4⟩:=zjt hr h2;exact⟨w::ws,by simp only[aL,e1,qd,e3],e2,oS.BP e1,e4⟩
  ·cases h
def GI:∀{cs:List C},Jn cs=true->BQ ρ pa (cs.map λc=>.val (.one c)) (qk ρ pa cs)
 | [],_=>trivial
 | c::cs,h=>by
  cases c<;>simp only[Jn,dF] at h;exact⟨rfl,rfl,GI h⟩
def VF(hr:Rel n0 B ρ pa σ ⟨env,H,lk,df⟩):∀{lJ:List SV}{ws:aA}{ns ns':bR}{vs:List AS},OT σ ns lJ=some (vs,ns')->BQ ρ pa lJ ws->ns.Nodup ->
  ws.map aT=(jq ρ vs).map (vf (ns'.map (pd pa)))/\ns <+: ns'/\ns'.Nodup
 | [],[],ns,ns',vs,h,_,hn=>by cases h;exact⟨rfl,dL _,hn⟩
 | x::xs,w::ws,ns,ns',vs,h,hw,hn=>by
  obtain⟨e0,iL,hw⟩:=hw;simp only[OT] at h;split at h
  ·rename_i a off;simp only[kK,qq,bB,aR] at e0;subst e0;have pt:∀(ns':bR)(j:Nat),nth ns' j=some a->vf (ns'.map (pd pa)) (.p j off)=.ptr (pd pa a) off:=λns' j hj=>by
    simp only[vf,pd,eR,hj,bG]
   split at h
   ·rename_i j hj;split at h
    next Aw DV lu=>cases h;obtain⟨h2,h3,h4⟩:=VF hr lu hw hn;refine⟨?_,h3,h4⟩;obtain⟨y,rfl⟩:=h3;simp only[bW,jq,fF,aT,h2];rw[pt _ j (O2 (ZG hj))]
    ·cases h
   ·rename_i hj;split at h
    ·rename_i Aw DV lu;cases h
     obtain⟨h2,h3,h4⟩:=VF hr lu hw (by
      rw[List.nodup_append]
      exact⟨hn,by simp,λb hb c hc=>by simp at hc;subst hc;intro e;subst e;exact ZH hj hb⟩)
     refine⟨?_,oS.DW h3,h4⟩;obtain⟨y,rfl⟩:=h3;simp only[bW,jq,fF,aT,h2];rw[pt _ ns.length (O2 (by simp[zV]))]
    ·cases h
  ·rename_i v hv;split at h
   next Aw DV hd lu=>cases h;obtain⟨h2,h3,h4⟩:=VF hr lu hw hn;simp only[kK,aR] at e0;subst e0;refine⟨?_,h3,h4⟩;simp only[bW,jq,fF,vf,h2];rw[(y6 (pa:=pa) hr.here.ks hr.top hd).2 [],iL]
   ·cases h
  ·cases h
 | [],_::_,_,_,_,_,h,_=>h.elim
 | _::_,[],_,_,_,_,h,_=>h.elim
def zkP{x:Tmp}{args:ot}{ts:Array aq}{b:Nat}(h:wo takes σ ⟨dst,.call ⟨.value (.tmp x),args,ts⟩,type,pos,after,guard⟩=some (.wr b)):False:=by
 simp only[wo] at h;cases h
def zoG{x:Tmp}{args:ot}{ts:Array aq}(MO:RO P gl ph)(h:Zh P σ (.tmp x) args.toList k=some t)(hr:Rel n0 B ρ pa σ ⟨env,H,lk,df⟩)(hq:cw ph gl N t ρ=some r) :
  Step P gl ph N r n0 B k takes ⟨dst,.call ⟨.value (.tmp x),args,ts⟩,type,pos,after,guard⟩ σ ρ pa ⟨env,H,lk,df⟩:=by
 unfold Zh at h;split at h
 ·rename_i f cs lJ Ui ZM;obtain⟨fv,f1,f2⟩:=vD hr.here Ui;simp only[kK,aR] at f2;subst f2;obtain⟨ws,w1,w2⟩:=zjt hr ZM;split at h
  ·cases h
  rename_i eD;simp only[sR,HR] at eD;split at h
  ·rename_i fn vs ns p9 mP;split at h
   ·rename_i body bu iP l6;obtain⟨p2,_,p4⟩:=VF hr mP (w2.app (GI eD)) (by simp)
    have hL:=tG l6;split at h
    ·rename_i t0 uz;cases h;simp only[cw] at hq;split at hq
     ·rename_i v out hv;rw[cond_eq_ite] at hq;split at hq
      next hc=>simp only[cR] at hc;obtain⟨e1,e2,e3,e4⟩:=MO _ _ _ _ _ hv;obtain⟨k0,e4⟩:=e4 (ns.map (pd pa)) H (zjs hr p4 (ZJ hr hL)) (ZI hr hL);refine zgS (λb=>zkP) hL p4 e1 e2 hc hr uz hq ⟨k0,λn hn=>?_⟩;have:=e4 n hn;rw[<- p2] at this;simp only[Cx.op,f1,w1,Cx.s8,fj,cq];rw[ji p9 iP this]
      ·cases hq
     ·cases hq
    ·cases h
   ·cases h
  ·cases h
 ·cases h
def ZN(hr:iC ρ pa σ env H):∀{xs:List aO}{cs:List C},Ro σ xs=some cs->aL env xs=some (qk ρ pa cs)
 | [],cs,h=>by cases h;rfl
 | x::xs,cs,h=>by
  simp only[Ro] at h;split at h
  next a off cs' h1 h2=>cases h;have e1:=kn hr h1;simp only[aL,e1,qd,ZN hr h2,qk]
  ·cases h
def zju{f:Fn}{first cap:ot}{cs:List C}(hf:first.toList=[])(ej:Ro σ cap.toList=some cs)(h:k σ (.fn f cs)=some t)(hr:Rel n0 B ρ pa σ ⟨env,H,lk,df⟩)(hq:cw ph gl N t ρ=some r) :
  Step P gl ph N r n0 B k takes ⟨dst,.makeFunc f first cap,type,pos,after,guard⟩ σ ρ pa ⟨env,H,lk,df⟩:=by
 have e1:=ZN hr.here ej;refine⟨σ,.fn f cs,ρ,pa,t,.val (.fn f [] (qk ρ pa cs)),⟨env,H,lk,df⟩,.fn f [] (qk ρ pa cs),h,hq,dL _,dL _,hr,⟨0,λn _=>?_⟩,.inl rfl,λaD aE g1 g2 v' dG=>?_,λb hb=>?_⟩
 ·simp[Cx.op,jA,hf,e1,aL]
 ·have e2:=ZN (hr.ext aD aE g1 g2) ej;rw[e1] at e2;simp only[kK,aR] at dG;rw[<- dG,ur e2]
 ·simp only[wo] at hb;cases hb
end
section
set_option linter.unusedSectionVars false
variable{P:aM}{gl:Gl}{ph:PH}{N:Nat}{r:Nat×aA}{ρ bp:aA}{pa bU:bR}{σ:Sg}{s:St}{n0:Nat}{B:List br}{env:aA}{H:Hp}{lk:bk}{df:bH}{takes:bP}{k:KT}{t:Tree}
variable [mw gl]
structure Env(P:aM)(gl:Gl)(ph:PH):Prop where
 top:∀g off v,gl g off=some v->v.top=0
 calls:RO P gl ph
def ZO(hr:iC ρ pa σ env H){x:aO}{f:Fn}{cs:List C}(h:Zk σ x=some (f,cs)):take env x=some (.fn f [] (qk ρ pa cs),env):=by
 cases x with
 | tmp tt =>
  simp only[Zk] at h;split at h
  next f' cs' hs=>cases h;obtain⟨_,v,h1,h2⟩:=Rw hr hs;cases h2;simp only[take,h1,aT]
  ·cases h
 | _=>cases h
def zoH(he:Env P gl ph){o:Oper}(h:iZ P takes σ o k=some t)(hr:Rel n0 B ρ pa σ ⟨env,H,lk,df⟩)(hq:cw ph gl N t ρ=some r)(oN:OW takes o=true) :
  Step P gl ph N r n0 B k takes o σ ρ pa ⟨env,H,lk,df⟩:=by
 obtain⟨dst,op,type,pos,after,guard⟩:=o;have pure:yQ P σ op k=some t->jV takes dst=false->Step P gl ph N r n0 B k takes ⟨dst,op,type,pos,after,guard⟩ σ ρ pa ⟨env,H,lk,df⟩:=λh ht=>O6 (o:=⟨dst,op,type,pos,after,guard⟩) h hr hq ht;have tk:(∀x,op≠.move x)->(∀x,op≠.assign x)->(∀t a,op≠.load t a)->(∀c,op≠.call c)->jV takes dst=false:=λh1 h2 h3 h4=>by
  simp only[OW] at oN;cases hh:jV takes dst with
  | false=>rfl
  | true =>
   rw[hh] at oN;cases op<;>first|(cases oN;done)|exact absurd rfl (h1 _)|exact absurd rfl (h2 _)|exact absurd rfl (h3 _ _)
 cases op
 case move x =>
  cases ht:jV takes dst with
  | true =>
   simp only[iZ,ht] at h;cases dst with
   | none=>cases ht
   | some d=>exact gS h hr hq λcx=>zjc ht
  | false =>
   simp only[iZ,ht] at h;exact pure h ht
 case assign x =>
  simp only[iZ] at h;split at h
  ·rename_i f cs hf;refine jF h hq (dL _) hr (v:=.fn f [] (qk ρ pa cs)) (λn=>?_) (λaD aE e1 e2 v' dG=>?_)
   ·rw[zq,ZO hr.here hf];rfl
   ·cases dG;have:=ZO (hr.ext aD aE e1 e2) hf;rw[ZO hr.here hf] at this;simp only[aR,bS,Bt] at this;exact this.symm
  ·exact gS h hr hq λcx=>zq
 case pick c a b=>exact zqr h hr hq (tk (by intros;simp) (by intros;simp) (by intros;simp) (by intros;simp))
 case load tt a =>
  cases ht:jV takes dst with
  | true =>
   cases dst with
   | none=>cases ht
   | some d=>exact zoA h hr hq ht
  | false =>
   cases a with
   | global g=>exact zqv he.top h hr hq ht
   | _=>simp only[iZ,ht] at h;exact pure h ht
 case alloc tt=>exact tq h hr hq
 case box tt x=>exact CM h hr hq
 case store tt a x=>exact tc h hr hq
 case binOp op tt x y u=>exact zrX h hr hq (tk (by intros;simp) (by intros;simp) (by intros;simp) (by intros;simp))
 case convert a b x=>exact zqs h hr hq (tk (by intros;simp) (by intros;simp) (by intros;simp) (by intros;simp))
 case indexAddr tt x ix=>exact zoB h hr hq (tk (by intros;simp) (by intros;simp) (by intros;simp) (by intros;simp))
 case index tt x ix=>exact zoC h hr hq (tk (by intros;simp) (by intros;simp) (by intros;simp) (by intros;simp))
 case slice tt x lo hi mx=>exact zoD h hr hq
 case buildSlice tt len ps=>exact zm1 h hr hq
 case makeInterface tt x=>exact zqu h hr hq
 case call c =>
  obtain⟨callee,args,AG⟩:=c;simp only[iZ] at h;split at h
  ·rename_i x y tt u h1 h2;split at h
   ·rename_i hb;obtain rfl:=kZ hb;obtain rfl:args=#[x,y]:=by apply Array.toList_inj.1;simpa using h1
    exact rz (by apply Array.toList_inj.1;simpa using h2) h hr hq
   ·cases h
  ·rename_i cG;refine pure h ?_;simp only[OW] at oN;cases hh:jV takes dst with
   | false=>rfl
   | true =>
    rw[hh] at oN;simp only at oN;split at oN
    next k1 k2 k3=>exact(cG _ _ _ _ k2 k3 (by injection k1)).elim
    ·cases oN
  ·exact zqw he.calls h hr hq
  ·exact zoG he.calls h hr hq
  ·cases h
 case makeFunc f first cap =>
  simp only[iZ] at h;split at h
  next cs hf ej=>exact zju hf ej h hr hq
  ·cases h
 all_goals exact pure (by simpa only[iZ] using h) (tk (by intros;simp) (by intros;simp) (by intros;simp) (by intros;simp))
def zlR{cx:Cx}{all:Array Oper}{o:Oper}{os:List Oper}{x:OR}{v:V}{s':St}(hw:q8 all o env=some true)(ho:cx.op takes o env H lk df=some (x,s'))(hx:Vt x v) :
  cx.ops all takes (o::os) ⟨env,H,lk,df⟩=cx.ops all takes os ⟨qb s'.env o.dst v,s'.H,s'.lk,s'.defers⟩:=by
 simp only[Cx.ops,hw,ho];rcases hx with rfl|⟨rfl,rfl⟩<;>simp only[jX]
def O_(ρ:aA)(pa:bR)(w:Option Bool):Gd->Prop
 | .yes=>w=some true
 | .no=>w=some false
 | .sym c=>∃b,w=some b/\∀aD aE,ρ <+: aD->pa <+: aE->bt aD c=b
def zlS{g:Gd}{tt:TB}{b:Bool}(h:Vc σ.as tt=some g)(hr:Rel n0 B ρ pa σ s)(hb:∀aD aE,ρ <+: aD->pa <+: aE->bt aD tt=b):O_ ρ pa (some b) g:=by
 have h0:=hb ρ pa (dL _) (dL _);unfold Vc at h;split at h
 next hk=>cases h;simp only[O_,<- h0,wj hr.here.as hk]
 next hk=>cases h;simp only[O_,<- h0,wj hr.here.as hk]
 ·cases h;exact⟨_,rfl,hb⟩
def iK{all:Array Oper}{o:Oper}{g:Gd}(h:Vd σ all o=some g)(hr:Rel n0 B ρ pa σ ⟨env,H,lk,df⟩):O_ ρ pa (q8 all o env) g:=by
 unfold Vd at h;unfold q8;split at h
 next hg=>cases h;simp only[hg,O_]
 ·rename_i j want hg;simp only[hg];split at h
  ·cases h
  ·rename_i d hd;simp only[hd];split at h
   next l hs=>cases h;have:=hr.here.env _ _ _ hs rfl;simp only[qq,bB] at this;simp only[this,O_]
   ·rename_i c hn hs;split at h
    ·rename_i tt ht;have hv:∀aD aE,ρ <+: aD->pa <+: aE->nth env d=some (.bool (bt aD tt)):=λaD aE e1 e2=>by
      have:=(hr.ext aD aE e1 e2).env _ _ _ hs rfl;simp only[qq] at this;rw[x7 (pa:=aE) (hr.ext aD aE e1 e2).ks ht] at this;exact this
     have h0:=hv ρ pa (dL _) (dL _);have eM:∀aD aE,ρ <+: aD->pa <+: aE->bt aD tt=bt ρ tt:=λaD aE e1 e2=>by
      have:=(hv aD aE e1 e2).symm.trans h0;simpa using this
     have hw:∀aD aE,ρ <+: aD->pa <+: aE->bt aD (OV want tt)=(bt ρ tt == want):=λaD aE e1 e2=>by
      have:=eM aD aE e1 e2;cases want<;>simp[OV,wa,this]
     simp only[h0];exact zlS h hr hw
    ·cases h
   ·rename_i g c hs;split at h
    ·rename_i tt ht;have hv:∀aD aE,ρ <+: aD->pa <+: aE->nth env d=some (bif bt aD g then .bool (bt aD tt) else .bz []):=λaD aE e1 e2=>by
      have:=(hr.ext aD aE e1 e2).env _ _ _ hs rfl;simp only[qq] at this;rw[x7 (pa:=aE) (hr.ext aD aE e1 e2).ks ht] at this;exact this
     have h0:=hv ρ pa (dL _) (dL _);have eM:∀aD aE,ρ <+: aD->pa <+: aE->bt aD g=bt ρ g/\(bt ρ g=true->bt aD tt=bt ρ tt):=λaD aE e1 e2=>by
      have:=(hv aD aE e1 e2).symm.trans h0;cases h1:bt aD g<;>cases h2:bt ρ g<;>rw[h1,h2] at this<;>simp at this ⊢;exact this
     have hw:∀aD aE,ρ <+: aD->pa <+: aE->bt aD (Gw g (OV want tt))=(bt ρ g && (bt ρ tt == want)):=λaD aE e1 e2=>by
      have h1:=(eM aD aE e1 e2).1;have h2:=(eM aD aE e1 e2).2;rw[xr,h1];cases hg:bt ρ g with
      | false=>rfl
      | true=>have:=h2 hg;cases want<;>simp[OV,wa,this]
     have RQ:(match (some (bif bt ρ g then V.bool (bt ρ tt) else .bz []):cP) with|some (.bool b)=>some (b == want)|some (.bz _)=>some false|_=>none)=some (bt ρ g && (bt ρ tt == want)):=by
      cases bt ρ g<;>rfl
     simp only[h0];have:=zlS h hr hw;rw[<- RQ] at this;exact this
    ·cases h
   ·cases h
def RR(he:Env P gl ph){all:Array Oper}{kk:Sg->Option Tree}:∀{os:List Oper}{σ:Sg}{ρ:aA}{pa:bR}{s:St}{t:Tree},Ij P all takes kk os σ=some t->Rel n0 B ρ pa σ s->cw ph gl N t ρ=some r ->
  ∃dw bp bU t' s',kk dw=some t'/\cw ph gl N t' bp=some r/\ρ <+: bp/\pa <+: bU/\Rel n0 B bp bU dw s'/\∃k0,∀n,k0<=n->Cx.ops ⟨P,gl,qt P gl n,gl.uq⟩ all takes os s=some (.normal,s')
 | [],σ,ρ,pa,s,t,h,hr,hq=>⟨σ,ρ,pa,t,s,h,hq,dL _,dL _,hr,0,λn _=>rfl⟩
 | o::os,σ,ρ,pa,⟨env,H,lk,df⟩,t,h,hr,hq=>by
  have run:∀{su:Sg}{Bj:aA}{t0:Tree},OW takes o=true->q8 all o env=some true->Rel n0 B Bj pa su ⟨env,H,lk,df⟩->ρ <+: Bj->iZ P takes su o (λσ v=>Ij P all takes kk os (mM σ o.dst v))=some t0->cw ph gl N t0 Bj=some r ->
    ∃dw bp bU t' s',kk dw=some t'/\cw ph gl N t' bp=some r/\ρ <+: bp/\pa <+: bU/\Rel n0 B bp bU dw s'/\∃k0,∀n,k0<=n->Cx.ops ⟨P,gl,qt P gl n,gl.uq⟩ all takes (o::os) ⟨env,H,lk,df⟩=some (.normal,s'):=by
   intro su Bj t0 iu hw o8 fU h0 Ik;obtain⟨p_,sv,oC,DY,t1,x,s1,v,g1,g2,g3,g4,g5,⟨k1,g6⟩,g7,g8,_⟩:=zoH he h0 o8 Ik iu;obtain⟨de,H1,eA,eZ⟩:=s1;have ED:=g5.mM (d:=o.dst) (sv:=sv) (v:=v) g8;obtain⟨dw,bp,bU,t',s',f1,f2,f3,f4,f5,k2,f6⟩:=RR he g1 ED g2;refine⟨dw,bp,bU,t',s',f1,f2,(fU.trans g3).trans f3,g4.trans f4,f5,max k1 k2,λn hn=>?_⟩;rw[zlR hw (g6 n (by omega)) g7]
   exact f6 n (by omega)
  have skip:∀{su:Sg}{Bj:aA}{t0:Tree},q8 all o env=some false->Rel n0 B Bj pa su ⟨env,H,lk,df⟩->ρ <+: Bj->Ij P all takes kk os (mM su o.dst pR)=some t0->cw ph gl N t0 Bj=some r ->
    ∃dw bp bU t' s',kk dw=some t'/\cw ph gl N t' bp=some r/\ρ <+: bp/\pa <+: bU/\Rel n0 B bp bU dw s'/\∃k0,∀n,k0<=n->Cx.ops ⟨P,gl,qt P gl n,gl.uq⟩ all takes (o::os) ⟨env,H,lk,df⟩=some (.normal,s'):=by
   intro su Bj t0 hw o8 fU h0 Ik;have ED:=o8.mM (d:=o.dst) (sv:=pR) (v:=.bz []) (λ_ _ _ _ v' dG=>by cases dG;rfl)
   obtain⟨dw,bp,bU,t',s',f1,f2,f3,f4,f5,k2,f6⟩:=RR he h0 ED Ik;refine⟨dw,bp,bU,t',s',f1,f2,fU.trans f3,f4,f5,k2,λn hn=>?_⟩;simp only[Cx.ops,hw,jX];exact f6 n hn
  simp only[Ij] at h;split at h
  ·cases h
  ·rename_i iu;simp only[sR,HR] at iu;split at h
   ·cases h
   next hg=>exact skip (iK hg hr) hr (dL _) h hq
   next hg=>exact run iu (iK hg hr) hr (dL _) h hq
   ·rename_i c hg;obtain⟨b,hw,hb⟩:=iK hg hr;split at h
    ·rename_i x hd hx;cases b with
     | true =>
      have AA:=hr.cond (c:=c) hb;have Gr:jV takes o.dst=false:=by
       cases Uh:o.dst with
       | none=>rfl
       | some d=>rw[Uh] at hd;simpa using hd
      obtain⟨v,e1,e2⟩:=Vq (gl:=gl) (lk:=lk) (df:=df) (takes:=takes) AA.here Gr hx;have e3:∀aD aE,ρ <+: aD->pa <+: aE->qq aD aE x=v:=λaD aE f1 f2=>by
       obtain⟨w,e4,e5⟩:=Vq (gl:=gl) (lk:=lk) (df:=df) (takes:=takes) (AA.ext aD aE f1 f2) Gr hx;have:=(e1 (qt P gl 0) gl.uq).symm.trans (e4 (qt P gl 0) gl.uq);simp only[aR,bS,OR.val.injEq] at this;cases e5;exact this.1.symm
      have ED:=hr.mM (d:=o.dst) (sv:=.gd c x) (v:=v) (λaD aE f1 f2 v' dG=>by
       simp only[kK,hb aD aE f1 f2,uT,aR] at dG
       rw[<- dG,e3 aD aE f1 f2])
      obtain⟨dw,bp,bU,t',s',f1,f2,f3,f4,f5,k2,f6⟩:=RR he h ED hq;refine⟨dw,bp,bU,t',s',f1,f2,f3,f4,f5,k2,λn hn=>?_⟩;rw[zlR hw (e1 _ _) (.inl rfl)];exact f6 n hn
     | false =>
      have ED:=hr.mM (d:=o.dst) (sv:=.gd c x) (v:=.bz []) (λaD aE f1 f2 v' dG=>by
       simp only[kK,hb aD aE f1 f2,cond_false,aR] at dG
       exact dG.symm)
      obtain⟨dw,bp,bU,t',s',f1,f2,f3,f4,f5,k2,f6⟩:=RR he h ED hq;refine⟨dw,bp,bU,t',s',f1,f2,f3,f4,f5,k2,λn hn=>?_⟩;simp only[Cx.ops,hw,jX];exact f6 n hn
    ·obtain⟨ta,tb,h1,h2,h3⟩:=RF h hq;have h0:=hb ρ pa (dL _) (dL _);rcases h3 with⟨h3,h4⟩|⟨h3,h4⟩
     ·rw[h0] at h3;subst h3;exact run iu hw (hr.cond hb) (dL _) h1 h4
     ·rw[h0] at h3;subst h3;exact skip hw (hr.cond (c:=mkNot c) λaD aE f1 f2=>by rw[wa,hb aD aE f1 f2];rfl) (dL _) h2 h4
end
section
set_option linter.unusedSectionVars false
variable{P:aM}{gl:Gl}{ph:PH}{N:Nat}{r:Nat×aA}{ρ bp:aA}{pa bU:bR}{σ dw mN:Sg}{s:St}{n0:Nat}{B:List br}{env:aA}{H:Hp}{lk:bk}{df:bH}{takes:bP}{k:KT}{t:Tree}
variable [mw gl]
def zqx{ck:CK}{v:V}(h:fh ck v=true):fh ck (aT v)=true:=by
 cases v with
 | sl sz xs o =>
  cases ck<;>simp only[fh,dF,cR] at h<;>simp[fh,aT,oJ,locked];exact kZ h.1
 | _=>exact h
def zoI(hk:∀i k,nth σ.ks i=some k->fh k (at' ρ i)=true){ck:CK}{c:C}(h:MH σ.ks ck c=true):fh ck (bB ρ pa c)=true:=by
 cases c with
 | k v=>exact h
 | v i cl =>
  simp only[MH] at h;split at h
  ·rename_i k' hn;have:=FB h;subst this;cases cl
   ·exact hk _ _ hn
   ·exact zqx (hk _ _ hn)
  ·cases h
 | i k t =>
  simp only[MH] at h;split at h
  ·have:=FB h;subst this;simp[fh,bB]
  ·cases h
 | b t=>simp only[MH] at h;split at h<;>first|rfl|cases h
 | s t=>simp only[MH] at h;split at h<;>first|rfl|cases h
 | sl sz t o =>
  simp only[MH] at h;split at h
  ·simp only[cR] at h;simp only[fh,bB,h.1,eH,sR];cases o<;>first|rfl|(simp at h)
  ·cases h
 | p a off=>cases h
 | BL i=>cases h
structure gQ(kJ:List CK)(gJ:Nat)(x:aA):Prop where
 top:aI x=0
 ks:∀j,j<x.length->∃ck v,nth kJ (gJ+j)=some ck/\nth x j=some v/\fh ck v=true
def gQ.nil{kJ:List CK}{gJ:Nat}:gQ kJ gJ []:=⟨rfl,λj h=>by simp at h⟩
def gQ.app{kJ:List CK}{gJ:Nat}{x y:aA}(h1:gQ kJ gJ x)(h2:gQ kJ (gJ+x.length) y):gQ kJ gJ (x++y):=by
 refine⟨by rw[ko,h1.top,h2.top];rfl,λj hj=>?_⟩
 by_cases h:j<x.length
 ·obtain⟨ck,v,a,b,c⟩:=h1.ks j h;exact⟨ck,v,a,O2 b,c⟩
 ·obtain⟨ck,v,a,b,c⟩:=h2.ks (j - x.length) (by simp at hj;omega)
  refine⟨ck,v,by rw[show gJ+j=gJ+x.length+(j - x.length) by omega];exact a,?_,c⟩
  rw[zV] at b ⊢;rw[oe (by omega)];exact b
variable{na base:Nat}{kJ:List CK}
def zlT(hp:iC bp bU dw env H)(ht:aI bp=0)(h1:ρ <+: bp)(hb:ρ.length=base)(h2:pa <+: bU)(sq:pa.length=na){gJ:Nat}{cJ c:C}{x:List C}(h:Vf na base gJ kJ dw.ks cJ c=some x) :
  gQ kJ gJ (qk bp [] x)/\∀pre post aE,base+pre.length=gJ->pa <+: aE->bB (ρ++pre++qk bp [] x++post) aE cJ=bB bp bU c:=by
 subst hb sq;have uA:∀{cJ:C},OL cJ c=true->UZ ρ.length cJ=true->(∀a off,cJ=.p a off->a<pa.length)->∀y aE,pa <+: aE->bB (ρ++y) aE cJ=bB bp bU c:=by
  intro cJ hs hl OA y aE nG;obtain⟨z,rfl⟩:=h1;rw[zop y hl,<- zrU _ _ hs,zop z hl];cases cJ with
  | p a off =>
   have:=OA a off rfl;simp only[bB];rw[kc nG this,kc h2 this]
  | v i cl=>cases cl<;>rfl
  | _=>rfl
 unfold Vf at h;split at h
 ·rename_i j;split at h
  ·rename_i hj;split at h
   next hs=>cases h;refine⟨gQ.nil,λpre post aE _ nG=>?_⟩;rw[b_,b_];exact uA hs hj (λ_ _ e=>by cases e) _ aE nG
   ·cases h
  ·split at h
   ·rename_i ck DB;split at h
    ·rename_i hc;simp only[cR] at hc;cases h;obtain⟨⟨c1,c2⟩,c3⟩:=hc;obtain⟨d1,d2,d3⟩:=RE (pa:=bU) hp.ks ht c3;refine⟨⟨by simp only[qk,aI,d3 [],d1];rfl,λi hi=>?_⟩,λpre post aE fU _=>?_⟩
     ·simp only[qk,Ds] at hi;obtain rfl:i=0:=by omega
      exact⟨ck,bB bp [] c,by rw[cL,<- kZ c1];exact DB,rfl,by rw[d3 []];exact zoI hp.ks c2⟩
     ·have MP:=kZ c1;subst MP;simp only[qk];rw[d3 []];show at' _ j=_;rw[xp,b_,b_,oe (by omega),oe (by omega)]
      have:j - ρ.length - pre.length=0:=by omega
      rw[this];rfl
    ·cases h
   ·cases h
 ·rename_i a off;split at h
  next hs=>simp only[cR] at hs;cases h;refine⟨gQ.nil,λpre post aE _ nG=>?_⟩;rw[b_,b_];exact uA hs.1 rfl (λ_ _ e=>by cases e;exact Cy hs.2) _ aE nG
  ·cases h
 ·rename_i KV ZP;split at h
  next hs=>simp only[cR] at hs;cases h;refine⟨gQ.nil,λpre post aE _ nG=>?_⟩;rw[b_,b_];exact uA hs.1 hs.2 (λ_ _ e=>absurd e (ZP _ _)) _ aE nG
  ·cases h
def RT(hp:iC bp bU dw env H)(ht:aI bp=0)(h1:ρ <+: bp)(hb:ρ.length=base)(h2:pa <+: bU)(sq:pa.length=na):∀{RU cs:List C}{gJ:Nat}{x:List C},MI na base gJ kJ dw.ks RU cs=some x ->
  gQ kJ gJ (qk bp [] x)/\∀pre post aE,base+pre.length=gJ->pa <+: aE->qk (ρ++pre++qk bp [] x++post) aE RU=qk bp bU cs
 | [],[],gJ,x,h=>by cases h;exact⟨gQ.nil,λ_ _ _ _ _=>rfl⟩
 | a::as,b::bs,gJ,x,h=>by
  simp only[MI] at h;split at h
  ·rename_i x1 ud;split at h
   ·rename_i x2 uG;cases h;obtain⟨a1,a2⟩:=zlT hp ht h1 hb h2 sq ud;obtain⟨b1,b2⟩:=RT hp ht h1 hb h2 sq uG;have hx:qk bp [] (x1++x2)=qk bp [] x1++qk bp [] x2:=by simp[jE]
    rw[hx];refine⟨a1.app (by rw[jP];exact b1),λpre post aE fU nG=>?_⟩
    simp only[qk];have e1:=a2 pre (qk bp [] x2++post) aE fU nG;have e2:=b2 (pre++qk bp [] x1) post aE (by simp[jP];omega) nG
    simp only[b_] at e1 e2 ⊢;rw[e1,e2]
   ·cases h
  ·cases h
 | [],_::_,_,_,h=>by cases h
 | _::_,[],_,_,h=>by cases h
def zjv(hp:iC bp bU dw env H)(ht:aI bp=0)(h1:ρ <+: bp)(hb:ρ.length=base)(h2:pa <+: bU)(sq:pa.length=na){gJ:Nat}{cJ c:SC}{x:List C}(h:Vg na base gJ kJ dw.ks cJ c=some x) :
  gQ kJ gJ (qk bp [] x)/\∀pre post aE,base+pre.length=gJ->pa <+: aE->qq (ρ++pre++qk bp [] x++post) aE cJ=qq bp bU c:=by
 cases cJ<;>cases c<;>simp only[Vg,reduceCtorEq] at h
 ·exact zlT hp ht h1 hb h2 sq h
 ·obtain⟨a,b⟩:=RT hp ht h1 hb h2 sq h;exact⟨a,λpre post aE e1 e2=>by simp only[qq];rw[b pre post aE e1 e2]⟩
def zgT(hp:iC bp bU dw env H)(ht:aI bp=0)(h1:ρ <+: bp)(hb:ρ.length=base)(h2:pa <+: bU)(sq:pa.length=na):∀{RU cs:List SC}{gJ:Nat}{x:List C},Vh na base gJ kJ dw.ks RU cs=some x ->
  gQ kJ gJ (qk bp [] x)/\∀pre post aE,base+pre.length=gJ->pa <+: aE->q0 (ρ++pre++qk bp [] x++post) aE RU=q0 bp bU cs
 | [],[],gJ,x,h=>by cases h;exact⟨gQ.nil,λ_ _ _ _ _=>rfl⟩
 | a::as,b::bs,gJ,x,h=>by
  simp only[Vh] at h;split at h
  ·rename_i x1 ud;split at h
   ·rename_i x2 uG;cases h;obtain⟨a1,a2⟩:=zjv hp ht h1 hb h2 sq ud;obtain⟨b1,b2⟩:=zgT hp ht h1 hb h2 sq uG;have hx:qk bp [] (x1++x2)=qk bp [] x1++qk bp [] x2:=by simp[jE]
    rw[hx];refine⟨a1.app (by rw[jP];exact b1),λpre post aE fU nG=>?_⟩
    simp only[q0];have e1:=a2 pre (qk bp [] x2++post) aE fU nG;have e2:=b2 (pre++qk bp [] x1) post aE (by simp[jP];omega) nG
    simp only[b_] at e1 e2 ⊢;rw[e1,e2]
   ·cases h
  ·cases h
 | [],_::_,_,_,h=>by cases h
 | _::_,[],_,_,h=>by cases h
def zoJ(hp:iC bp bU dw env H)(ht:aI bp=0)(h1:ρ <+: bp)(hb:ρ.length=base)(h2:pa <+: bU)(sq:pa.length=na){gJ:Nat}{cJ c:SV}{x:List C}(h:OY na base gJ kJ dw.ks cJ c=some x) :
  gQ kJ gJ (qk bp [] x)/\∀pre post aE v,base+pre.length=gJ->pa <+: aE->kK (ρ++pre++qk bp [] x++post) aE cJ=some v->kK bp bU c=some v:=by
 cases cJ with
 | KL=>cases h;exact⟨gQ.nil,λ_ _ _ _ _ _ h=>by cases h⟩
 | val a =>
  cases c<;>simp only[OY,reduceCtorEq] at h;obtain⟨e1,e2⟩:=zjv hp ht h1 hb h2 sq h;exact⟨e1,λpre post aE v f1 f2 f3=>by cases f3;simp only[kK];rw[e2 pre post aE f1 f2]⟩
 | vp a =>
  cases c<;>simp only[OY,reduceCtorEq] at h;obtain⟨e1,e2⟩:=RT hp ht h1 hb h2 sq h;exact⟨e1,λpre post aE v f1 f2 f3=>by cases f3;simp only[kK];rw[e2 pre post aE f1 f2]⟩
 | bz a =>
  cases c<;>simp only[OY,reduceCtorEq] at h;obtain⟨e1,e2⟩:=zgT hp ht h1 hb h2 sq h;exact⟨e1,λpre post aE v f1 f2 f3=>by cases f3;simp only[kK];rw[e2 pre post aE f1 f2]⟩
 | gd g a=>cases c<;>cases h
 | fn f a =>
  cases c<;>simp only[OY,reduceCtorEq] at h;split at h
  next hf=>subst hf;obtain⟨e1,e2⟩:=RT hp ht h1 hb h2 sq h;exact⟨e1,λpre post aE v f1 f2 f3=>by cases f3;simp only[kK];rw[e2 pre post aE f1 f2]⟩
  ·cases h
def zgU(hp:iC bp bU dw env H)(ht:aI bp=0)(h1:ρ <+: bp)(hb:ρ.length=base)(h2:pa <+: bU)(sq:pa.length=na):∀{eJ e:List SV}{gJ:Nat}{x:List C},Vi na base gJ kJ dw.ks eJ e=some x ->
  eJ.length=e.length/\gQ kJ gJ (qk bp [] x)/\∀pre post aE,base+pre.length=gJ->pa <+: aE->∀i sv v,nth eJ i=some sv->kK (ρ++pre++qk bp [] x++post) aE sv=some v->∃KR,nth e i=some KR/\kK bp bU KR=some v
 | [],[],gJ,x,h=>by cases h;exact⟨rfl,gQ.nil,λ_ _ _ _ _ i sv v h=>by simp[nth] at h⟩
 | a::as,b::bs,gJ,x,h=>by
  simp only[Vi] at h;split at h
  ·rename_i x1 ud;split at h
   ·rename_i x2 uG;cases h;obtain⟨a1,a2⟩:=zoJ hp ht h1 hb h2 sq ud;obtain⟨b0,b1,b2⟩:=zgU hp ht h1 hb h2 sq uG;have hx:qk bp [] (x1++x2)=qk bp [] x1++qk bp [] x2:=by simp[jE]
    rw[hx];refine⟨by simp[b0],a1.app (by rw[jP];exact b1),λpre post aE fU nG i sv v hi hv=>?_⟩
    have e1:=a2 pre (qk bp [] x2++post) aE;have e2:=b2 (pre++qk bp [] x1) post aE (by simp[jP];omega) nG
    simp only[b_] at e1 e2 hv;cases i with
    | zero=>cases hi;exact⟨b,rfl,e1 v fU nG hv⟩
    | succ i=>exact e2 i sv v hi hv
   ·cases h
  ·cases h
 | [],_::_,_,_,h=>by cases h
 | _::_,[],_,_,h=>by cases h
def zfF(hp:iC bp bU dw env H)(ht:aI bp=0)(h1:ρ <+: bp)(hb:ρ.length=base)(h2:pa <+: bU)(sq:pa.length=na):∀{bJ:List (Nat×List C×aq)}{gJ:Nat}{x:List C},Vj na base gJ kJ dw.ks dw.aj bJ=some x ->
  gQ kJ gJ (qk bp [] x)/\(∀a y,kN a bJ=some y->a<na)/\∀pre post aE,base+pre.length=gJ->pa <+: aE->∀a cs ty,kN a bJ=some (cs,ty)->∃cs',kN a dw.aj=some (cs',ty)/\qk (ρ++pre++qk bp [] x++post) aE cs=qk bp bU cs'
 | [],gJ,x,h=>by cases h;exact⟨gQ.nil,λa y h=>by simp[kN] at h,λ_ _ _ _ _ a cs ty h=>by simp[kN] at h⟩
 | (a,cs,t)::r,gJ,x,h=>by
  simp only[Vj] at h;split at h
  ·rename_i cs' t' hf;split at h
   ·rename_i hc;simp only[cR] at hc;obtain rfl:=kZ hc.1;split at h
    ·rename_i x1 ud;split at h
     ·rename_i x2 uG;cases h;obtain⟨a1,a2⟩:=RT hp ht h1 hb h2 sq ud;obtain⟨b1,b0,b2⟩:=zfF hp ht h1 hb h2 sq uG;have hx:qk bp [] (x1++x2)=qk bp [] x1++qk bp [] x2:=by simp[jE]
      rw[hx];refine⟨a1.app (by rw[jP];exact b1),λb y hb=>?_,λpre post aE fU nG b ds ty hb=>?_⟩
      ·rw[vt] at hb;split at hb
       next e=>subst e;exact Cy hc.2
       ·exact b0 b y hb
      ·have e1:=a2 pre (qk bp [] x2++post) aE fU nG;have e2:=b2 (pre++qk bp [] x1) post aE (by simp[jP];omega) nG
       simp only[b_] at e1 e2 ⊢;rw[vt] at hb;split at hb
       next e=>subst e;cases hb;exact⟨cs',hf,e1⟩
       ·exact e2 b ds ty hb
     ·cases h
    ·cases h
   ·cases h
  ·cases h
def DZ:∀{a b:List CK},Jp a b=true->a <+: b
 | [],b,_=>List.nil_prefix
 | x::xs,[],h=>by cases h
 | x::xs,y::ys,h=>by
  simp only[Jp] at h;split at h
  next e=>subst e;exact List.cons_prefix_cons.2 ⟨rfl,DZ h⟩
  ·cases h
def ZQ{x:List C}(o8:Rel n0 B ρ pa σ s)(hJ:Rs σ mN=true){s':St}(hr:Rel n0 B bp bU dw s')(h1:ρ <+: bp)(h2:pa <+: bU)(h:fit σ.ks.length mN dw=some x) :
  Rel n0 B (ρ++qk bp [] x) pa mN s':=by
 simp only[Rs,cR] at hJ;obtain⟨⟨⟨⟨j1,j2⟩,j3⟩,j4⟩,j5⟩:=hJ;have mP:=DZ j1;have sq:=kZ j4;have Il:=kZ j5;have has:mN.as=[]:=by simpa using j2
 have nk:mN.lk=[]:=by simpa using j3
 unfold fit at h;split at h
 ·rename_i x1 ud;split at h
  ·rename_i x2 uG;split at h
   ·rename_i hc;simp only[cR] at hc;obtain⟨⟨c1,c2⟩,c3⟩:=hc;cases h;have hlen:ρ.length=σ.ks.length:=o8.kl;have oN:pa.length=mN.na:=by rw[o8.na,sq]
    obtain⟨a0,a1,a2⟩:=zgU hr.here hr.top h1 hlen h2 oN ud;obtain⟨b1,b0,b2⟩:=zfF hr.here hr.top h1 hlen h2 oN uG;have hx:qk bp [] (x1++x2)=qk bp [] x1++qk bp [] x2:=by simp[jE]
    have RV:=a1.app (by rw[jP];exact b1)
    rw[hx];have tH:∀a,a<mN.na->pd bU a=pd pa a:=λa ha=>kc h2 (by rw[oN];exact ha)
    have amW:mN.na<=dw.na:=Zm c2;have amX:=kZ c3;have O9:(ρ++(qk bp [] x1++qk bp [] x2)).length=mN.ks.length:=by
     rw[<- kZ c1];simp[jP,hlen]
    refine⟨λaD aE e1 e2=>⟨λi sv v hi hv=>?_,λa cs ty hf=>?_,λi k hi=>?_,by rw[has];exact λt ht=>by simp at ht⟩,by rw[a0];exact hr.len,oN,?_,?_,?_,O9,by rw[ko,o8.top,RV.top];rfl,hr.DU,?_,hr.sH,hr.df,λa off hl=>by rw[nk] at hl;simp[v9,xo] at hl,b0,λa off hl=>by rw[nk] at hl;simp[v9,xo] at hl,by rw[<- sq,<- Il];exact o8.nf⟩
    ·obtain⟨z,rfl⟩:=e1;obtain⟨KR,f1,f2⟩:=a2 [] (qk bp [] x2++z) aE (by simp) e2 i sv v hi (by simpa using hv)
     exact hr.here.env i KR v f1 f2
    ·obtain⟨z,rfl⟩:=e1;obtain⟨cs',f1,f2⟩:=b2 (qk bp [] x1) z aE (by simp[jP]) e2 a cs ty hf
     simp only[b_] at f2 ⊢;rw[f2];have:=hr.here.aj a cs' ty f1;rw[kc e2 (by rw[oN];exact b0 _ _ hf),<- tH a (b0 _ _ hf)]
     exact this
    ·have RP:i<mN.ks.length:=Zx hi;rw[yr e1 (by rw[O9];exact RP)]
     by_cases hb:i<σ.ks.length
     ·rw[va (by rw[hlen];exact hb)]
      obtain⟨z,hz⟩:=mP;rw[<- hz,zV,mz hb,<- zV] at hi;exact o8.here.ks i k hi
     ·obtain⟨ck,v,f1,f2,f3⟩:=RV.ks (i - σ.ks.length) (by rw[<- O9] at RP;simp only[bY] at RP ⊢;omega)
      rw[show σ.ks.length+(i - σ.ks.length)=i by omega,hi] at f1
      cases f1;rw[xp,oe (by omega),hlen,<- zV,f2]
      exact f3
    ·intro a a' ha tC he;rw[<- tH a ha,<- tH a' tC] at he;exact hr.inj a a' (by omega) (by omega) he
    ·intro a h3 h4;rw[<- tH a h4];exact hr.lo a (by omega) (by omega)
    ·intro a h4;rw[<- tH a h4];exact hr.hi a (by omega)
    ·intro b hb hn;refine hr.base b hb λa ha=>?_;rw[tH a (by have:=o8.nf;omega)]
     exact hn a (by omega)
   ·cases h
  ·cases h
 ·cases h
end
section
variable{cx:Cx}{all:Array Oper}{takes:bP}{df:bH}
abbrev lQ:=Hp×bk
def mQ(D:Nat):bR->List lQ->Option lQ
 | i::rl,h::hs=>match bit D i with
  | true=>some h
  | false=>mQ D rl hs
 | [],h::_=>some h
 | _,[]=>none
def kp(rs:List Rec)(D:Nat):Prop:=(∀b,bit D b=true->bit (cE rs) b=true)/\∀q∈rs,q.hp=true->bit D q.idx=true->∀b,bit q.m b=true->bit (cE rs) b=true->bit D b=true
def x8(cx:Cx)(takes:bP)(df:bH)(q:Rec)(S:lQ):Prop:=∃c2,cx.dO takes q.o q.env ⟨0,S.1,S.2,df⟩ 0=some (q.v,c2)
inductive sx(cx:Cx)(takes:bP)(df:bH)(rs:List Rec):bR->List lQ->Prop where
 |nil (h:lQ):sx cx takes df rs [] [h]
 |cons {rl:bR} {h h':lQ} {hs:List lQ} (q:Rec):q∈rs->q.hp=true->(∀j∈rl,bit q.m j=true/\bit (cE rs) j=true)->(∀D D',cx.dO takes q.o q.env ⟨D',h'.1,h'.2,df⟩ D=some (q.v,⟨D,h.1,h.2,df⟩))->sx cx takes df rs rl (h'::hs)->sx cx takes df rs (q.idx::rl) (h::h'::hs)
structure AI(cx:Cx)(takes:bP)(df:bH)(i:Nat)(rs:List Rec)(rl:bR)(hs:List lQ)(c0:eT)(cs:List eT):Prop where
 idx:∀q∈rs,q.idx<i
 D3:∀q∈rs,∀b,bit q.m b=true->b<q.idx
 uniq:∀q∈rs,∀p∈rs,q.idx=p.idx->q=p
 cfg:∀c∈c0::cs,mQ c.D rl hs=some (c.H,c.lk)/\c.df=df
 o5:∀c∈c0::cs,kp rs c.D
 VG:c0.D=cE rs
 comp:∀D,kp rs D->∃c∈c0::cs,c.D=D
 calls:∀q∈rs,q.hp=true->q.idx ∉ rl->∀S∈hs,∀D D',cx.dO takes q.o q.env ⟨D',S.1,S.2,df⟩ D=some (q.v,⟨D,S.1,S.2,df⟩)
 RW:∀j∈rl,j<i
 chain:sx cx takes df rs rl hs
 ZR:∀q∈rs,q.hp=false->q.free=false->∀D S,kp rs D->kW (Nat.land q.m (cE rs)) D=true->mQ D rl hs=some S->ku D q rs=true\/x8 cx takes df q S
def tA{o:Oper}{env:aA}{c:eT}{D:Nat}{v:V}{H':Hp}{oh:bk}{Cs:bH}(h:cx.dO takes o env c D=some (v,⟨D,H',oh,Cs⟩))(D':Nat)(c':eT)(h1:c'.H=c.H)(h2:c'.lk=c.lk)(h3:c'.df=c.df):cx.dO takes o env c' D'=some (v,⟨D',H',oh,Cs⟩):=by
 unfold Cx.dO at h ⊢;rw[h1,h2,h3];split at h<;>first|(cases h;done)|skip
 all_goals
  rename_i aF;simp only[aR,bS,eT.mk.injEq,cg] at h;obtain⟨rfl,rfl,rfl,rfl⟩:=h;simp only[]
def zgV{q:Rec}{c:eT}(h:x8 cx takes df q (c.H,c.lk))(hd:c.df=df):cx.gj takes q.o q.env q.v c=true:=by
 obtain⟨c2,h⟩:=h;have:cx.dO takes q.o q.env c 0=some (q.v,c2):=by
  rw[<- h];unfold Cx.dO;simp only[hd]
 simp only[Cx.gj,this,V.dj]
def zfG{D:Nat}:∀{l:List eT},(∃c∈l,c.D=D)->∃c,yV D l=some c/\c∈l/\c.D=D
 | [],h=>by obtain⟨c,hc,_⟩:=h;simp at hc
 | c::l,h=>by
  simp only[yV]
  by_cases hD:c.D=D
  ·exact⟨c,by simp[hD],eS,hD⟩
  ·have hb:Nat.beq c.D D=false:=by cases hh:Nat.beq c.D D with|false=>rfl|true=>exact absurd (gy hh) hD
   obtain⟨x,hx,Pa⟩:=h;rcases dh.1 hx with rfl|hx
   ·exact absurd Pa hD
   ·obtain⟨y,h1,h2,h3⟩:=zfG ⟨x,hx,Pa⟩;exact⟨y,by simp[hb,h1],dB _ h2,h3⟩
def zhZ(b:br):fA b b=true:=by
 cases b with
 | cells cs t=>simp[fA,dQ]
 | map es =>
  simp only[fA]
  induction es with
  | nil=>rfl
  | cons x xs ih=>obtain⟨a,b⟩:=x;simp[o_,V.dj,ih]
 | iter s i=>simp[fA,tw]
 | ul v z cs e=>simp[fA,dQ]
def iR:∀(l:List br),lF l l=true
 | []=>rfl
 | b::l=>by simp[lF,zhZ,iR l]
def iS:∀(l:bk),iV l l=true
 | []=>rfl
 | (a,b)::l=>by simp[iV,iS l]
def iT:∀(l:bH),mb l l=true
 | []=>rfl
 | (a,b)::l=>by simp[mb,V.dj,dQ,iT l]
def m_{a b:eT}(h1:a.H=b.H)(h2:a.lk=b.lk)(h3:a.df=b.df):yU a b=true:=by
 simp[yU,h1,h2,h3,iS,iT,iR]
def ZS{D:Nat}{q d:Rec}:∀{rs:List Rec},d∈rs->d.hp=true->bit D d.idx=true->bit d.m q.idx=true->ku D q rs=true
 | e::rs,h,h1,h2,h3=>by
  simp only[ku,mT,cR];rcases dh.1 h with rfl|h
  ·exact .inl ⟨⟨h1,h2⟩,h3⟩
  ·exact .inr (ZS h h1 h2 h3)
def bO{r:Rec}{rs:List Rec}{b:Nat}:bit (cE (r::rs)) b=true ↔ (r.hp=true/\r.idx=b)\/bit (cE rs) b=true:=by
 rw[eO,eO];constructor
 ·rintro⟨q,hq,h1,h2⟩;rcases dh.1 hq with rfl|hq
  ·exact .inl ⟨h1,h2⟩
  ·exact .inr ⟨q,hq,h1,h2⟩
 ·rintro(⟨h1,h2⟩|⟨q,hq,h1,h2⟩)
  ·exact⟨r,eS,h1,h2⟩
  ·exact⟨q,dB _ hq,h1,h2⟩
section
variable{i:Nat}{rs:List Rec}{rl:bR}{hs:List lQ}{c0:eT}{cs:List eT}{r:Rec}
def vX(hp:r.hp=false){D:Nat}:kp (r::rs) D ↔ kp rs D:=by
 have hc:∀b,bit (cE (r::rs)) b=true ↔ bit (cE rs) b=true:=λb=>by rw[bO];simp[hp]
 unfold kp;constructor
 ·rintro⟨h1,h2⟩;exact⟨λb hb=>(hc b).1 (h1 b hb),λq hq gq sy b hb nc=>h2 q (dB _ hq) gq sy b hb ((hc b).2 nc)⟩
 ·rintro⟨h1,h2⟩;refine⟨λb hb=>(hc b).2 (h1 b hb),λq hq gq sy b hb nc=>?_⟩;rcases dh.1 hq with rfl|hq
  ·rw[hp] at gq;cases gq
  ·exact h2 q hq gq sy b hb ((hc b).1 nc)
def ZT(hp:r.hp=false):cE (r::rs)=cE rs:=by simp only[cE,hp]
def ZU{ZV:List Rec}(dS:∀q∈rs,q∈ZV)(IQ:∀b,bit (cE rs) b=true->bit (cE ZV) b=true){rl:bR}{hs:List lQ}(h:sx cx takes df rs rl hs):sx cx takes df ZV rl hs:=by
 induction h with
 | nil h=>exact .nil h
 | cons q h1 h2 h3 h4 _ ih=>exact .cons q (dS q h1) h2 (λj hj=>⟨(h3 j hj).1,IQ j (h3 j hj).2⟩) h4 ih
def AI.quiet(h:AI cx takes df i rs rl hs c0 cs)(hi:r.idx=i)(hm:∀b,bit r.m b=true->b<i)(hp:r.hp=false)
  (hv:r.free=true\/∀D S,kp rs D->kW (Nat.land r.m (cE rs)) D=true->mQ D rl hs=some S->x8 cx takes df r S) {c1:eT} :
  (∀k,cx.fS takes rs r c0 c1 cs k=k (c0::cs))/\AI cx takes df (i+1) (r::rs) rl hs c0 cs:=by
 constructor
 ·intro k;unfold Cx.fS;simp only[hp];split
  ·rfl
  ·rename_i hf;exfalso;rcases hv with hv|hv
   ·simp[hv] at hf
   ·have eD:kH (λc=>match kW (Nat.land r.m (cE rs)) c.D with|true=>cx.gj takes r.o r.env r.v c|false=>true) cs=true:=by
     refine xm λc hc=>?_;split
     next hs'=>have pz:=dB c0 hc;exact zgV (hv c.D _ (h.o5 c pz) hs' (h.cfg c pz).1) (h.cfg c pz).2
     ·rfl
    have KZ:=(LJ.1 hf).2;exact Bool.noConfusion (KZ.symm.trans eD)
 ·have nr:cE (r::rs)=cE rs:=ZT hp;refine⟨λq hq=>?_,λq hq b hb=>?_,λq hq p tu he=>?_,h.cfg,λc hc=>(vX hp).2 (h.o5 c hc),by rw[nr];exact h.VG,λD hD=>h.comp D ((vX hp).1 hD),λq hq h1 h2=>?_,λq hq=>?_,ZU (λq hq=>dB _ hq) (λb hb=>by rw[nr];exact hb) h.chain,λq hq h1 h2 D S hD dS hS=>?_⟩
  ·rcases dh.1 hq with rfl|hq
   ·omega
   ·have:=h.idx q hq;omega
  ·rcases dh.1 hq with rfl|hq
   ·have:=hm b hb;omega
   ·exact h.D3 q hq b hb
  ·rcases dh.1 hq with e1|g1<;>rcases dh.1 tu with e2|g2
   ·rw[e1,e2]
   ·have:=h.idx p g2;rw[e1] at he;omega
   ·have:=h.idx q g1;rw[e2] at he;omega
   ·exact h.uniq q g1 p g2 he
  ·rcases dh.1 hq with rfl|hq
   ·rw[hp] at h1;cases h1
   ·exact h.calls q hq h1 h2
  ·have:=h.RW q hq;omega
  ·rw[nr] at dS;rw[vX hp] at hD;have Js:∀q,ku D q (r::rs)=ku D q rs:=λq=>by simp[ku,hp]
   rw[Js];rcases dh.1 hq with rfl|hq
   ·rcases hv with hv|hv
    ·rw[hv] at h2;cases h2
    ·exact .inr (hv D S hD dS hS)
   ·exact h.ZR q hq h1 h2 D S hD dS hS
def RX{D:Nat}(AJ:i ∉ rl):mQ (Nat.lor D (Nat.pow 2 i)) rl hs=mQ D rl hs:=by
 induction rl generalizing hs with
 | nil=>cases hs<;>rfl
 | cons j rl ih =>
  simp only[dh,not_or] at AJ;cases hs with
  | nil=>rfl
  | cons a hs =>
   have:bit (Nat.lor D (Nat.pow 2 i)) j=bit D j:=by rw[ki,kC];simp[AJ.1]
   simp only[mQ,this,ih AJ.2]
def ZW{D:Nat}{S:lQ}:∀{rl:bR}{hs:List lQ},mQ D rl hs=some S->S∈hs
 | [],[],h=>by cases h
 | [],a::hs,h=>by simp only[mQ,aR] at h;subst h;exact eS
 | j::rl,[],h=>by cases h
 | j::rl,a::hs,h=>by
  simp only[mQ] at h;split at h
  ·cases h;exact eS
  ·exact dB _ (ZW h)
def VH{D:Nat}{rl:bR}{a:lQ}{hs:List lQ}(h:∀j∈rl,bit D j=true):mQ D rl (a::hs)=some a:=by
 cases rl with
 | nil=>rfl
 | cons j rl=>simp only[mQ,h j eS]
def zkR{q:Rec}(hu:∀q∈rs,∀p∈rs,q.idx=p.idx->q=p)(hq:q∈rs)(_hqh:q.hp=true){D:Nat}(hD:kp rs D)(sy:bit D q.idx=false)(dS:∀b,bit q.m b=true->bit (cE rs) b=true->bit D b=true) :
  ∀{rl:bR}{hs:List lQ},sx cx takes df rs rl hs->rl.Nodup->q.idx∈rl->∃S S',mQ D rl hs=some S/\mQ (Nat.lor D (Nat.pow 2 q.idx)) rl hs=some S'/\∀D1 D2,cx.dO takes q.o q.env ⟨D1,S.1,S.2,df⟩ D2=some (q.v,⟨D2,S'.1,S'.2,df⟩):=by
 intro rl hs hc
 induction hc with
 | nil h=>intro _ h;simp at h
 | @cons rl h h' hs p h1 h2 h3 h4 _ ih =>
  intro uX hm;have hb:∀b,bit (Nat.lor D (Nat.pow 2 q.idx)) b=(bit D b || decide (q.idx=b)):=λb=>by rw[ki,kC]
  simp only[List.nodup_cons] at uX
  by_cases he:q.idx=p.idx
  ·obtain rfl:=hu q hq p h1 he;refine⟨h',h,?_,?_,λD1 D2=>h4 D2 D1⟩
   ·simp only[mQ,sy];exact VH λj hj=>dS j (h3 j hj).1 (h3 j hj).2
   ·simp only[mQ,hb];simp
  ·have IY:q.idx∈rl:=by simpa[he] using hm
   have MQ:bit D p.idx=false:=by
    cases hh:bit D p.idx with
    | false=>rfl
    | true =>
     have:=hD.2 p h1 h2 hh q.idx (h3 _ IY).1 (h3 _ IY).2;rw[this] at sy;cases sy
   obtain⟨S,S',g1,g2,g3⟩:=ih uX.2 IY;refine⟨S,S',?_,?_,g3⟩
   ·simp only[mQ,MQ];exact g1
   ·simp only[mQ,hb,MQ,he,decide_false,fD];exact g2
def AI.Kn(h:AI cx takes df i rs rl hs c0 cs)(hi:r.idx=i)(hm:∀b,bit r.m b=true->b<i)(hp:r.hp=true){rE:bR}{hs':List lQ}{c1:eT}(o6:c1.D=Nat.lor c0.D (Nat.pow 2 i))
  (hr:∀c∈c0::cs,kW (Nat.land r.m (cE rs)) c.D=true->∃H' oh,(∀D',cx.dO takes r.o r.env c D'=some (r.v,⟨D',H',oh,df⟩))/\mQ (Nat.lor c.D (Nat.pow 2 i)) rE hs'=some (H',oh))
  (h1c:mQ c1.D rE hs'=some (c1.H,c1.lk)/\c1.df=df)
  (eM:∀D,bit D i=false->mQ D rE hs'=mQ D rl hs)
  (GJ:(rE=rl/\hs'=hs)\/∃S',rE=i::rl/\hs'=S'::hs)
  (GK:∀q∈r::rs,q.hp=true->q.idx ∉ rE->∀S∈hs',∀D D',cx.dO takes q.o q.env ⟨D',S.1,S.2,df⟩ D=some (q.v,⟨D,S.1,S.2,df⟩))
  (GM:sx cx takes df (r::rs) rE hs') (uX:rE.Nodup)
  (ZX:rE=i::rl->∀q∈rs,q.hp=false->q.free=false->∀D S,kp (r::rs) D->bit D i=true->kW (Nat.land q.m (cE rs)) D=true->mQ D rE hs'=some S->ku D q (r::rs)=true\/x8 cx takes df q S) :
  ∃cs',(∀k,cx.fS takes rs r c0 c1 cs k=k cs')/\∃HY,cs'=c1::HY/\AI cx takes df (i+1) (r::rs) rE hs' c1 HY:=by
 have nV:∀q∈rs,q.idx<i:=h.idx;have AJ:∀j∈rE,j=i\/j∈rl:=λj hj=>by
  rcases GJ with⟨e,_⟩|⟨_,e,_⟩
  ·rw[e] at hj;exact .inr hj
  ·rw[e] at hj;exact dh.1 hj
 have ZY:∀j∈rl,j∈rE:=λj hj=>by
  rcases GJ with⟨e,_⟩|⟨_,e,_⟩
  ·rw[e];exact hj
  ·rw[e];exact dB _ hj
 have Gu:∀q∈r::rs,∀p∈r::rs,q.idx=p.idx->q=p:=λq hq p tu he=>by
  rcases dh.1 hq with e1|g1<;>rcases dh.1 tu with e2|g2
  ·rw[e1,e2]
  ·have:=nV p g2;rw[e1] at he;omega
  ·have:=nV q g1;rw[e2] at he;omega
  ·exact h.uniq q g1 p g2 he
 have D4:bit (cE rs) i=false:=by
  cases hb:bit (cE rs) i with
  | false=>rfl
  | true=>obtain⟨q,hq,_,he⟩:=eO.1 hb;have:=nV q hq;omega
 have uC:∀c∈c0::cs,bit c.D i=false:=λc hc=>by
  cases hb:bit c.D i with
  | false=>rfl
  | true=>rw[(h.o5 c hc).1 i hb] at D4;cases D4
 have ZZ:∀D,kp rs D->kp (r::rs) D:=λD hD=>by
  refine⟨λb hb=>bO.2 (.inr (hD.1 b hb)),λq hq gq sy b hb nc=>?_⟩;rcases dh.1 hq with rfl|hq
  ·rw[hi] at sy;rw[hD.1 i sy] at D4;cases D4
  ·refine hD.2 q hq gq sy b hb ?_;rcases bO.1 nc with⟨_,he⟩|nc
   ·have:=h.D3 q hq b hb;have:=nV q hq;omega
   ·exact nc
 have RY:∀D,kp rs D->kW (Nat.land r.m (cE rs)) D=true->kp (r::rs) (Nat.lor D (Nat.pow 2 i)):=λD hD dS=>by
  refine⟨λb hb=>?_,λq hq gq sy b hb nc=>?_⟩
  ·rw[ki,mT,kC,decide_eq_true_eq] at hb;rcases hb with hb|rfl
   ·exact bO.2 (.inr (hD.1 b hb))
   ·exact bO.2 (.inl ⟨hp,hi⟩)
  ·rw[ki,mT]
   left
   rcases dh.1 hq with rfl|hq
   ·rcases bO.1 nc with⟨_,he⟩|nc
    ·have:=hm b hb;omega
    ·exact cA.1 dS b (by rw[kj,hb,nc];rfl)
   ·have I_:b<i:=by have:=h.D3 q hq b hb;have:=nV q hq;omega
    rw[ki,mT,kC,decide_eq_true_eq] at sy;rcases sy with sy|he
    ·refine hD.2 q hq gq sy b hb ?_;rcases bO.1 nc with⟨_,he⟩|nc
     ·omega
     ·exact nc
    ·have:=nV q hq;omega
 have RZ:∀D,kp (r::rs) D->bit D i=false->kp rs D:=λD hD nC=>by
  refine⟨λb hb=>?_,λq hq gq sy b hb nc=>hD.2 q (dB _ hq) gq sy b hb (bO.2 (.inr nc))⟩;rcases bO.1 (hD.1 b hb) with⟨_,he⟩|nc
  ·rw[hi] at he;subst he;rw[hb] at nC;cases nC
  ·exact nc
 have R1:∀D,kp (r::rs) D->bit D i=true->∃D0,kp rs D0/\kW (Nat.land r.m (cE rs)) D0=true/\D=Nat.lor D0 (Nat.pow 2 i)/\∀b,bit D0 b=true ↔ (bit D b=true/\b≠i):=λD hD nC=>by
  have m8:∀b,bit (Nat.xor D (Nat.pow 2 i)) b=true ↔ (bit D b=true/\b≠i):=λb=>by
   have:bit (Nat.xor D (Nat.pow 2 i)) b=(bit D b ^^ decide (i=b)):=by
    rw[xh,xh];have:Nat.xor D (Nat.pow 2 i)=D ^^^ (2 ^ i):=rfl;rw[this,Nat.testBit_xor,N2]
   rw[this]
   by_cases he:i=b
   ·subst he;simp[nC]
   ·have:¬b=i:=λe=>he e.symm;simp[he,this]
  refine⟨Nat.xor D (Nat.pow 2 i),⟨λb hb=>?_,λq hq gq sy b hb nc=>?_⟩,cA.2 λb hb=>?_,wW λb=>?_,m8⟩
  ·obtain⟨h1,h2⟩:=(m8 b).1 hb;rcases bO.1 (hD.1 b h1) with⟨_,he⟩|nc
   ·rw[hi] at he;exact absurd he.symm h2
   ·exact nc
  ·obtain⟨h1,h2⟩:=(m8 _).1 sy;refine(m8 b).2 ⟨hD.2 q (dB _ hq) gq h1 b hb (bO.2 (.inr nc)),?_⟩;have:=h.D3 q hq b hb;have:=nV q hq;omega
  ·rw[kj,cR] at hb;refine(m8 b).2 ⟨hD.2 r eS hp (by rw[hi];exact nC) b hb.1 (bO.2 (.inr hb.2)),?_⟩
   have:=hm b hb.1;omega
  ·have hb:=m8 b;rw[ki,kC]
   by_cases he:i=b
   ·subst he;simp[nC]
   ·have cG:b≠i:=λe=>he e.symm;have MR:bit (Nat.xor D (Nat.pow 2 i)) b=true ↔ bit D b=true:=⟨λh=>(hb.1 h).1,λh=>hb.2 ⟨h,cG⟩⟩;rw[HT.2 MR];simp[he]
 have K0:∀q∈rs,q.hp=false->q.free=false->∀D S,kp (r::rs) D->bit D i=true->kW (Nat.land q.m (cE rs)) D=true->mQ D rE hs'=some S->ku D q (r::rs)=true\/x8 cx takes df q S:=by
  intro q hq g1 g2 D S hD nC dS hS;rcases GJ with⟨ea,eb⟩|⟨_,e,_⟩
  ·obtain⟨D0,k1,k2,k3,k4⟩:=R1 D hD nC;subst ea eb;have rq:i ∉ rE:=λhh=>by have:=h.RW i hh;omega
   rw[k3,RX rq] at hS;have R2:kW (Nat.land q.m (cE rs)) D0=true:=cA.2 λb hb=>by
    refine(k4 b).2 ⟨cA.1 dS b hb,?_⟩;rw[kj,cR] at hb;have:=h.D3 q hq b hb.1;have:=nV q hq;omega
   rcases h.ZR q hq g1 g2 D0 S k1 R2 hS with g|g
   ·left
    have R3:∀l:List Rec,ku D0 q l=true->ku D q l=true:=by
     intro l
     induction l with
     | nil=>intro h;cases h
     | cons x l ih =>
      simp only[ku,mT,cR];rintro(⟨⟨a1,a2⟩,a3⟩|a)
      ·exact .inl ⟨⟨a1,((k4 _).1 a2).1⟩,a3⟩
      ·exact .inr (ih a)
    simp only[ku,R3 rs g,fP]
   ·exact .inr g
  ·exact ZX e q hq g1 g2 D S hD nC dS hS
 have Mt:∀l:List eT,(∀c∈l,c∈c0::cs)->∃l',cx.g_ takes r.o r.env r.v (Nat.land r.m (cE rs)) (Nat.pow 2 i) l=some l'/\(∀c'∈l',∃c∈l,kW (Nat.land r.m (cE rs)) c.D=true/\c'.D=Nat.lor c.D (Nat.pow 2 i)/\mQ c'.D rE hs'=some (c'.H,c'.lk)/\c'.df=df)/\(∀c∈l,kW (Nat.land r.m (cE rs)) c.D=true->∃c'∈l',c'.D=Nat.lor c.D (Nat.pow 2 i)):=by
  intro l
  induction l with
  | nil=>intro _;exact⟨[],rfl,λc hc=>by simp at hc,λc hc=>by simp at hc⟩
  | cons c l ih =>
   intro hl;obtain⟨l',e1,e2,e3⟩:=ih λx hx=>hl x (dB _ hx);cases dS:kW (Nat.land r.m (cE rs)) c.D with
   | false =>
    refine⟨l',by simp only[Cx.g_,dS,e1],λc' eY=>?_,λx hx lu=>?_⟩
    ·obtain⟨x,hx,g⟩:=e2 c' eY;exact⟨x,dB _ hx,g⟩
    ·rcases dh.1 hx with rfl|hx
     ·rw[dS] at lu;cases lu
     ·exact e3 x hx lu
   | true =>
    obtain⟨H',oh,g1,g2⟩:=hr c (hl c eS) dS;refine⟨⟨Nat.lor c.D (Nat.pow 2 i),H',oh,df⟩::l',by simp only[Cx.g_,dS,g1,V.dj,e1],λc' eY=>?_,λx hx lu=>?_⟩
    ·rcases dh.1 eY with rfl|eY
     ·exact⟨c,eS,dS,rfl,g2,rfl⟩
     ·obtain⟨x,hx,g⟩:=e2 c' eY;exact⟨x,dB _ hx,g⟩
    ·rcases dh.1 hx with rfl|hx
     ·exact⟨_,eS,rfl⟩
     ·obtain⟨c',g1,g2⟩:=e3 x hx lu;exact⟨c',dB _ g1,g2⟩
 obtain⟨l,e1,e2,e3⟩:=Mt cs λc hc=>dB _ hc;have I4:kW (Nat.land r.m (cE rs)) c0.D=true:=cA.2 λb hb=>by rw[kj,cR] at hb;rw[h.VG];exact hb.2
 have MS:∀c∈c1::l++c0::cs,mQ c.D rE hs'=some (c.H,c.lk)/\c.df=df:=λc hc=>by
  simp only[cF,dh,uo] at hc;rcases hc with rfl|hc|hc
  ·exact h1c
  ·obtain⟨x,_,_,_,g1,g2⟩:=e2 c hc;exact⟨g1,g2⟩
  ·have eY:c∈c0::cs:=by simpa using hc
   rw[eM c.D (uC c eY)];exact h.cfg c eY
 have Jt:∀c∈c1::l++c0::cs,kp (r::rs) c.D:=λc hc=>by
  simp only[cF,dh,uo] at hc;rcases hc with rfl|hc|hc
  ·rw[o6];exact RY _ (h.o5 c0 eS) I4
  ·obtain⟨x,hx,lu,Pa,_⟩:=e2 c hc;rw[Pa];exact RY _ (h.o5 x (dB _ hx)) lu
  ·exact ZZ _ (h.o5 c (by simpa using hc))
 have K1:∀D,kp (r::rs) D->∃c∈c1::l++c0::cs,c.D=D:=λD hD=>by
  cases nC:bit D i with
  | false =>
   obtain⟨c,hc,uC⟩:=h.comp D (RZ D hD nC);exact⟨c,by simp only[cF,dh,uo];right;right;simpa using hc,uC⟩
  | true =>
   obtain⟨D0,g1,g2,g3,_⟩:=R1 D hD nC;obtain⟨c,hc,Z0⟩:=h.comp D0 g1;rcases dh.1 hc with e|hc
   ·exact⟨c1,by simp,by rw[o6,g3,<- Z0,e]⟩
   ·obtain⟨c',eY,Z1⟩:=e3 c hc (by rw[Z0];exact g2)
    exact⟨c',by simp[eY],by rw[Z1,Z0,g3]⟩
 have gm:kH (λc=>cx.nK takes rs (cE rs) r (c1::l++c0::cs) c) (c1::l)=true:=by
  refine xm λc hc=>xm λq hq=>?_;have nr:c∈c1::l++c0::cs:=by simp only[cF,dh,uo] at hc ⊢;rcases hc with rfl|hc;exact .inl rfl;exact .inr (.inl hc)
  have MU:bit c.D i=true:=by
   rcases dh.1 hc with rfl|hc
   ·rw[o6,ki,kC];simp
   ·obtain⟨x,_,_,Pa,_⟩:=e2 c hc;rw[Pa,ki,kC];simp
  obtain⟨s1,s2⟩:=MS c nr;split
  ·rfl
  ·rename_i dS;split
   ·rename_i gq;split
    ·rfl
    ·rename_i sy;have iL:kp (r::rs) (Nat.lor c.D (Nat.pow 2 q.idx)):=by
      have hC:=Jt c nr;refine⟨λb hb=>?_,λp tu MO MQ b hb nc=>?_⟩
      ·rw[ki,mT,kC,decide_eq_true_eq] at hb;rcases hb with hb|rfl
       ·exact hC.1 b hb
       ·exact bO.2 (.inr (eO.2 ⟨q,hq,gq,rfl⟩))
      ·rw[ki,mT]
       left
       rw[ki,mT,kC,decide_eq_true_eq] at MQ;rcases MQ with MQ|he
       ·exact hC.2 p tu MO MQ b hb nc
       ·have hpq:p=q:=by
         rcases dh.1 tu with rfl|tu
         ·have:=nV q hq;omega
         ·exact h.uniq p tu q hq he.symm
        subst hpq;refine cA.1 dS b ?_;rw[kj,hb,eH];rcases bO.1 nc with⟨_,Ft⟩|nc
        ·have:=h.D3 p hq b hb;have:=nV p hq;omega
        ·exact nc
     obtain⟨c3,f1,f2,f3⟩:=zfG (K1 _ iL);obtain⟨t1,t2⟩:=MS c3 f2;rw[f3] at t1;rw[f1]
     by_cases hqr:q.idx∈rl
     ·obtain⟨S,S',g1,g2,g3⟩:=zkR Gu (dB _ hq) gq (Jt c nr) sy (λb hb nc=>cA.1 dS b (by
       rw[kj,hb,eH];rcases bO.1 nc with⟨_,Ft⟩|nc
       ·have:=h.D3 q hq b hb;have:=nV q hq;omega
       ·exact nc)) GM uX (ZY _ hqr)
      rw[s1] at g1;obtain rfl:=ur g1;rw[t1] at g2;obtain rfl:=ur g2;have:=tA (g3 0 0) 0 c rfl rfl s2;simp only[this,V.dj,eH];exact m_ rfl rfl t2.symm
     ·have cG:q.idx ∉ rE:=λhh=>by
       rcases AJ _ hh with he|hh
       ·have:=nV q hq;omega
       ·exact hqr hh
      have:=tA (GK q (dB _ hq) gq cG (c.H,c.lk) (ZW s1) 0 0) 0 c rfl rfl s2;simp only[this,V.dj,eH];rw[RX cG,s1] at t1;simp only[aR,bS] at t1;exact m_ t1.1 t1.2 t2.symm
   ·rename_i gq;cases hf:q.free with
    | true=>simp
    | false =>
     rcases K0 q hq gq hf c.D _ (Jt c nr) MU dS s1 with g|g
     ·simp only[ku,mT,cR] at g;rcases g with⟨⟨_,_⟩,g⟩|g
      ·simp[g]
      ·simp[g]
     ·rw[zgV g s2];simp
 refine⟨c1::l++c0::cs,λk=>?_,l++c0::cs,rfl,?_⟩
 ·unfold Cx.fS;simp only[hp,hi,e1];rw[gm]
 ·refine⟨λq hq=>?_,λq hq b hb=>?_,λq hq p tu he=>?_,MS,Jt,?_,K1,GK,λj hj=>?_,GM,λq hq g1 g2 D S hD dS hS=>?_⟩
  ·rcases dh.1 hq with rfl|hq
   ·omega
   ·have:=nV q hq;omega
  ·rcases dh.1 hq with rfl|hq
   ·have:=hm b hb;omega
   ·exact h.D3 q hq b hb
  ·rcases dh.1 hq with e1|g1<;>rcases dh.1 tu with e2|g2
   ·rw[e1,e2]
   ·have:=nV p g2;rw[e1] at he;omega
   ·have:=nV q g1;rw[e2] at he;omega
   ·exact h.uniq q g1 p g2 he
  ·rw[o6,h.VG];refine wW λb=>?_;have:=@bO r rs b;rw[ki,kC];cases g1:bit (cE (r::rs)) b<;>cases g2:bit (cE rs) b<;>simp_all
  ·rcases AJ j hj with e|e
   ·omega
   ·have:=h.RW j e;omega
  ·rcases dh.1 hq with rfl|hq
   ·rw[hp] at g1;cases g1
   ·have K2:kW (Nat.land q.m (cE rs)) D=true:=cA.2 λb hb=>by
     rw[kj,cR] at hb;exact cA.1 dS b (by rw[kj,hb.1,bO.2 (.inr hb.2)];rfl)
    cases nC:bit D i with
    | true=>exact K0 q hq g1 g2 D S hD nC K2 hS
    | false =>
     rw[eM D nC] at hS;rcases h.ZR q hq g1 g2 D S (RZ D hD nC) K2 hS with g|g
     ·left;simp[ku,g]
     ·exact .inr g
end
end
section
set_option linter.unusedSectionVars false
variable{P:aM}{gl:Gl}{ph:PH}{N:Nat}{r:Nat×aA}{ρ bp:aA}{pa bU:bR}{σ:Sg}{s:St}{n0:Nat}{B:List br}{env:aA}{H:Hp}{lk:bk}{df:bH}{takes:bP}{k:KT}{t:Tree}
variable [mw gl]
def Pb{dst:fQ}{tt:aq}{a:aO}{type:aq}{pos:String}{after:Array Edge}{guard:oq}{c:Bi}(h:wo takes σ ⟨dst,.load tt a,type,pos,after,guard⟩=some c) :
  (jV takes dst=false/\(∃g,a=.global g)/\c=.free)\/(jV takes dst=false/\∃b off,pk σ a=some (.val (.one (.p b off)))/\c=.rd b)\/(jV takes dst=false/\∃cs,pk σ a=some (.vp cs)/\c=.free)\/(jV takes dst=true/\∃b off,pk σ a=some (.val (.one (.p b off)))/\c=.wr b):=by
 simp only[wo] at h;cases ht:jV takes dst with
 | false =>
  cases a with
  | global g=>simp only[ht] at h;cases h;exact .inl ⟨rfl,⟨g,rfl⟩,rfl⟩
  | _ =>
   simp only[ht] at h;split at h
   next hh=>cases hh
   next mP _=>cases h;exact .inr (.inl ⟨rfl,_,_,mP,rfl⟩)
   next mP _=>cases h;exact .inr (.inr (.inl ⟨rfl,_,mP,rfl⟩))
   ·cases h
 | true =>
  simp only[ht] at h;split at h
  next mP _=>cases h;exact .inr (.inr (.inr ⟨rfl,_,_,mP,rfl⟩))
  next hh=>cases hh
  next hh=>cases hh
  ·cases h
def VI{o:Oper}{c:Bi}(h:wo takes σ o=some c):v8 takes o=(match c with|.free=>false|.rd _=>false|.call=>true|.wr _=>true):=by
 obtain⟨dst,op,type,pos,after,guard⟩:=o;cases op
 case load tt a =>
  have hl:v8 takes ⟨dst,.load tt a,type,pos,after,guard⟩=jV takes dst:=by
   cases dst<;>rfl
  rw[hl];rcases Pb h with⟨e,_,rfl⟩|⟨e,_,_,_,rfl⟩|⟨e,_,_,rfl⟩|⟨e,_,_,_,rfl⟩<;>exact e
 all_goals simp only[wo] at h;try (cases h;done)
 case store tt a x =>
  split at h
  ·cases h;rfl
  ·cases h
 case call c =>
  obtain⟨callee,args,AG⟩:=c;simp only at h;split at h
  ·rename_i f l h1 h2;split at h
   ·cases h;rfl
   ·cases h
  ·rename_i x h1 h2;split at h
   ·cases h;rfl
   ·cases h
  ·split at h
   ·cases h;rfl
   ·cases h
  ·cases h;rfl
  ·cases h;rfl
  ·cases h
 all_goals first|(cases h;rfl)
def zlU{x:aO}(hr:iC ρ pa σ env H)(h:Ve σ x=true):∃v,aB env x=some v/\((∃s,v=.str s)\/v=.aJ\/∃sz xs o,v=.sl sz xs o):=by
 unfold Ve at h;split at h
 next t hc=>exact⟨_,kn hr hc,.inl ⟨_,rfl⟩⟩
 next sz t o hc=>exact⟨_,kn hr hc,.inr (.inr ⟨_,_,_,rfl⟩)⟩
 next hc=>exact⟨_,kn hr hc,.inr (.inl rfl)⟩
 ·rename_i i cl hc;refine⟨_,kn hr hc,?_⟩;split at h
  ·rename_i hk;have:=hr.ks i _ hk;cases hv:at' ρ i with
   | str s=>left;refine⟨s,?_⟩;cases cl<;>simp only[bB,hv,aT]
   | _=>rw[hv] at this;simp[fh] at this
  ·rename_i sz hk;have:=hr.ks i _ hk;cases hv:at' ρ i with
   | aJ=>right;left;cases cl<;>simp only[bB,hv,aT]
   | sl mc xs o=>right;right;cases cl<;>simp only[bB,hv,aT]<;>exact⟨_,_,_,rfl⟩
   | _=>rw[hv] at this;simp[fh] at this
  ·cases h
 ·cases h
def Z2{cx:Cx}(hu:∀e,cx.uq e=false){b:Builtin}(hb:b≠.copy){args:ot}{AG:Array aq}{dst:fQ}{type:aq}{pos:String}{after:Array Edge}{guard:oq} :
  cx.op takes ⟨dst,.call ⟨.builtin b,args,AG⟩,type,pos,after,guard⟩ env H lk df=Y8 H lk df (cx.builtin b AG args env H):=by
 have plain:(match cx.builtin b AG args env H with|none=>none|some (r,env)=>some (r,(⟨env,H,lk,df⟩:St)))=Y8 H lk df (cx.builtin b AG args env H):=by
  cases cx.builtin b AG args env H<;>rfl
 simp only[Cx.op];split
 ·exact absurd rfl hb
 next x y t u h1 h2=>simp only[KI hu];exact plain
 ·exact plain
def zm5{o:Oper}{c:Bi}(h:wo takes σ o=some c){v:V}{s':St}{cx:Cx}(hu:∀e,cx.uq e=false)(hr:iC ρ pa σ env H)(hc:c=.free)(aF:cx.op takes o env H lk df=some (.val v,s')) :
  ∀H2 mG pN,∃s2,cx.op takes o env H2 mG pN=some (.val v,s2):=by
 subst hc;have hn:v8 takes o=false:=VI h;cases hl:OF o with
 | false=>exact λH2 mG pN=>zlt (by rw[OG hu];exact hn) (by rw[zjf hu];exact hl) aF mG pN
 | true =>
  intro H2 mG pN;obtain⟨dst,op,type,pos,after,guard⟩:=o;cases op<;>simp only[OF,dF] at hl
  case load tt a =>
   have ht:jV takes dst=false:=by
    have hl:v8 takes ⟨dst,.load tt a,type,pos,after,guard⟩=jV takes dst:=by cases dst<;>rfl
    rw[<- hl];exact hn
   rw[Ry ht] at aF ⊢;have key:(aB env a).bind (qJ cx.P H2 cx.gl tt)=(aB env a).bind (qJ cx.P H cx.gl tt):=by
    rcases Pb h with⟨_,⟨g,rfl⟩,_⟩|⟨_,_,_,_,e⟩|⟨_,cs,mP,_⟩|⟨_,_,_,_,e⟩
    ·simp only[aB,bC,qJ]
    ·cases e
    ·obtain⟨u,e1,e2⟩:=vD hr mP;cases e2;simp only[e1,bC,qJ]
    ·cases e
   rw[key];unfold gM at aF ⊢;split at aF
   ·cases aF;exact⟨_,rfl⟩
   ·cases aF
  case lookup=>simp only[wo] at h;cases h
  case call c =>
   obtain⟨callee,args,AG⟩:=c;simp only[wo] at h;have bi:∀b,callee=.builtin b->cx.builtin b AG args env H2=cx.builtin b AG args env H->∃s2,cx.op takes ⟨dst,.call ⟨callee,args,AG⟩,type,pos,after,guard⟩ env H2 mG pN=some (.val v,s2):=λb hb he=>by
    subst hb;have Me:b≠.copy:=by rintro rfl;simp[v8] at hn
    rw[Z2 hu Me] at aF ⊢;rw[he];unfold Y8 at aF ⊢;split at aF
    ·simp only[aR,bS] at aF;obtain⟨rfl,rfl⟩:=aF;exact⟨_,rfl⟩
    ·cases aF
   split at h
   ·split at h
    ·cases h
    ·cases h
   ·rename_i x h2;split at h
    ·rename_i hf;refine bi _ rfl ?_;obtain⟨u,e1,e2⟩:=zlU hr hf;obtain rfl:args=#[x]:=by apply Array.toList_inj.1;simpa using h2
     have hl:∀t',kU cx.P H2 t' u=kU cx.P H t' u:=λt'=>by
      rcases e2 with⟨_,rfl⟩|rfl|⟨_,_,_,rfl⟩<;>unfold kU<;>split<;>simp_all
     unfold Cx.builtin;split<;>first|rfl|skip
     next x' t' _ g1 g2=>simp only[List.cons.injEq,Bt] at g1;subst g1;simp only[e1,Option.bind_eq_bind,bC,hl]
     next hh _ _=>cases hh
    ·cases h
   ·rename_i x y h2;split at h
    ·rename_i hf;refine bi _ rfl ?_;obtain⟨u,e1,e2⟩:=zlU hr hf;obtain rfl:args=#[x,y]:=by apply Array.toList_inj.1;simpa using h2
     have ha:∀t' w,kG cx.P H2 t' w u=kG cx.P H t' w u:=λt' w=>by
      have he:∀e,vq cx.P H2 e u=vq cx.P H e u:=λe=>by
       rcases e2 with⟨_,rfl⟩|rfl|⟨_,_,_,rfl⟩<;>rfl
      simp only[kG,he]
     unfold Cx.builtin;split<;>first|rfl|skip
     next hh _ _=>cases hh
     next x' y' t' u' _ g1 g2=>simp only[List.cons.injEq,Bt] at g1;obtain⟨g1a,g1b⟩:=g1;subst g1a g1b;simp only[e1,Option.bind_eq_bind,bC,ha]
    ·cases h
   ·refine bi _ rfl ?_;unfold Cx.builtin;split
    next hh _ _=>cases hh
    next hh _ _=>cases hh
    all_goals rfl
   ·refine bi _ rfl ?_;unfold Cx.builtin;split
    next hh _ _=>cases hh
    next hh _ _=>cases hh
    all_goals rfl
   ·cases h
def zsD{o:Oper}{b:Nat}(h:wo takes σ o=some (.rd b)){v:V}{s':St}{cx:Cx}(hr:iC ρ pa σ env H)(aF:cx.op takes o env H lk df=some (.val v,s')) :
  ∀H2 mG pN,H2.get (pd pa b)=H.get (pd pa b)->∃s2,cx.op takes o env H2 mG pN=some (.val v,s2):=by
 intro H2 mG pN hb;have hn:v8 takes o=false:=VI h;obtain⟨dst,op,type,pos,after,guard⟩:=o;cases op
 case load tt a =>
  have ht:jV takes dst=false:=by
   have hl:v8 takes ⟨dst,.load tt a,type,pos,after,guard⟩=jV takes dst:=by cases dst<;>rfl
   rw[<- hl];exact hn
  rw[Ry ht] at aF ⊢;have key:(aB env a).bind (qJ cx.P H2 cx.gl tt)=(aB env a).bind (qJ cx.P H cx.gl tt):=by
   rcases Pb h with⟨_,_,e⟩|⟨_,b',off,mP,e⟩|⟨_,_,_,e⟩|⟨_,_,_,_,e⟩<;>cases e
   obtain⟨u,e1,e2⟩:=vD hr mP;cases e2;simp only[e1,bC,qq,bB,qJ,hb]
  rw[key];unfold gM at aF ⊢;split at aF
  ·cases aF;exact⟨_,rfl⟩
  ·cases aF
 case store tt a x =>
  simp only[wo] at h;split at h<;>cases h
 case call c =>
  obtain⟨callee,args,AG⟩:=c;simp only[wo] at h
  repeat' split at h
  all_goals cases h
 all_goals simp only[wo] at h;cases h
def zoK(MO:RO P gl ph){o:Oper}(hc:wo takes σ o=some .call)(h:iZ P takes σ o k=some t)(hr:Rel n0 B ρ pa σ ⟨env,H,lk,df⟩)(hq:cw ph gl N t ρ=some r) :
  ∃v,∀H2,∃k0,∀n,k0<=n->∀mG pN,Cx.op ⟨P,gl,qt P gl n,gl.uq⟩ takes o env H2 mG pN=some (.val v,⟨env,H2,mG,pN⟩):=by
 obtain⟨dst,op,type,pos,after,guard⟩:=o;cases op
 case load tt a=>rcases Pb hc with⟨_,_,e⟩|⟨_,_,_,_,e⟩|⟨_,_,_,e⟩|⟨_,_,_,_,e⟩<;>cases e
 case store tt a x =>
  simp only[wo] at hc;split at hc<;>cases hc
 case call c =>
  obtain⟨callee,args,AG⟩:=c;simp only[wo] at hc;split at hc
  ·rename_i f l;split at hc
   ·rename_i vs0 R4;simp only[iZ] at h;unfold Vb at h;split at h
    ·rename_i fn vs ns p9 mP;rw[R4] at mP;simp only[aR,bS] at mP;obtain⟨rfl,rfl⟩:=mP;split at h
     ·rename_i body bu iP l6;obtain⟨nB,p1,p2,_,p4⟩:=oS hr R4 (by simp)
      simp only[OS,aR] at l6;subst l6;split at h
      ·rename_i t0 uz;cases h;simp only[cw] at hq;split at hq
       ·rename_i v out hv;obtain⟨e1,e2,e3,e4⟩:=MO _ _ _ _ _ hv;refine⟨v,λH2=>?_⟩;obtain⟨k0,e4⟩:=e4 [] H2 (by simp) trivial
        refine⟨k0,λn hn mG pN=>?_⟩;have:=e4 n hn;simp only[cM] at p2;rw[<- p2] at this;rw[zW,p1,zi,ji p9 iP this,zfq];rfl
       ·cases hq
      ·cases h
     ·cases h
    ·cases h
   ·cases hc
  ·split at hc<;>cases hc
  ·split at hc<;>cases hc
  ·cases hc
  ·cases hc
  ·cases hc
 all_goals simp only[wo] at hc;cases hc
end
section
set_option linter.unusedSectionVars false
variable{P:aM}{gl:Gl}{ph:PH}{N:Nat}{ρ bp:aA}{pa bU:bR}{σ:Sg}{s:St}{n0:Nat}{B:List br}{env:aA}{H:Hp}{lk:bk}{df:bH}{takes:bP}{k:KT}{t:Tree}
variable [mw gl]
abbrev BR(P:aM)(gl:Gl)(n:Nat):Cx:=⟨P,gl,qt P gl n,gl.uq⟩
section
variable{i:Nat}{rs:List Rec}{rl:bR}{hs:List lQ}{r q:Rec}{X:Option br}{b:Nat}
def zqy{D i b:Nat}(nC:bit D i=true):bit (Nat.xor D (Nat.pow 2 i)) b=true ↔ (bit D b=true/\b≠i):=by
 have:bit (Nat.xor D (Nat.pow 2 i)) b=(bit D b ^^ decide (i=b)):=by
  rw[xh,xh];have:Nat.xor D (Nat.pow 2 i)=D ^^^ (2 ^ i):=rfl;rw[this,Nat.testBit_xor,N2]
 rw[this]
 by_cases he:i=b
 ·subst he;simp[nC]
 ·have:¬b=i:=λe=>he e.symm;simp[he,this]
def zlV{D:Nat}(hi:r.idx=i)(hD:kp (r::rs) D)(nC:bit D i=false):kp rs D:=by
 refine⟨λb hb=>?_,λq hq gq sy b hb nc=>hD.2 q (dB _ hq) gq sy b hb (bO.2 (.inr nc))⟩;rcases bO.1 (hD.1 b hb) with⟨_,he⟩|nc
 ·rw[hi] at he;subst he;rw[hb] at nC;cases nC
 ·exact nc
def zoL{D:Nat}(hi:r.idx=i)(hp:r.hp=true)(hm:∀b,bit r.m b=true->b<i)(nV:∀q∈rs,q.idx<i)(Z3:∀q∈rs,∀b,bit q.m b=true->b<q.idx)(hD:kp (r::rs) D)(nC:bit D i=true) :
  ∃D0,kp rs D0/\kW (Nat.land r.m (cE rs)) D0=true/\D=Nat.lor D0 (Nat.pow 2 i)/\∀b,bit D0 b=true ↔ (bit D b=true/\b≠i):=by
 have m8:∀b,bit (Nat.xor D (Nat.pow 2 i)) b=true ↔ (bit D b=true/\b≠i):=λb=>zqy nC;refine⟨Nat.xor D (Nat.pow 2 i),⟨λb hb=>?_,λq hq gq sy b hb nc=>?_⟩,cA.2 λb hb=>?_,wW λb=>?_,m8⟩
 ·obtain⟨h1,h2⟩:=(m8 b).1 hb;rcases bO.1 (hD.1 b h1) with⟨_,he⟩|nc
  ·rw[hi] at he;exact absurd he.symm h2
  ·exact nc
 ·obtain⟨h1,h2⟩:=(m8 _).1 sy;refine(m8 b).2 ⟨hD.2 q (dB _ hq) gq h1 b hb (bO.2 (.inr nc)),?_⟩;have:=Z3 q hq b hb;have:=nV q hq;omega
 ·rw[kj,cR] at hb;refine(m8 b).2 ⟨hD.2 r eS hp (by rw[hi];exact nC) b hb.1 (bO.2 (.inr hb.2)),?_⟩
  have:=hm b hb.1;omega
 ·have hb:=m8 b;rw[ki,kC]
  by_cases he:i=b
  ·subst he;simp[nC]
  ·have cG:b≠i:=λe=>he e.symm;have MR:bit (Nat.xor D (Nat.pow 2 i)) b=true ↔ bit D b=true:=⟨λh=>(hb.1 h).1,λh=>hb.2 ⟨h,cG⟩⟩;rw[HT.2 MR];simp[he]
def Z4{D0 D:Nat}(h:∀b,bit D0 b=true->bit D b=true):∀{l:List Rec},ku D0 q l=true->ku D q l=true
 | [],h=>by cases h
 | x::l,hf=>by
  simp only[ku,mT,cR] at hf ⊢;rcases hf with⟨⟨a1,a2⟩,a3⟩|a
  ·exact .inl ⟨⟨a1,h _ a2⟩,a3⟩
  ·exact .inr (Z4 h a)
def yE{D:Nat}{l:List Rec}(h:ku D q l=true):ku D q (r::l)=true:=by simp[ku,h]
def uJ(rs:List Rec)(rl:bR)(hs:List lQ)(q:Rec)(b:Nat)(X:Option br):Prop :=
 ∀D S,kp rs D->kW (Nat.land q.m (cE rs)) D=true->mQ D rl hs=some S->ku D q rs=true\/S.1.get b=X
def uJ.quiet(h:uJ rs rl hs q b X)(hp:r.hp=false):uJ (r::rs) rl hs q b X:=by
 intro D S hD dS hS;rw[ZT hp] at dS;rcases h D S ((vX hp).1 hD) dS hS with g|g
 ·exact .inl (yE g)
 ·exact .inr g
structure Up(i:Nat)(rs:List Rec):Prop where
 lt:∀q∈rs,q.idx<i
 D3:∀q∈rs,∀b,bit q.m b=true->b<q.idx
def Up.cons(h:Up i rs)(hi:r.idx=i)(hm:∀b,bit r.m b=true->b<i):Up (i+1) (r::rs):=by
 refine⟨λq hq=>?_,λq hq b hb=>?_⟩
 ·rcases dh.1 hq with rfl|hq
  ·omega
  ·have:=h.lt q hq;omega
 ·rcases dh.1 hq with rfl|hq
  ·rw[hi];exact hm b hb
  ·exact h.D3 q hq b hb
def Z5{D:Nat}(_hq:q∈rs)(_hu:Up i rs)(h:kW (Nat.land q.m (cE (r::rs))) D=true):kW (Nat.land q.m (cE rs)) D=true:=by
 refine cA.2 λb hb=>cA.1 h b ?_;rw[kj,cR] at hb ⊢;exact⟨hb.1,bO.2 (.inr hb.2)⟩
def zlW{D D0:Nat}(hq:q∈rs)(hu:Up i rs)(h0:∀b,bit D0 b=true ↔ (bit D b=true/\b≠i))(h:kW (Nat.land q.m (cE (r::rs))) D=true):kW (Nat.land q.m (cE rs)) D0=true:=by
 refine cA.2 λb hb=>(h0 b).2 ⟨cA.1 (Z5 hq hu h) b hb,?_⟩;rw[kj,cR] at hb;have:=hu.D3 q hq b hb.1;have:=hu.lt q hq;omega
def uJ.call(h:uJ rs rl hs q b X)(hq:q∈rs)(hi:r.idx=i)(hp:r.hp=true)(hm:∀b,bit r.m b=true->b<i)(hu:Up i rs)(rq:i ∉ rl):uJ (r::rs) rl hs q b X:=by
 intro D S hD dS hS;cases nC:bit D i with
 | false =>
  rcases h D S (zlV hi hD nC) (Z5 hq hu dS) hS with g|g
  ·exact .inl (yE g)
  ·exact .inr g
 | true =>
  obtain⟨D0,k1,k2,k3,k4⟩:=zoL hi hp hm hu.lt hu.D3 hD nC;rw[k3,RX rq] at hS;rcases h D0 S k1 (zlW hq hu k4 dS) hS with g|g
  ·exact .inl (yE (Z4 (λb hb=>((k4 b).1 hb).1) g))
  ·exact .inr g
def uJ.wr{S0 S':lQ}{tl:List lQ}(h:uJ rs rl (S0::tl) q b X)(hq:q∈rs)(hi:r.idx=i)(hp:r.hp=true)(hm:∀b,bit r.m b=true->b<i)(hu:Up i rs)(eD:∀j∈rl,bit r.m j=true/\bit (cE rs) j=true)
  (hc:bit r.m q.idx=true\/S'.1.get b=S0.1.get b\/∃e∈rs,e.hp=true/\bit e.m q.idx=true/\bit r.m e.idx=true):uJ (r::rs) (i::rl) (S'::S0::tl) q b X:=by
 intro D S hD dS hS;cases nC:bit D i with
 | false =>
  simp only[mQ,nC] at hS;rcases h D S (zlV hi hD nC) (Z5 hq hu dS) hS with g|g
  ·exact .inl (yE g)
  ·exact .inr g
 | true =>
  simp only[mQ,nC,aR] at hS;subst hS;obtain⟨D0,k1,k2,k3,k4⟩:=zoL hi hp hm hu.lt hu.D3 hD nC;rcases hc with hc|hc|⟨e,e1,e2,e3,e4⟩
  ·exact .inl (ZS eS hp (by rw[hi];exact nC) hc)
  ·have Ms:mQ D0 rl (S0::tl)=some S0:=VH λj hj=>cA.1 k2 j (by rw[kj,(eD j hj).1,(eD j hj).2];rfl)
   rcases h D0 S0 k1 (zlW hq hu k4 dS) Ms with g|g
   ·exact .inl (yE (Z4 (λb hb=>((k4 b).1 hb).1) g))
   ·exact .inr (hc.trans g)
  ·left
   refine ZS (dB _ e1) e2 ?_ e3;exact((k4 _).1 (cA.1 k2 e.idx (by rw[kj,e4,eO.2 ⟨e,e1,e2,rfl⟩];rfl))).1
inductive Fr(ds:List DR)(pa:bR):bR->List lQ->Prop where
 |nil (h:lQ):Fr ds pa [] [h]
 |cons {rl:bR} {h h':lQ} {hs:List lQ} (d:DR) (a:Nat):d∈ds->d.cls=.wr a->a<pa.length->(∀X,X≠pd pa a->h.1.get X=h'.1.get X)->Fr ds pa rl (h'::hs)->Fr ds pa (d.lA.idx::rl) (h::h'::hs)
def Fr.mono{ds I6:List DR}(h:Fr ds pa rl hs)(hd:∀d∈ds,d∈I6)(hp:pa <+: bU):Fr I6 bU rl hs:=by
 induction h with
 | nil h=>exact .nil h
 | cons d a h1 h2 h3 h4 _ ih =>
  refine .cons d a (hd d h1) h2 (oY h3 hp.length_le) (λX hX=>h4 X ?_) ih
  rwa [kc hp h3] at hX
def Fr.get{ds:List DR}(h:Fr ds pa rl hs){D b:Nat}(hc:∀d∈ds,∀a,d.cls=.wr a->d.lA.idx∈rl->a<pa.length->bit D d.lA.idx=false->b≠pd pa a) :
  ∀{S0 S:lQ}{tl:List lQ},hs=S0::tl->mQ D rl hs=some S->S.1.get b=S0.1.get b:=by
 induction h with
 | nil h=>intro S0 S tl e hS;cases e;simp only[mQ,aR] at hS;rw[hS]
 | @cons rl h h' hs d a h1 h2 h3 h4 _ ih =>
  intro S0 S tl e hS;cases e;simp only[mQ] at hS;split at hS
  ·cases hS;rfl
  next hb=>rw[ih (λd' Cq a' tC hj=>hc d' Cq a' tC (dB _ hj)) rfl hS];exact(h4 b (hc d h1 a h2 eS h3 hb)).symm
end
inductive tI(R:DR->Rec->Prop):List DR->List Rec->Prop where
 |nil:tI R [] []
 |cons {d:DR} {q:Rec} {ds:List DR} {rs:List Rec}:R d q->tI R ds rs->tI R (d::ds) (q::rs)
def tI.mono{R R':DR->Rec->Prop}{ds:List DR}{rs:List Rec}(h:tI R ds rs)(hR:∀d q,d∈ds->q∈rs->R d q->R' d q):tI R' ds rs:=by
 induction h with
 | nil=>exact .nil
 | cons h1 _ ih=>exact .cons (hR _ _ eS eS h1) (ih λd q hd hq=>hR d q (dB _ hd) (dB _ hq))
def tI.left{R:DR->Rec->Prop}{ds:List DR}{rs:List Rec}(h:tI R ds rs){d:DR}(hd:d∈ds):∃q∈rs,R d q:=by
 induction h with
 | nil=>simp at hd
 | cons h1 _ ih =>
  rcases dh.1 hd with rfl|hd
  ·exact⟨_,eS,h1⟩
  ·obtain⟨q,h1,h2⟩:=ih hd;exact⟨q,dB _ h1,h2⟩
def tI.right{R:DR->Rec->Prop}{ds:List DR}{rs:List Rec}(h:tI R ds rs){q:Rec}(hq:q∈rs):∃d∈ds,R d q:=by
 induction h with
 | nil=>simp at hq
 | cons h1 _ ih =>
  rcases dh.1 hq with rfl|hq
  ·exact⟨_,eS,h1⟩
  ·obtain⟨d,h1,h2⟩:=ih hq;exact⟨d,dB _ h1,h2⟩
structure Key(d:DR)(q:Rec):Prop where
 idx:q.idx=d.lA.idx
 m:q.m=d.lA.m
 tm:q.tm=d.lA.tm
 lm:q.lm=d.lA.lm
def zm6{R:DR->Rec->Prop}(hR:∀d q,R d q->Key d q){ds:List DR}{rs:List Rec}(h:tI R ds rs)(j:Nat):maskAt rs j=maskAt (ds.map (·.lA)) j:=by
 induction h with
 | nil=>rfl
 | cons h1 _ ih=>have:=hR _ _ h1;simp only[bW,maskAt,this.idx,this.m,ih]
def zgW{R:DR->Rec->Prop}(hR:∀d q,R d q->Key d q){ds:List DR}{rs:List Rec}(h:tI R ds rs):∀(es:List Edge),wd rs es=wd (ds.map (·.lA)) es
 | []=>rfl
 | e::es=>by simp only[wd,zm6 hR h,zgW hR h es]
def zjw{R:DR->Rec->Prop}(hR:∀d q,R d q->Key d q){ds:List DR}{rs:List Rec}(h:tI R ds rs){r r':Rec}(e1:r.m=r'.m)(e2:r.tm=r'.tm)(e3:r.lm=r'.lm)(hs:kH (kx r) (ds.map (·.lA))=true):kH (kx r') rs=true:=by
 refine xm λq hq=>?_;obtain⟨d,hd,Z6⟩:=h.right hq;have hk:=hR _ _ Z6;have:=wL hs d.lA (ni.2 ⟨d,hd,rfl⟩);simp only[kx] at this ⊢;rw[<- e1,<- e2,<- e3,hk.idx,hk.tm,hk.lm];exact this
structure EL(P:aM)(gl:Gl)(takes:bP)(pa:bR)(rs:List Rec)(rl:bR)(hs:List lQ)(d:DR)(q:Rec):Prop where
 key:Key d q
 free:d.cls=.free->q.hp=false/\(q.free=true\/∀n S,x8 (BR P gl n) takes [] q S)
 rd:∀b,d.cls=.rd b->q.hp=false/\b<pa.length/\∃X,uJ rs rl hs q (pd pa b) X/\∀n (S:lQ),S.1.get (pd pa b)=X->x8 (BR P gl n) takes [] q S
 call:d.cls=.call->q.hp=true/\q.idx ∉ rl/\∀S:lQ,∃k,∀n,k<=n->∀D D',(BR P gl n).dO takes q.o q.env ⟨D',S.1,S.2,[]⟩ D=some (q.v,⟨D,S.1,S.2,[]⟩)
 wr:∀a,d.cls=.wr a->q.hp=true/\a<pa.length/\q.idx∈rl
structure Lk(P:aM)(gl:Gl)(takes:bP)(pa:bR)(s:St)(i:Nat)(ds:List DR)(rs:List Rec)(rl:bR)(hs:List lQ):Prop where
 GN:tI (EL P gl takes pa rs rl hs) ds rs
 head:∃tl,hs=(s.H,s.lk)::tl
 fr:Fr ds pa rl hs
 up:Up i rs
 nd:rl.Nodup
 K3:∀j∈rl,∃q∈rs,q.idx=j/\q.hp=true
def Lk.RW{i:Nat}{ds:List DR}{rs:List Rec}{rl:bR}{hs:List lQ}(h:Lk P gl takes pa s i ds rs rl hs):i ∉ rl:=λhh=>by
 obtain⟨q,h1,h2,_⟩:=h.K3 i hh;have:=h.up.lt q h1;omega
def zoM{pa:bR}{rs0:List Rec}{rl:bR}{hs:List lQ}(S:lQ){ds:List DR}{rs:List Rec}(h:tI (EL P gl takes pa rs0 rl hs) ds rs) :
  ∃k,∀n,k<=n->∀q∈rs,q.hp=true->q.idx ∉ rl->∀D D',(BR P gl n).dO takes q.o q.env ⟨D',S.1,S.2,[]⟩ D=some (q.v,⟨D,S.1,S.2,[]⟩):=by
 induction h with
 | nil=>exact⟨0,λn _ q hq=>by simp at hq⟩
 | @cons d q ds rs h1 _ ih =>
  obtain⟨k1,ih⟩:=ih;cases hc:d.cls with
  | call =>
   obtain⟨_,_,h2⟩:=h1.call hc;obtain⟨k2,h2⟩:=h2 S;refine⟨max k1 k2,λn hn q' rF hp rq=>?_⟩;rcases dh.1 rF with rfl|rF
   ·exact h2 n (by omega)
   ·exact ih n (by omega) q' rF hp rq
  | free =>
   refine⟨k1,λn hn q' rF hp rq=>?_⟩;rcases dh.1 rF with rfl|rF
   ·rw[(h1.free hc).1] at hp;cases hp
   ·exact ih n hn q' rF hp rq
  | rd b =>
   refine⟨k1,λn hn q' rF hp rq=>?_⟩;rcases dh.1 rF with rfl|rF
   ·rw[(h1.rd b hc).1] at hp;cases hp
   ·exact ih n hn q' rF hp rq
  | wr a =>
   refine⟨k1,λn hn q' rF hp rq=>?_⟩;rcases dh.1 rF with rfl|rF
   ·exact absurd (h1.wr a hc).2.2 rq
   ·exact ih n hn q' rF hp rq
end
section
set_option linter.unusedSectionVars false
variable{P:aM}{gl:Gl}{ph:PH}{N:Nat}{ρ bp:aA}{pa bU:bR}{σ:Sg}{s:St}{n0:Nat}{B:List br}{env:aA}{H:Hp}{lk:bk}{df:bH}{takes:bP}{k:KT}{t:Tree}
variable [mw gl]
def VJ(o:Oper)(x:OR):Bool:=match x with|.val _=>!OF o|_=>false
def zoN{cx:Cx}(hu:∀e,cx.uq e=false){all:Array Oper}{i m:Nat}{rs:List Rec}{c0:eT}{cs:List eT}{o:Oper}{os:List Oper}{x:OR}{s1:St}{v:V}(hm:wd rs o.after.toList=some m)(hw:q8 all o env=some true)(aF:cx.op takes o env H lk df=some (x,s1))(hx:Vt x v){r:Rec}
  (hr:r=⟨i,o,m,lC takes o,Nat.lor (lC takes o) (r9 all o),v8 takes o,VJ o x,env,v⟩) (hs:kH (kx r) rs=true) :
  cx.gk all takes i rs (c0::cs) (o::os) ⟨env,H,lk,df⟩=cx.fS takes rs r c0 ⟨Nat.lor c0.D (Nat.pow 2 i),s1.H,s1.lk,s1.defers⟩ cs λcs'=>cx.gk all takes (i+1) (r::rs) cs' os ⟨qb s1.env o.dst v,s1.H,s1.lk,s1.defers⟩:=by
 obtain⟨de,H1,eA,eZ⟩:=s1;subst hr;rcases hx with rfl|⟨rfl,rfl⟩
 ·simp only[VJ] at hs ⊢;simp only[Cx.gk,hm,jr,hw,aF,qd,jX,OG hu,zjf hu,hs]
 ·simp only[VJ] at hs ⊢;simp only[Cx.gk,hm,jr,hw,aF,qd,jX,OG hu,hs]
def zm7{cx:Cx}{all:Array Oper}{i m:Nat}{rs:List Rec}{c0:eT}{cs:List eT}{o:Oper}{os:List Oper}(hm:wd rs o.after.toList=some m)(hw:q8 all o env=some false){r:Rec}
  (hr:r=⟨i,o,m,lC takes o,Nat.lor (lC takes o) (r9 all o),false,true,env,.bz []⟩) (hs:kH (kx r) rs=true) :
  cx.gk all takes i rs (c0::cs) (o::os) ⟨env,H,lk,df⟩=cx.fS takes rs r c0 ⟨Nat.lor c0.D (Nat.pow 2 i),H,lk,df⟩ cs λcs'=>cx.gk all takes (i+1) (r::rs) cs' os ⟨qb env o.dst (.bz []),H,lk,df⟩:=by
 subst hr;simp only[Cx.gk,hm,jr,hw,qd,jX,hs]
def zqA{i m:Nat}{rs:List Rec}{es:List Edge}(hu:Up i rs)(h:wd rs es=some m):∀b,bit m b=true->b<i:=by
 intro b hb;obtain⟨_,h2⟩:=xM h;have:=h2 b hb
 grind [Up]
def Pc(P:aM)(gl:Gl)(ph:PH)(N:Nat)(takes:bP)(all:Array Oper)(kk:Sg->Option Tree)(r:Nat×aA)(n0:Nat)(B:List br)(i:Nat)(rs:List Rec)(rl:bR)(hs:List lQ)(os:List Oper)(ρ:aA)(pa:bR)(s:St):Prop :=
 ∃dw bp bU t' s',kk dw=some t'/\cw ph gl N t' bp=some r/\ρ <+: bp/\pa <+: bU/\Rel n0 B bp bU dw s'/\∃k0,∀n,k0<=n->∀c0 cs,AI (BR P gl n) takes [] i rs rl hs c0 cs->(BR P gl n).gk all takes i rs (c0::cs) os s=some (.normal,s')
def EL.quiet{rs:List Rec}{rl:bR}{hs:List lQ}{d:DR}{q r:Rec}(h:EL P gl takes pa rs rl hs d q)(hp:r.hp=false)(nG:pa <+: bU):EL P gl takes bU (r::rs) rl hs d q:=by
 refine⟨h.key,h.free,λb hb=>?_,h.call,λa ha=>?_⟩
 ·obtain⟨h1,h2,X,h3,h4⟩:=h.rd b hb;refine⟨h1,oY h2 nG.length_le,X,?_,?_⟩
  ·rw[kc nG h2];exact h3.quiet hp
  ·rw[kc nG h2];exact h4
 ·obtain⟨h1,h2,h3⟩:=h.wr a ha;exact⟨h1,oY h2 nG.length_le,h3⟩
def EL.R5{i:Nat}{rs:List Rec}{rl:bR}{hs:List lQ}{d:DR}{q r:Rec}(h:EL P gl takes pa rs rl hs d q)(hq:q∈rs)(hi:r.idx=i)(hp:r.hp=true)(hm:∀b,bit r.m b=true->b<i)(hu:Up i rs)(rq:i ∉ rl)(nG:pa <+: bU):EL P gl takes bU (r::rs) rl hs d q:=by
 refine⟨h.key,h.free,λb hb=>?_,h.call,λa ha=>?_⟩
 ·obtain⟨h1,h2,X,h3,h4⟩:=h.rd b hb;refine⟨h1,oY h2 nG.length_le,X,?_,?_⟩
  ·rw[kc nG h2];exact h3.call hq hi hp hm hu rq
  ·rw[kc nG h2];exact h4
 ·obtain⟨h1,h2,h3⟩:=h.wr a ha;exact⟨h1,oY h2 nG.length_le,h3⟩
def EL.wrr{i:Nat}{rs:List Rec}{rl:bR}{S0 S':lQ}{tl:List lQ}{d:DR}{q r:Rec}(h:EL P gl takes pa rs rl (S0::tl) d q)(hq:q∈rs)(hi:r.idx=i)(hp:r.hp=true)(hm:∀b,bit r.m b=true->b<i)(hu:Up i rs)(eD:∀j∈rl,bit r.m j=true/\bit (cE rs) j=true)(nG:pa <+: bU)
  (hc:∀b,d.cls=.rd b->b<pa.length->bit r.m q.idx=true\/S'.1.get (pd pa b)=S0.1.get (pd pa b)\/∃e∈rs,e.hp=true/\bit e.m q.idx=true/\bit r.m e.idx=true):EL P gl takes bU (r::rs) (i::rl) (S'::S0::tl) d q:=by
 refine⟨h.key,h.free,λb hb=>?_,λhd=>?_,λa ha=>?_⟩
 ·obtain⟨h1,h2,X,h3,h4⟩:=h.rd b hb;refine⟨h1,oY h2 nG.length_le,X,?_,?_⟩
  ·rw[kc nG h2];exact h3.wr hq hi hp hm hu eD (hc b hb h2)
  ·rw[kc nG h2];exact h4
 ·obtain⟨h1,h2,h3⟩:=h.call hd;refine⟨h1,?_,h3⟩;simp only[dh,not_or];exact⟨λe=>by have:=hu.lt q hq;omega,h2⟩
 ·obtain⟨h1,h2,h3⟩:=h.wr a ha;exact⟨h1,oY h2 nG.length_le,dB _ h3⟩
def R6{cx:Cx}{o:Oper}{c:eT}{D:Nat}{x:OR}{v:V}{s1:St}(h:cx.op takes o env c.H c.lk c.df=some (x,s1))(hx:Vt x v):cx.dO takes o env c D=some (v,⟨D,s1.H,s1.lk,s1.defers⟩):=by
 unfold Cx.dO;rcases hx with rfl|⟨rfl,rfl⟩<;>simp only[h]
def zgX{o:Oper}(hn:v8 takes o=false)(n n':Nat):(BR P gl n).op takes o env H lk df=(BR P gl n').op takes o env H lk df:=by
 obtain⟨dst,op,type,pos,after,guard⟩:=o;cases op
 case slice t x lo hi mx=>cases mx<;>rfl
 case call c =>
  obtain⟨callee,args,AG⟩:=c;cases callee
  case builtin b =>
   have Me:b≠.copy:=by rintro rfl;simp[v8] at hn
   rw[Z2 (mw.out (gl:=gl)) Me,Z2 (mw.out (gl:=gl)) Me];rfl
  all_goals simp[v8] at hn
 all_goals first|rfl|(simp[v8] at hn)
def zsE{o:Oper}{b:Nat}(hc:wo takes σ o=some (.rd b))(h:iZ P takes σ o k=some t)(hr:Rel n0 B ρ pa σ s):b<σ.na:=by
 have hn:v8 takes o=false:=VI hc;obtain⟨dst,op,type,pos,after,guard⟩:=o;cases op
 case load tt a =>
  rcases Pb hc with⟨_,_,e⟩|⟨ht,b',off,mP,e⟩|⟨_,_,_,e⟩|⟨_,_,_,_,e⟩<;>cases e
  simp only[iZ,ht] at h;have key:yQ P σ (.load tt a) k=some t->b<σ.na:=λh=>by
   unfold yQ at h;simp only[KM,mP] at h;split at h
   ·rename_i v hv;split at hv
    next cs _ hf=>exact hr.bn b _ hf
    ·cases hv
   ·cases h
  cases a with
  | global g=>simp[pk] at mP
  | _=>exact key h
 case store tt a x =>
  simp only[wo] at hc;split at hc<;>cases hc
 case call c =>
  obtain⟨callee,args,AG⟩:=c;simp only[wo] at hc
  repeat' split at hc
  all_goals cases hc
 all_goals simp only[wo] at hc;cases hc
def zfH{x:aO}{f g:Sg->SC->Option Tree}(h:xQ σ x f=some t)(Pd:∀dw sc,dw.na=σ.na->dw.aj=σ.aj->∀t,f dw sc=some t->g dw sc=some t):xQ σ x g=some t:=by
 unfold xQ at h ⊢;split at h
 ·split at h
  ·exact Pd _ _ (by exact rfl) (by exact rfl) _ h
  ·split at h
   ·exact Pd _ _ (by exact rfl) (by exact rfl) _ h
   ·cases h
  ·split at h
   ·exact Pd _ _ (by exact rfl) (by exact rfl) _ h
   ·cases h
  ·cases h
 ·split at h
  ·exact Pd _ _ (by exact rfl) (by exact rfl) _ h
  ·cases h
def Ju(c:Bi)(σ:Sg):Bool:=match c with|.wr a=>Nat.blt a σ.na|_=>true
def zoO{o:Oper}{c:Bi}(hc:wo takes σ o=some c)(h:iZ P takes σ o k=some t)(hr:Rel n0 B ρ pa σ s):iZ P takes σ o (λdw v=>if Ju c dw then k dw v else none)=some t:=by
 have Jv:(∀dw,Ju c dw=true)->iZ P takes σ o (λdw v=>if Ju c dw then k dw v else none)=some t:=λhh=>by
  simp only[hh,aU];exact h
 cases c with
 | free=>exact Jv λ_=>rfl
 | rd b=>exact Jv λ_=>rfl
 | call=>exact Jv λ_=>rfl
 | wr a =>
  clear Jv;obtain⟨dst,op,type,pos,after,guard⟩:=o;have hb:∀x,kN a σ.aj=some x->Nat.blt a σ.na=true:=λx hx=>by
   have:=hr.bn a x hx;simpa[Ep] using this
  cases op
  case load tt a' =>
   rcases Pb hc with⟨_,_,e⟩|⟨_,_,_,_,e⟩|⟨_,_,_,e⟩|⟨ht,b',off,mP,e⟩<;>cases e
   simp only[iZ,ht,mP] at h ⊢;split at h
   ·rename_i h1 h2;cases h2;split at h
    next cs ty hf=>simp only[Ju,hb _ hf,aU];exact h
    ·cases h
   ·cases h
  case alloc tt =>
   simp only[wo,aR,Bi.wr.injEq] at hc;subst hc;simp only[iZ] at h ⊢;split at h
   ·rename_i z hz;have bD:Nat.blt σ.na (σ.na+1)=true:=by simp
    simp only[Ju,xR,bD,aU];exact h
   ·cases h
  case box tt x =>
   simp only[wo,aR,Bi.wr.injEq] at hc;subst hc;simp only[iZ] at h ⊢;refine zfH h λdw sc e1 e2 t h=>?_;have bD:Nat.blt σ.na (dw.na+1)=true:=by rw[e1];simp
   simp only[Ju,xR,bD,aU];exact h
  case store tt a' x =>
   simp only[wo] at hc;simp only[iZ] at h ⊢;split at hc
   ·rename_i b off mP;cases hc;simp only[mP] at h ⊢;refine zfH h λdw sc e1 e2 t h=>?_;split at h
    ·rename_i n cs ty h1 h2;have bD:=hb _ (by rw[<- e2];exact h2)
     rw[<- e1] at bD;simp only[Ju,bD,aU];exact h
    ·cases h
   ·cases hc
  case call c =>
   obtain⟨callee,args,AG⟩:=c;simp only[wo] at hc
   repeat' split at hc
   all_goals cases hc
  all_goals simp only[wo] at hc;cases hc
def Z7(he:Env P gl ph){all:Array Oper}{kk:Sg->Option Tree}{r:Nat×aA}:∀{os:List Oper}{i:Nat}{ds:List DR}{σ:Sg}{ρ:aA}{pa:bR}{s:St}{t:Tree}{rs:List Rec}{rl:bR}{hs:List lQ},
  Jo P all takes kk i ds os σ=some t->Rel n0 B ρ pa σ s->cw ph gl N t ρ=some r->Lk P gl takes pa s i ds rs rl hs->Pc P gl ph N takes all kk r n0 B i rs rl hs os ρ pa s
 | [],i,ds,σ,ρ,pa,s,t,rs,rl,hs,h,hr,hq,hL=>⟨σ,ρ,pa,t,s,h,hq,dL _,dL _,hr,0,λn _ c0 cs _=>rfl⟩
 | o::os,i,ds,σ,ρ,pa,⟨env,H,lk,df⟩,t,rs,rl,hs,h,hr,hq,hL=>by
  simp only[Jo] at h;split at h
  ·cases h
  rename_i iu;simp only[sR,HR] at iu;split at h
  ·cases h
  rename_i m I4;split at h
  ·cases h
  rename_i EG;simp only[sR,HR] at EG;have hm:wd rs o.after.toList=some m:=by rw[zgW (λd q h=>h.key) hL.GN];exact I4
  have sI:=zqA hL.up hm;obtain⟨tl,Pe⟩:=hL.head;have Gn:df=[]:=hr.df;subst Gn;have rq:=hL.RW;have run:∀{su:Sg}{Bj:aA}{t0:Tree}{c:Bi},q8 all o env=some true->Rel n0 B Bj pa su ⟨env,H,lk,[]⟩->ρ <+: Bj->wo takes su o=some c->Rq m c ds=true ->
    iZ P takes su o (λσ v=>Jo P all takes kk (i+1) (⟨GD takes all i m o,c⟩::ds) os (mM σ o.dst v))=some t0->cw ph gl N t0 Bj=some r->Pc P gl ph N takes all kk r n0 B i rs rl hs (o::os) ρ pa ⟨env,H,lk,[]⟩:=by
   intro su Bj t0 c hw o8 fU hc nr h0 Ik;obtain⟨p_,sv,oC,DY,t1,x,s1,v,g1,g2,g3,g4,g5,⟨k1,g6⟩,g7,g8,g9⟩:=zoH he (zoO hc h0 o8) o8 Ik iu
   dsimp only at g1
   have gw:Ju c p_=true:=by
    split at g1
    ·assumption
    ·cases g1
   simp only[gw,aU] at g1;obtain⟨de,H1,eA,eZ⟩:=s1;have Z8:eZ=[]:=g5.df;subst Z8;have ED:=g5.mM (d:=o.dst) (sv:=sv) (v:=v) g8;have uD:=VI hc
   let eX:Rec:=⟨i,o,m,lC takes o,Nat.lor (lC takes o) (r9 all o),v8 takes o,VJ o x,env,v⟩
   have MV:kH (kx eX) rs=true:=zjw (λd q h=>h.key) hL.GN (r:=GD takes all i m o) (r':=eX) rfl rfl rfl EG;have Jw:Key ⟨GD takes all i m o,c⟩ eX:=⟨rfl,rfl,rfl,rfl⟩;have step:=λn (hn:k1<=n) c0 cs=>zoN (mw.out (gl:=gl)) (c0:=c0) (cs:=cs) (os:=os) (rs:=rs) hm hw (g6 n hn) g7 (r:=eX) rfl MV;have MW:pa.length=su.na:=o8.na
   have fin:∀{rE:bR}{hs':List lQ},Lk P gl takes DY ⟨qb de o.dst v,H1,eA,[]⟩ (i+1) (⟨GD takes all i m o,c⟩::ds) (eX::rs) rE hs' ->
     (∃k2,∀n,k2<=n->∀c0 cs,AI (BR P gl n) takes [] i rs rl hs c0 cs->∃GO cs',(∀k,(BR P gl n).fS takes rs eX c0 ⟨Nat.lor c0.D (Nat.pow 2 i),H1,eA,[]⟩ cs k=k (GO::cs'))/\AI (BR P gl n) takes [] (i+1) (eX::rs) rE hs' GO cs') ->
     Pc P gl ph N takes all kk r n0 B i rs rl hs (o::os) ρ pa ⟨env,H,lk,[]⟩:=by
    intro rE hs' Z9 ⟨k2,iA⟩;obtain⟨dw,bp,bU,t',s',f1,f2,f3,f4,f5,k3,f6⟩:=Z7 he g1 ED g2 Z9;refine⟨dw,bp,bU,t',s',f1,f2,(fU.trans g3).trans f3,g4.trans f4,f5,max k1 (max k2 k3),λn hn c0 cs hD=>?_⟩;rw[step n (by omega) c0 cs]
    obtain⟨GO,cs',e1,e2⟩:=iA n (by omega) c0 cs hD
    rw[e1];exact f6 n (by omega) GO cs' e2
   have look:eX.hp=false->(eX.free=true\/∀n D (S:lQ),kp rs D->kW (Nat.land eX.m (cE rs)) D=true->mQ D rl hs=some S->x8 (BR P gl n) takes [] eX S)->EL P gl takes DY (eX::rs) rl hs ⟨GD takes all i m o,c⟩ eX ->
     Pc P gl ph N takes all kk r n0 B i rs rl hs (o::os) ρ pa ⟨env,H,lk,[]⟩:=by
    intro hp hv Cm;obtain⟨v',e1,e2,_⟩:=vT (by rw[OG (mw.out (gl:=gl))];exact hp) (g6 k1 (ek _))
    simp only[St.mk.injEq] at e2;obtain⟨_,rfl,rfl,_⟩:=e2;refine fin (rE:=rl) (hs':=hs) ⟨?_,⟨tl,Pe⟩,hL.fr.mono (λd hd=>dB _ hd) g4,hL.up.cons rfl sI,hL.nd,λj hj=>?_⟩ ⟨0,λn _ c0 cs hD=>?_⟩
    ·exact .cons Cm (hL.GN.mono λd q _ _ hh=>hh.quiet hp g4)
    ·obtain⟨q,q1,q2⟩:=hL.K3 j hj;exact⟨q,dB _ q1,q2⟩
    ·obtain⟨e1,e2⟩:=hD.quiet (r:=eX) rfl sI hp (hv.imp id λhv=>hv n) (c1:=⟨Nat.lor c0.D (Nat.pow 2 i),H1,eA,[]⟩);exact⟨c0,cs,e1,e2⟩
   cases c with
   | free =>
    have hp:eX.hp=false:=uD;obtain⟨v',e1,e2,_⟩:=vT (by rw[OG (mw.out (gl:=gl))];exact hp) (g6 k1 (ek _))
    have hx:x=.val v:=by rcases g7 with g7|⟨g7,_⟩;exact g7;rw[g7] at e1;cases e1
    have fT:∀n (S:lQ),x8 (BR P gl n) takes [] eX S:=λn S=>by
     have aF:=g6 k1 (ek _);rw[hx,zgX hp k1 n] at aF;obtain⟨s2,DA⟩:=zm5 hc (mw.out (gl:=gl)) o8.here rfl aF S.1 S.2 [];exact⟨_,R6 (x:=.val v) (c:=⟨0,S.1,S.2,[]⟩) (D:=0) DA (.inl rfl)⟩
    exact look hp (.inr λn D S _ _ _=>fT n S) ⟨Jw,λ_=>⟨hp,.inr fT⟩,λ_ hh=>(by cases hh),λhh=>(by cases hh),λ_ hh=>(by cases hh)⟩
   | rd b =>
    have hp:eX.hp=false:=uD;obtain⟨v',e1,e2,_⟩:=vT (by rw[OG (mw.out (gl:=gl))];exact hp) (g6 k1 (ek _))
    have hx:x=.val v:=by rcases g7 with g7|⟨g7,_⟩;exact g7;rw[g7] at e1;cases e1
    have hb:b<pa.length:=by rw[MW];exact zsE hc h0 o8
    have fT:∀n (S:lQ),S.1.get (pd pa b)=H.get (pd pa b)->x8 (BR P gl n) takes [] eX S:=λn S hS=>by
     have aF:=g6 k1 (ek _);rw[hx,zgX hp k1 n] at aF;obtain⟨s2,DA⟩:=zsD hc o8.here aF S.1 S.2 [] hS;exact⟨_,R6 (x:=.val v) (c:=⟨0,S.1,S.2,[]⟩) (D:=0) DA (.inl rfl)⟩
    have fu:∀D (S:lQ),kp rs D->kW (Nat.land eX.m (cE rs)) D=true->mQ D rl hs=some S->S.1.get (pd pa b)=H.get (pd pa b):=λD S hD dS hS=>by
     refine hL.fr.get (λd hd a ha hj bD CS=>?_) Pe hS;simp only[Rq] at nr;have nQ:=wL nr d hd;obtain⟨q,q1,q2,q3⟩:=hL.K3 _ hj;have Q2:bit m d.lA.idx=false:=by
      cases hh:bit m d.lA.idx with
      | false=>rfl
      | true =>
       have:=cA.1 dS d.lA.idx (by rw[kj,eO.2 ⟨q,q1,q3,q2⟩];simp only[eX,hh,fo])
       rw[this] at CS;cases CS
     rw[Q2,ha] at nQ;simp only[zol,eI,sR] at nQ;intro e;have:=o8.inj b a (by rw[<- MW];exact hb) (by rw[<- MW];exact bD) e
     subst this;simp at nQ
    refine look hp (.inr λn D S h1 h2 h3=>fT n S (fu D S h1 h2 h3)) ⟨Jw,λhh=>(by cases hh),λb' dK=>?_,λhh=>(by cases hh),λ_ hh=>(by cases hh)⟩
    cases dK;refine⟨hp,oY hb g4.length_le,H.get (pd pa b),?_,?_⟩
    ·rw[kc g4 hb];intro D S hD dS hS;rw[ZT hp] at dS;exact .inr (fu D S ((vX hp).1 hD) dS hS)
    ·rw[kc g4 hb];exact fT
   | call =>
    have hp:eX.hp=true:=uD;obtain⟨v',R7⟩:=zoK he.calls hc h0 o8 Ik;have dG:x=.val v'/\(⟨de,H1,eA,[]⟩:St)=⟨env,H,lk,[]⟩:=by
     obtain⟨k2,h2⟩:=R7 H;have a:=g6 (max k1 k2) (by omega)
     have b:=h2 (max k1 k2) (by omega) lk []
     have:=a.symm.trans b;simpa using this
    obtain⟨VK,VL⟩:=dG;have hvv:v'=v:=by
     rcases g7 with g7|⟨g7,_⟩
     ·rw[g7] at VK;cases VK;rfl
     ·rw[g7] at VK;cases VK
    subst hvv;simp only[St.mk.injEq,Bt] at VL;obtain⟨rfl,rfl,rfl⟩:=VL;have fN:∀S:lQ,∃k,∀n,k<=n->∀D D',(BR P gl n).dO takes eX.o eX.env ⟨D',S.1,S.2,[]⟩ D=some (eX.v,⟨D,S.1,S.2,[]⟩):=λS=>by
     obtain⟨k2,h2⟩:=R7 S.1;exact⟨k2,λn hn D D'=>R6 (x:=.val v') (c:=⟨D',S.1,S.2,[]⟩) (h2 n hn S.2 []) (.inl rfl)⟩
    refine fin (rE:=rl) (hs':=hs) ⟨?_,⟨tl,Pe⟩,hL.fr.mono (λd hd=>dB _ hd) g4,hL.up.cons rfl sI,hL.nd,λj hj=>?_⟩ ?_
    ·refine .cons ⟨Jw,λhh=>(by cases hh),λ_ hh=>(by cases hh),λ_=>⟨hp,rq,fN⟩,λ_ hh=>(by cases hh)⟩ (hL.GN.mono λd q _ hq hh=>hh.R5 hq rfl hp sI hL.up rq g4)
    ·obtain⟨q,q1,q2⟩:=hL.K3 j hj;exact⟨q,dB _ q1,q2⟩
    ·have hk:∃k2,∀n,k2<=n->∀S∈hs,∀D D',(BR P gl n).dO takes eX.o eX.env ⟨D',S.1,S.2,[]⟩ D=some (eX.v,⟨D,S.1,S.2,[]⟩):=by
      have:∀l:List lQ,∃k2,∀n,k2<=n->∀S∈l,∀D D',(BR P gl n).dO takes eX.o eX.env ⟨D',S.1,S.2,[]⟩ D=some (eX.v,⟨D,S.1,S.2,[]⟩):=by
       intro l
       induction l with
       | nil=>exact⟨0,λn _ S hS=>by simp at hS⟩
       | cons S l ih =>
        obtain⟨k2,ih⟩:=ih;obtain⟨k3,h3⟩:=fN S;refine⟨max k2 k3,λn hn S' R8=>?_⟩;rcases dh.1 R8 with rfl|R8
        ·exact h3 n (by omega)
        ·exact ih n (by omega) S' R8
      exact this hs
     obtain⟨k2,iA⟩:=hk;refine⟨k2,λn hn c0 cs hD=>?_⟩;have R9:∀D,(∀j∈rl,bit D j=true)->mQ D rl hs=some (H1,eA):=λD hDD=>by rw[Pe];exact VH hDD
     obtain⟨cs',e1,HY,e2,e3⟩:=hD.Kn (r:=eX) (rE:=rl) (hs':=hs) (c1:=⟨Nat.lor c0.D (Nat.pow 2 i),H1,eA,[]⟩) rfl sI hp rfl
      (λc hc dS=>by
       obtain⟨d1,d2⟩:=hD.cfg c hc;refine⟨c.H,c.lk,λD'=>?_,by rw[RX rq];exact d1⟩
       have:=iA n hn (c.H,c.lk) (ZW d1) D' c.D;obtain⟨cD,cH,clk,cdf⟩:=c;simp only at d2 this ⊢;subst d2
       exact this)
      ⟨(by
        rw[RX rq];refine R9 c0.D λj hj=>?_;obtain⟨q,q1,q2,q3⟩:=hL.K3 j hj
        rw[hD.VG];exact eO.2 ⟨q,q1,q3,q2⟩),rfl⟩
      (λD _=>rfl) (.inl ⟨rfl,rfl⟩)
      (λq hq gq Cu S hS D D'=>by
       rcases dh.1 hq with rfl|hq
       ·exact iA n hn S hS D D'
       ·exact hD.calls q hq gq Cu S hS D D')
      (ZU (λq hq=>dB _ hq) (λb hb=>bO.2 (.inr hb)) hD.chain) hL.nd
      (λe=>by have:=congrArg List.length e;simp at this)
     subst e2;exact⟨_,HY,e1,e3⟩
   | wr a =>
    have hp:eX.hp=true:=uD;have MX:DY.length=p_.na:=g5.na;have ha:a<DY.length:=by rw[MX];simpa[Ju,Ep] using gw
    simp only[Rq] at nr;have eD:∀j∈rl,bit eX.m j=true/\bit (cE rs) j=true:=λj hj=>by
     obtain⟨q,q1,q2,q3⟩:=hL.K3 j hj;refine⟨?_,eO.2 ⟨q,q1,q3,q2⟩⟩;obtain⟨d,hd,EM⟩:=hL.GN.right q1;have nQ:=wL nr d hd;have YA:d.lA.idx=j:=by rw[<- EM.key.idx];exact q2
     cases DJ:d.cls with
     | free=>rw[(EM.free DJ).1] at q3;cases q3
     | rd b=>rw[(EM.rd b DJ).1] at q3;cases q3
     | call=>exact absurd (by rw[q2];exact hj) (EM.call DJ).2.1
     | wr a' =>
      rw[DJ,YA] at nQ;simpa using nQ
    have K5:∀d q,d∈ds->q∈rs->EL P gl takes pa rs rl hs d q->∀b,d.cls=.rd b->b<pa.length->bit eX.m q.idx=true\/H1.get (pd pa b)=H.get (pd pa b)\/∃e∈rs,e.hp=true/\bit e.m q.idx=true/\bit eX.m e.idx=true:=λd q hd hq EM b DJ bD=>by
     have nQ:=wL nr d hd;rw[DJ] at nQ;simp only[mT,sR] at nQ;rcases nQ with g|g|g
     ·left;rw[EM.key.idx];exact g
     ·right;left
      rw[<- kc g4 bD];refine g9 a hc _ λe=>?_;have:=g5.inj b a (by rw[<- MX];exact oY bD g4.length_le) (by rw[<- MX];exact ha) e
      subst this;simp at g
     ·right;right
      obtain⟨e,VL,Ft⟩:=Zn g;simp only[cR] at Ft;obtain⟨qe,f1,f2⟩:=hL.GN.left VL;cases hec:e.cls with
      | wr a' =>
       obtain⟨f3,_,f4⟩:=f2.wr a' hec;exact⟨qe,f1,f3,by rw[f2.key.m,EM.key.idx];exact Ft.2,(eD _ f4).1⟩
      | _=>rw[hec] at Ft;simp[Bi.real] at Ft
    obtain⟨k3,ue⟩:=zoM (H1,eA) hL.GN;have hLL:=hL;subst Pe;refine fin (rE:=i::rl) (hs':=(H1,eA)::(H,lk)::tl) ⟨?_,⟨_,rfl⟩,?_,hL.up.cons rfl sI,?_,λj hj=>?_⟩ ⟨max k1 k3,λn hn c0 cs hD=>?_⟩
    ·exact .cons ⟨Jw,λhh=>(by cases hh),λ_ hh=>(by cases hh),λhh=>(by cases hh),λa' hh=>(by cases hh;exact⟨hp,ha,eS⟩)⟩ (hL.GN.mono λd q hd hq hh=>hh.wrr hq rfl hp sI hL.up eD g4 (K5 d q hd hq hh))
    ·exact .cons ⟨GD takes all i m o,.wr a⟩ a eS rfl ha (λX hX=>g9 a hc X hX) (hL.fr.mono (λd hd=>dB _ hd) g4)
    ·exact List.nodup_cons.2 ⟨rq,hL.nd⟩
    ·rcases dh.1 hj with rfl|hj
     ·exact⟨eX,eS,rfl,hp⟩
     ·obtain⟨q,q1,q2⟩:=hL.K3 j hj;exact⟨q,dB _ q1,q2⟩
    ·have I_:∀D,bit (Nat.lor D (Nat.pow 2 i)) i=true:=λD=>by rw[ki,kC];simp
     obtain⟨cs',e1,HY,e2,e3⟩:=hD.Kn (r:=eX) (rE:=i::rl) (hs':=(H1,eA)::(H,lk)::tl) (c1:=⟨Nat.lor c0.D (Nat.pow 2 i),H1,eA,[]⟩) rfl sI hp rfl
      (λc eY dS=>by
       obtain⟨d1,d2⟩:=hD.cfg c eY;have:mQ c.D rl ((H,lk)::tl)=some (H,lk):=VH λj hj=>cA.1 dS j (by rw[kj,(eD j hj).1,(eD j hj).2];rfl)
       rw[this] at d1;simp only[aR,bS] at d1;refine⟨H1,eA,λD'=>?_,by simp only[mQ,I_]⟩
       have aF:=g6 n (by omega)
       obtain⟨cD,cH,clk,cdf⟩:=c;simp only at d1 d2;obtain⟨rfl,rfl⟩:=d1;subst d2
       exact R6 (c:=⟨cD,_,_,[]⟩) aF g7)
      ⟨by simp only[mQ,I_],rfl⟩
      (λD nC=>by simp only[mQ,nC]) (.inr ⟨(H1,eA),rfl,rfl⟩)
      (λq hq gq Cu S hS D D'=>by
       simp only[dh,not_or] at Cu;rcases dh.1 hq with rfl|hq
       ·exact absurd rfl Cu.1
       ·rcases dh.1 hS with rfl|hS
        ·exact ue n (by omega) q hq gq Cu.2 D D'
        ·exact hD.calls q hq gq Cu.2 S hS D D')
      (.cons eX eS hp (λj hj=>⟨(eD j hj).1,bO.2 (.inr (eD j hj).2)⟩) (λD D'=>R6 (c:=⟨D',H,lk,[]⟩) (g6 n (by omega)) g7) (ZU (λq hq=>dB _ hq) (λb hb=>bO.2 (.inr hb)) hD.chain))
      (List.nodup_cons.2 ⟨rq,hL.nd⟩)
      (λ_ q hq f1 f2 D S hDc nC dS hS=>by
       obtain⟨d,hd,EM⟩:=hL.GN.right hq;cases DJ:d.cls with
       | free =>
        rcases (EM.free DJ).2 with g|g
        ·rw[g] at f2;cases f2
        ·exact .inr (g n S)
       | rd b =>
        obtain⟨_,x2,X,x3,x4⟩:=EM.rd b DJ;have x5:=x3.wr hq (r:=eX) (S':=(H1,eA)) rfl hp sI hL.up eD (K5 d q hd hq EM b DJ x2)
        rcases x5 D S hDc (cA.2 λb hb=>by
          rw[kj,cR] at hb
          refine cA.1 dS b (by
           rw[kj,cR];refine⟨hb.1,?_⟩;rcases bO.1 hb.2 with⟨_,e⟩|e
           ·have z1:=hL.up.D3 q hq b hb.1;have z2:=hL.up.lt q hq;have z3:i=b:=e;omega
           ·exact e)) hS with g|g
        ·exact .inl g
        ·exact .inr (x4 n S g)
       | call=>rw[(EM.call DJ).1] at f1;cases f1
       | wr a'=>rw[(EM.wr a' DJ).1] at f1;cases f1)
     subst e2;exact⟨_,HY,e1,e3⟩
  have skip:∀{su:Sg}{t0:Tree},q8 all o env=some false->Rel n0 B ρ pa su ⟨env,H,lk,[]⟩ ->
    Jo P all takes kk (i+1) (⟨{ GD takes all i m o with hp:=false },.free⟩::ds) os (mM su o.dst pR)=some t0->cw ph gl N t0 ρ=some r->Pc P gl ph N takes all kk r n0 B i rs rl hs (o::os) ρ pa ⟨env,H,lk,[]⟩:=by
   intro su t0 hw o8 h0 Ik;have ED:=o8.mM (d:=o.dst) (sv:=pR) (v:=.bz []) (λ_ _ _ _ v' dG=>by cases dG;rfl)
   let eX:Rec:=⟨i,o,m,lC takes o,Nat.lor (lC takes o) (r9 all o),false,true,env,.bz []⟩
   have MV:kH (kx eX) rs=true:=zjw (λd q h=>h.key) hL.GN (r:=GD takes all i m o) (r':=eX) rfl rfl rfl EG;have Z9:Lk P gl takes pa ⟨qb env o.dst (.bz []),H,lk,[]⟩ (i+1) (⟨{ GD takes all i m o with hp:=false },.free⟩::ds) (eX::rs) rl hs:=by
    refine⟨?_,⟨tl,Pe⟩,hL.fr.mono (λd hd=>dB _ hd) (dL _),hL.up.cons rfl sI,hL.nd,λj hj=>?_⟩
    ·exact .cons ⟨⟨rfl,rfl,rfl,rfl⟩,λ_=>⟨rfl,.inl rfl⟩,λ_ hh=>(by cases hh),λhh=>(by cases hh),λ_ hh=>(by cases hh)⟩ (hL.GN.mono λd q _ _ hh=>hh.quiet rfl (dL _))
    ·obtain⟨q,q1,q2⟩:=hL.K3 j hj;exact⟨q,dB _ q1,q2⟩
   obtain⟨dw,bp,bU,t',s',f1,f2,f3,f4,f5,k3,f6⟩:=Z7 he h0 ED Ik Z9;refine⟨dw,bp,bU,t',s',f1,f2,f3,f4,f5,k3,λn hn c0 cs hD=>?_⟩;rw[zm7 hm hw (r:=eX) rfl MV];obtain⟨e1,e2⟩:=hD.quiet (r:=eX) rfl sI rfl (.inl rfl) (c1:=⟨Nat.lor c0.D (Nat.pow 2 i),H,lk,[]⟩);rw[e1];exact f6 n hn c0 cs e2
  have go:∀{su:Sg}{t0:Tree},q8 all o env=some true->Rel n0 B ρ pa su ⟨env,H,lk,[]⟩ ->
    (match wo takes su o with|none=>none|some c=>if Rq m c ds=true then iZ P takes su o λσ v=>Jo P all takes kk (i+1) (⟨GD takes all i m o,c⟩::ds) os (mM σ o.dst v) else none)=some t0->cw ph gl N t0 ρ=some r->Pc P gl ph N takes all kk r n0 B i rs rl hs (o::os) ρ pa ⟨env,H,lk,[]⟩:=by
   intro su t0 hw o8 h0 Ik;split at h0
   ·cases h0
   ·rename_i c hc;split at h0
    next nr=>exact run hw o8 (dL _) hc nr h0 Ik
    ·cases h0
  split at h
  ·cases h
  next hg=>exact skip (iK hg hr) hr h hq
  next hg=>exact go (iK hg hr) hr h hq
  ·rename_i c hg;obtain⟨b,hw,hb⟩:=iK hg hr;obtain⟨ta,tb,h1,h2,h3⟩:=RF h hq;have h0:=hb ρ pa (dL _) (dL _);rcases h3 with⟨h3,h4⟩|⟨h3,h4⟩
   ·rw[h0] at h3;subst h3;exact go hw (hr.cond hb) h1 h4
   ·rw[h0] at h3;subst h3;exact skip hw (hr.cond (c:=mkNot c) λaD aE f1 f2=>by rw[wa,hb aD aE f1 f2];rfl) h2 h4
def zoP(he:Env P gl ph){ops:Array Oper}{kk:Sg->Option Tree}{r:Nat×aA}(h:Jo P ops (kX ops) kk 0 [] ops.toList σ=some t)(hr:Rel n0 B ρ pa σ ⟨env,H,[],df⟩)(hq:cw ph gl N t ρ=some r) :
  ∃dw bp bU t' s',kk dw=some t'/\cw ph gl N t' bp=some r/\ρ <+: bp/\pa <+: bU/\Rel n0 B bp bU dw s'/\∃k0,∀n,k0<=n->Cx.draw ⟨P,gl,qt P gl n,gl.uq⟩ ops ⟨env,H,lk,df⟩=some (.normal,s'):=by
 have Gn:df=[]:=hr.df;subst Gn;obtain⟨dw,bp,bU,t',s',h1,h2,h3,h4,h5,k0,h6⟩:=Z7 (rs:=[]) (rl:=[]) (hs:=[(H,[])]) he h hr hq ⟨.nil,⟨[],rfl⟩,.nil _,⟨λq hq=>by simp at hq,λq hq=>by simp at hq⟩,List.nodup_nil,λj hj=>by simp at hj⟩
 refine⟨dw,bp,bU,t',s',h1,h2,h3,h4,h5,k0,λn hn=>?_⟩;have iL:∀D,kp [] D->D=0:=λD hD=>wW λb=>by
  rw[vR];cases hb:bit D b with
  | false=>rfl
  | true=>have:=hD.1 b hb;simp[cE,vR] at this
 refine h6 n hn ⟨0,H,[],[]⟩ [] ⟨λq hq=>by simp at hq,λq hq=>by simp at hq,λq hq=>by simp at hq,λc hc=>?_,λc hc=>?_,rfl,λD hD=>⟨_,eS,(iL D hD).symm⟩,λq hq=>by simp at hq,λj hj=>by simp at hj,.nil _,λq hq=>by simp at hq⟩
 ·simp only[uk] at hc;subst hc;exact⟨rfl,rfl⟩
 ·simp only[uk] at hc;subst hc;exact⟨λb hb=>(by rw[vR] at hb;cases hb),λq hq=>(by simp at hq)⟩
end
section
set_option linter.unusedSectionVars false
variable{P:aM}{gl:Gl}{ph:PH}{N:Nat}{ρ bp:aA}{pa bU:bR}{σ dw mN:Sg}{s:St}{n0:Nat}{B:List br}{env:aA}{H:Hp}{lk:bk}{df:bH}{takes:bP}{k:KT}{t:Tree}
variable [mw gl]
def mo:XE->Ex
 | .normal=>.normal
 | .exit i=>.exit i
 | .ret=>.ret
def R_(_P:aM)(gl:Gl)(ph:PH)(N:Nat)(n0:Nat)(B:List br)(K:KE)(r:Nat×aA)(ρ:aA)(pa:bR)(run:Nat->Option (Ex×St)):Prop :=
 ∃e dw bp bU t' s',K e dw=some t'/\cw ph gl N t' bp=some r/\ρ <+: bp/\pa <+: bU/\Rel n0 B bp bU dw s'/\∃k0,∀n,k0<=n->run n=some (mo e,s')
def zlX{js:JS}{body:KE->Option Tree}{pick:XE->Bool}{K:KE}{next:Sg->Option Tree}{r:Nat×aA}{run:Nat->Option (Ex×St)}(h:Vk js σ body pick K next=some t)(hr:Rel n0 B ρ pa σ s)(hq:cw ph gl N t ρ=some r)
    (hb:∀K t r,body K=some t->cw ph gl N t ρ=some r->R_ P gl ph N n0 B K r ρ pa run) :
    ∃e s',(∃k0,∀n,k0<=n->run n=some (mo e,s')) /\
      ((pick e=true/\∃p_ oC t1,next p_=some t1/\cw ph gl N t1 oC=some r/\ρ <+: oC/\Rel n0 B oC pa p_ s') \/
       (pick e=false/\∃p_ oC DY t1,K e p_=some t1/\cw ph gl N t1 oC=some r/\ρ <+: oC/\pa <+: DY/\Rel n0 B oC DY p_ s')):=by
  simp only[Vk] at h;split at h
  · cases h
  · rename_i hJ
    simp only[sR,HR] at hJ;split at h
    · rename_i b t1 iP Sa
      cases h;simp only[cw] at hq;cases MY:cw ph gl N b ρ with
      | none=>rw[MY] at hq;cases hq
      | some rb =>
        rw[MY] at hq;obtain⟨e,dw,bp,bU,t',s',h1,h2,h3,h4,h5,h6⟩:=hb _ _ _ iP MY;refine⟨e,s',h6,?_⟩;cases hp:pick e with
        | true =>
          left
          simp only[hp,Rt] at h1;split at h1
          · rename_i nB hv
            cases h1;simp only[cw,aR] at h2;subst h2;exact⟨rfl,gen js σ,ρ++qk bp [] nB,t1,Sa,hq,tZ _ _,ZQ hr hJ h5 h3 h4 hv⟩
          · cases h1
        | false =>
          right
          simp only[hp,OZ] at h1;split at h1
          · rename_i t2 Jh
            cases h1;simp only[cw] at h2;split at h2
            · rename_i j vs hj
              cases h2;simp only[aR] at hq;subst hq;exact⟨rfl,dw,bp,bU,t2,Jh,hj,h3,h4,h5⟩
            · cases h2
          · cases h1
    · cases h
def zlY{js:JS}{c:Code}{body:Tree}{K:KE}{r:Nat×aA}(o8:Rel n0 B ρ pa σ s)(hJ:Rs σ (gen js σ)=true)
  (hb:∀(oC:aA)(s1:St)(r:Nat×aA),Rel n0 B oC pa (gen js σ) s1->cw ph gl N body oC=some r->R_ P gl ph N n0 B (λe dw=>match e with|.normal=>Rt (fit σ.ks.length (gen js σ) dw)|e=>OZ (K e dw)) r oC pa (λn=>Cx.code ⟨P,gl,qt P gl n,gl.uq⟩ n c s1)) :
  ∀(m:Nat)(vs:aA)(s1:St),Rel n0 B (ρ++vs) pa (gen js σ) s1->FA (λvs=>cw ph gl N body (ρ++vs)) m vs=some r ->
   ∃e dw bp bU t' s',K e dw=some t'/\cw ph gl N t' bp=some r/\ρ <+: bp/\pa <+: bU/\Rel n0 B bp bU dw s'/\∃k0,∀n,k0<=n->∀j,m<=j->xK (Cx.code ⟨P,gl,qt P gl n,gl.uq⟩ n c) j s1=some (mo e,s')
 | 0,vs,s1,_,h=>by cases h
 | m+1,vs,s1,hr,h=>by
  simp only[FA] at h;cases MY:cw ph gl N body (ρ++vs) with
  | none=>rw[MY] at h;cases h
  | some rb =>
   rw[MY] at h;obtain⟨e,dw,bp,bU,t',s',h1,h2,h3,h4,h5,k1,h6⟩:=hb (ρ++vs) s1 rb hr MY;have fU:ρ <+: bp:=O7 h3;have oR:∀e',e=e'->e'≠.normal->OZ (K e' dw)=some t'->∃e dw bp bU t' s',K e dw=some t'/\cw ph gl N t' bp=some r/\ρ <+: bp/\pa <+: bU/\Rel n0 B bp bU dw s'/\∃k0,∀n,k0<=n->∀j,m+1<=j->xK (Cx.code ⟨P,gl,qt P gl n,gl.uq⟩ n c) j s1=some (mo e,s'):=by
    rintro e' rfl cG h1;simp only[OZ] at h1;split at h1
    ·rename_i t2 Jh;cases h1;simp only[cw] at h2;split at h2
     ·rename_i j vs hj;cases h2;simp only[aR] at h;subst h;refine⟨e,dw,bp,bU,t2,s',Jh,hj,fU,h4,h5,k1,λn hn j hj=>?_⟩
      match j,hj with
      | j+1,_ =>
      have:=h6 n hn;simp only[xK,this];cases e<;>first|exact absurd rfl cG|rfl
     ·cases h2
    ·cases h1
   cases e with
   | normal =>
    simp only[Rt] at h1;split at h1
    ·rename_i nB hv;cases h1;simp only[cw,aR] at h2;subst h2;have mZ:=ZQ o8 hJ h5 fU h4 hv;obtain⟨e,Sb,BS,Sc,t2,s2,g1,g2,g3,g4,g5,k2,g6⟩:=zlY (K:=K) o8 hJ hb m _ s' mZ h;refine⟨e,Sb,BS,Sc,t2,s2,g1,g2,g3,g4,g5,max k1 k2,λn hn j hj=>?_⟩
     match j,hj with
     | j+1,hj =>
     have:=h6 n (by omega)
     simp only[xK,this,mo];exact g6 n (by omega) j (by omega)
    ·cases h1
   | exit i=>exact oR _ rfl (by intro h;cases h) h1
   | ret=>exact oR _ rfl (by intro h;cases h) h1
def wJ(he:Env P gl ph){hs:List (Nat×JS)}:∀(c:Code)(p:Nat)(σ:Sg)(K:KE)(t:Tree)(ρ:aA)(pa:bR)(s:St)(r:Nat×aA),wq P hs p c σ K=some t->Rel n0 B ρ pa σ s->cw ph gl N t ρ=some r ->
  R_ P gl ph N n0 B K r ρ pa (λn=>Cx.code ⟨P,gl,qt P gl n,gl.uq⟩ n c s)
 | .skip,p,σ,K,t,ρ,pa,s,r,h,hr,hq=>⟨.normal,σ,ρ,pa,t,s,h,hq,dL _,dL _,hr,0,λn _=>rfl⟩
 | .label _,p,σ,K,t,ρ,pa,s,r,h,hr,hq=>⟨.normal,σ,ρ,pa,t,s,h,hq,dL _,dL _,hr,0,λn _=>rfl⟩
 | .exit i,p,σ,K,t,ρ,pa,s,r,h,hr,hq=>⟨.exit i,σ,ρ,pa,t,s,h,hq,dL _,dL _,hr,0,λn _=>rfl⟩
 | .ret,p,σ,K,t,ρ,pa,s,r,h,hr,hq=>⟨.ret,σ,ρ,pa,t,s,h,hq,dL _,dL _,hr,0,λn _=>rfl⟩
 | .region id ops false,p,σ,K,t,ρ,pa,⟨env,H,lk,df⟩,r,h,hr,hq=>by
  simp only[wq] at h;obtain⟨dw,bp,bU,t',s',h1,h2,h3,h4,h5,k0,h6⟩:=RR he h hr.Rz hq;exact⟨.normal,dw,bp,bU,t',s',h1,h2,h3,h4,h5,k0,λn hn=>by simp only[Cx.code];exact h6 n hn⟩
 | .region id ops true,p,σ,K,t,ρ,pa,⟨env,H,lk,df⟩,r,h,hr,hq=>by
  simp only[wq] at h;obtain⟨dw,bp,bU,t',s',h1,h2,h3,h4,h5,k0,h6⟩:=zoP (lk:=lk) he h hr.Rz hq;exact⟨.normal,dw,bp,bU,t',s',h1,h2,h3,h4,h5,k0,λn hn=>by simp only[Cx.code];exact h6 n hn⟩
 | .scope c,p,σ,K,t,ρ,pa,s,r,h,hr,hq=>by
  simp only[wq] at h;obtain⟨e,dw,bp,bU,t',s',h1,h2,h3,h4,h5,k0,h6⟩:=wJ he c (2 * p) σ K t ρ pa s r h hr hq;refine⟨e,dw,bp,bU,t',s',h1,h2,h3,h4,h5,k0,λn hn=>?_⟩;have:=h6 n hn;simp only[Cx.code,this];cases e<;>rfl
 | .cond c a b,p,σ,K,t,ρ,pa,s,r,h,hr,hq=>by
  simp only[wq] at h;split at h
  ·cases h
  ·rename_i tt hc;have ec:∀aD aE,ρ <+: aD->pa <+: aE->aB s.env c=some (.bool (bt aD tt)):=λaD aE e1 e2=>Zq (hr.ext aD aE e1 e2) hc;have e0:=ec ρ pa (dL _) (dL _);have eM:∀aD aE,ρ <+: aD->pa <+: aE->bt aD tt=bt ρ tt:=λaD aE e1 e2=>by
    have:=(ec aD aE e1 e2).symm.trans e0;simpa using this
   have goA:∀{p_:Sg}{t1:Tree},bt ρ tt=true->wq P hs (2 * p) a p_ K=some t1->Rel n0 B ρ pa p_ s->cw ph gl N t1 ρ=some r->R_ P gl ph N n0 B K r ρ pa (λn=>Cx.code ⟨P,gl,qt P gl n,gl.uq⟩ n (.cond c a b) s):=λhb h1 AA Sd=>by
    obtain⟨e,dw,bp,bU,t',s',h1,h2,h3,h4,h5,k0,h6⟩:=wJ he a (2 * p) _ K _ ρ pa s r h1 AA Sd;exact⟨e,dw,bp,bU,t',s',h1,h2,h3,h4,h5,k0,λn hn=>by simp only[Cx.code,e0,hb];exact h6 n hn⟩
   have goB:∀{p_:Sg}{t1:Tree},bt ρ tt=false->wq P hs (2 * p+1) b p_ K=some t1->Rel n0 B ρ pa p_ s->cw ph gl N t1 ρ=some r->R_ P gl ph N n0 B K r ρ pa (λn=>Cx.code ⟨P,gl,qt P gl n,gl.uq⟩ n (.cond c a b) s):=λhb h1 AA Sd=>by
    obtain⟨e,dw,bp,bU,t',s',h1,h2,h3,h4,h5,k0,h6⟩:=wJ he b (2 * p+1) _ K _ ρ pa s r h1 AA Sd;exact⟨e,dw,bp,bU,t',s',h1,h2,h3,h4,h5,k0,λn hn=>by simp only[Cx.code,e0,hb];exact h6 n hn⟩
   split at h
   next hk=>exact goA (wj hr.here.as hk) h hr hq
   next hk=>exact goB (wj hr.here.as hk) h hr hq
   ·obtain⟨ta,tb,h1,h2,h3⟩:=RF h hq;rcases h3 with⟨h3,h4⟩|⟨h3,h4⟩
    ·exact goA h3 h1 (hr.cond λaD aE f1 f2=>by rw[eM aD aE f1 f2];exact h3) h4
    ·exact goB h3 h2 (hr.cond (c:=mkNot tt) λaD aE f1 f2=>by rw[wa,eM aD aE f1 f2,h3];rfl) h4
 | .seq a b,p,σ,K,t,ρ,pa,s,r,h,hr,hq=>by
  simp only[wq] at h;split at h
  ·obtain⟨e,dw,bp,bU,t',s',h1,h2,h3,h4,h5,k1,h6⟩:=wJ he a (2 * p) σ _ t ρ pa s r h hr hq;cases e with
   | normal =>
    obtain⟨e,Sb,BS,Sc,t2,s2,g1,g2,g3,g4,g5,k2,g6⟩:=wJ he b (2 * p+1) dw K t' bp bU s' r h1 h5 h2;refine⟨e,Sb,BS,Sc,t2,s2,g1,g2,h3.trans g3,h4.trans g4,g5,max k1 k2,λn hn=>?_⟩;have:=h6 n (by omega)
    simp only[Cx.code,this,mo];exact g6 n (by omega)
   | exit i=>exact⟨.exit i,dw,bp,bU,t',s',h1,h2,h3,h4,h5,k1,λn hn=>by have:=h6 n hn;simp only[Cx.code,this,mo]⟩
   | ret=>exact⟨.ret,dw,bp,bU,t',s',h1,h2,h3,h4,h5,k1,λn hn=>by have:=h6 n hn;simp only[Cx.code,this,mo]⟩
  ·rename_i js MZ;obtain⟨e,s',⟨k1,h1⟩,h2⟩:=zlX (run:=λn=>Cx.code ⟨P,gl,qt P gl n,gl.uq⟩ n a s) h hr hq λK t r hb hq=>wJ he a (2 * p) σ K t ρ pa s r hb hr hq;rcases h2 with⟨hp,p_,oC,t1,g1,g2,g3,g4⟩|⟨hp,p_,oC,DY,t1,g1,g2,g3,g4,g5⟩
   ·cases e with
    | normal =>
     obtain⟨e,Sb,BS,Sc,t2,s2,f1,f2,f3,f4,f5,k2,f6⟩:=wJ he b (2 * p+1) p_ K t1 oC pa s' r g1 g4 g2;refine⟨e,Sb,BS,Sc,t2,s2,f1,f2,g3.trans f3,f4,f5,max k1 k2,λn hn=>?_⟩;have:=h1 n (by omega)
     simp only[Cx.code,this,mo];exact f6 n (by omega)
    | _=>cases hp
   ·cases e with
    | normal=>cases hp
    | exit i=>exact⟨.exit i,p_,oC,DY,t1,s',g1,g2,g3,g4,g5,k1,λn hn=>by have:=h1 n hn;simp only[Cx.code,this,mo]⟩
    | ret=>exact⟨.ret,p_,oC,DY,t1,s',g1,g2,g3,g4,g5,k1,λn hn=>by have:=h1 n hn;simp only[Cx.code,this,mo]⟩
 | .block id c,p,σ,K,t,ρ,pa,s,r,h,hr,hq=>by
  simp only[wq] at h;split at h
  ·obtain⟨e,dw,bp,bU,t',s',h1,h2,h3,h4,h5,k1,h6⟩:=wJ he c (2 * p) σ _ t ρ pa s r h hr hq;cases e with
   | normal=>exact⟨.normal,dw,bp,bU,t',s',h1,h2,h3,h4,h5,k1,λn hn=>by have:=h6 n hn;simp only[Cx.code,this,mo]⟩
   | ret=>exact⟨.ret,dw,bp,bU,t',s',h1,h2,h3,h4,h5,k1,λn hn=>by have:=h6 n hn;simp only[Cx.code,this,mo]⟩
   | exit i =>
    simp only at h1;cases hb:Nat.beq i id with
    | true =>
     rw[hb] at h1;exact⟨.normal,dw,bp,bU,t',s',h1,h2,h3,h4,h5,k1,λn hn=>by have:=h6 n hn;simp only[Cx.code,this,mo,hb,aU]⟩
    | false =>
     rw[hb] at h1;exact⟨.exit i,dw,bp,bU,t',s',h1,h2,h3,h4,h5,k1,λn hn=>by have:=h6 n hn;simp only[Cx.code,this,mo,hb,dF,bZ]⟩
  ·rename_i js MZ;obtain⟨e,s',⟨k1,h1⟩,h2⟩:=zlX (run:=λn=>Cx.code ⟨P,gl,qt P gl n,gl.uq⟩ n c s) h hr hq λK t r hb hq=>wJ he c (2 * p) σ K t ρ pa s r hb hr hq;rcases h2 with⟨hp,p_,oC,t1,g1,g2,g3,g4⟩|⟨hp,p_,oC,DY,t1,g1,g2,g3,g4,g5⟩
   ·refine⟨.normal,p_,oC,pa,t1,s',g1,g2,g3,dL _,g4,k1,λn hn=>?_⟩;have:=h1 n hn;cases e with
    | normal=>simp only[Cx.code,this,mo]
    | exit i=>simp only at hp;simp only[Cx.code,this,mo,hp,aU]
    | ret=>cases hp
   ·cases e with
    | normal=>cases hp
    | exit i=>simp only at hp;exact⟨.exit i,p_,oC,DY,t1,s',g1,g2,g3,g4,g5,k1,λn hn=>by have:=h1 n hn;simp only[Cx.code,this,mo,hp,dF,bZ]⟩
    | ret=>exact⟨.ret,p_,oC,DY,t1,s',g1,g2,g3,g4,g5,k1,λn hn=>by have:=h1 n hn;simp only[Cx.code,this,mo]⟩
 | .loop c,p,σ,K,t,ρ,pa,s,r,h,hr,hq=>by
  simp only[wq] at h;split at h
  ·cases h
  ·rename_i js MZ;split at h
   ·cases h
   ·rename_i hJ;simp only[sR,HR] at hJ;split at h
    next uH body Z_ iP=>cases h;simp only[cw] at hq;have mZ:=ZQ hr hJ hr (dL _) (dL _) Z_;obtain⟨e,dw,bp,bU,t',s',h1,h2,h3,h4,h5,k0,h6⟩:=zlY (c:=c) (K:=K) hr hJ (λoC s1 r1 AA Sd=>wJ he c (2 * p) (gen js σ) _ body oC pa s1 r1 iP AA Sd) N _ s mZ hq;exact⟨e,dw,bp,bU,t',s',h1,h2,h3,h4,h5,max k0 N,λn hn=>by simp only[Cx.code];exact h6 n (by omega) n (by omega)⟩
    ·cases h
 | .rangeFunc ..,_,_,_,_,_,_,_,_,h,_,_=>by simp[wq] at h
 | .goto _,_,_,_,_,_,_,_,_,h,_,_=>by simp[wq] at h
 | .refuse _,_,_,_,_,_,_,_,_,h,_,_=>by simp[wq] at h
end
section
set_option linter.unusedSectionVars false
variable{P:aM}{gl:Gl}{ph:PH}{N:Nat}{ρ bp:aA}{pa bU:bR}{σ dw mN:Sg}{s:St}{n0:Nat}{B:List br}{env:aA}{H:Hp}{lk:bk}{df:bH}{takes:bP}{t:Tree}{r:Nat×aA}
variable [mw gl]
def zfI{kk:Sg->Option Tree}:∀{BN:List CK}{i:Nat}{σ:Sg}{t:Tree},Ru kk σ BN i=some t->Rel n0 B ρ pa σ s->i+BN.length<=σ.ks.length->cw ph gl N t ρ=some r ->
  ∃j_ t',j_.length=σ.ks.length/\kk { σ with ks:=j_ }=some t'/\cw ph gl N t' ρ=some r/\Rel n0 B ρ pa { σ with ks:=j_ } s
 | [],i,σ,t,h,hr,hi,hq=>⟨σ.ks,t,rfl,h,hq,hr⟩
 | ck::BN,i,σ,t,h,hr,hi,hq=>by
  simp only[Ru] at h;split at h
  ·rename_i t1 ht;cases h;simp only[cw,cond_eq_ite] at hq;split at hq
   ·rename_i hk;simp only[bq] at hi;obtain⟨j_,t',h1,h2,h3,h4⟩:=zfI ht (hr.kind (by omega) hk) (by simp;omega) hq
    exact⟨j_,t',by simpa using h1,h2,h3,h4⟩
   ·cases hq
  ·cases h
def vG(P:aM):List aq->List AV->Nat->Prop
 | [],[],_=>True
 | t::ts,.p j' off::gA,j=>(∃e,P.underlying t=some (.pointer e))/\j'=j/\off=0/\vG P ts gA (j+1)
 | t::ts,.d _x::gA,j=>(∀e,P.underlying t≠some (.pointer e))/\vG P ts gA j
 | _,_,_=>False
def pU:AV->V
 | .d x=>x
 | .p _ _=>.ef
def iE{kk:Sg->List SV->Option Tree}:∀{ts:List aq}{gA:List AV}{i j:Nat}{σ:Sg}{ρ:aA}{acc:List SV}{t:Tree},xS P kk σ ts i j acc=some t->vG P ts gA j->Rel n0 B ρ pa σ s->i+ts.length<=σ.ks.length->(∀m av,gA[m]?=some av->at' ρ (i+m)=pU av)->cw ph gl N t ρ=some r ->
  ∃(j_:List CK)(lJ:List SV)(bp:aA)(t':Tree),lJ.length=gA.length/\kk { σ with ks:=j_ } (acc++lJ)=some t'/\cw ph gl N t' bp=some r/\ρ <+: bp/\Rel n0 B bp pa { σ with ks:=j_ } s/\∀(aD:aA)(aE:bR),bp <+: aD->pa <+: aE->∀(m:Nat)(sv:SV),lJ[m]?=some sv->∃av,gA[m]?=some av/\kK aD aE sv=some (vf aE av)
 | [],[],i,j,σ,ρ,acc,t,h,hp,hr,hi,nP,hq=>⟨σ.ks,[],ρ,t,rfl,by rw[oZ];exact h,hq,dL _,hr,λ_ _ _ _ m sv hm=>by simp at hm⟩
 | ty::ts,.p j' off::gA,i,j,σ,ρ,acc,t,h,hp,hr,hi,nP,hq=>by
  obtain⟨⟨e,he⟩,rfl,rfl,hp⟩:=hp;simp only[xS,he] at h;simp only[bq] at hi;obtain⟨j_,lJ,bp,t',h0,h1,h2,h3,h4,h5⟩:=iE (gA:=gA) h hp hr (by omega) (λm av hm=>by rw[show i+1+m=i+(m+1) by omega];exact nP (m+1) av (by simpa using hm)) hq
  refine⟨j_,.val (.one (.p j' 0))::lJ,bp,t',by simp[h0],by simpa using h1,h2,h3,h4,λaD aE e1 e2 m sv hm=>?_⟩
  cases m with
  | zero=>simp only[Ba,aR] at hm;subst hm;exact⟨.p j' 0,by simp,rfl⟩
  | succ m=>simp only[Dr] at hm ⊢;exact h5 aD aE e1 e2 m sv hm
 | ty::ts,.d x::gA,i,j,σ,ρ,acc,t,h,hp,hr,hi,nP,hq=>by
  obtain⟨he,hp⟩:=hp;simp only[bq] at hi;have hx:at' ρ i=x:=nP 0 (.d x) (by simp)
  have h':Jl P σ ty i (λσ x=>xS P kk σ ts (i+1) j (acc++[.val x]))=some t:=by
   unfold xS at h;split at h
   next e Cz=>exact absurd Cz (he e)
   ·exact h
  obtain⟨ks1,sc,oC,t1,g1,g2,g3,g4,g5,_⟩:=Vv h' hr (by omega) hq
  have aab:=g4.kl;have O9:=hr.kl;have af3:ρ.length<=oC.length:=by obtain⟨z,rfl⟩:=g3;simp
  obtain⟨j_,lJ,bp,t',h0,h1,h2,h3,h4,h5⟩:=iE (gA:=gA) g1 hp g4 (by simp only at aab ⊢;omega) (λm av hm=>by
   have Gg:=(eE.1 hm).1;have BD:ts.length=gA.length:=tJ hp
   rw[yr g3 (by omega),show i+1+m=i+(m+1) by omega];exact nP (m+1) av (by simpa using hm)) g2
  refine⟨j_,.val sc::lJ,bp,t',by simp[h0],by simpa using h1,h2,g3.trans h3,h4,λaD aE e1 e2 m sv hm=>?_⟩
  cases m with
  | zero =>
   simp only[Ba,aR] at hm;subst hm;exact⟨.d x,by simp,by simp only[kK,vf];rw[g5 aD aE (h3.trans e1),hx]⟩
  | succ m=>simp only[Dr] at hm ⊢;exact h5 aD aE e1 e2 m sv hm
 | [],_::_,_,_,_,_,_,_,_,hp,_,_,_,_=>hp.elim
 | _::_,[],_,_,_,_,_,_,_,hp,_,_,_,_=>hp.elim
 where
 tJ:∀{ts:List aq}{gA:List AV}{j:Nat},vG P ts gA j->ts.length=gA.length
 | [],[],_,_=>rfl
 | _::_,.p _ _::_,_,h=>by simp[tJ h.2.2.2]
 | _::_,.d _::_,_,h=>by simp[tJ h.2]
 | [],_::_,_,h=>h.elim
 | _::_,[],_,h=>h.elim
def zjx(hr:Rel n0 B ρ pa σ s){tt:Tmp}{x:SC}(h:Vl σ tt=some x):nth s.env tt=some (qq ρ pa x):=by
 unfold Vl at h;split at h
 ·rename_i sv Vu;split at h
  next y hu=>cases h;obtain⟨_,v,h1,h2⟩:=zjn (pa:=pa) hr.here.as hu;cases h2;exact hr.here.env _ _ _ Vu h1
  ·cases h
 ·cases h
def VM(hr:Rel n0 B ρ pa σ s):∀{rs:List ResultVar}{xs:List SC},O0 P σ rs=some xs->ja P s.H s.env rs=some (q0 ρ pa xs)
 | [],xs,h=>by cases h;rfl
 | .tmp tt::rs,xs,h=>by
  simp only[O0] at h;split at h
  next x ys h1 h2=>cases h;simp only[ja,zjx hr h1,VM hr h2,q0]
  ·cases h
 | .cell a ty::rs,xs,h=>by
  simp only[O0] at h;split at h
  ·rename_i a' off h1;split at h
   ·rename_i cs ty' hf;split at h
    next x ys h2 h3=>cases h;have e1:=zjx hr h1;simp only[qq,bB] at e1;simp only[ja,e1,Re];rw[hr.here.aj _ _ _ hf];simp only[xn,vW (ρ:=ρ) (pa:=pa) h2,VM hr h3,q0,wY]
    ·cases h
   ·cases h
  ·cases h
def zm8(xs:List SC):q0 ρ pa (AE xs)=(q0 ρ pa xs).map aT:=by
 induction xs with
 | nil=>rfl
 | cons x xs ih=>simp[AE,q0,ih,wY]
def zfJ(hk:∀i k,nth σ.ks i=some k->fh k (at' ρ i)=true)(ht:aI ρ=0):∀{xs:List SC},U5 σ.ks xs=true->aI (q0 ρ pa xs)=0/\∀bU,q0 ρ bU xs=q0 ρ pa xs
 | [],_=>⟨rfl,λ_=>rfl⟩
 | x::xs,h=>by
  simp only[U5,cR] at h;obtain⟨a1,a2⟩:=y6 (pa:=pa) hk ht h.1;obtain⟨b1,b2⟩:=zfJ hk ht h.2;exact⟨by simp only[q0,aI,a1,b1];rfl,λbU=>by simp only[q0,a2 bU,b2 bU]⟩
def kL(l:aA):aI (l.map aT)=aI l:=by
 induction l with
 | nil=>rfl
 | cons v vs ih=>simp only[bW,aI,dx,ih]
def zfK(hr:Rel n0 B ρ pa σ s):∀{bu:List (aq×List CK)}{j:Nat}{o:List C},MJ σ j bu=some o ->
  ∃out:List aA,qk ρ [] o=aV out/\aI (aV out)=0/\out.length=bu.length/\∀m e ks,bu[m]?=some (e,ks)->∃vs,out[m]?=some vs/\vs.length=ks.length/\s.H.get (pd pa (j+m))=some (.cells vs e)
 | [],j,o,h=>by cases h;exact⟨[],rfl,rfl,rfl,λm e ks hm=>by simp at hm⟩
 | (e,ks)::bu,j,o,h=>by
  simp only[MJ] at h;split at h
  ·rename_i cs ty o' hf ho;split at h
   ·rename_i hc;simp only[cR] at hc;obtain⟨⟨c1,c2⟩,c3⟩:=hc;obtain rfl:=kZ c2;cases h;obtain⟨out,h1,h2,h3,h4⟩:=zfK hr ho;obtain⟨d1,d2,d3⟩:=vF (pa:=pa) hr.here.ks hr.top c1;refine⟨qk ρ pa cs::out,?_,by simp only[aV,ko,d1,h2];rfl,by simp[h3],λm e' j_ hm=>?_⟩
    ·simp only[aV,<- h1,<- d3 []];simp[jE]
    ·cases m with
     | zero =>
      simp only[Ba,aR,bS] at hm;obtain⟨rfl,rfl⟩:=hm;exact⟨_,by simp,by rw[jP];exact kZ c3,hr.here.aj _ _ _ hf⟩
     | succ m =>
      simp only[Dr] at hm;obtain⟨vs,g1,g2,g3⟩:=h4 m e' j_ hm;exact⟨vs,by simpa using g1,g2,by rw[show j+(m+1)=j+1+m by omega];exact g3⟩
   ·cases h
  ·cases h
def cI{ks:List CK}:∀{cs:List C},ye ks cs=true->qk ρ [] cs=qk ρ pa cs
 | [],_=>rfl
 | c::cs,h=>by
  simp only[ye,cR] at h;simp only[qk];rw[cI h.2];cases c with
  | p a off=>simp[GC] at h
  | v i cl=>cases cl<;>rfl
  | _=>rfl
def zlZ(hr:Rel n0 B ρ pa σ s){bu:List (aq×List CK)}{rs:List ResultVar}{w:aA}(h:KO P bu rs σ=some t)(hq:cw ph gl N t ρ=some (0,w)) :
  ∃v out vs,σ.nf=bu.length/\w=v::aV out/\ja P s.H s.env rs=some vs/\iI vs=v/\v.top=0/\aI (aV out)=0/\out.length=bu.length/\∀m e ks,bu[m]?=some (e,ks)->∃vs,out[m]?=some vs/\vs.length=ks.length/\s.H.get (pd pa m)=some (.cells vs e):=by
 unfold KO at h;split at h
 ·cases h
 rename_i Il;simp only[sR,HR] at Il;have ext:∀{su:Sg}{o:List C}{v:V},MJ σ 0 bu=some o->qk (ρ++[v]) [] o=qk ρ [] o:=by
  intro su o v ho;have key:∀{bu:List (aq×List CK)}{j:Nat}{o:List C},MJ σ j bu=some o->qk (ρ++[v]) [] o=qk ρ [] o:=by
   intro bu
   induction bu with
   | nil=>intro j o h;cases h;rfl
   | cons x bu ih =>
    obtain⟨e,ks⟩:=x;intro j o h;simp only[MJ] at h;split at h
    ·rename_i cs ty o' hf ho;split at h
     ·rename_i hc;simp only[cR] at hc;cases h;have a1:=hr.here.aj _ _ _ hf;have a2:=(hr.ext (ρ++[v]) pa (tZ _ _) (dL _)).aj _ _ _ hf;rw[a1] at a2;simp only[aR,br.cells.injEq,Bt] at a2;have nop:∀{Bj:aA},qk Bj [] cs=qk Bj pa cs:=λ{Bj}=>cI hc.1.1;have e1:qk (ρ++[v]) [] (cs++o')=qk (ρ++[v]) [] cs++qk (ρ++[v]) [] o':=by simp[jE]
      have e2:qk ρ [] (cs++o')=qk ρ [] cs++qk ρ [] o':=by simp[jE]
      rw[e1,e2,ih ho,nop,nop,a2]
     ·cases h
    ·cases h
  exact key ho
 split at h
 ·rename_i x o hx ho;split at h
  ·rename_i hd;cases h;obtain⟨d1,d2⟩:=y6 (pa:=pa) hr.here.ks hr.top hd;obtain⟨out,o1,o2,o3,o4⟩:=zfK hr ho;simp only[cw,aR,bS,cg,qk,bB,jp,d2 []] at hq;rw[<- hr.kl,O5,ext (su:=σ) ho,o1] at hq;refine⟨_,out,_,kZ Il,hq.symm,VM hr hx,rfl,d1,o2,o3,λm e ks hm=>?_⟩;have:=o4 m e ks hm
   rwa [cK] at this
  ·cases h
 ·rename_i xs o cG hx ho;split at h
  ·rename_i hd;cases h;obtain⟨d1,d2⟩:=zfJ (pa:=pa) hr.here.ks hr.top hd;obtain⟨out,o1,o2,o3,o4⟩:=zfK hr ho;simp only[cw,aR,bS,cg,qk,bB,jp,zm8,d2 []] at hq;rw[<- hr.kl,O5,ext (su:=σ) ho,o1] at hq;refine⟨_,out,_,kZ Il,hq.symm,VM hr hx,?_,by simp only[V.top,kL,d1],o2,o3,λm e ks hm=>?_⟩
   ·match xs,cG with
    | [],_=>rfl
    | [x],cG=>exact absurd rfl (cG x)
    | x::y::z,_=>rfl
   ·have:=o4 m e ks hm
    rwa [cK] at this
  ·cases h
 ·cases h
def nW:∀{θ:bR}{fp:List (aA×aq)}{out:List aA}{H:Hp},θ.Nodup->θ.length=fp.length->out.length=fp.length->(∀b∈θ,b<H.aj.length) ->
  (yX H θ fp out).aW=H.aW/\(yX H θ fp out).aj.length=H.aj.length/\(∀(m b:Nat)(o:aA)(c:aA)(ty:aq),θ[m]?=some b->out[m]?=some o->fp[m]?=some (c,ty)->(yX H θ fp out).get b=some (.cells o ty))/\(∀b,b ∉ θ->(yX H θ fp out).get b=H.get b)
 | [],[],[],H,_,_,_,_=>⟨rfl,rfl,λm b o c ty h=>by simp at h,λb _=>rfl⟩
 | b::θ,(c,ty)::fp,o::out,H,hn,h1,h2,h3=>by
  simp only[List.nodup_cons] at hn;simp only[bq,Nat.add_right_cancel_iff] at h1 h2;have nO:(H.set b (.cells o ty)).aj.length=H.aj.length:=by simp[Hp.set]
  obtain⟨a1,a2,a3,a4⟩:=nW (H:=H.set b (.cells o ty)) hn.2 h1 h2 (λx hx=>by rw[nO];exact h3 x (dB _ hx))
  refine⟨a1,by rw[yX,a2,nO],λm x o' c' ty' g1 g2 g3=>?_,λx hx=>?_⟩
  ·cases m with
   | zero =>
    simp only[Ba,aR,bS] at g1 g2 g3;obtain⟨rfl,rfl⟩:=g3;subst g1 g2;rw[yX,a4 b hn.1,Zz (h3 b eS)]
   | succ m =>
    simp only[Dr] at g1 g2 g3;exact a3 m x o' c' ty' g1 g2 g3
  ·simp only[dh,not_or] at hx;rw[yX,a4 x hx.2,xu (λe=>hx.1 e.symm)]
 | [],[],_::_,_,_,_,h,_=>by simp at h
 | [],_::_,_,_,_,h,_,_=>by simp at h
 | _::_,[],_,_,_,h,_,_=>by simp at h
 | _::_,_::_,[],_,_,_,h,_=>by simp at h
def CZ:List (aq×List CK)->List (aA×aq)->Prop
 | [],[]=>True
 | (e,ks)::r,(vs,t)::fp=>e=t/\vs.length=ks.length/\aI vs=0/\CZ r fp
 | _,_=>False
def k_:List (aA×aq)->aA
 | []=>[]
 | (vs,_)::r=>vs++k_ r
def tK:∀{l:List (aq×List CK)}{fp:List (aA×aq)},CZ l fp->l.length=fp.length/\(m9 l).length=(k_ fp).length/\aI (k_ fp)=0/\∀(m:Nat)(e:aq)(ks:List CK),l[m]?=some (e,ks)->∃vs:aA,fp[m]?=some (vs,e)/\vs.length=ks.length
 | [],[],_=>⟨rfl,rfl,rfl,λm e ks h=>by simp at h⟩
 | (e,ks)::r,(vs,t)::fp,h=>by
  obtain⟨rfl,h1,h2,h3⟩:=h;obtain⟨a1,a2,a3,a4⟩:=tK h3;refine⟨by simp[a1],by simp[m9,k_,a2,h1],by simp only[k_,ko,h2,a3];rfl,λm e' j_ hm=>?_⟩
  cases m with
  | zero=>simp only[Ba,aR,bS] at hm;obtain⟨rfl,rfl⟩:=hm;exact⟨vs,by simp,h1⟩
  | succ m=>simp only[Dr] at hm ⊢;exact a4 m e' j_ hm
 | [],_::_,h=>h.elim
 | _::_,[],h=>h.elim
def zbj{θ:bR}{H:Hp}:∀{l:List (aq×List CK)}{fp:List (aA×aq)}{j i:Nat}{x y:aA}{th:bR},CZ l fp->xw H th fp->(∀m b,th[m]?=some b->pd θ (j+m)=b)->x.length=i ->
  ∀a cs ty,kN a (fW l j i)=some (cs,ty)->H.get (pd θ a)=some (.cells (qk (x++k_ fp++y) [] cs) ty)/\(∀pa,qk (x++k_ fp++y) pa cs=qk (x++k_ fp++y) [] cs)/\a<j+l.length
 | [],[],j,i,x,y,th,_,_,_,_,a,cs,ty,h=>by simp[fW,kN] at h
 | (e,ks)::r,(vs,t)::fp,j,i,x,y,b::th,hf,hl,hth,hi,a,cs,ty,h=>by
  obtain⟨rfl,h1,h2,h3⟩:=hf;simp only[fW,vt] at h;split at h
  ·rename_i ha;subst ha;cases h;have e1:∀pa,qk (x++k_ ((vs,e)::fp)++y) pa (lits ks i)=vs:=λpa=>by
    simp only[k_,b_];have:=RD (pa:=pa) (x:=x) (z:=vs) (ks:=ks) (y:=k_ fp++y) h1 hi;simpa only[b_] using this
   refine⟨?_,λpa=>by rw[e1 pa,e1 []],by simp⟩
   have h0:=hth 0 b rfl;rw[cL] at h0;rw[e1 [],h0];exact hl.1
  ·obtain⟨g1,g2,g3⟩:=zbj (x:=x++vs) (y:=y) h3 hl.2 (λm c hm=>by rw[show j+1+m=j+(m+1) by omega];exact hth (m+1) c (by simpa using hm)) (by simp[hi,h1]) a cs ty h
   simp only[k_,b_] at g1 g2 ⊢;exact⟨g1,g2,by simp;omega⟩
 | [],_::_,_,_,_,_,_,h,_,_,_,_,_,_,_=>h.elim
 | _::_,[],_,_,_,_,_,h,_,_,_,_,_,_,_=>h.elim
 | _::_,_::_,_,_,_,_,[],_,h,_,_,_,_,_,_=>h.elim
def xH(gA:List AV)(fp:List (aA×aq)):aA:=gA.map pU++k_ fp
def VN{H:Hp}:∀{θ:bR}{fp:List (aA×aq)},xw H θ fp->θ.length=fp.length/\∀b∈θ,b<H.aj.length
 | [],[],_=>⟨rfl,λb hb=>by simp at hb⟩
 | b::θ,(c,t)::r,h=>by
  obtain⟨h1,h2⟩:=VN h.2;refine⟨by simp[h1],λx hx=>?_⟩
  rcases dh.1 hx with rfl|hx
  ·have:=h.1;simp only[Hp.get] at this;exact Zx this
  ·exact h2 x hx
 | [],_::_,h=>h.elim
 | _::_,[],h=>h.elim
def zaJ{bs:List br}{es p8:bk}:∀{θ:bR}{fp:List (aA×aq)},xw ⟨bs,es⟩ θ fp->xw ⟨bs,p8⟩ θ fp
 | [],[],_=>trivial
 | _::_,(_,_)::_,h=>⟨h.1,zaJ h.2⟩
 | [],_::_,h=>h.elim
 | _::_,[],h=>h.elim
def zfL{ty:aq}{ts:List aq}{bu:List (aq×List CK)}(h:yR P (ty::ts)=some bu):(∃e ks r,P.underlying ty=some (.pointer e)/\yR P ts=some r/\bu=(e,ks)::r)\/((∀e,P.underlying ty≠some (.pointer e))/\yR P ts=some bu):=by
 simp only[yR] at h;split at h
 ·rename_i e r h1 h2;split at h
  next ks hk=>cases h;exact .inl ⟨e,ks,r,h1,h2,rfl⟩
  ·cases h
 next d r cG h1 h2=>cases h;exact .inr ⟨λe he=>by rw[h1] at he;cases he;exact cG e rfl,h2⟩
 ·cases h
def Jy:∀{ts:List aq}{gA:List AV}{j0:Nat}{bu:List (aq×List CK)},vG P ts gA j0->yR P ts=some bu->∀(i j off:Nat),gA[i]?=some (AV.p j off)->off=0/\j<j0+bu.length
 | [],[],j0,bu,_,_,i,j,off,h=>by simp at h
 | ty::ts,.p j' off'::gA,j0,bu,hp,hl,i,j,off,h=>by
  obtain⟨⟨e,he⟩,rfl,rfl,hp⟩:=hp;rcases zfL hl with⟨e',ks,r,h1,h2,rfl⟩|⟨h1,_⟩
  ·cases i with
   | zero=>simp only[Ba,aR,AV.p.injEq] at h;obtain⟨rfl,rfl⟩:=h;exact⟨rfl,by simp⟩
   | succ i =>
    simp only[Dr] at h;obtain⟨a,b⟩:=Jy hp h2 i j off h;exact⟨a,by simp;omega⟩
  ·exact absurd he (h1 e)
 | ty::ts,.d x::gA,j0,bu,hp,hl,i,j,off,h=>by
  obtain⟨cG,hp⟩:=hp;rcases zfL hl with⟨e',ks,r,h1,h2,rfl⟩|⟨_,h2⟩
  ·exact absurd h1 (cG e')
  ·cases i with
   | zero=>simp at h
   | succ i=>simp only[Dr] at h;exact Jy hp h2 i j off h
 | [],_::_,_,_,h,_,_,_,_,_=>h.elim
 | _::_,[],_,_,h,_,_,_,_,_=>h.elim
def rG:∀{a b:List aA},(a.length=b.length/\∀(m:Nat)(x y:aA),a[m]?=some x->b[m]?=some y->x.length=y.length)->aV a=aV b->a=b
 | [],[],_,_=>rfl
 | x::a,y::b,h,he=>by
  obtain⟨h1,h2⟩:=h;simp only[aV] at he;obtain⟨e1,e2⟩:=List.append_inj he (h2 0 x y rfl rfl);rw[e1,rG ⟨by simpa using h1,λm u w hu hw=>h2 (m+1) u w (by simpa using hu) (by simpa using hw)⟩ e2]
 | [],_::_,h,_=>by simp at h
 | _::_,[],h,_=>by simp at h
def nX:∀{fp:List (aA×aq)}{out:List aA},CY fp out->out.length=fp.length/\∀(m:Nat)(x:aA×aq)(a:aA),fp[m]?=some x->out[m]?=some a->x.1.length=a.length
 | [],[],_=>⟨rfl,λm x a h=>by simp at h⟩
 | (c,t)::fp,o::out,h=>by
  obtain⟨h1,h2⟩:=nX h.2;refine⟨by simp[h1],λm x a hx ha=>?_⟩
  cases m with
  | zero=>simp only[Ba,aR] at hx ha;subst hx ha;exact h.1
  | succ m=>simp only[Dr] at hx ha;exact h2 m x a hx ha
 | [],_::_,h=>h.elim
 | _::_,[],h=>h.elim
def sY:∀(fp:List (aA×aq))(bs:List br),xw ⟨bs++fp.map (λx=>br.cells x.1 x.2),[]⟩ (List.range' bs.length fp.length) fp
 | [],_=>trivial
 | (c,t)::fp,bs=>by
  refine⟨by simp[Hp.get,zV],?_⟩
  have:=sY fp (bs++[.cells c t]);simpa using this
def zl0(he:Env P gl ph){f:FuncId}(hk:∀args,gl.hk f args=none){hs:List (Nat×JS)}{fn:Func}{bu:List (aq×List CK)}(h:z_ P hs f=some t)(p9:P.funcs[f]?=some fn)(l6:yR P fn.params.toList=some bu){gA:List AV}{fp:List (aA×aq)}
  (hp:vG P fn.params.toList gA 0) (hf:CZ bu fp) (cS:∀x,AV.d x∈gA->x.top=0) {v:V} {out:List aA} (gp:CY fp out) (hq:cw ph gl N t (xH gA fp)=some (0,v::aV out)):Ev P gl f gA fp v out:=by
 simp only[z_,p9,l6] at h;split at h
 ·rename_i body l iP hl;cases hl;obtain⟨f1,f2,f3,f4⟩:=tK hf;have oN:fn.params.toList.length=gA.length:=iE.tJ hp;have M0:aI (xH gA fp)=0:=by
   unfold xH
   rw[ko,f3,O4 (l:=gA.map pU) λv hv=>by
    obtain⟨a,ha,rfl⟩:=ni.1 hv;cases a with
    | d x=>exact cS x ha
    | p _ _=>rfl]
   rfl
  have key:∀(θ:bR)(bs:List br)(es:bk),θ.Nodup->xw ⟨bs,es⟩ θ fp->v.top=0/\aI (aV out)=0/\∃k,∀n,k<=n->qt P gl n f (gA.map (vf θ)) ⟨bs,es⟩=some (.ret v,yX ⟨bs,es⟩ θ fp out):=by
   intro θ bs es hn hL;obtain⟨l1,l2⟩:=VN hL;simp only at l2;have tH:∀a,a<θ.length->θ[a]?=some (pd θ a):=λa ha=>by
    simp[pd,zV,ha]
   have o8:Rel bs.length bs (xH gA fp) θ ⟨[],fW bu 0 fn.params.toList.length,bu.length,List.replicate (fn.params.toList.length+(m9 bu).length) .raw,[],[],bu.length⟩ ⟨[],⟨bs,[]⟩,[],[]⟩:=by
    have hB:∀(y:aA) a cs ty,kN a (fW bu 0 fn.params.toList.length)=some (cs,ty)->Hp.get ⟨bs,[]⟩ (pd θ a)=some (.cells (qk (xH gA fp++y) [] cs) ty)/\(∀pa,qk (xH gA fp++y) pa cs=qk (xH gA fp++y) [] cs)/\a<0+bu.length:=λy a cs ty hh =>
     zbj (x:=gA.map pU) (y:=y) (th:=θ) (H:=⟨bs,[]⟩) hf (zaJ hL) (λm b hm=>by rw[cK];have:=tH m (eE.1 hm).1;rw[this] at hm;exact ur hm) (by simp[oN]) a cs ty hh
    refine⟨λaD aE e1 e2=>⟨λi sv v hi=>by simp[nth] at hi,λa cs ty hh=>?_,λi k hi=>?_,λt ht=>by simp at ht⟩,rfl,by simp only[l1,f1],?_,?_,?_,?_,M0,λe hh=>by simp at hh,λb _ _=>rfl,ek _,rfl,λa off hh=>by simp[v9,xo] at hh,λa x hh=>?_,λa off hh=>by simp[v9,xo] at hh,ek _⟩
    ·obtain⟨y,rfl⟩:=e1;obtain⟨g1,g2,g3⟩:=hB y a cs ty hh;rw[kc e2 (by omega),g2 aE]
     exact g1
    ·rw[zV,Ki] at hi;split at hi
     ·cases hi;rfl
     ·cases hi
    ·intro a a' ha tC hh;have g1:=tH a (by simp only at ha;omega)
     have g2:=tH a' (by simp only at tC;omega)
     rw[hh] at g1;exact(List.getElem?_inj (by simp only at ha;omega) hn).1 (g1.trans g2.symm)
    ·intro a h1 h2;simp only at h1 h2;omega
    ·intro a ha;simp only at ha;exact l2 _ (nF (tH a (by omega)))
    ·simp[xH,oN,f2]
    ·obtain⟨_,_,g3⟩:=hB [] a x.1 x.2 hh;simpa using g3
   obtain⟨ks1,t1,k1,k2,k3,k4⟩:=zfI h o8 (by simp) hq
   simp only[LI] at k1
   obtain⟨ks2,lJ,BS,t2,p0,p1,p2,p3,p4,p5⟩:=iE (gA:=gA) k2 hp k4 (by simp only[k1];omega) (λm av hm=>by
    rw[cK,xp];unfold xH;rw[mz (by simpa using (eE.1 hm).1)]
    simp[hm]) k3
   simp only[cq] at p1;have mZ:Rel bs.length bs BS θ ⟨lJ++List.replicate (fn.ntmps - lJ.length) pR,fW bu 0 fn.params.toList.length,bu.length,ks2,[],[],bu.length⟩ ⟨gA.map (vf θ)++List.replicate (fn.ntmps - (gA.map (vf θ)).length) (.bz []),⟨bs,[]⟩,[],[]⟩:=by
    refine⟨λaD aE e1 e2=>⟨λi sv w hi hw=>?_,(p4.ext aD aE e1 e2).aj,(p4.ext aD aE e1 e2).ks,(p4.ext aD aE e1 e2).as⟩,by simp[p0],p4.na,p4.inj,p4.lo,p4.hi,p4.kl,p4.top,p4.DU,p4.base,p4.sH,rfl,p4.lk,p4.bn,p4.ln,p4.nf⟩
    rw[zV] at hi ⊢
    by_cases bD:i<lJ.length
    ·rw[mz bD] at hi;rw[mz (by simp;omega)]
     obtain⟨av,g1,g2⟩:=p5 aD aE e1 e2 i sv hi;rw[g2] at hw;cases hw;simp only[mS,g1,bG,aR];cases av with
     | d x=>rfl
     | p j off =>
      obtain⟨g3,g4⟩:=Jy hp l6 i j off g1;simp only[vf];rw[kc e2 (by omega)]
    ·rw[oe (by omega),Ki] at hi
     rw[oe (by simp;omega),Ki]
     split at hi
     ·cases hi;cases hw;rename_i pS;simp only[eF,p0] at pS ⊢;simp[pS,qq,bB]
     ·cases hi
   obtain⟨e,dw,bp,bU,t',s',c1,c2,c3,c4,c5,k0,c6⟩:=wJ he body 1 _ _ t2 BS θ _ _ p1 mZ p2;have iX:KO P bu fn.results.toList dw=some t'/\(e=.normal\/e=.ret):=by
    cases e with
    | normal=>exact⟨c1,.inl rfl⟩
    | ret=>exact⟨c1,.inr rfl⟩
    | exit i=>cases c1
   obtain⟨v',AK,vs,Il,w1,w2,w3,w4,w5,w6,w7⟩:=zlZ c5 iX.1 c2;simp only[List.cons.injEq] at w1;obtain⟨rfl,w1⟩:=w1;have lH:out=AK:=by
    refine rG ?_ w1;have g1:=nX gp;refine⟨by rw[g1.1,w6,f1],λm a b ha hb=>?_⟩
    obtain⟨x,hx⟩:∃x,fp[m]?=some x:=by
     have:=(eE.1 ha).1;exact⟨fp[m]'(by rw[<- g1.1];exact this),by simp⟩
    obtain⟨y,hy⟩:∃y,bu[m]?=some y:=by
     have:=(eE.1 ha).1;exact⟨bu[m]'(by rw[f1,<- g1.1];exact this),by simp⟩
    have h1:=g1.2 m x a hx ha;obtain⟨Aw,h2,h3⟩:=f4 m y.1 y.2 hy;obtain⟨ws,h4,h5,_⟩:=w7 m y.1 y.2 hy;rw[hx] at h2;cases h2;rw[hb] at h4;cases h4;simp only at h1;omega
   subst lH;refine⟨w4,w5,k0+1,λn hn'=>?_⟩;obtain⟨n,rfl⟩:∃n',n=n'+1:=⟨n - 1,by omega⟩
   obtain⟨dy,⟨sj,ux⟩,oh,Cs⟩:=s';have Gn:Cs=[]:=c5.df;refine yB (hk _) (mw.Rc _ _ _) p9 iP ⟨mo e,_,by rw[oZ];exact c6 n (by omega),?_⟩
   have GP:jl bs.length es (iI vs).top ⟨sj,ux⟩=yX ⟨bs,es⟩ θ fp out:=by
    rw[w3,w4];have LZ:ux.all (λe=>Nat.ble bs.length e.1 || Nat.ble e.2 bs.length)=true:=by
     rw[Fc];intro x hx;have:=c5.DU x hx;simp[Kj this]
    have hef:ux.filter (λe=>Nat.blt e.1 bs.length)=[]:=by
     rw[List.filter_eq_nil_iff];intro x hx;have:=c5.DU x hx;simp only[Ep];omega
    obtain⟨q1,q2,q3,q4⟩:=nW (H:=⟨bs,es⟩) (out:=out) hn l1 (by rw[w6,f1]) l2
    simp only at q1 q2;have lz:(yX ⟨bs,es⟩ θ fp out).aj=sj.take bs.length:=by
     apply Dt;intro b;rw[um];split
     ·rename_i hb
      by_cases hm:b∈θ
      ·obtain⟨m,I9,DL⟩:=List.mem_iff_getElem.1 hm;have Gg:m<bu.length:=by omega
       obtain⟨Aw,h2,h3⟩:=f4 m _ _ (show bu[m]?=some (bu[m].1,bu[m].2) by simp[Gg])
       obtain⟨ws,h4,h5,h6⟩:=w7 m _ _ (show bu[m]?=some (bu[m].1,bu[m].2) by simp[Gg])
       have g1:=q3 m b ws Aw bu[m].1 (by simp[I9,DL]) h4 h2
       have g2:pd bU m=b:=by
        rw[kc c4 (by omega)]
        have:=tH m (by omega)
        rw[mq I9,DL] at this;exact(ur this).symm
       rw[g2] at h6;simp only[Hp.get,zV] at g1 h6;rw[g1,h6]
      ·have g1:=q4 b hm;simp only[Hp.get,zV] at g1;rw[g1];refine(c5.base b hb λa ha hh=>?_).symm;rw[Il] at ha;rw[kc c4 (by omega)] at hh
       exact hm (hh ▸ nF (tH a (by omega)))
     next hb=>exact uj (by rw[q2];omega)
    have:yX ⟨bs,es⟩ θ fp out=⟨sj.take bs.length,es⟩:=by
     rw[<- lz];cases Se:yX ⟨bs,es⟩ θ fp out;rw[Se] at q1;simp only at q1;rw[q1]
    rw[this];simp only[jl,LZ,hef,cq];simp
   rcases iX.2 with rfl|rfl<;>exact⟨Gn,vs,w2,by rw[w3],GP.symm⟩
  obtain⟨a1,a2,_⟩:=key _ _ _ (List.nodup_range') (sY fp []);exact⟨a1,a2,gp,λθ H hn hL=>(key θ H.aj H.aW hn hL).2.2⟩
 ·cases h
end
section
set_option linter.unusedSectionVars false
variable{P:aM}{gl:Gl}
variable [mw gl]
def zjy{m n i:Nat}(h:i<n):(List.range' m n)[i]?=some (m+i):=by
 simp[h]
def Ev.det{f:FuncId}{gA:List AV}{fp:List (aA×aq)}{v v':V}{out AK:List aA}(h:Ev P gl f gA fp v out)(h':Ev P gl f gA fp v' AK):v=v'/\out=AK:=by
 obtain⟨_,_,s1,h⟩:=h;obtain⟨_,_,s2,h'⟩:=h';have hn:=List.nodup_range' (s:=0) (n:=fp.length) (step:=1);have hL:xw ⟨[]++fp.map (λx=>br.cells x.1 x.2),[]⟩ (List.range' 0 fp.length) fp:=sY fp [];obtain⟨k,h⟩:=h _ _ hn hL;obtain⟨k',h'⟩:=h' _ _ hn hL;have e1:=h (max k k') (by omega)
 have e2:=h' (max k k') (by omega)
 rw[e1] at e2;simp only[aR,bS,Out.ret.injEq] at e2;refine⟨e2.1,?_⟩;obtain⟨l1,l2⟩:=VN hL;obtain⟨g1,g2⟩:=nX s1;obtain⟨g3,g4⟩:=nX s2;obtain⟨_,_,p1,_⟩:=nW (out:=out) hn l1 g1 l2;obtain⟨_,_,q1,_⟩:=nW (out:=AK) hn l1 g3 l2;apply Dt;intro m
 by_cases hm:m<fp.length
 ·have hb:(List.range' 0 fp.length)[m]?=some (0+m):=zjy hm;have ho:out[m]?=some (out[m]'(by omega)):=by simp[g1,hm]
  have Im:AK[m]?=some (AK[m]'(by omega)):=by simp[g3,hm]
  have hf:fp[m]?=some ((fp[m]'hm).1,(fp[m]'hm).2):=by simp[hm]
  have a:=p1 m _ _ _ _ hb ho hf;have b:=q1 m _ _ _ _ hb Im hf;rw[e2.2,b] at a;simp only[aR,br.cells.injEq,Bt] at a;rw[ho,Im,a]
 ·rw[uj (by omega),uj (by omega)]
open Classical in
noncomputable def sA(P:aM)(gl:Gl):PH:=λf gA fp =>
 if h:∃p:V×List aA,Ev P gl f gA fp p.1 p.2 then some (Classical.choose h) else none
def M3:RO P gl (sA P gl):=by
 intro f gA fp v out h;unfold sA at h;split at h
 next hex=>have:=Classical.choose_spec hex;have e:=ur h;rw[e] at this;exact this
 ·cases h
def ke{f:FuncId}{gA:List AV}{fp:List (aA×aq)}{v:V}{out:List aA}(h:Ev P gl f gA fp v out):sA P gl f gA fp=some (v,out):=by
 unfold sA;have hex:∃p:V×List aA,Ev P gl f gA fp p.1 p.2:=⟨(v,out),h⟩;rw[dif_pos hex];obtain⟨e1,e2⟩:=(Classical.choose_spec hex).det h
 congr 1
 exact Prod.ext e1 e2
def zkS(ez:∀g off v,gl g off=some v->v.top=0):Env P gl (sA P gl):=⟨ez,M3⟩
def kR(ez:∀g off v,gl g off=some v->v.top=0){hs:List (Nat×JS)}{f:FuncId}(hk:∀args,gl.hk f args=none){fn:Func}{t:Tree}(h:z_ P hs f=some t)(p9:P.funcs[f]?=some fn)(l6:yR P fn.params.toList=some []){xs:aA}
  (hp:vG P fn.params.toList (xs.map .d) 0) (cS:aI xs=0) {v:V} (N:Nat) (hq:cw (sA P gl) gl N t xs=some (0,[v])):Ev P gl f (xs.map .d) [] v []:=by
 refine zl0 (N:=N) (zkS ez) hk h p9 l6 hp (fp:=[]) trivial (λx hx=>?_) (v:=v) (out:=[]) trivial ?_
 ·simp only[ni,AV.d.injEq,exists_eq_right] at hx;exact yC hx cS
 ·have:xH (xs.map AV.d) []=xs:=by simp[xH,k_,pU,Function.comp_def]
  rw[this];exact hq
def Ev.run{f:FuncId}{xs:aA}{v:V}(h:Ev P gl f (xs.map .d) [] v [])(H:Hp):∃k,∀n,k<=n->qt P gl n f xs H=some (.ret v,H):=by
 obtain⟨_,_,_,h⟩:=h;obtain⟨k,h⟩:=h [] H (by simp) trivial
 refine⟨k,λn hn=>?_⟩;have:=h n hn;simpa[vf,Function.comp_def,yX] using this
def Ev.M4{f:FuncId}{xs:aA}{v:V}(ht:v.top=0)(h:∀H,∃k,∀n,k<=n->qt P gl n f xs H=some (.ret v,H)):Ev P gl f (xs.map .d) [] v []:=by
 refine⟨ht,rfl,trivial,λθ H _ hL=>?_⟩;cases θ with
 | nil =>
  obtain⟨k,h⟩:=h H;refine⟨k,λn hn=>?_⟩;have:=h n hn;simpa[vf,Function.comp_def,yX] using this
 | cons=>exact hL.elim
def Ev.EN{f:FuncId}{xs:aA}{v:V}(hk:gl.hk f xs=some v)(ht:v.top=0):Ev P gl f (xs.map .d) [] v [] :=
 Ev.M4 ht λH=>⟨1,λn hn=>by
  obtain⟨m,rfl⟩:∃m,n=m+1:=⟨n - 1,by omega⟩
  obtain⟨bs,es⟩:=H
  simp only[qt,hk]⟩
end
section
set_option linter.unusedSectionVars false
variable{P:aM}{gl:Gl}{ph:PH}{N:Nat}{t:Tree}
variable [mw gl]
def sJ:Nat->Nat->List AV
 | _,0=>[]
 | j,n+1=>.p j 0::sJ (j+1) n
def BT:∀(j n:Nat),(sJ j n).length=n
 | _,0=>rfl
 | j,n+1=>by simp[sJ,BT (j+1) n]
def nY:∀(j n:Nat),(AF j n).length=n
 | _,0=>rfl
 | j,n+1=>by simp[AF,nY (j+1) n]
def zoQ{x:V}:∀{j n:Nat},AV.d x∈sJ j n->False
 | _,0,h=>by simp[sJ] at h
 | j,n+1,h=>by
  simp only[sJ,dh,reduceCtorEq,false_or] at h;exact zoQ h
def BU:∀{j n i:Nat},i<n->(sJ j n)[i]?=some (.p (j+i) 0)
 | j,n+1,0,_=>rfl
 | j,n+1,i+1,h=>by
  simp only[sJ,Dr];rw[BU (by omega)]
  congr 2;omega
def BV:∀{j n i:Nat},i<n->(AF j n)[i]?=some (.val (.one (.p (j+i) 0)))
 | j,n+1,0,_=>rfl
 | j,n+1,i+1,h=>by
  simp only[AF,Dr];rw[BV (by omega)]
  congr 4;omega
def Ac:∀{l:List aq}{r:List (aq×List CK)},O1 P l=some r->r.length=l.length
 | [],r,h=>by cases h;rfl
 | e::es,r,h=>by
  simp only[O1] at h;split at h
  next ks r' h1 h2=>cases h;simp[Ac h2]
  ·cases h
def zoR(he:Env P gl ph){f:FuncId}(hk:∀args,gl.hk f args=none){hs:List (Nat×JS)}{lT:List aq}{fn:Func}{lp lc:List (aq×List CK)}(h:Zl P hs f lT=some t)(p9:P.funcs[f]?=some fn)(l6:yR P fn.params.toList=some lp)(uW:O1 P lT=some lc){gA:List AV}{fp:List (aA×aq)}
  (hp:vG P fn.params.toList gA 0) (hf:CZ (lp++lc) fp) (cS:∀x,AV.d x∈gA->x.top=0) {v:V} {out:List aA} (gp:CY fp out) (hq:cw ph gl N t (xH (gA++sJ lp.length lT.length) fp)=some (0,v::aV out)):Ev P gl f (gA++sJ lp.length lT.length) fp v out:=by
 simp only[Zl,p9,l6,uW] at h;split at h
 ·rename_i body l l2 iP hl Bz;cases hl;cases Bz;have aai:=Ac uW;obtain⟨bu,GQ⟩:∃l,l=lp++lc:=⟨_,rfl⟩;obtain⟨sK,EO⟩:∃l,l=gA++sJ lp.length lT.length:=⟨_,rfl⟩;have Oy:=BT lp.length lT.length;rw[<- GQ] at hf h;rw[<- EO] at hq ⊢;have BW:sK.length=gA.length+lT.length:=by rw[EO];simp[Oy]
  have hll:bu.length=lp.length+lT.length:=by rw[GQ];simp[aai]
  obtain⟨f1,f2,f3,f4⟩:=tK hf;have oN:fn.params.toList.length=gA.length:=iE.tJ hp;have M0:aI (xH sK fp)=0:=by
   unfold xH
   rw[ko,f3,O4 (l:=sK.map pU) λv hv=>by
    obtain⟨a,ha,rfl⟩:=ni.1 hv;cases a with
    | d x=>rw[EO,uo] at ha;exact ha.elim (cS x) λha=>(zoQ ha).elim
    | p _ _=>rfl]
   rfl
  have key:∀(θ:bR)(bs:List br)(es:bk),θ.Nodup->xw ⟨bs,es⟩ θ fp->v.top=0/\aI (aV out)=0/\∃k,∀n,k<=n->qt P gl n f (sK.map (vf θ)) ⟨bs,es⟩=some (.ret v,yX ⟨bs,es⟩ θ fp out):=by
   intro θ bs es hn hL;obtain⟨l1,l2⟩:=VN hL;simp only at l2;have tH:∀a,a<θ.length->θ[a]?=some (pd θ a):=λa ha=>by
    simp[pd,zV,ha]
   have o8:Rel bs.length bs (xH sK fp) θ ⟨[],fW bu 0 (fn.params.toList.length+lT.length),bu.length,List.replicate (fn.params.toList.length+lT.length+(m9 bu).length) .raw,[],[],bu.length⟩ ⟨[],⟨bs,[]⟩,[],[]⟩:=by
    have hB:∀(y:aA) a cs ty,kN a (fW bu 0 (fn.params.toList.length+lT.length))=some (cs,ty)->Hp.get ⟨bs,[]⟩ (pd θ a)=some (.cells (qk (xH sK fp++y) [] cs) ty)/\(∀pa,qk (xH sK fp++y) pa cs=qk (xH sK fp++y) [] cs)/\a<0+bu.length:=λy a cs ty hh =>
     zbj (x:=sK.map pU) (y:=y) (th:=θ) (H:=⟨bs,[]⟩) hf (zaJ hL) (λm b hm=>by rw[cK];have:=tH m (eE.1 hm).1;rw[this] at hm;exact ur hm) (by simp[oN,BW]) a cs ty hh
    refine⟨λaD aE e1 e2=>⟨λi sv v hi=>by simp[nth] at hi,λa cs ty hh=>?_,λi k hi=>?_,λt ht=>by simp at ht⟩,rfl,by simp only[l1,f1],?_,?_,?_,?_,M0,λe hh=>by simp at hh,λb _ _=>rfl,ek _,rfl,λa off hh=>by simp[v9,xo] at hh,λa x hh=>?_,λa off hh=>by simp[v9,xo] at hh,ek _⟩
    ·obtain⟨y,rfl⟩:=e1;obtain⟨g1,g2,g3⟩:=hB y a cs ty hh;rw[kc e2 (by omega),g2 aE]
     exact g1
    ·rw[zV,Ki] at hi;split at hi
     ·cases hi;rfl
     ·cases hi
    ·intro a a' ha tC hh;have g1:=tH a (by simp only at ha;omega)
     have g2:=tH a' (by simp only at tC;omega)
     rw[hh] at g1;exact(List.getElem?_inj (by simp only at ha;omega) hn).1 (g1.trans g2.symm)
    ·intro a h1 h2;simp only at h1 h2;omega
    ·intro a ha;simp only at ha;exact l2 _ (nF (tH a (by omega)))
    ·simp[xH,oN,f2,BW]
    ·obtain⟨_,_,g3⟩:=hB [] a x.1 x.2 hh;simpa using g3
   obtain⟨ks1,t1,k1,k2,k3,k4⟩:=zfI h o8 (by simp) hq
   simp only[LI] at k1
   obtain⟨ks2,lJ,BS,t2,p0,p1,p2,p3,p4,p5⟩:=iE (gA:=gA) k2 hp k4 (by simp only[k1];omega) (λm av hm=>by
    rw[cK,xp];unfold xH;have Gg:=(eE.1 hm).1;rw[mz (by simp[BW];omega),mS,EO,mz Gg]
    simp[hm]) k3
   simp only[cq] at p1;have mZ:Rel bs.length bs BS θ ⟨(lJ++AF lp.length lT.length)++List.replicate (fn.ntmps - (lJ++AF lp.length lT.length).length) pR,fW bu 0 (fn.params.toList.length+lT.length),bu.length,ks2,[],[],bu.length⟩ ⟨sK.map (vf θ)++List.replicate (fn.ntmps - (sK.map (vf θ)).length) (.bz []),⟨bs,[]⟩,[],[]⟩:=by
    refine⟨λaD aE e1 e2=>⟨λi sv w hi hw=>?_,(p4.ext aD aE e1 e2).aj,(p4.ext aD aE e1 e2).ks,(p4.ext aD aE e1 e2).as⟩,by simp only[bY,eF,LI,nY,p0,BW],p4.na,p4.inj,p4.lo,p4.hi,p4.kl,p4.top,p4.DU,p4.base,p4.sH,rfl,p4.lk,p4.bn,p4.ln,p4.nf⟩
    rw[zV] at hi ⊢
    by_cases bD:i<lJ.length
    ·rw[b_,mz bD] at hi;rw[mz (by simp;omega)]
     obtain⟨av,g1,g2⟩:=p5 aD aE e1 e2 i sv hi;rw[g2] at hw;cases hw;have g1':sK[i]?=some av:=by rw[EO,mz (by omega)];exact g1
     simp only[mS,g1',bG,aR];cases av with
     | d x=>rfl
     | p j off =>
      obtain⟨g3,g4⟩:=Jy hp l6 i j off g1;simp only[vf];rw[kc e2 (by omega)]
    by_cases pS:i<lJ.length+lT.length
    ·rw[mz (by simp[nY];omega),oe (by omega),BV (by omega)] at hi
     cases hi;rw[mz (by simp;omega),mS,EO,oe (by omega),BU (by omega)]
     simp only[bG,aR,vf];simp only[kK,qq,bB,aR] at hw;rw[<- hw,kc e2 (by omega),p0]
    ·rw[oe (by simp[nY];omega),Ki] at hi
     rw[oe (by simp;omega),Ki]
     split at hi
     ·cases hi;cases hw;rename_i pS;simp only[eF,bY,nY,p0] at pS ⊢;simp[pS,BW,qq,bB]
     ·cases hi
   obtain⟨e,dw,bp,bU,t',s',c1,c2,c3,c4,c5,k0,c6⟩:=wJ he body 1 _ _ t2 BS θ _ _ p1 mZ p2;have iX:KO P bu fn.results.toList dw=some t'/\(e=.normal\/e=.ret):=by
    cases e with
    | normal=>exact⟨c1,.inl rfl⟩
    | ret=>exact⟨c1,.inr rfl⟩
    | exit i=>cases c1
   obtain⟨v',AK,vs,Il,w1,w2,w3,w4,w5,w6,w7⟩:=zlZ c5 iX.1 c2;simp only[List.cons.injEq] at w1;obtain⟨rfl,w1⟩:=w1;have lH:out=AK:=by
    refine rG ?_ w1;have g1:=nX gp;refine⟨by rw[g1.1,w6,f1],λm a b ha hb=>?_⟩
    obtain⟨x,hx⟩:∃x,fp[m]?=some x:=by
     have:=(eE.1 ha).1;exact⟨fp[m]'(by rw[<- g1.1];exact this),by simp⟩
    obtain⟨y,hy⟩:∃y,bu[m]?=some y:=by
     have:=(eE.1 ha).1;exact⟨bu[m]'(by rw[f1,<- g1.1];exact this),by simp⟩
    have h1:=g1.2 m x a hx ha;obtain⟨Aw,h2,h3⟩:=f4 m y.1 y.2 hy;obtain⟨ws,h4,h5,_⟩:=w7 m y.1 y.2 hy;rw[hx] at h2;cases h2;rw[hb] at h4;cases h4;simp only at h1;omega
   subst lH;refine⟨w4,w5,k0+1,λn hn'=>?_⟩;obtain⟨n,rfl⟩:∃n',n=n'+1:=⟨n - 1,by omega⟩
   obtain⟨dy,⟨sj,ux⟩,oh,Cs⟩:=s';have Gn:Cs=[]:=c5.df;refine yB (hk _) (mw.Rc _ _ _) p9 iP ⟨mo e,_,by rw[oZ];exact c6 n (by omega),?_⟩
   have GP:jl bs.length es (iI vs).top ⟨sj,ux⟩=yX ⟨bs,es⟩ θ fp out:=by
    rw[w3,w4];have LZ:ux.all (λe=>Nat.ble bs.length e.1 || Nat.ble e.2 bs.length)=true:=by
     rw[Fc];intro x hx;have:=c5.DU x hx;simp[Kj this]
    have hef:ux.filter (λe=>Nat.blt e.1 bs.length)=[]:=by
     rw[List.filter_eq_nil_iff];intro x hx;have:=c5.DU x hx;simp only[Ep];omega
    obtain⟨q1,q2,q3,q4⟩:=nW (H:=⟨bs,es⟩) (out:=out) hn l1 (by rw[w6,f1]) l2
    simp only at q1 q2;have lz:(yX ⟨bs,es⟩ θ fp out).aj=sj.take bs.length:=by
     apply Dt;intro b;rw[um];split
     ·rename_i hb
      by_cases hm:b∈θ
      ·obtain⟨m,I9,DL⟩:=List.mem_iff_getElem.1 hm;have Gg:m<bu.length:=by omega
       obtain⟨Aw,h2,h3⟩:=f4 m _ _ (show bu[m]?=some (bu[m].1,bu[m].2) by simp[Gg])
       obtain⟨ws,h4,h5,h6⟩:=w7 m _ _ (show bu[m]?=some (bu[m].1,bu[m].2) by simp[Gg])
       have g1:=q3 m b ws Aw bu[m].1 (by simp[I9,DL]) h4 h2
       have g2:pd bU m=b:=by
        rw[kc c4 (by omega)]
        have:=tH m (by omega)
        rw[mq I9,DL] at this;exact(ur this).symm
       rw[g2] at h6;simp only[Hp.get,zV] at g1 h6;rw[g1,h6]
      ·have g1:=q4 b hm;simp only[Hp.get,zV] at g1;rw[g1];refine(c5.base b hb λa ha hh=>?_).symm;rw[Il] at ha;rw[kc c4 (by omega)] at hh
       exact hm (hh ▸ nF (tH a (by omega)))
     next hb=>exact uj (by rw[q2];omega)
    have:yX ⟨bs,es⟩ θ fp out=⟨sj.take bs.length,es⟩:=by
     rw[<- lz];cases Se:yX ⟨bs,es⟩ θ fp out;rw[Se] at q1;simp only at q1;rw[q1]
    rw[this];simp only[jl,LZ,hef,cq];simp
   rcases iX.2 with rfl|rfl<;>exact⟨Gn,vs,w2,by rw[w3],GP.symm⟩
  obtain⟨a1,a2,_⟩:=key _ _ _ (List.nodup_range') (sY fp []);exact⟨a1,a2,gp,λθ H hn hL=>(key θ H.aj H.aW hn hL).2.2⟩
 ·cases h
end
section
def jG(v:V)(ρ:aA):at' (v::ρ) 0=v:=rfl
def jH(v:V)(ρ:aA)(n:Nat):at' (v::ρ) (n+1)=at' ρ n:=rfl
def zoS{α:Type}{step:α->Option (Nat×α)}{st:Nat->α}{m j:Nat}{r:α}(hs:∀i,i<m->step (st i)=some (0,st (i+1)))(he:step (st m)=some (j+1,r)):∀{N:Nat},m<N->FA step N (st 0)=some (j,r):=by
 have key:∀k i N,i+k=m->k<N->FA step N (st i)=some (j,r):=by
  intro k
  induction k with
  | zero =>
   intro i N hi hN;obtain rfl:i=m:=by omega
   cases N with
   | zero=>omega
   | succ N=>simp only[FA,he]
  | succ k ih =>
   intro i N hi hN;cases N with
   | zero=>omega
   | succ N =>
    simp only[FA,hs i (by omega)]
    exact ih (i+1) N (by omega) (by omega)
 intro N hN;exact key m 0 N (by omega) hN
def qo(v:V)(a b:aA):(v::a)++b=v::(a++b):=rfl
def qy(b:aA):([]:aA)++b=b:=rfl
def jd{α:Type}(a b:α):(bif true then a else b)=a:=rfl
def je{α:Type}(a b:α):(bif false then a else b)=b:=rfl
def gx(x y:Int):Bool:=decide (x<y)
def EP(x y:Int):Bool:=decide (x<=y)
def qN(x y:Int):BM .lss x y=gx x y:=rfl
def qO(x y:Int):BM .leq x y=EP x y:=rfl
def qP(x y:Int):BM .gtr x y=gx y x:=rfl
def qQ(x y:Int):BM .geq x y=EP y x:=rfl
def qR(x y:Int):BM .eql x y=(x == y):=rfl
def qS(x y:Int):BM .neq x y=(x != y):=rfl
def ER{x y:Int}(h:x<y):gx x y=true:=decide_eq_true h
def Io{x y:Int}(h:y<=x):gx x y=false:=decide_eq_false (by omega)
def Sf{x y:Int}:gx x y=true ↔ x<y:=decide_eq_true_iff
def K6{i n:Nat}(h:i<n):gx (i:Int) (n:Int)=true:=ER (by omega)
def K7{i n:Nat}(h:n<=i):gx (i:Int) (n:Int)=false:=Io (by omega)
def jb{i:Nat}:gx (i:Int) 0=false:=Io (by omega)
def jI(k:IntKind)(n:Int):fh (.int k) (.int k n)=true:=by simp[fh]
def jJ(s:bR):fh .str (.str s)=true:=by simp[fh]
def jf(b:Bool):fh .bool (.bool b)=true:=by simp[fh]
def f_(z:Nat)(l:aA):fh (.sl z) (.sl z l .no)=true:=by simp[fh,locked]
def jK(z:Nat):fh (.sl z) .aJ=true:=by simp[fh]
def jL(z:Nat)(l:aA)(e:aq):fh (.sl z) (.sl z l (.yes e))=true:=by simp[fh,locked]
def aX:lB [] []=true:=by simp[lB]
def qz(k:CK)(ks:List CK)(v:V)(vs:aA):lB (k::ks) (v::vs)=(fh k v && lB ks vs):=rfl
def qT(k:IntKind)(n:Int):vI (.int k n)=n:=by simp[vI]
def qA(b:Bool):vB (.bool b)=b:=by simp[vB]
def qU(s:bR):vS (.str s)=s:=by simp[vS]
def jg(z:Nat)(l:aA)(o:Own):vL (.sl z l o)=l:=by simp[vL]
def aY:vL .aJ=[]:=by simp[vL]
section
variable{pc:FuncId->List AV->List (aA×aq)->Option (V×List aA)}{gl:Nat->Nat->cP}{N:Nat}{ρ:aA}{t a b body:Tree}{c:TB}{i:Nat}{ks:List CK}
def Jz(pc:FuncId->List AV->List (aA×aq)->Option (V×List aA))(gl:Nat->Nat->cP)(N:Nat)(body:Tree)(ρ uH:aA):Option (Nat×aA):=FA (λvs=>cw pc gl N body (ρ++vs)) N uH
def qB(uH:List C):cw pc gl N (.loop uH body) ρ=Jz pc gl N body ρ (qk ρ [] uH):=rfl
def Sh{st:Nat->aA}{m j:Nat}{r:aA}(hs:∀i,i<m->cw pc gl N body (ρ++st i)=some (0,st (i+1)))(he:cw pc gl N body (ρ++st m)=some (j+1,r))(hN:m<N):Jz pc gl N body ρ (st 0)=some (j,r):=zoS hs he hN
def K8(pc:FuncId->List AV->List (aA×aq)->Option (V×List aA))(gl:Nat->Nat->cP)(N:Nat)(body:Tree)(ρ:aA)(k:Nat)(uH:aA):Option (Nat×aA):=FA (λvs=>cw pc gl N body (ρ++vs)) k uH
def zh5{uH:aA}{x:Option (Nat×aA)}(h:K8 pc gl N body ρ N uH=x):Jz pc gl N body ρ uH=x:=h
def zfM{uH vs:aA}{k:Nat}{x:Option (Nat×aA)}(h:cw pc gl N body (ρ++uH)=some (0,vs))(hx:K8 pc gl N body ρ k vs=x):K8 pc gl N body ρ (k+1) uH=x:=by
 subst hx;simp only[K8,FA,h]
def y7{uH vs:aA}{k j:Nat}(h:cw pc gl N body (ρ++uH)=some (j+1,vs)):K8 pc gl N body ρ (k+1) uH=some (j,vs):=by
 simp only[K8,FA,h]
def jM(h:bt ρ c=true):cw pc gl N (.ite c a b) ρ=cw pc gl N a ρ:=by simp[cw,h]
def jN(h:bt ρ c=false):cw pc gl N (.ite c a b) ρ=cw pc gl N b ρ:=by simp[cw,h]
def qC(h:bt ρ c=true):cw pc gl N (.ny c t) ρ=cw pc gl N t ρ:=by simp[cw,h]
def qV(vs:List C):cw pc gl N (.out vs) ρ=some (0,qk ρ [] vs):=rfl
def aZ:cw pc gl N (.oR t) ρ=match cw pc gl N t ρ with|some (j,vs)=>some (j+1,vs)|none=>none:=rfl
def qD(e:VE):cw pc gl N (.dg e t) ρ=cw pc gl N t (ρ++[jp ρ e]):=rfl
def qE(l:TL)(i:TI):cw pc gl N (.elem l i t) ρ=bif gx (bL ρ i) 0 then none else match nth (cj ρ l) (bL ρ i).toNat with|some v=>cw pc gl N t (ρ++[v])|none=>none:=by
 rw[cw,cond_eq_ite]
 by_cases h:bL ρ i<0
 ·simp[gx,h]
 ·simp only[gx,h,bZ,decide_false,dF];rfl
def qW(cs:List C)(i:TI):cw pc gl N (.Y9 cs i t) ρ=bif gx (bL ρ i) 0 then none else match nth (qk ρ [] cs) (bL ρ i).toNat with|some v=>cw pc gl N t (ρ++[v])|none=>none:=by
 rw[cw,cond_eq_ite]
 by_cases h:bL ρ i<0
 ·simp[gx,h]
 ·simp only[gx,h,bZ,decide_false,dF];rfl
def a_:cw pc gl N (.uf i ks t) ρ=match at' ρ i with|.agg cs=>(bif lB ks cs then cw pc gl N t (ρ++cs) else none)|_=>none:=rfl
def bg:cw pc gl N (.MA i ks t) ρ=match at' ρ i with|.bz cs=>(bif lB ks cs then cw pc gl N t (ρ++cs) else none)|_=>none:=rfl
def qX{k:CK}(h:fh k (at' ρ i)=true):cw pc gl N (.gv i k t) ρ=cw pc gl N t ρ:=by simp[cw,h]
def qF(f:FuncId)(args:List AS)(bu:List (List C×aq)):cw pc gl N (.call f args bu ks t) ρ=match pc f (jq ρ args) (qK ρ bu) with|some (v,out)=>(bif aP bu out && lB ks (aV out) then cw pc gl N t (ρ++(v::aV out)) else none)|none=>none:=rfl
def qG(g off:Nat):cw pc gl N (.MB g off t) ρ=match gl g off with|some v=>cw pc gl N t (ρ++[v])|none=>none:=rfl
def qY(l:TL):cw pc gl N (.Y_ l t) ρ=match l_ (cj ρ l) with|some s=>cw pc gl N t (ρ++[.str s])|none=>none:=rfl
def bh:cw pc gl N (.bM body t) ρ=match cw pc gl N body ρ with|some (0,vs)=>cw pc gl N t (ρ++vs)|some (j+1,vs)=>some (j,vs)|none=>none:=rfl
end
def zgY{α:Type}{l r:List α}{i:Nat}{a:α}(h:l.drop i=a::r):l[i]?=some a/\i<l.length/\l.drop (i+1)=r:=by
 have h1:i<l.length:=by
  rcases lP i l.length with h1|h1
  ·exact h1
  ·rw[List.drop_eq_nil_of_le h1] at h;cases h
 rw[List.drop_eq_getElem_cons h1] at h;cases h;exact⟨by simp[h1],h1,rfl⟩
def zgZ{α:Type}{l:List α}{i:Nat}(h:l.drop i=[]):l.length<=i:=by simpa using h
def qH(a:aA):a++([]:aA)=a:=oZ a
end
section
def lv(sz:Nat)(nl:Bool)(l:aA):V:=if nl && l.isEmpty then .aJ else .sl sz l .no
def Pf(sz:Nat)(nl:Bool)(l:aA):lv sz nl l=.sl sz l .no\/(l=[]/\lv sz nl l=.aJ):=by
 unfold lv;split
 next h=>rw[cR] at h;exact .inr ⟨by simpa using h.2,rfl⟩
 ·exact .inl rfl
def Pg{sz:Nat}{nl:Bool}{l:aA}:aT (lv sz nl l)=lv sz nl l:=by
 rcases Pf sz nl l with h|⟨_,h⟩<;>rw[h]<;>rfl
def M5{sz:Nat}{nl:Bool}{l:aA}:(lv sz nl l).top=aI l:=by
 rcases Pf sz nl l with h|⟨hl,h⟩<;>rw[h]
 ·rfl
 ·rw[hl];rfl
def M6(sz:Nat)(nl:Bool)(l:aA):fh (.sl sz) (lv sz nl l)=true:=by
 rcases Pf sz nl l with h|⟨_,h⟩<;>rw[h]<;>simp[fh,locked]
def M7(sz:Nat)(nl:Bool)(l:aA):vL (lv sz nl l)=l:=by
 rcases Pf sz nl l with h|⟨h0,h⟩<;>rw[h]
 ·simp[vL]
 ·rw[h0];simp[vL]
def acc(sz:Nat)(e:aq)(l:aA):V:=match l with|[]=>.aJ|_=>.sl sz l (.yes e)
def Si(sz:Nat)(e:aq)(l:aA):fh (.sl sz) (acc sz e l)=true:=by cases l<;>simp[acc,fh,locked]
def Sj(sz:Nat)(e:aq)(l:aA):vL (acc sz e l)=l:=by cases l<;>simp[acc,vL]
def Sk(sz:Nat)(e:aq)(l:aA):UY e (acc sz e l)=true:=by cases l<;>simp[acc,UY]
def zh6(sz:Nat)(e:aq)(l:aA):aT (acc sz e l)=lv sz true l:=by cases l<;>simp[acc,aT,lv]
def zfP(sz:Nat)(e:aq)(l:aA)(a:V):V.sl sz (l++[a]) (.yes e)=acc sz e (l++[a]):=by cases l<;>simp[acc]
def eP{n b:Nat}(h1:n<=140737488355328)(h2:n * b<=140737488355328):kr n b=true:=by
 simp only[kr,cR];exact⟨Kj h1,Kj h2⟩
def JA{x:Int}(h1:-9223372036854775808<=x)(h2:x<=9223372036854775807):IntKind.i64.wrap x=x:=by
 simp only[IntKind.wrap,IntKind.bits,IntKind.signed];simp;omega
def Ph{i:Nat}(h:i<9223372036854775807):IntKind.i64.wrap ((i:Int)+1)=((i+1:Nat):Int):=by
 rw[JA (by omega) (by omega)];omega
def kS(ok:Nat->Bool):Nat->Bool
 | 0=>true
 | n+1=>kS ok n && ok n
def pV{ok:Nat->Bool}:∀{n:Nat},kS ok n=true ↔ ∀i,i<n->ok i=true
 | 0=>by simp[kS]
 | n+1=>by
  rw[kS,cR,pV];refine⟨λ⟨h1,h2⟩ i hi=>?_,λh=>⟨λi hi=>h i (by omega),h n (by omega)⟩⟩
  rcases lP i n with h|h
  ·exact h1 i h
  ·have:i=n:=by omega
   subst this;exact h2
def zfQ{ok:Nat->Bool}:∀{n:Nat},kS ok n=false->∃m,m<n/\ok m=false/\∀i,i<m->ok i=true
 | 0,h=>by simp[kS] at h
 | n+1,h=>by
  rw[kS,Bool.and_eq_false_iff] at h;cases hn:kS ok n with
  | false =>
   obtain⟨m,h1,h2,h3⟩:=zfQ hn;exact⟨m,by omega,h2,h3⟩
  | true =>
   rcases h with h|h
   ·rw[hn] at h;cases h
   ·exact⟨n,by omega,h,pV.1 hn⟩
section
variable{pc:FuncId->List AV->List (aA×aq)->Option (V×List aA)}{gl:Nat->Nat->cP}{N:Nat}{ρ:aA}{body:Tree}
def Pj{ok:Nat->Bool}{st:Nat->aA}{n:Nat}{good bad:aA}{x:Option (Nat×aA)}(CJ:∀i,i<n->ok i=true->cw pc gl N body (ρ++st i)=some (0,st (i+1)))(BX:∀i,i<n->ok i=false->cw pc gl N body (ρ++st i)=some (1,bad))
  (rA:kS ok n=true->cw pc gl N body (ρ++st n)=some (1,good)) (hN:n<N) (hx:x=some (0,bif kS ok n then good else bad)):Jz pc gl N body ρ (st 0)=x:=by
 subst hx;cases h:kS ok n with
 | true=>exact Sh (λi hi=>CJ i hi (pV.1 h i hi)) (rA h) hN
 | false =>
  obtain⟨m,h1,h2,h3⟩:=zfQ h;exact Sh (m:=m) (λi hi=>CJ i (by omega) (h3 i hi)) (BX m h1 h2) (by omega)
end
end
end Go.Vm.Sx
namespace Go.Vm
open Go
def Pk(g:Nat):List (Nat×aA)->Option aA
 | []=>none
 | (k,vs)::r=>match Nat.beq g k with
  | true=>some vs
  | false=>Pk g r
def GR(U:aq)(ks:bR)(T:List (Nat×aA)):Nat->Nat->cP:=λg o=>match Pk g T with
 | some vs=>nth vs o
 | none=>KC U ks g o
def zoT(W:aK)(x:Nat×aA):Prop:=∀(o:Nat)(v:V),x.2[o]?=some v->v.top=0/\∃cv,W.cell? ⟨x.1,o,none⟩=some cv/\∀g,aQ g v cv
def Sl{g:Nat}{vs:aA}:∀{T:List (Nat×aA)},Pk g T=some vs->(g,vs)∈T
 | [],h=>by simp[Pk] at h
 | (k,us)::r,h=>by
  simp only[Pk] at h;split at h
  next hb=>simp only[aR] at h;rw[gy hb,h];exact eS ..
  ·exact dB _ (Sl h)
def zkU{W:aK}{x:Nat×aA}(h:zoT W x){o:Nat}{U:aq}{j:Nat}:x.2[o]?≠some (.fq U (.obj j)):=by
 intro hv;obtain⟨_,cv,_,h3⟩:=h o _ hv;have k1:∀a,cv=.iface U (.pointer (some a)):=λa=>by
  have:=h3 { Ic W with obj:=⟨λ_=>a,λ_=>True⟩ };cases this with
  | fq h2 =>
   cases h2 with
   | obj k=>rfl
 have:=(k1 ⟨0,0,none⟩).symm.trans (k1 ⟨1,0,none⟩);simp at this
def zr0{P:aM}{U:aq}{ks:bR}{T:List (Nat×aA)}{W:aK}(h:Gt U W ks)(hT:∀x∈T,zoT W x):lg P (GR U ks T) (Ic W):=by
 have HU:∀k u j,GR U ks T k 0=some (.fq u (.obj j))->KC U ks k 0=some (.fq u (.obj j)):=λk u j hv=>by
  unfold GR at hv;split at hv
  next vs I7=>rw[zV] at hv;exact absurd hv (zkU (hT _ (Sl I7)))
  ·exact hv
 have h0:=zp8 (P:=P) h;refine⟨?_,λk u j hv=>⟨(h0.2 k u j (HU k u j hv)).1,λk' u' j' dG e=>(h0.2 k u j (HU k u j hv)).2 k' u' j' (HU k' u' j' dG) e⟩⟩;intro k off v hv;unfold GR at hv;split at hv
 next vs I7=>rw[zV] at hv;obtain⟨h1,cv,h2,h3⟩:=hT _ (Sl I7) off v hv;exact⟨cv,h2,h3 _,h1⟩
 ·exact h0.1 k off v hv
def zjA{α β:Type}{f:α->Option β}:∀{l:List α}{xs:List β},l.mapM f=some xs->xs.length=l.length/\∀(i:Nat)(a:α)(x:β),l[i]?=some a->xs[i]?=some x->f a=some x
 | [],xs,h=>by
  simp only[List.mapM_nil,Option.pure_def,aR] at h;subst h;exact⟨rfl,λi a x h=>by simp at h⟩
 | a::l,xs,h=>by
  simp only[List.mapM_cons,Option.pure_def,Option.bind_eq_bind,fJ,aR] at h;obtain⟨y,hy,ys,ua,rfl⟩:=h;obtain⟨h1,h2⟩:=zjA ua;refine⟨by simp[h1],λi b x hb hx=>?_⟩
  cases i with
  | zero=>simp at hb hx;subst hb;subst hx;exact hy
  | succ i=>exact h2 i b x (by simpa using hb) (by simpa using hx)
def zjB{P:aM}{W:aK}{l:List (String×DataW Unit)}(h:laidMet P l W){nm:String}{ns:List Int}{k:IntKind}(hx:(nm,DataW.agg (ns.map λm=>.lit (.int k m)))∈l){g t n e:Nat}(hg:P.globalNamed nm=some g)(hgt:(P.globals[g]?).map (·.type)=some t)
  (ht:P.underlying t=some (.array n e)) (he:P.underlying e=some (.int k)) (hc:P.cellsOf e=1) (hn:P.cellsOf t=n):zoT W (g,ns.map (V.int k)):=by
 obtain⟨ps,hv,_,dP⟩:=h;obtain⟨g',t',cs,fuel,p,h1,h2,h3,h4,eN,_⟩:=Q0 hv _ hx;rw[hg] at h1;cases h1;rw[hgt] at h2;cases h2;cases fuel with
 | zero=>simp[DataW.trod] at h4
 | succ fuel =>
  have uW:∀i,i<cs.size->W.cell? ⟨g,i,none⟩=cs[i]?:=λi hi=>by
   have:=World.var?_cell hg h3 i;simpa using this
  obtain⟨l0⟩:=cs;simp only[DataW.trod,ht] at h4;split at h4<;>try (cases h4;done)
  rename_i hl;simp only[l8,bS,DataW.agg.injEq] at h4;obtain⟨xs,lu,e1,_⟩:=h4;obtain⟨m1,m2⟩:=zjA lu;have gX:ns.length=n:=by
   have:=congrArg List.length e1;simp only[eF,m1,List.length_range] at this;exact this.symm
  intro o v hov;simp only[mS,l8] at hov;obtain⟨m,hm,rfl⟩:=hov;have ho:o<n:=by rw[<- gX];exact(eE.1 hm).1
  have hox:o<xs.length:=by rw[m1];simpa using ho
  have hxo:xs[o]?=some xs[o]:=mq hox;have hr:=m2 o o xs[o] (by simp[ho]) hxo
  have hd:xs[o].1=.lit (.int k m):=by
   have:=congrArg (λl=>l[o]?) e1;simp only[mS,hxo,hm,bG,aR] at this;exact this
  refine⟨rfl,?_⟩;have EA:o<l0.length:=by rw[hl,hn];exact ho
  have mg:l0[o]?=some l0[o]:=mq EA;have iu:(l0.drop (o * P.cellsOf e)).take (P.cellsOf e)=[l0[o]]:=by
   rw[hc,LL,List.drop_eq_getElem_cons EA];rfl
  rw[iu] at hr;cases fuel with
  | zero=>simp[DataW.trod] at hr
  | succ fuel =>
   generalize Ct:l0[o]=c at hr mg;refine⟨c,?_,λg=>?_⟩
   ·rw[uW o (by simpa using EA)];simpa using mg
   ·generalize xs[o]=y at hr hd;obtain⟨y1,y2⟩:=y;simp only at hd;subst hd;simp only[DataW.trod,he] at hr;cases c<;>simp at hr;obtain⟨⟨rfl,_⟩,rfl,_⟩:=hr;exact .int _ _
section
variable{cx:Cx}{n:Nat}
def qj(cx:Cx)(o:Oper)(env:aA)(lk:bk):Bool :=
 match o.op with
 | .load t a=>match ka cx.P t with
  | some false=>true
  | _=>match aB env a with
   | some (.ptr b _)=>lk.all λp=>!(Nat.beq p.1 b)
   | _=>true
 | _=>true
def Cx.sL(cx:Cx)(all:Array Oper)(takes:bP):List Oper->St->Option St
 | [],s=>some s
 | o::os,⟨env,H,lk,df⟩=>match q8 all o env with
  | none=>none
  | some false=>cx.sL all takes os ⟨qb env o.dst (.bz []),H,lk,df⟩
  | some true=>match qj cx o env lk with
   | false=>none
   | true=>match cx.op takes o env H lk df with
    | some (.val v,⟨env,H,lk,df⟩)=>cx.sL all takes os ⟨qb env o.dst v,H,lk,df⟩
    | some (.skip,⟨env,H,lk,df⟩)=>cx.sL all takes os ⟨qb env o.dst (.bz []),H,lk,df⟩
    | _=>none
inductive It where
 |c (c:Code)|eb (id:Nat)|os (all:Array Oper) (takes:bP) (l:List Oper)|on (all:Array Oper) (takes:bP) (l:List Oper)
def go(cx:Cx)(n:Nat)(Q:Ex->St->Prop):List It->Ex->St->Prop
 | [],ex,s=>Q ex s
 | .c c::k,.normal,s=>W cx n c s (go cx n Q k)
 | .c _::k,ex,s=>go cx n Q k ex s
 | .eb id::k,.exit i,s=>go cx n Q k (if Nat.beq i id then .normal else .exit i) s
 | .eb _::k,ex,s=>go cx n Q k ex s
 | .os all takes l::k,.normal,s=>O cx all takes l s (go cx n Q k)
 | .os _ _ _::k,ex,s=>go cx n Q k ex s
 | .on all takes l::k,.normal,s=>∃s',cx.sL all takes l s=some s'/\go cx n Q k .normal s'
 | .on _ _ _::k,ex,s=>go cx n Q k ex s
variable{Q:Ex->St->Prop}{k:List It}{s:St}{env:aA}{H:Hp}{lk:bk}{df:bH}{all:Array Oper}{takes:bP}{os:List Oper}
def zfR{c:Code}(h:go cx n Q [.c c] .normal s):W cx n c s Q:=by
 have:(go cx n Q [])=Q:=by funext ex s;simp[go]
 simpa[go,this] using h
def jc{ex:Ex}:go cx n Q [] ex s ↔ Q ex s:=by simp[go]
def aC:go cx n Q (.c .skip::k) .normal s ↔ go cx n Q k .normal s:=by simp only[go];exact zrJ
def zD{a b:Code}:go cx n Q (.c (.seq a b)::k) .normal s ↔ go cx n Q (.c a::.c b::k) .normal s:=by
 simp only[go,zsz];have:(Ji (λs=>W cx n b s (go cx n Q k)) (go cx n Q k))=go cx n Q (.c b::k):=by
  funext ex s;cases ex<;>simp[go]
 rw[this]
def zx{id:Nat}{c:Code}:go cx n Q (.c (.block id c)::k) .normal s ↔ go cx n Q (.c c::.eb id::k) .normal s:=by
 simp only[go,zqa];have:bM id (go cx n Q k)=go cx n Q (.eb id::k):=by
  funext ex s;cases ex<;>simp[go]
 rw[this]
def go_ret:go cx n Q (.c .ret::k) .normal s ↔ go cx n Q k .ret s:=by simp only[go];exact zsy
def ky{i:Nat}:go cx n Q (.c (.exit i)::k) .normal s ↔ go cx n Q k (.exit i) s:=by simp only[go];exact zrK
def qm{id:Nat}:go cx n Q (.eb id::k) .normal s ↔ go cx n Q k .normal s:=by simp[go]
def jm{id i:Nat}:go cx n Q (.eb id::k) (.exit i) s ↔ go cx n Q k (if Nat.beq i id then .normal else .exit i) s:=by simp[go]
def zdT{id:Nat}:go cx n Q (.eb id::k) .ret s ↔ go cx n Q k .ret s:=by simp[go]
def jC{c:Code}{i:Nat}:go cx n Q (.c c::k) (.exit i) s ↔ go cx n Q k (.exit i) s:=by simp[go]
def Sm{c:Code}:go cx n Q (.c c::k) .ret s ↔ go cx n Q k .ret s:=by simp[go]
def Pm(a b:Prop):cP->Prop
 | some (.bool true)=>a
 | some (.bool false)=>b
 | _=>False
def zJ{c:aO}{a b:Code}:go cx n Q (.c (.cond c a b)::k) .normal ⟨env,H,lk,df⟩ ↔ Pm (go cx n Q (.c a::k) .normal ⟨env,H,lk,df⟩) (go cx n Q (.c b::k) .normal ⟨env,H,lk,df⟩) (aB env c):=by
 simp only[go];unfold W;simp only[Cx.code];cases aB env c with
 | none=>simp[Pm]
 | some v =>
  cases v with
  | bool t=>cases t<;>simp[Pm]
  | _=>simp[Pm]
def zU{a b:Prop}{t:Bool}:Pm a b (some (.bool t)) ↔ (t=true/\a\/t=false/\b):=by cases t<;>simp[Pm]
def ES{id:Nat}{ops:Array Oper}:go cx n Q (.c (.region id ops false)::k) .normal ⟨env,H,lk,df⟩ ↔ go cx n Q (.os ops (kX ops) ops.toList::k) .normal ⟨env,H,[],df⟩:=by
 simp only[go];exact zn7
def ah:go cx n Q (.os all takes []::k) .normal s ↔ go cx n Q k .normal s:=by simp only[go];exact zsA
def qi{dst:fQ}{op:Op}{type:aq}{pos:String}{after:Array Edge} :
  go cx n Q (.os all takes (⟨dst,op,type,pos,after,none⟩::os)::k) .normal ⟨env,H,lk,df⟩ ↔ Ig dst (λs=>go cx n Q (.os all takes os::k) .normal s) (go cx n Q k) (cx.op takes ⟨dst,op,type,pos,after,none⟩ env H lk df):=by
 simp only[go];exact zqb
def Ip(a b:Prop):Option Bool->Prop
 | some true=>a
 | some false=>b
 | none=>False
def K9{dst:fQ}{op:Op}{type:aq}{pos:String}{after:Array Edge}{g:Nat×Bool} :
  go cx n Q (.os all takes (⟨dst,op,type,pos,after,some g⟩::os)::k) .normal ⟨env,H,lk,df⟩ ↔
   Ip (Ig dst (λs=>go cx n Q (.os all takes os::k) .normal s) (go cx n Q k) (cx.op takes ⟨dst,op,type,pos,after,some g⟩ env H lk df)) (go cx n Q (.os all takes os::k) .normal ⟨qb env dst (.bz []),H,lk,df⟩) (q8 all ⟨dst,op,type,pos,after,some g⟩ env):=by
 simp only[go];unfold O;simp only[Cx.ops];cases q8 all ⟨dst,op,type,pos,after,some g⟩ env with
 | none=>simp[Ip]
 | some b =>
  cases b with
  | false=>simp[Ip,jX]
  | true =>
   simp only[Ip];cases h:cx.op takes ⟨dst,op,type,pos,after,some g⟩ env H lk df with
   | none=>simp
   | some r =>
    obtain⟨r,s1⟩:=r;obtain⟨de,H1,eA,eZ⟩:=s1;cases r<;>simp[jX,KH]
def ak:go cx n Q (.on all takes []::k) .normal s ↔ go cx n Q k .normal s:=by simp[go,Cx.sL]
def qn{dst:fQ}{op:Op}{type:aq}{pos:String}{after:Array Edge} :
  go cx n Q (.on all takes (⟨dst,op,type,pos,after,none⟩::os)::k) .normal ⟨env,H,lk,df⟩ ↔ (qj cx ⟨dst,op,type,pos,after,none⟩ env lk=true/\Ig dst (λs=>go cx n Q (.on all takes os::k) .normal s) (λ_ _=>False) (cx.op takes ⟨dst,op,type,pos,after,none⟩ env H lk df)):=by
 simp only[go,Cx.sL,q8];cases qj cx ⟨dst,op,type,pos,after,none⟩ env lk with
 | false=>simp
 | true =>
  cases h:cx.op takes ⟨dst,op,type,pos,after,none⟩ env H lk df with
  | none=>simp
  | some r =>
   obtain⟨r,s1⟩:=r;obtain⟨de,H1,eA,eZ⟩:=s1;cases r<;>simp
def JB{dst:fQ}{op:Op}{type:aq}{pos:String}{after:Array Edge}{g:Nat×Bool} :
  go cx n Q (.on all takes (⟨dst,op,type,pos,after,some g⟩::os)::k) .normal ⟨env,H,lk,df⟩ ↔
   Ip (qj cx ⟨dst,op,type,pos,after,some g⟩ env lk=true/\Ig dst (λs=>go cx n Q (.on all takes os::k) .normal s) (λ_ _=>False) (cx.op takes ⟨dst,op,type,pos,after,some g⟩ env H lk df)) (go cx n Q (.on all takes os::k) .normal ⟨qb env dst (.bz []),H,lk,df⟩) (q8 all ⟨dst,op,type,pos,after,some g⟩ env):=by
 simp only[go,Cx.sL];cases q8 all ⟨dst,op,type,pos,after,some g⟩ env with
 | none=>simp[Ip]
 | some b =>
  cases b with
  | false=>simp[Ip]
  | true =>
   simp only[Ip];cases qj cx ⟨dst,op,type,pos,after,some g⟩ env lk with
   | false=>simp
   | true =>
    cases h:cx.op takes ⟨dst,op,type,pos,after,some g⟩ env H lk df with
    | none=>simp
    | some r =>
     obtain⟨r,s1⟩:=r;obtain⟨de,H1,eA,eZ⟩:=s1;cases r<;>simp
def K_(want:Bool):cP->Option Bool
 | some (.bool b)=>some (b == want)
 | some (.bz _)=>some false
 | _=>none
def zna{dst:fQ}{op:Op}{type:aq}{pos:String}{after:Array Edge}{j:Nat}{want:Bool}{d:Tmp}(hd:(all[j]?).bind (·.dst)=some d):q8 all ⟨dst,op,type,pos,after,some (j,want)⟩ env=K_ want (nth env d):=by
 unfold q8 K_;simp only[hd];cases nth env d with
 | none=>rfl
 | some v=>cases v<;>rfl
def vo{c:Code}(Inv:Nat->St->Prop)(j:Nat)(hj:j<n)(h0:Inv j s)(Gv:∀j s,Inv j s->go cx n (Ji (λs'=>∃i,i<j/\Inv i s') (go cx n Q k)) [.c c] .normal s):go cx n Q (.c (.loop c)::k) .normal s:=by
 simp only[go];exact zrM Inv j hj h0 λj s h=>zfR (Gv j s h)
def zoU{P:aM}{gl:Gl}{f:FuncId}{fn:Func}{body:Code}{args:aA}{bs:List br}{es:bk}{out:Out}{H':Hp}(hk:gl.hk f args=none)(iA:∀H,gl.iA n f args H=none)(hf:P.funcs[f]?=some fn)(hb:fn.body=some body)
  (h:go ⟨P,gl,qt P gl n,gl.uq⟩ n (Fin P fn.results.toList bs.length es out H') [.c body] .normal ⟨args++List.replicate (fn.ntmps - args.length) (.bz []),⟨bs,[]⟩,[],[]⟩):qt P gl (n+1) f args ⟨bs,es⟩=some (out,H') :=
 yB hk iA hf hb (by rw[oZ];exact zfR h)
def Fx(P:aM)(rs:List ResultVar)(JC:V->Hp->Prop):Ex->St->Prop
 | .normal,⟨env,H,_,df⟩|.ret,⟨env,H,_,df⟩=>df=[]/\∃vs,ja P H env rs=some vs/\JC (iI vs) H
 | _,_=>False
def jZ{P:aM}{gl:Gl}{f:FuncId}{fn:Func}{body:Code}{args:aA}{bs:List br}{es:bk}{JC:V->Hp->Prop}(hk:gl.hk f args=none)(iA:∀H,gl.iA n f args H=none)(hf:P.funcs[f]?=some fn)(hb:fn.body=some body)
  (h:go ⟨P,gl,qt P gl n,gl.uq⟩ n (Fx P fn.results.toList JC) [.c body] .normal ⟨args++List.replicate (fn.ntmps - args.length) (.bz []),⟨bs,[]⟩,[],[]⟩):∃v H1,qt P gl (n+1) f args ⟨bs,es⟩=some (.ret v,jl bs.length es v.top H1)/\JC v H1:=by
 obtain⟨ex,⟨env,H,lk,df⟩,h1,h2⟩:=zfR h;cases ex<;>simp only[Fx] at h2
 ·obtain⟨rfl,vs,h3,h4⟩:=h2;exact⟨_,H,yB hk iA hf hb ⟨.normal,_,by rw[oZ];exact h1,⟨rfl,vs,h3,rfl,rfl⟩⟩,h4⟩
 ·obtain⟨rfl,vs,h3,h4⟩:=h2;exact⟨_,H,yB hk iA hf hb ⟨.ret,_,by rw[oZ];exact h1,⟨rfl,vs,h3,rfl,rfl⟩⟩,h4⟩
def fX{x:br}{b:Nat}:(H.push x).get b=match H.get b with|some y=>some y|none=>if b=H.aj.length then some x else none:=by
 simp only[Hp.get,Hp.push,zV,List.getElem?_append];split
 next h=>rw[mq h]
 ·rename_i h;have:H.aj[b]?=none:=uj (by omega)
  rw[this]
  by_cases e:b=H.aj.length
  ·subst e;simp
  ·rw[if_neg e];simp;omega
def kq{x:br}{b c:Nat}:(H.set b x).get c=match H.get c with|some y=>some (if c=b then x else y)|none=>none:=by
 simp only[Hp.get,Hp.set,zV,List.getElem?_set']
 by_cases e:b=c
 ·subst e;cases h:H.aj[b]?<;>simp
 ·rw[if_neg e];cases h:H.aj[c]?<;>simp[Ne.symm e]
def bX{b c:Nat}{v:V}:(H.bI b v).get c=H.get c:=by
 unfold Hp.bI;split<;>rfl
def j6{x:br}:(H.push x).aj.length=H.aj.length+1:=by simp[Hp.push]
def wO{x:br}{b:Nat}:(H.set b x).aj.length=H.aj.length:=by simp[Hp.set]
def Pn{b:Nat}{v:V}:(H.bI b v).aj.length=H.aj.length:=by
 unfold Hp.bI;split<;>rfl
def wg{b:Nat}{x:br}(h:H.get b=some x):b<H.aj.length:=by
 simp only[Hp.get,zV] at h;exact(eE.1 h).1
def JD:H.get H.aj.length=none:=by simp[Hp.get,zV]
def zoV{b:Nat}(h:H.aj.length<=b):H.get b=none:=by simp[Hp.get,zV,h]
end
section
structure SR where
 idx:Nat
 m:Nat
 tm:Nat
 lm:Nat
 hp:Bool
 lk:Bool
 al:Bool
 ld:Bool
 tk:Bool
def yu(o:Oper):Bool:=match o.op with|.alloc _=>true|_=>false
def wh(takes:bP)(o:Oper):Bool :=
 match o.op with
 | .load ..=>match o.dst with
  | some d=>takes.any (Nat.beq d)
  | none=>false
 | _=>false
def ET(takes:bP)(o:Oper):Bool :=
 match o.op with
 | .load ..=>match o.dst with
  | some d=>!(takes.any (Nat.beq d))
  | none=>false
 | .call ⟨.builtin .len,⟨[_]⟩,⟨[_]⟩⟩=>true
 | _=>false
def sZ:List SR->Nat->Option Nat
 | [],_=>none
 | r::rs,j=>if Nat.beq r.idx j then some r.m else sZ rs j
def Po(rs:List SR):List Edge->Option Nat
 | []=>some 0
 | e::es=>match Region.binds .any e with
  | false=>Po rs es
  | true=>match sZ rs e.on with
   | none=>none
   | some m=>match Po rs es with
    | none=>none
    | some k=>some (Nat.lor k (Nat.lor m (Nat.pow 2 e.on)))
def VO(r q:SR):Bool :=
 match bit r.m q.idx with
 | true=>true
 | false=>Nat.beq (Nat.land q.tm r.lm) 0 && Nat.beq (Nat.land r.tm q.lm) 0
def zr1(r q:SR):Bool :=
 match bit r.m q.idx with
 | true=>true
 | false=>!(r.hp && q.hp) && (!(q.hp && r.lk) || (q.tk && r.ld)) && (!(r.hp && q.lk) || (r.al && q.ld))
def Pp(P:aM)(uq:aq->Bool)(all:Array Oper)(takes:bP):Nat->List SR->List Oper->Bool
 | _,_,[]=>true
 | i,rs,o::os=>match Po rs o.after.toList with
  | none=>false
  | some m =>
   let r:SR:=⟨i,m,lC takes o,Nat.lor (lC takes o) (r9 all o),jT P uq takes o,wM P uq o,yu o,ET takes o,wh takes o⟩
   (!r.tk || kH (λq=>!q.tk) rs) && kH (VO r) rs && (kH (zr1 r) rs && Pp P uq all takes (i+1) (r::rs) os)
variable{cx:Cx}{all:Array Oper}{takes:bP}
structure M8(cx:Cx)(takes:bP)(q:Rec)(t:SR):Prop where
 idx:q.idx=t.idx
 m:q.m=t.m
 tm:q.tm=t.tm
 lm:q.lm=t.lm
 hp:q.hp=true->t.hp=true
 lk:q.hp=false->q.free=false->t.lk=true
 ld:t.ld=ET takes q.o
 tk:t.tk=wh takes q.o
inductive tI(cx:Cx)(takes:bP):List Rec->List SR->Prop where
 |nil:tI cx takes [] []
 |cons {q:Rec} {t:SR} {rs:List Rec} {ts:List SR} (h:M8 cx takes q t) (r:tI cx takes rs ts):tI cx takes (q::rs) (t::ts)
def zg3{rs:List Rec}{ts:List SR}(h:tI cx takes rs ts):∀(es:List Edge),wd rs es=Po ts es:=by
 have nP:∀j,maskAt rs j=sZ ts j:=by
  intro j
  induction h with
  | nil=>rfl
  | cons a _ ih=>simp only[maskAt,sZ,a.idx,a.m,ih]
 intro es
 induction es with
 | nil=>rfl
 | cons e es ih=>simp only[wd,Po,nP,ih];rfl
def zjC{rs:List Rec}{ts:List SR}(h:tI cx takes rs ts){f:Rec->Bool}{g:SR->Bool}(Pd:∀q t,M8 cx takes q t->g t=true->f q=true)(hg:kH g ts=true):kH f rs=true:=by
 induction h with
 | nil=>rfl
 | cons a _ ih =>
  simp only[kH] at hg ⊢;split at hg
  next h1=>rw[Pd _ _ a h1];exact ih hg
  ·cases hg
def Sn{α:Type}{f:α->Bool}:∀{l:List α},(∀x∈l,f x=true)->kH f l=true
 | [],_=>rfl
 | y::l,h=>by simp only[kH,h y (eS ..)];exact Sn λx hx=>h x (dB _ hx)
def xW{rs:List Rec}{ts:List SR}(h:tI cx takes rs ts){g:SR->Bool}(hg:kH g ts=true):∀q∈rs,∃t,M8 cx takes q t/\g t=true:=by
 induction h with
 | nil=>intro q hq;simp at hq
 | cons a _ ih =>
  simp only[kH] at hg;split at hg<;>try (cases hg;done)
  rename_i h1;intro q hq;rcases dh.1 hq with rfl|hq
  ·exact⟨_,a,h1⟩
  ·exact ih hg q hq
def q6{H:Hp}{b:Nat}{x y:br}(h:H.get b=some y):(H.push x).get b=some y:=by rw[fX,h]
def zkV{P:aM}{gl:Nat->Nat->cP}{H:Hp}{x:br}{t:aq}{p v:V}(h:qJ P H gl t p=some v):qJ P (H.push x) gl t p=some v:=by
 cases p<;>simp only[qJ] at h ⊢<;>first|exact h|skip
 ·rename_i b off;cases hb:H.get b with
  | none=>simp[hb] at h
  | some y=>rw[q6 hb];simpa[hb] using h
 ·rename_i b u k;cases hb:H.get b with
  | none=>simp[hb] at h
  | some y=>rw[q6 hb];simpa[hb] using h
def znc{P:aM}{H:Hp}{x:br}{t:aq}{p:V}{v:Int}(h:kU P H t p=some v):kU P (H.push x) t p=some v:=by
 unfold kU at h ⊢;split at h<;>try (simp only[*];done)
 ·rename_i hu;split at h<;>try (cases h;done)
  rename_i es hb;simp only[q6 hb];exact h
def zg4{o:Oper}(lR:ET takes o=true){env:aA}{v:V}{D:Nat}{H:Hp}{x:br}{lk:bk}{df:bH}(h:cx.gj takes o env v ⟨D,H,lk,df⟩=true):cx.gj takes o env v ⟨D,H.push x,lk,df⟩=true:=by
 obtain⟨dst,op,type,pos,after,guard⟩:=o;unfold ET at lR;split at lR<;>try (cases lR;done)
 ·rename_i t a aF;simp only at aF;subst aF;cases dst with
  | none=>simp at lR
  | some d =>
   have ht:takes.any (Nat.beq d)=false:=by simpa using lR
   simp only[Cx.gj,Cx.dO,Rb ht] at h ⊢;cases hp:aB env a with
   | none=>simp[hp,gM] at h
   | some p =>
    cases hl:qJ cx.P H cx.gl t p with
    | none=>simp[hp,hl,gM] at h
    | some u=>simpa[hp,hl,zkV hl,gM] using h
 ·rename_i x0 t0 aF;simp only at aF;subst aF;have hh:∀H',cx.op takes ⟨dst,.call ⟨.builtin .len,#[x0],#[t0]⟩,type,pos,after,guard⟩ env H' lk df=gM env H' lk df (((aB env x0).bind (kU cx.P H' t0)).map (.int .i64)):=λH'=>qc;simp only[Cx.gj,Cx.dO] at h ⊢;rw[show(⟨[x0]⟩:ot)=#[x0] from rfl,show(⟨[t0]⟩:Array aq)=#[t0] from rfl] at *;rw[hh] at h ⊢;cases hp:aB env x0 with
  | none=>simp[hp,gM] at h
  | some p =>
   cases hl:kU cx.P H t0 p with
   | none=>simp[hp,hl,gM] at h
   | some u=>simpa[hp,hl,znc hl,gM] using h
end
section
variable{cx:Cx}{takes:bP}{P:aM}{gl:Nat->Nat->cP}{dst:fQ}{type:aq}{pos:String}{after:Array Edge}{guard:oq}{env:aA}{H:Hp}{lk:bk}{df:bH}
def So(P:aM)(t:aq)(env:aA)(H:Hp)(lk:bk)(df:bH)(y x:cP):Option (OR×St):=do
 let .slice e <- P.underlying t|none
 let n <- jh P e
 let i <- P.info? e
 let z <- i.zero
 let ys <- vq P H e (<- y)
 if !Nat.beq z.cells.size n || Nat.beq n 0 then none else
 match <- x with
 | .aJ=>match ys with
  | []=>some (.val .aJ,⟨env,H,lk,df⟩)
  | _=>if kr ys.length i.bytes then some (.val (.eo H.aj.length 0 ys.length),⟨env,H.push (.ul 0 n (dz ys) e),lk,df⟩) else none
 | .eo b u len=>match H.get b with
  | some (.ul fE sz cs e') =>
   if Nat.beq e e' && Nat.beq n sz && Nat.beq fE u && kr (len+ys.length) i.bytes then
    some (.val (.eo b (fE+1) (len+ys.length)),⟨env,(H.set b (.ul (fE+1) sz (cs++dz ys) e)).bI b (.bz ys),lk,df⟩)
   else none
  | _=>none
 | .sr b off len cap=>match H.get b with
  | some (.cells cs ty) =>
   if Nat.beq off 0 && Nat.beq n 1 && Nat.beq ty e && Nat.beq ((dz ys).map aT).length ys.length && Nat.ble (len+ys.length) cap && Nat.ble (len+ys.length) cs.length && wQ lk b len ys.length (cs.drop len) then
    some (.val (.sr b 0 (len+ys.length) cap),⟨env,(H.set b (.cells (storeCells cs len ((dz ys).map aT)) ty)).bI b (.bz ((dz ys).map aT)),lk,df⟩)
   else none
  | _=>none
 | _=>none
def zbo{x y:aO}{t:aq}(hu:sS cx.P cx.uq t=true):cx.op takes ⟨dst,.call ⟨.builtin .append,#[x,y],#[t,t]⟩,type,pos,after,guard⟩ env H lk df=So cx.P t env H lk df (aB env y) (aB env x):=by
 simp only[Cx.op,hu,dW,aU];simp only[Cx.mV,So,ep,jr,jv,jU]
 congr 1
def zqB{t e n:Nat}{i:TypeInfo}{z:aS}(h1:P.underlying t=some (.slice e))(h2:jh P e=some n)(h3:P.info? e=some i)(h4:i.zero=some z)(h5:z.cells.size=n)(h6:n≠0){xs:aA}{o:Own}{x:cP} :
  So P t env H lk df (some (.sl n xs o)) x=match x with
   | some .aJ=>(match xs with
    | []=>some (.val .aJ,⟨env,H,lk,df⟩)
    | _=>if kr xs.length i.bytes then some (.val (.eo H.aj.length 0 xs.length),⟨env,H.push (.ul 0 n (dz xs) e),lk,df⟩) else none)
   | some (.eo b u len)=>(match H.get b with
    | some (.ul fE sz cs e')=>if (e=e'/\n=sz/\fE=u/\kr (len+xs.length) i.bytes=true) then
      some (.val (.eo b (fE+1) (len+xs.length)),⟨env,(H.set b (.ul (fE+1) sz (cs++dz xs) e)).bI b (.bz xs),lk,df⟩) else none
    | _=>none)
   | some (.sr b off len cap)=>(match H.get b with
    | some (.cells cs ty)=>if Nat.beq off 0 && Nat.beq n 1 && Nat.beq ty e && Nat.beq ((dz xs).map aT).length xs.length && Nat.ble (len+xs.length) cap && Nat.ble (len+xs.length) cs.length && wQ lk b len xs.length (cs.drop len) then
      some (.val (.sr b 0 (len+xs.length) cap),⟨env,(H.set b (.cells (storeCells cs len ((dz xs).map aT)) ty)).bI b (.bz ((dz xs).map aT)),lk,df⟩) else none
    | _=>none)
   | _=>none:=by
 have h7:(!Nat.beq z.cells.size n || Nat.beq n 0)=false:=by
  rw[h5];cases n with
  | zero=>exact absurd rfl h6
  | succ n=>simp[Nat.beq]
 simp only[So,h1,h2,h3,h4,vq,Option.bind_eq_bind,bC,h7,aU,dF,bZ];cases x with
 | none=>rfl
 | some v =>
  cases v<;>try rfl
  rename_i b u len;simp only[bC];cases H.get b with
  | none=>rfl
  | some y =>
   cases y<;>try rfl
   rename_i fE sz cs e';simp only[cR,Nat.beq_eq,and_assoc]
def Pq(P:aM)(t:aq)(env:aA)(H:Hp)(lk:bk)(df:bH):cP->Option cP->Option cP->Option (OR×St)
 | some (.eo b u len),some none,some (some (.int _ h))=>match P.underlying t,H.get b with
  | some (.slice e'),some (.ul fE sz cs e)=>match jh P e' with
   | some _=>if fE=u/\0<=h/\h.toNat<=len then some (.val (.eo b (fE+1) h.toNat),⟨env,(H.set b (.ul (fE+1) sz (cs.take (h.toNat * sz)) e)).bI b .ef,lk,df⟩) else none
   | none=>none
  | _,_=>none
 | some (.sr b off len cap),some lo,some hi=>match yK P t (.sr b off len cap) lo hi with
  | some v=>some (.val v,⟨env,H,lk,df⟩)
  | none=>none
 | _,_,_=>none
def zg5{x:aO}{hi:Option aO}:xX takes x none hi=false:=by cases x<;>rfl
def zfS{x:aO}{t:aq}{lo hi:Option aO}(hu:sS cx.P cx.uq t=true)(hf:xX takes x lo hi=false):cx.op takes ⟨dst,.slice t x lo hi none,type,pos,after,guard⟩ env H lk df=Pq cx.P t env H lk df (aB env x) (dU env lo) (dU env hi):=by
 simp only[Cx.op,hf,hu];simp only[Cx.oK,fj,jr,jU];unfold Pq;cases hx:aB env x with
 | none=>split<;>simp_all
 | some v =>
  by_cases Uo:∃b off len cap,v=.sr b off len cap
  ·obtain⟨b,off,len,cap,rfl⟩:=Uo;cases dU env lo with
   | none=>split<;>simp_all
   | some lo=>cases dU env hi with
    | none=>split<;>simp_all
    | some hi=>cases cx.P.underlying t with
     | none=>rfl
     | some d=>cases d<;>rfl
  cases v<;>(try (split<;>simp_all;done))
  rename_i b u len;cases hl:dU env lo with
  | none=>split<;>simp_all
  | some l =>
   cases l with
   | some l=>split<;>simp_all
   | none =>
    cases hh:dU env hi with
    | none=>split<;>simp_all
    | some h =>
     cases h with
     | none=>split<;>simp_all
     | some h =>
      cases h<;>(try (split<;>simp_all;done))
      rename_i k h;cases hP:cx.P.underlying t with
      | none=>simp
      | some d =>
       cases d<;>simp only<;>try rfl
       rename_i e';cases H.get b with
       | none=>simp
       | some y =>
        cases y<;>simp only<;>try (cases jh cx.P e'<;>rfl)
        rename_i fE sz cs e;cases jh cx.P e' with
        | none=>rfl
        | some m=>simp only[cR,Nat.beq_eq,decide_eq_true_eq,Nat.ble_eq,and_assoc]
def kI(P:aM)(t:aq)(H:Hp)(lk:bk)(df:bH)(x:Option (V×aA)):cP->Option (OR×St)
 | some (.ptr b off)=>match jh P t with
  | some n=>OE n H lk df (some (.ptr b off)) x
  | none=>none
 | some (.gY b u k)=>match x,jh P t,H.get b with
  | some (x,env),some n,some (.ul fE sz cs e)=>if fE=u/\fH (aT x)=true/\(aT x).cells.length=n/\k+n<=cs.length then
    some (.skip,⟨env,(H.set b (.ul fE sz (storeCells cs k (aT x).cells) e)).bI b (aT x),lk,df⟩) else none
  | _,_,_=>none
 | _=>none
def zh{t:aq}{a x:aO}:cx.op takes ⟨dst,.store t a x,type,pos,after,guard⟩ env H lk df=kI cx.P t H lk df (take env x) (aB env a):=by
 cases ha:aB env a with
 | none=>simp[Cx.op,ha,kI]
 | some p =>
  cases p<;>try (simp[Cx.op,ha,kI];done)
  ·rename_i b off;cases hn:jh cx.P t with
   | none =>
    simp only[Cx.op,ha,hn,kI];cases take env x<;>rfl
   | some n =>
    rw[zje hn (λ_ _ _=>by rw[ha];simp)]
    simp only[kI,hn,ha]
  ·rename_i b u k;simp only[Cx.op,ha,kI,qd,fj,jU];cases take env x with
   | none=>rfl
   | some q =>
    obtain⟨x,dy⟩:=q;cases jh cx.P t with
    | none=>rfl
    | some n =>
     cases H.get b with
     | none=>rfl
     | some y =>
      cases y<;>try rfl
      simp only[cR,Nat.beq_eq,Nat.ble_eq,and_assoc]
def BY(P:aM)(t:aq)(env:aA)(H:Hp)(lk:bk)(df:bH):cP->Option (OR×St)
 | some (.ptr b off)=>match ka P t with
  | some false=>match H.get b with
   | some (.cells cs ty)=>match nth cs off with
    | some (.sl sz xs (.yes e))=>some (.val (.sl sz xs (.yes e)),⟨env,(H.set b (.cells (cs.set off (.sl sz xs .lock)) ty)).bI b .ef,(b,off)::lk,df⟩)
    | some .aJ=>some (.val .aJ,⟨env,H,lk,df⟩)
    | some (.eo c u n)=>some (.val (.eo c u n),⟨env,H,lk,df⟩)
    | _=>none
   | _=>none
  | _=>none
 | _=>none
def VP{d:Tmp}{t:aq}{a:aO}(h:takes.any (Nat.beq d)=true):cx.op takes ⟨some d,.load t a,type,pos,after,guard⟩ env H lk df=BY cx.P t env H lk df (aB env a):=by
 simp only[Cx.op,h,fB,jU];unfold BY;cases ha:aB env a with
 | none=>cases ka cx.P t with
  | none=>rfl
  | some b=>cases b<;>rfl
 | some p =>
  cases p<;>cases ka cx.P t<;>(try rfl)<;>rename_i g<;>cases g<;>rfl
def VQ(t:aq)(env:aA)(H:Hp)(lk:bk)(df:bH):cP->Option (OR×St)
 | some z=>if fH z=true then some (.val (.ptr H.aj.length 0),⟨env,H.push (.cells z.cells t),lk,df⟩) else none
 | none=>none
def zl{t:aq}:cx.op takes ⟨dst,.alloc t,type,pos,after,guard⟩ env H lk df=VQ t env H lk df (kf cx.P t):=by
 simp only[Cx.op,VQ];cases kf cx.P t with
 | none=>rfl
 | some z=>cases hz:fH z<;>simp[qd,jv,hz]
def jQ{t:aq}{z:V}(h:fH z=true):VQ t env H lk df (some z)=some (.val (.ptr H.aj.length 0),⟨env,H.push (.cells z.cells t),lk,df⟩):=by simp[VQ,h]
def zsF{d t:Nat}(h:d≠t):[t].any (Nat.beq d)=false:=by
 cases hb:Nat.beq d t with
 | false=>simp[hb]
 | true=>exact absurd (gy hb) h
def zL{t d:Tmp}{x:aO}(h:d≠t):cx.op [t] ⟨some d,.move x,type,pos,after,guard⟩ env H lk df=gM env H lk df (aB env x):=Y2 (zsF h)
def zM{t d:Tmp}{ty:aq}{a:aO}(h:d≠t):cx.op [t] ⟨some d,.load ty a,type,pos,after,guard⟩ env H lk df=gM env H lk df (((aB env a).bind (qJ cx.P H cx.gl ty)).map aT):=Rb (zsF h)
def zB{d:Tmp}{t:aq}{a:aO}:cx.op [d] ⟨some d,.load t a,type,pos,after,guard⟩ env H lk df=BY cx.P t env H lk df (aB env a):=VP (by simp)
def zC{d:Tmp}{x:aO}:cx.op [d] ⟨some d,.move x,type,pos,after,guard⟩ env H lk df=Ra H lk df (take env x):=zjc (by simp)
def Sq(P:aM)(t:aq):cP->cP
 | some v=>match P.underlying t with
  | some (.slice e)=>match jh P e,kf P e with
   | some n,some z=>if n≠0/\n<=16777216/\z.cells.length=n/\fH z=true/\fH v=true/\v.cells.length=n then some (.sl n [v] (.yes e)) else none
   | _,_=>none
  | _=>none
 | none=>none
def zX{t:aq}{x:aO}:cx.op takes ⟨dst,.buildSlice t 1 #[(0,x)],type,pos,after,guard⟩ env H lk df=gM env H lk df (Sq cx.P t (aB env x)):=by
 simp only[Cx.op];refine v7 ?_;simp only[jA,Sq];cases h1:cx.P.underlying t with
 | none=>cases aB env x<;>rfl
 | some d =>
  cases d<;>(try (cases aB env x<;>rfl))
  rename_i e;cases h2:jh cx.P e with
  | none=>cases aB env x<;>simp[h2]
  | some n =>
   cases h3:kf cx.P e with
   | none=>cases aB env x<;>simp[h2,h3]
   | some z =>
    simp only[h2,h3,Option.bind_eq_bind,bC];cases hx:aB env x with
    | none=>simp[CE,hx]
    | some v =>
     simp only[CE,hx,Option.bind_eq_bind,bC,qd,fB,Nat.one_mul]
     by_cases c0:n=0
     ·subst c0;simp[Nat.beq]
     ·have GO:Nat.beq n 0=false:=by cases n with
       | zero=>exact absurd rfl c0
       | succ n=>rfl
      by_cases c1:n<=16777216
      ·have uc:Nat.blt 16777216 n=false:=by
        cases hb:Nat.blt 16777216 n with
        | false=>rfl
        | true=>have:=sE hb;omega
       by_cases c2:z.cells.length=n
       ·cases c3:fH z with
        | false=>simp[GO,uc,c2]
        | true =>
         cases c4:fH v with
         | false=>simp[GO,uc,c2]
         | true =>
          by_cases c5:v.cells.length=n
          ·simp[GO,c2,c5,c0,c1,Nat.blt];omega
          ·simp[GO,uc,c2,c5]
       ·simp[GO,uc,c2]
      ·have uc:Nat.blt 16777216 n=true:=Kj (by omega)
       simp[GO,uc,c1]
def zqD{P:aM}{t e n:Nat}{z v:V}(h1:P.underlying t=some (.slice e))(h2:jh P e=some n)(h3:kf P e=some z)(h4:(n≠0/\n<=16777216/\z.cells.length=n/\fH z=true))(h5:fH v=true)(h6:v.cells.length=n):Sq P t (some v)=some (.sl n [v] (.yes e)):=by
 obtain⟨a,b,c,d⟩:=h4;simp[Sq,h1,h2,h3,a,b,c,d,h5,h6]
end
end Go.Vm
