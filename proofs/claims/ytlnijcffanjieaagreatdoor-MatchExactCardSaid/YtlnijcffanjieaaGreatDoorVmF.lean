/- Sx: calls. Conditions: none but those named. -/
import Derived.Test.YtlnijcffanjieaaGreatDoorVmE
set_option linter.defProp false
namespace Go.Vm.Sx
open Go Go.Vm
section
set_option linter.unusedSectionVars false
variable{P:aD}{gl:Gl}{ph:PH}{N:Nat}{r:Nat×aj}{ρ aY:aj}{pa bM:aR}{σ:Sg}{s:St}{n0:Nat}{B:List aN}{env:aj}{H:Hp}{lk:aC}{df:aV}{takes:bA}{k:KT}{t:Tree}
variable [ir gl]
variable{dst:eC}{type:ai}{pos:String}{after:Array Edge}{guard:i_}
def vV(θ:aR):AV->V
 | .d x=>x
 | .p j off=>.ptr (pd θ j) off
def xm(H:Hp):aR->List (aj×ai)->Prop
 | [],[]=>True
 | b::θ,(cs,t)::r=>H.get b=some (.cells cs t)/\xm H θ r
 | _,_=>False
def BI(H:Hp):aR->List (aj×ai)->List aj->Hp
 | b::θ,(_,t)::r,o::out=>BI (H.set b (.cells o t)) θ r out
 | _,_,_=>H
def IM:List (aj×ai)->List aj->Prop
 | [],[]=>True
 | (cs,_)::r,l::ls=>cs.length=l.length/\IM r ls
 | _,_=>False
def Ev(P:aD)(gl:Gl)(f:FuncId)(gQ:List AV)(fp:List (aj×ai))(v:V)(out:List aj):Prop :=
 v.top=0/\aA (cw out)=0/\IM fp out/\∀(θ:aR)(H:Hp),θ.Nodup->xm H θ fp->∃k,∀n,k<=n->zl P gl n f (gQ.map (vV θ)) H=some (.ret v,BI H θ fp out)
def Tp(P:aD)(gl:Gl)(ph:PH):Prop:=∀f gQ fp v out,ph f gQ fp=some (v,out)->Ev P gl f gQ fp v out
def zbJ{a:Nat}:∀{ns:aR}{j:Nat},Ov a ns=some j->nth ns j=some a
 | b::r,j,h=>by
  simp only[Ov] at h;split at h
  next hb=>cases h;rw[jP hb];rfl
  ·split at h
   next i hi=>cases h;exact zbJ (ns:=r) hi
   ·cases h
def zbK{a:Nat}:∀{ns:aR},Ov a ns=none->a ∉ ns
 | [],_=>by simp
 | b::r,h=>by
  simp only[Ov] at h;split at h
  ·cases h
  ·rename_i hb;split at h
   ·cases h
   ·rename_i hi;intro hm;rcases cS.1 hm with rfl|hm
    ·simp at hb
    ·exact zbK hi hm
def pn(hr:Rel n0 B ρ pa σ ⟨env,H,lk,df⟩):∀{args:List aH}{ns tL:aR}{vs:List AS},Ow σ ns args=some (vs,tL)->ns.Nodup ->
  ∃nF,bt env args=some nF/\nF.map aX=(lK ρ vs).map (vV (tL.map (pd pa)))/\ns <+: tL/\tL.Nodup
 | [],ns,tL,vs,h,hn=>by cases h;exact⟨[],rfl,rfl,di _,hn⟩
 | x::xs,ns,tL,vs,h,hn=>by
  simp only[Ow] at h;split at h
  ·rename_i a off hx;have e0:=kN hr.here hx;simp only[aQ,bw] at e0;have pt:∀(tL:aR)(j:Nat),nth tL j=some a->vV (tL.map (pd pa)) (.p j off)=.ptr (pd pa a) off:=λtL j hj=>by
    simp only[vV,pd,wn,hj,cA]
   split at h
   ·rename_i j hj;split at h
    ·rename_i oz MR s4;cases h;obtain⟨nF,h1,h2,h3,h4⟩:=pn hr s4 hn;refine⟨.ptr (pd pa a) off::nF,by simp only[bt,e0,zQ,h1],?_,h3,h4⟩
     obtain⟨y,rfl⟩:=h3;simp only[iC,lK,BF,aX,h2];rw[pt _ j (QO (zbJ hj))]
    ·cases h
   ·rename_i hj;split at h
    ·rename_i oz MR s4;cases h
     obtain⟨nF,h1,h2,h3,h4⟩:=pn hr s4 (by
      rw[List.nodup_append]
      exact⟨hn,by simp,λb hb c hc=>by simp at hc;subst hc;intro e;subst e;exact zbK hj hb⟩)
     refine⟨.ptr (pd pa a) off::nF,by simp only[bt,e0,zQ,h1],?_,Fq h3,h4⟩
     obtain⟨y,rfl⟩:=h3;simp only[iC,lK,BF,aX,h2];rw[pt _ ns.length (QO (by simp[zf]))]
    ·cases h
  ·rename_i v hv hx;split at h
   ·rename_i oz MR hd s4;cases h;obtain⟨nF,h1,h2,h3,h4⟩:=pn hr s4 hn;have e0:=kN hr.here hx;refine⟨aQ ρ pa v::nF,by simp only[bt,e0,zQ,h1],?_,h3,h4⟩
    simp only[iC,lK,BF,vV,h2];rw[(yn (pa:=pa) hr.here.ks hr.top hd).2 [],CZ e0]
   ·cases h
  ·cases h
 where
 Fq {ns MR:aR} {a:Nat} (h:ns++[a] <+: MR):ns <+: MR:=(Ag _ _).trans h
 CZ {x:aH} {v:V} (h:aq env x=some v):aX v=v:=by
  cases x with
  | tmp t =>
   simp only[aq] at h;split at h
   ·cases h;exact p8 _
   ·cases h
  | const u =>
   simp only[aq] at h;cases v<;>first|rfl|skip
   exfalso;unfold aF at h;split at h
   all_goals first|(cases h;done)|skip
   simp only[fy] at h;obtain⟨l,_,h⟩:=h;split at h<;>cases h
  | global g=>cases h;rfl
  | func f=>cases h;rfl
def MS(σ:Sg):aR->List (List C×ai)->Prop
 | [],[]=>True
 | a::ns,x::r=>jC a σ.af=some x/\vr σ.ks x.1=true/\MS σ ns r
 | _,_=>False
def uK:∀{ns:aR}{l:List (List C×ai)},QF σ ns=some l->MS σ ns l
 | [],l,h=>by cases h;trivial
 | a::ns,l,h=>by
  simp only[QF] at h;split at h
  ·rename_i cs t l' h1 h2;split at h
   next hd=>cases h;exact⟨h1,hd,uK h2⟩
   ·cases h
  ·cases h
def zeG(hr:Rel n0 B ρ pa σ ⟨env,H,lk,df⟩):∀{ns:aR}{l:List (List C×ai)},MS σ ns l->xm H (ns.map (pd pa)) (dY ρ l)
 | [],[],_=>trivial
 | a::ns,(cs,t)::r,h=>by
  refine⟨?_,zeG hr h.2.2⟩;have:=hr.here.af _ _ _ h.1;rw[(wF (pa:=pa) hr.here.ks hr.top h.2.1).2.2 []];exact this
 | [],_::_,h=>h.elim
 | _::_,[],h=>h.elim
def zeH(hr:Rel n0 B ρ pa σ s):∀{ns:aR}{l:List (List C×ai)},MS σ ns l->∀a∈ns,a<σ.na
 | a::ns,_::r,h,b,hb=>by
  rcases cS.1 hb with rfl|hb
  ·exact hr.bn _ _ h.1
  ·exact zeH hr h.2.2 b hb
def zil(hr:Rel n0 B ρ pa σ s){ns:aR}(hn:ns.Nodup)(hl:∀a∈ns,a<σ.na):(ns.map (pd pa)).Nodup:=by
 induction ns with
 | nil=>simp
 | cons a ns ih =>
  simp only[iC,List.nodup_cons] at hn ⊢;refine⟨λh=>?_,ih hn.2 λb hb=>hl b (cZ _ hb)⟩;obtain⟨b,hb,he⟩:=r7.1 h;have:=hr.inj b a (hl b (cZ _ hb)) (hl a ew) he;subst this;exact hn.1 hb
def zqX{ks:List CK}{c:C}(h:IG ks c=true):S1 ks c≠.raw:=by
 cases c with
 | k v=>cases v<;>simp[S1]
 | v i cl =>
  simp only[IG] at h;simp only[S1];cases hn:nth ks i with
  | none=>rw[hn] at h;cases h
  | some k=>rw[hn] at h;cases k<;>first|(cases h;done)|(simp)
 | p a off=>cases h
 | CV i=>cases h
 | _=>simp[S1]
def A4:∀{l:List (List C×ai)}{ns:aR},MS σ ns l->∀k∈v8 σ.ks l,k≠.raw
 | [],_,_,k,hk=>by simp[v8] at hk
 | (cs,t)::r,[],h,_,_=>h.elim
 | (cs,t)::r,a::ns,h,k,hk=>by
  simp only[v8,rO,r7] at hk;rcases hk with⟨c,hc,rfl⟩|hk
  ·have hd:=h.2.1;simp only at hd;clear h
   induction cs with
   | nil=>simp at hc
   | cons x xs ih =>
    simp only[vr,bN] at hd;rcases cS.1 hc with rfl|hc
    ·exact zqX hd.1
    ·exact ih hc hd.2
  ·exact A4 (ns:=ns) h.2.2 k hk
def IN:∀{CX:List CK}{x:aj},lu CX x=true->(∀k∈CX,k≠.raw)->∀v∈x,locked v=false
 | [],[],_,_,v,hv=>by simp at hv
 | c::cs,w::ws,h,hn,v,hv=>by
  simp only[lu,bN] at h;rcases cS.1 hv with rfl|hv
  ·exact(yX h.1 (hn c ew)).2
  ·exact IN h.2 (λk hk=>hn k (cZ _ hk)) v hv
 | [],_::_,h,_,_,_=>by cases h
 | _::_,[],h,_,_,_=>by cases h
def zlO{H:Hp}{b:Nat}:H.bQ b .dx=H:=by simp[Hp.bQ,V.top]
def Fs:∀{ns:aR}{l:List (List C×ai)}{out:List aj}{i:Nat}{σ:Sg}{H:Hp}{x y:aj},Rel n0 B ρ pa σ ⟨env,H,lk,df⟩->(∀p∈List.zip ns l,jC p.1 σ.af=some p.2)->ns.length=l.length->ns.Nodup->dI l out=true->(∀v∈cw out,locked v=false)->ρ=x++cw out++y->x.length=i->aA ρ=0 ->
  Rel n0 B ρ pa { σ with af:=A3 ns l i σ.af } ⟨env,BI H (ns.map (pd pa)) (dY ρ l) out,lk,df⟩
 | [],[],[],i,σ,H,x,y,hr,_,_,_,_,_,_,_,_=>hr
 | a::ns,(cs,t)::r,o::out,i,σ,H,x,y,hr,hz,hlen,hn,hs,hu,hx,hi,bX=>by
  simp only[dI,bN] at hs;have NT:=jP hs.1;have Mn:jC a σ.af=some (cs,t):=hz (a,(cs,t)) (by simp)
  simp only[cw] at hx hu;have mm:∀ak an,ρ <+: ak->pa <+: an->aG ak an (lits (cs.map λ_=>CK.raw) i)=o:=by
   rintro ak an ⟨z,rfl⟩ _;have:=Tf (pa:=an) (x:=x) (z:=o) (ks:=cs.map λ_=>CK.raw) (y:=cw out++y++z) (i:=i) (by simp[NT]) hi
   rw[hx];simpa only[nI] using this
  have hw:=hr.write (v:=.dx) (lV:=σ.lk) (oM:=lk) Mn mm (.inr rfl) (λb o hb=>hr.ln b o hb) (λb o _ _ hb=>hb) (λx hx=>hx) (λoff c hb hc mW=>by
   rw[zf] at hc
   rw[hu c (DI _ (oH hc))] at mW;cases mW)
  rw[zlO] at hw;simp only[List.nodup_cons] at hn
  have:=Fs (ns:=ns) (l:=r) (out:=out) (i:=i+cs.length) (x:=x++o) (y:=y) hw (λp hp=>by
    simp only[WG];have cg:a≠p.1:=λe=>hn.1 (by rw[e];exact(List.of_mem_zip hp).1)
    simp only[cg,aZ]
    exact hz p (by simp[hp])) (by simpa using hlen) hn.2 hs.2 (λv hv=>hu v (FQ _ hv)) (by rw[hx];simp) (by simp[hi,NT]) bX
  simpa[A3,BI,dY] using this
 | [],_::_,_,_,_,_,_,_,_,_,h,_,_,_,_,_,_=>by simp at h
 | _::_,[],_,_,_,_,_,_,_,_,h,_,_,_,_,_,_=>by simp at h
 | [],[],_::_,_,_,_,_,_,_,_,_,_,h,_,_,_,_=>by cases h
 | _::_,_::_,[],_,_,_,_,_,_,_,_,_,h,_,_,_,_=>by cases h
def A5:∀{ns:aR}{l:List (List C×ai)},MS σ ns l->ns.length=l.length/\∀p∈List.zip ns l,jC p.1 σ.af=some p.2
 | [],[],_=>⟨rfl,λp hp=>by simp at hp⟩
 | a::ns,x::r,h=>by
  obtain⟨h1,h2⟩:=A5 h.2.2;refine⟨by simp[h1],λp hp=>?_⟩
  simp only[List.zip_cons_cons,cS] at hp;rcases hp with rfl|hp
  ·exact h.1
  ·exact h2 p hp
 | [],_::_,h=>h.elim
 | _::_,[],h=>h.elim
def zc8{kk:Sg->List SC->Option Tree}:∀{ts:List ai}{σ:Sg}{ρ:aj}{i:Nat}{acc:List SC}{t:Tree},S3 P kk σ ts i acc=some t->Rel n0 B ρ pa σ s->i+ts.length<=σ.ks.length->bU ph gl N t ρ=some r ->
  ∃iZ ys aY t',kk { σ with ks:=iZ } (acc++ys)=some t'/\bU ph gl N t' aY=some r/\ρ <+: aY/\Rel n0 B aY pa { σ with ks:=iZ } s/\∀ak an,aY <+: ak->fe ak an ys=(List.range' i ts.length).map (at' ρ)
 | [],σ,ρ,i,acc,t,h,hr,hi,hq=>⟨σ.ks,[],ρ,t,by rw[uf];exact h,hq,di _,hr,λ_ _ _=>rfl⟩
 | ty::ts,σ,ρ,i,acc,t,h,hr,hi,hq=>by
  simp only[fY] at hi;have OC:i<ρ.length:=by rw[hr.kl];omega
  have rng:∀(aY:aj),ρ <+: aY->(List.range' (i+1) ts.length).map (at' aY)=(List.range' (i+1) ts.length).map (at' ρ):=λaY e=>by
   apply List.map_congr_left;intro j hj;simp only[List.mem_range'_1] at hj;exact vG e (by rw[hr.kl];omega)
  simp only[S3] at h;split at h
  ·split at h
   ·rename_i ks hl;split at h
    ·rename_i t1 ht;cases h;simp only[bU] at hq;split at hq
     ·rename_i cs dA;rw[cond_eq_ite] at hq;split at hq
      ·rename_i hk;have bX:aA cs=0:=by have:=xZ hr.top i;rw[dA] at this;exact this
       have hlen:=oc hk;have mX:=hr.push hk bX;obtain⟨iZ,ys,aY,t',g1,g2,g3,g4,g5⟩:=zc8 ht mX (by simp;omega) hq
       refine⟨iZ,.agg (lits ks σ.ks.length)::ys,aY,t',by simpa using g1,g2,QU g3,g4,λak an e=>?_⟩
       simp only[fe,g5 ak an e,fY,List.range'_succ,iC];rw[rng _ (Ag _ _),dA]
       congr 1
       obtain⟨z,rfl⟩:=g3.trans e;simp only[aQ];rw[Tf hlen hr.kl]
      ·cases hq
     ·cases hq
    ·cases h
   ·cases h
  ·obtain⟨iZ,ys,aY,t',g1,g2,g3,g4,g5⟩:=zc8 h hr (by omega) hq
   refine⟨iZ,.one (.v i false)::ys,aY,t',by simpa using g1,g2,g3,g4,λak an e=>?_⟩
   simp only[fe,g5 ak an e,fY,List.range'_succ,iC,aQ,bw];rw[vG (g3.trans e) OC]
  ·cases h
def p_:∀{ts:List ai}{ks:List CK},Wm P ts=some ks->ks.length=ts.length
 | [],ks,h=>by cases h;rfl
 | t::ts,ks,h=>by
  simp only[Wm] at h;split at h
  next r hr=>cases h;simp[p_ hr]
  ·rename_i r hr;split at h
   ·cases h;simp[p_ hr]
   ·cases h
  ·cases h
def zlP{f:FuncId}{args:nO}{ts:Array ai}{b:Nat}(h:j7 takes σ ⟨dst,.call ⟨.value (.func f),args,ts⟩,type,pos,after,guard⟩=some (.wr b)):False:=by
 simp only[j7] at h;split at h<;>cases h
def zfL{o:Oper}{ns:aR}{bD:List (List C×ai)}{v:V}{out:List aj}{t0:Tree}{tys:List ai}(lC:∀b,j7 takes σ o=some (.wr b)->False)(hL:MS σ ns bD)(p4:ns.Nodup)(e1:v.top=0)(e2:aA (cw out)=0)
  (hc:dI bD out=true/\lu (v8 σ.ks bD) (cw out)=true) (hr:Rel n0 B ρ pa σ ⟨env,H,lk,df⟩)
  (CF:Wn P { σ with ks:=σ.ks++(CK.raw::v8 σ.ks bD),af:=A3 ns bD (σ.ks.length+1) σ.af } σ.ks.length k tys=some t0) (hq:bU ph gl N t0 (ρ++(v::cw out))=some r)
  (cj:∃k0,∀n,k0<=n->Cx.op ⟨P,gl,zl P gl n,gl.uq⟩ takes o env H lk df=some (.val v,⟨env,BI H (ns.map (pd pa)) (dY ρ bD) out,lk,df⟩)) :
  Step P gl ph N r n0 B k takes o σ ρ pa ⟨env,H,lk,df⟩:=by
 obtain⟨z1,z2⟩:=A5 hL;have QW:lu (CK.raw::v8 σ.ks bD) (v::cw out)=true:=by simp[lu,fm,hc.2]
 have BC:=hr.push QW (by simp only[aA,e1,e2];rfl)
 have mX:=Fs (ns:=ns) (l:=bD) (out:=out) (i:=σ.ks.length+1) (x:=ρ++[v]) (y:=[]) BC z2 z1 p4 hc.1 (IN hc.2 (A4 hL)) (by simp) (by simp[hr.kl]) BC.top
 have hE:dY (ρ++v::cw out) bD=dY ρ bD:=by
  have key:∀{ns:aR}{l:List (List C×ai)},MS σ ns l->dY (ρ++v::cw out) l=dY ρ l:=by
   intro ns l
   induction l generalizing ns with
   | nil=>intro _;rfl
   | cons x l ih =>
    obtain⟨cs,ty⟩:=x;intro hh;cases ns with
    | nil=>exact hh.elim
    | cons a ns =>
     simp only[dY,ih hh.2.2];have a1:=hr.here.af _ _ _ hh.1;have a2:=(hr.ext (ρ++v::cw out) pa (Ag _ _) (di _)).af _ _ _ hh.1;rw[a1] at a2;simp only[aO,aN.cells.injEq,r8] at a2;have b1:=(wF (pa:=pa) hr.here.ks hr.top hh.2.1).2.2 [];have b2:=(wF (σ:={ σ with ks:=σ.ks }) (pa:=pa) (ρ:=ρ++v::cw out) (hr.ext (ρ++v::cw out) pa (Ag _ _) (di _)).ks BC.top hh.2.1).2.2 []
     rw[b1,b2,a2]
  exact key hL
 rw[hE] at mX;have fP:at' (ρ++v::cw out) σ.ks.length=v:=by rw[<- hr.kl,xj];simp
 have ek:ρ <+: ρ++v::cw out:=Ag _ _;have bu:σ.ks.length<(ρ++v::cw out).length:=by rw[<- hr.kl];simp
 unfold Wn at CF;split at CF
 ·refine⟨_,_,_,pa,t0,.val v,_,v,CF,hq,ek,di _,mX,cj,.inl rfl,λak an f1 f2 v' cP=>?_,λb hb=>(lC b hb).elim⟩;cases cP;simp only[aQ,bw];rw[vG f1 bu,fP]
 ·obtain⟨iZ,sc,aY,t',g1,g2,g3,g4,g5,g6⟩:=WL CF mX (by simp) hq
  refine⟨_,_,aY,pa,t',.val v,_,v,g1,g2,ek.trans g3,di _,g4,cj,.inl rfl,λak an f1 f2 v' cP=>?_,λb hb=>(lC b hb).elim⟩;cases cP;rw[g5 ak an f1,fP]
 ·split at CF
  ·rename_i ks hks;split at CF
   ·rename_i t1 RO;cases CF;simp only[bU] at hq;split at hq
    ·rename_i cs dA;rw[fP] at dA;rw[cond_eq_ite] at hq;split at hq
     ·rename_i hk;have bX:aA cs=0:=by rw[dA] at e1;exact e1
      have hr3:=mX.push hk bX;have aax:cs.length=tys.length:=by rw[oc hk,p_ hks]
      obtain⟨iZ,ys,aY,t',g1,g2,g3,g4,g5⟩:=zc8 RO hr3 (by simp[p_ hks];omega) hq
      refine⟨_,_,aY,pa,t',.val v,_,v,g1,g2,(ek.trans (Ag _ _)).trans g3,di _,g4,cj,.inl rfl,λak an f1 f2 v' cP=>?_,λb hb=>(lC b hb).elim⟩;cases cP;simp only[gF,g5 ak an f1,dA]
      congr 1
      rw[<- aax];have hx:(ρ++v::cw out).length=(σ.ks++CK.raw::v8 σ.ks bD).length:=mX.kl;rw[dA] at hx;apply HO;intro j
      by_cases hj:j<cs.length
      ·simp only[pH,List.getElem?_range' hj,cA,xj,Nat.one_mul];rw[<- hx,nN (Nat.le_add_right _ _)];simp[hj]
      ·rw[tE (by simp;omega),tE (by omega)]
     ·cases hq
    ·cases hq
   ·cases CF
  ·cases CF
def zo7{f:FuncId}{args:nO}{ts:Array ai}(OD:Tp P gl ph)(h:Wp P σ f args.toList k=some t)(hr:Rel n0 B ρ pa σ ⟨env,H,lk,df⟩)(hq:bU ph gl N t ρ=some r) :
  Step P gl ph N r n0 B k takes ⟨dst,.call ⟨.value (.func f),args,ts⟩,type,pos,after,guard⟩ σ ρ pa ⟨env,H,lk,df⟩:=by
 unfold Wp at h;split at h
 ·rename_i fn vs ns su l5;split at h
  ·rename_i body bD lI od;obtain⟨nF,p1,p2,_,p4⟩:=pn hr l5 (by simp)
   have hL:=uK od;split at h
   ·rename_i t0 CF;cases h;simp only[bU] at hq;split at hq
    ·rename_i v out hv;rw[cond_eq_ite] at hq;split at hq
     next hc=>simp only[bN] at hc;obtain⟨e1,e2,e3,e4⟩:=OD _ _ _ _ _ hv;obtain⟨k0,e4⟩:=e4 (ns.map (pd pa)) H (zil hr p4 (zeH hr hL)) (zeG hr hL);refine zfL (λb=>zlP) hL p4 e1 e2 hc hr CF hq ⟨k0,λn hn=>?_⟩;have:=e4 n hn;rw[<- p2] at this;rw[jH,p1,qn,zR su lI this,zes]
     ·cases hq
    ·cases hq
   ·cases h
  ·cases h
 ·cases h
def C0(ρ:aj)(pa:aR):List SV->aj->Prop
 | [],[]=>True
 | sv::sE,w::ws=>jA ρ pa sv=some w/\aX w=w/\C0 ρ pa sE ws
 | _,_=>False
def C0.app:∀{a:List SV}{x:aj}{b:List SV}{y:aj},C0 ρ pa a x->C0 ρ pa b y->C0 ρ pa (a++b) (x++y)
 | [],[],_,_,_,h=>h
 | _::_,_::_,_,_,h1,h=>⟨h1.1,h1.2.1,h1.2.2.app h⟩
 | [],_::_,_,_,h,_=>h.elim
 | _::_,[],_,_,h,_=>h.elim
def zim(hr:Rel n0 B ρ pa σ ⟨env,H,lk,df⟩):∀{xs:List aH}{sE:List SV},Wl σ xs=some sE->∃ws,bt env xs=some ws/\C0 ρ pa sE ws
 | [],sE,h=>by cases h;exact⟨[],rfl,trivial⟩
 | x::xs,sE,h=>by
  simp only[Wl] at h;split at h
  next sv vs h1 h2=>cases h;obtain⟨w,e1,e2⟩:=wE hr.here h1;obtain⟨ws,e3,e4⟩:=zim hr h2;exact⟨w::ws,by simp only[bt,e1,zQ,e3],e2,pn.CZ e1,e4⟩
  ·cases h
def IP:∀{cs:List C},Lh cs=true->C0 ρ pa (cs.map λc=>.val (.one c)) (aG ρ pa cs)
 | [],_=>trivial
 | c::cs,h=>by
  cases c<;>simp only[Lh,bH] at h;exact⟨rfl,rfl,IP h⟩
def WT(hr:Rel n0 B ρ pa σ ⟨env,H,lk,df⟩):∀{sE:List SV}{ws:aj}{ns tL:aR}{vs:List AS},QG σ ns sE=some (vs,tL)->C0 ρ pa sE ws->ns.Nodup ->
  ws.map aX=(lK ρ vs).map (vV (tL.map (pd pa)))/\ns <+: tL/\tL.Nodup
 | [],[],ns,tL,vs,h,_,hn=>by cases h;exact⟨rfl,di _,hn⟩
 | x::xs,w::ws,ns,tL,vs,h,hw,hn=>by
  obtain⟨e0,gI,hw⟩:=hw;simp only[QG] at h;split at h
  ·rename_i a off;simp only[jA,aQ,bw,aO] at e0;subst e0;have pt:∀(tL:aR)(j:Nat),nth tL j=some a->vV (tL.map (pd pa)) (.p j off)=.ptr (pd pa a) off:=λtL j hj=>by
    simp only[vV,pd,wn,hj,cA]
   split at h
   ·rename_i j hj;split at h
    next oz MR s4=>cases h;obtain⟨h2,h3,h4⟩:=WT hr s4 hw hn;refine⟨?_,h3,h4⟩;obtain⟨y,rfl⟩:=h3;simp only[iC,lK,BF,aX,h2];rw[pt _ j (QO (zbJ hj))]
    ·cases h
   ·rename_i hj;split at h
    ·rename_i oz MR s4;cases h
     obtain⟨h2,h3,h4⟩:=WT hr s4 hw (by
      rw[List.nodup_append]
      exact⟨hn,by simp,λb hb c hc=>by simp at hc;subst hc;intro e;subst e;exact zbK hj hb⟩)
     refine⟨?_,pn.Fq h3,h4⟩;obtain⟨y,rfl⟩:=h3;simp only[iC,lK,BF,aX,h2];rw[pt _ ns.length (QO (by simp[zf]))]
    ·cases h
  ·rename_i v hv;split at h
   next oz MR hd s4=>cases h;obtain⟨h2,h3,h4⟩:=WT hr s4 hw hn;simp only[jA,aO] at e0;subst e0;refine⟨?_,h3,h4⟩;simp only[iC,lK,BF,vV,h2];rw[(yn (pa:=pa) hr.here.ks hr.top hd).2 [],gI]
   ·cases h
  ·cases h
 | [],_::_,_,_,_,_,h,_=>h.elim
 | _::_,[],_,_,_,_,h,_=>h.elim
def zjx{x:Tmp}{args:nO}{ts:Array ai}{b:Nat}(h:j7 takes σ ⟨dst,.call ⟨.value (.tmp x),args,ts⟩,type,pos,after,guard⟩=some (.wr b)):False:=by
 simp only[j7] at h;cases h
def znl{x:Tmp}{args:nO}{ts:Array ai}(OD:Tp P gl ph)(h:Z6 P σ (.tmp x) args.toList k=some t)(hr:Rel n0 B ρ pa σ ⟨env,H,lk,df⟩)(hq:bU ph gl N t ρ=some r) :
  Step P gl ph N r n0 B k takes ⟨dst,.call ⟨.value (.tmp x),args,ts⟩,type,pos,after,guard⟩ σ ρ pa ⟨env,H,lk,df⟩:=by
 unfold Z6 at h;split at h
 ·rename_i f cs sE E_ aay;obtain⟨fv,f1,f2⟩:=wE hr.here E_;simp only[jA,aO] at f2;subst f2;obtain⟨ws,w1,w2⟩:=zim hr aay;split at h
  ·cases h
  rename_i dz;simp only[ue,J8] at dz;split at h
  ·rename_i fn vs ns su l5;split at h
   ·rename_i body bD lI od;obtain⟨p2,_,p4⟩:=WT hr l5 (w2.app (IP dz)) (by simp)
    have hL:=uK od;split at h
    ·rename_i t0 CF;cases h;simp only[bU] at hq;split at hq
     ·rename_i v out hv;rw[cond_eq_ite] at hq;split at hq
      next hc=>simp only[bN] at hc;obtain⟨e1,e2,e3,e4⟩:=OD _ _ _ _ _ hv;obtain⟨k0,e4⟩:=e4 (ns.map (pd pa)) H (zil hr p4 (zeH hr hL)) (zeG hr hL);refine zfL (λb=>zjx) hL p4 e1 e2 hc hr CF hq ⟨k0,λn hn=>?_⟩;have:=e4 n hn;rw[<- p2] at this;simp only[Cx.op,f1,w1,Cx.mD,dN,gF];rw[zR su lI this]
      ·cases hq
     ·cases hq
    ·cases h
   ·cases h
  ·cases h
 ·cases h
def zgR(hr:iu ρ pa σ env H):∀{xs:List aH}{cs:List C},S2 σ xs=some cs->bt env xs=some (aG ρ pa cs)
 | [],cs,h=>by cases h;rfl
 | x::xs,cs,h=>by
  simp only[S2] at h;split at h
  next a off cs' h1 h2=>cases h;have e1:=ja hr h1;simp only[bt,e1,zQ,zgR hr h2,aG]
  ·cases h
def zin{f:Fn}{first cap:nO}{cs:List C}(hf:first.toList=[])(dA:S2 σ cap.toList=some cs)(h:k σ (.fn f cs)=some t)(hr:Rel n0 B ρ pa σ ⟨env,H,lk,df⟩)(hq:bU ph gl N t ρ=some r) :
  Step P gl ph N r n0 B k takes ⟨dst,.makeFunc f first cap,type,pos,after,guard⟩ σ ρ pa ⟨env,H,lk,df⟩:=by
 have e1:=zgR hr.here dA;refine⟨σ,.fn f cs,ρ,pa,t,.val (.fn f [] (aG ρ pa cs)),⟨env,H,lk,df⟩,.fn f [] (aG ρ pa cs),h,hq,di _,di _,hr,⟨0,λn _=>?_⟩,.inl rfl,λak an g1 g2 v' cP=>?_,λb hb=>?_⟩
 ·simp[Cx.op,qi,hf,e1,bt]
 ·have e2:=zgR (hr.ext ak an g1 g2) dA;rw[e1] at e2;simp only[jA,aO] at cP;rw[<- cP,tU e2]
 ·simp only[j7] at hb;cases hb
end
section
set_option linter.unusedSectionVars false
variable{P:aD}{gl:Gl}{ph:PH}{N:Nat}{r:Nat×aj}{ρ aY:aj}{pa bM:aR}{σ:Sg}{s:St}{n0:Nat}{B:List aN}{env:aj}{H:Hp}{lk:aC}{df:aV}{takes:bA}{k:KT}{t:Tree}
variable [ir gl]
structure Env(P:aD)(gl:Gl)(ph:PH):Prop where
 top:∀g off v,gl g off=some v->v.top=0
 calls:Tp P gl ph
def zgS(hr:iu ρ pa σ env H){x:aH}{f:Fn}{cs:List C}(h:Z9 σ x=some (f,cs)):take env x=some (.fn f [] (aG ρ pa cs),env):=by
 cases x with
 | tmp tt =>
  simp only[Z9] at h;split at h
  next f' cs' hs=>cases h;obtain⟨_,v,h1,h2⟩:=S9 hr hs;cases h2;simp only[take,h1,aX]
  ·cases h
 | _=>cases h
def znm(he:Env P gl ph){o:Oper}(h:iS P takes σ o k=some t)(hr:Rel n0 B ρ pa σ ⟨env,H,lk,df⟩)(hq:bU ph gl N t ρ=some r)(o6:QJ takes o=true) :
  Step P gl ph N r n0 B k takes o σ ρ pa ⟨env,H,lk,df⟩:=by
 obtain⟨dst,op,type,pos,after,guard⟩:=o;have pure:yd P σ op k=some t->qy takes dst=false->Step P gl ph N r n0 B k takes ⟨dst,op,type,pos,after,guard⟩ σ ρ pa ⟨env,H,lk,df⟩:=λh ht=>xD (o:=⟨dst,op,type,pos,after,guard⟩) h hr hq ht;have tk:(∀x,op≠.move x)->(∀x,op≠.assign x)->(∀t a,op≠.load t a)->(∀c,op≠.call c)->qy takes dst=false:=λh1 h2 h3 h4=>by
  simp only[QJ] at o6;cases hh:qy takes dst with
  | false=>rfl
  | true =>
   rw[hh] at o6;cases op<;>first|(cases o6;done)|exact absurd rfl (h1 _)|exact absurd rfl (h2 _)|exact absurd rfl (h3 _ _)
 cases op
 case move x =>
  cases ht:qy takes dst with
  | true =>
   simp only[iS,ht] at h;cases dst with
   | none=>cases ht
   | some d=>exact gN h hr hq λcx=>zh6 ht
  | false =>
   simp only[iS,ht] at h;exact pure h ht
 case assign x =>
  simp only[iS] at h;split at h
  ·rename_i f cs hf;refine qk h hq (di _) hr (v:=.fn f [] (aG ρ pa cs)) (λn=>?_) (λak an e1 e2 v' cP=>?_)
   ·rw[zi,zgS hr.here hf];rfl
   ·cases cP;have:=zgS (hr.ext ak an e1 e2) hf;rw[zgS hr.here hf] at this;simp only[aO,bP,r8] at this;exact this.symm
  ·exact gN h hr hq λcx=>zi
 case pick c a b=>exact zo2 h hr hq (tk (by intros;simp) (by intros;simp) (by intros;simp) (by intros;simp))
 case load tt a =>
  cases ht:qy takes dst with
  | true =>
   cases dst with
   | none=>cases ht
   | some d=>exact znf h hr hq ht
  | false =>
   cases a with
   | global g=>exact zo6 he.top h hr hq ht
   | _=>simp only[iS,ht] at h;exact pure h ht
 case alloc tt=>exact ux h hr hq
 case box tt x=>exact D3 h hr hq
 case store tt a x=>exact uo h hr hq
 case binOp op tt x y u=>exact zqV h hr hq (tk (by intros;simp) (by intros;simp) (by intros;simp) (by intros;simp))
 case convert a b x=>exact zo3 h hr hq (tk (by intros;simp) (by intros;simp) (by intros;simp) (by intros;simp))
 case indexAddr tt x ix=>exact zng h hr hq (tk (by intros;simp) (by intros;simp) (by intros;simp) (by intros;simp))
 case index tt x ix=>exact znh h hr hq (tk (by intros;simp) (by intros;simp) (by intros;simp) (by intros;simp))
 case slice tt x lo hi mx=>exact zni h hr hq
 case buildSlice tt len ps=>exact zlN h hr hq
 case makeInterface tt x=>exact zo5 h hr hq
 case call c =>
  obtain⟨callee,args,s_⟩:=c;simp only[iS] at h;split at h
  ·rename_i x y tt u h1 h2;split at h
   ·rename_i hb;obtain rfl:=jP hb;obtain rfl:args=#[x,y]:=by apply Array.toList_inj.1;simpa using h1
    exact sk (by apply Array.toList_inj.1;simpa using h2) h hr hq
   ·cases h
  ·rename_i cg;refine pure h ?_;simp only[QJ] at o6;cases hh:qy takes dst with
   | false=>rfl
   | true =>
    rw[hh] at o6;simp only at o6;split at o6
    next k1 k2 k3=>exact(cg _ _ _ _ k2 k3 (by injection k1)).elim
    ·cases o6
  ·exact zo7 he.calls h hr hq
  ·exact znl he.calls h hr hq
  ·cases h
 case makeFunc f first cap =>
  simp only[iS] at h;split at h
  next cs hf dA=>exact zin hf dA h hr hq
  ·cases h
 all_goals exact pure (by simpa only[iS] using h) (tk (by intros;simp) (by intros;simp) (by intros;simp) (by intros;simp))
def zkw{cx:Cx}{all:Array Oper}{o:Oper}{os:List Oper}{x:OR}{v:V}{s':St}(hw:zN all o env=some true)(ho:cx.op takes o env H lk df=some (x,s'))(hx:WJ x v) :
  cx.ops all takes (o::os) ⟨env,H,lk,df⟩=cx.ops all takes os ⟨aI s'.env o.dst v,s'.H,s'.lk,s'.defers⟩:=by
 simp only[Cx.ops,hw,ho];rcases hx with rfl|⟨rfl,rfl⟩<;>simp only[jc]
def QX(ρ:aj)(pa:aR)(w:Option Bool):Gd->Prop
 | .yes=>w=some true
 | .no=>w=some false
 | .sym c=>∃b,w=some b/\∀ak an,ρ <+: ak->pa <+: an->bk ak c=b
def zkx{g:Gd}{tt:TB}{b:Bool}(h:Wq σ.as tt=some g)(hr:Rel n0 B ρ pa σ s)(hb:∀ak an,ρ <+: ak->pa <+: an->bk ak tt=b):QX ρ pa (some b) g:=by
 have h0:=hb ρ pa (di _) (di _);unfold Wq at h;split at h
 next hk=>cases h;simp only[QX,<- h0,jX hr.here.as hk]
 next hk=>cases h;simp only[QX,<- h0,jX hr.here.as hk]
 ·cases h;exact⟨_,rfl,hb⟩
def iF{all:Array Oper}{o:Oper}{g:Gd}(h:Wr σ all o=some g)(hr:Rel n0 B ρ pa σ ⟨env,H,lk,df⟩):QX ρ pa (zN all o env) g:=by
 unfold Wr at h;unfold zN;split at h
 next hg=>cases h;simp only[hg,QX]
 ·rename_i j want hg;simp only[hg];split at h
  ·cases h
  ·rename_i d hd;simp only[hd];split at h
   next l hs=>cases h;have:=hr.here.env _ _ _ hs rfl;simp only[aQ,bw] at this;simp only[this,QX]
   ·rename_i c hn hs;split at h
    ·rename_i tt ht;have hv:∀ak an,ρ <+: ak->pa <+: an->nth env d=some (.bool (bk ak tt)):=λak an e1 e2=>by
      have:=(hr.ext ak an e1 e2).env _ _ _ hs rfl;simp only[aQ] at this;rw[xl (pa:=an) (hr.ext ak an e1 e2).ks ht] at this;exact this
     have h0:=hv ρ pa (di _) (di _);have b8:∀ak an,ρ <+: ak->pa <+: an->bk ak tt=bk ρ tt:=λak an e1 e2=>by
      have:=(hv ak an e1 e2).symm.trans h0;simpa using this
     have hw:∀ak an,ρ <+: ak->pa <+: an->bk ak (QI want tt)=(bk ρ tt == want):=λak an e1 e2=>by
      have:=b8 ak an e1 e2;cases want<;>simp[QI,jQ,this]
     simp only[h0];exact zkx h hr hw
    ·cases h
   ·rename_i g c hs;split at h
    ·rename_i tt ht;have hv:∀ak an,ρ <+: ak->pa <+: an->nth env d=some (bif bk ak g then .bool (bk ak tt) else .bx []):=λak an e1 e2=>by
      have:=(hr.ext ak an e1 e2).env _ _ _ hs rfl;simp only[aQ] at this;rw[xl (pa:=an) (hr.ext ak an e1 e2).ks ht] at this;exact this
     have h0:=hv ρ pa (di _) (di _);have b8:∀ak an,ρ <+: ak->pa <+: an->bk ak g=bk ρ g/\(bk ρ g=true->bk ak tt=bk ρ tt):=λak an e1 e2=>by
      have:=(hv ak an e1 e2).symm.trans h0;cases h1:bk ak g<;>cases h2:bk ρ g<;>rw[h1,h2] at this<;>simp at this ⊢;exact this
     have hw:∀ak an,ρ <+: ak->pa <+: an->bk ak (IA g (QI want tt))=(bk ρ g && (bk ρ tt == want)):=λak an e1 e2=>by
      have h1:=(b8 ak an e1 e2).1;have h2:=(b8 ak an e1 e2).2;rw[yJ,h1];cases hg:bk ρ g with
      | false=>rfl
      | true=>have:=h2 hg;cases want<;>simp[QI,jQ,this]
     have Tq:(match (some (bif bk ρ g then V.bool (bk ρ tt) else .bx []):bS) with|some (.bool b)=>some (b == want)|some (.bx _)=>some false|_=>none)=some (bk ρ g && (bk ρ tt == want)):=by
      cases bk ρ g<;>rfl
     simp only[h0];have:=zkx h hr hw;rw[<- Tq] at this;exact this
    ·cases h
   ·cases h
def Tr(he:Env P gl ph){all:Array Oper}{kk:Sg->Option Tree}:∀{os:List Oper}{σ:Sg}{ρ:aj}{pa:aR}{s:St}{t:Tree},Km P all takes kk os σ=some t->Rel n0 B ρ pa σ s->bU ph gl N t ρ=some r ->
  ∃cW aY bM t' s',kk cW=some t'/\bU ph gl N t' aY=some r/\ρ <+: aY/\pa <+: bM/\Rel n0 B aY bM cW s'/\∃k0,∀n,k0<=n->Cx.ops ⟨P,gl,zl P gl n,gl.uq⟩ all takes os s=some (.normal,s')
 | [],σ,ρ,pa,s,t,h,hr,hq=>⟨σ,ρ,pa,t,s,h,hq,di _,di _,hr,0,λn _=>rfl⟩
 | o::os,σ,ρ,pa,⟨env,H,lk,df⟩,t,h,hr,hq=>by
  have run:∀{tc:Sg}{Cq:aj}{t0:Tree},QJ takes o=true->zN all o env=some true->Rel n0 B Cq pa tc ⟨env,H,lk,df⟩->ρ <+: Cq->iS P takes tc o (λσ v=>Km P all takes kk os (mO σ o.dst v))=some t0->bU ph gl N t0 Cq=some r ->
    ∃cW aY bM t' s',kk cW=some t'/\bU ph gl N t' aY=some r/\ρ <+: aY/\pa <+: bM/\Rel n0 B aY bM cW s'/\∃k0,∀n,k0<=n->Cx.ops ⟨P,gl,zl P gl n,gl.uq⟩ all takes (o::os) ⟨env,H,lk,df⟩=some (.normal,s'):=by
   intro tc Cq t0 iX hw rT ek h0 Ko;obtain⟨rS,sv,sG,Ft,t1,x,s1,v,g1,g2,g3,g4,g5,⟨k1,g6⟩,g7,g8,_⟩:=znm he h0 rT Ko iX;obtain⟨bT,H1,c7,dB⟩:=s1;have F5:=g5.mO (d:=o.dst) (sv:=sv) (v:=v) g8;obtain⟨cW,aY,bM,t',s',f1,f2,f3,f4,f5,k2,f6⟩:=Tr he g1 F5 g2;refine⟨cW,aY,bM,t',s',f1,f2,(ek.trans g3).trans f3,g4.trans f4,f5,max k1 k2,λn hn=>?_⟩;rw[zkw hw (g6 n (by omega)) g7]
   exact f6 n (by omega)
  have skip:∀{tc:Sg}{Cq:aj}{t0:Tree},zN all o env=some false->Rel n0 B Cq pa tc ⟨env,H,lk,df⟩->ρ <+: Cq->Km P all takes kk os (mO tc o.dst tK)=some t0->bU ph gl N t0 Cq=some r ->
    ∃cW aY bM t' s',kk cW=some t'/\bU ph gl N t' aY=some r/\ρ <+: aY/\pa <+: bM/\Rel n0 B aY bM cW s'/\∃k0,∀n,k0<=n->Cx.ops ⟨P,gl,zl P gl n,gl.uq⟩ all takes (o::os) ⟨env,H,lk,df⟩=some (.normal,s'):=by
   intro tc Cq t0 hw rT ek h0 Ko;have F5:=rT.mO (d:=o.dst) (sv:=tK) (v:=.bx []) (λ_ _ _ _ v' cP=>by cases cP;rfl)
   obtain⟨cW,aY,bM,t',s',f1,f2,f3,f4,f5,k2,f6⟩:=Tr he h0 F5 Ko;refine⟨cW,aY,bM,t',s',f1,f2,ek.trans f3,f4,f5,k2,λn hn=>?_⟩;simp only[Cx.ops,hw,jc];exact f6 n hn
  simp only[Km] at h;split at h
  ·cases h
  ·rename_i iX;simp only[ue,J8] at iX;split at h
   ·cases h
   next hg=>exact skip (iF hg hr) hr (di _) h hq
   next hg=>exact run iX (iF hg hr) hr (di _) h hq
   ·rename_i c hg;obtain⟨b,hw,hb⟩:=iF hg hr;split at h
    ·rename_i x hd hx;cases b with
     | true =>
      have BC:=hr.cond (c:=c) hb;have Ir:qy takes o.dst=false:=by
       cases YQ:o.dst with
       | none=>rfl
       | some d=>rw[YQ] at hd;simpa using hd
      obtain⟨v,e1,e2⟩:=WE (gl:=gl) (lk:=lk) (df:=df) (takes:=takes) BC.here Ir hx;have e3:∀ak an,ρ <+: ak->pa <+: an->aQ ak an x=v:=λak an f1 f2=>by
       obtain⟨w,e4,e5⟩:=WE (gl:=gl) (lk:=lk) (df:=df) (takes:=takes) (BC.ext ak an f1 f2) Ir hx;have:=(e1 (zl P gl 0) gl.uq).symm.trans (e4 (zl P gl 0) gl.uq);simp only[aO,bP,OR.val.injEq] at this;cases e5;exact this.1.symm
      have F5:=hr.mO (d:=o.dst) (sv:=.gd c x) (v:=v) (λak an f1 f2 v' cP=>by
       simp only[jA,hb ak an f1 f2,cond_true,aO] at cP
       rw[<- cP,e3 ak an f1 f2])
      obtain⟨cW,aY,bM,t',s',f1,f2,f3,f4,f5,k2,f6⟩:=Tr he h F5 hq;refine⟨cW,aY,bM,t',s',f1,f2,f3,f4,f5,k2,λn hn=>?_⟩;rw[zkw hw (e1 _ _) (.inl rfl)];exact f6 n hn
     | false =>
      have F5:=hr.mO (d:=o.dst) (sv:=.gd c x) (v:=.bx []) (λak an f1 f2 v' cP=>by
       simp only[jA,hb ak an f1 f2,cond_false,aO] at cP
       exact cP.symm)
      obtain⟨cW,aY,bM,t',s',f1,f2,f3,f4,f5,k2,f6⟩:=Tr he h F5 hq;refine⟨cW,aY,bM,t',s',f1,f2,f3,f4,f5,k2,λn hn=>?_⟩;simp only[Cx.ops,hw,jc];exact f6 n hn
    ·obtain⟨ta,tb,h1,h2,h3⟩:=Th h hq;have h0:=hb ρ pa (di _) (di _);rcases h3 with⟨h3,h4⟩|⟨h3,h4⟩
     ·rw[h0] at h3;subst h3;exact run iX hw (hr.cond hb) (di _) h1 h4
     ·rw[h0] at h3;subst h3;exact skip hw (hr.cond (c:=mkNot c) λak an f1 f2=>by rw[jQ,hb ak an f1 f2];rfl) (di _) h2 h4
end
section
set_option linter.unusedSectionVars false
variable{P:aD}{gl:Gl}{ph:PH}{N:Nat}{r:Nat×aj}{ρ aY:aj}{pa bM:aR}{σ cW mP:Sg}{s:St}{n0:Nat}{B:List aN}{env:aj}{H:Hp}{lk:aC}{df:aV}{takes:bA}{k:KT}{t:Tree}
variable [ir gl]
def zo8{ck:CK}{v:V}(h:fm ck v=true):fm ck (aX v)=true:=by
 cases v with
 | sl sz xs o =>
  cases ck<;>simp only[fm,bH,bN] at h<;>simp[fm,aX,oJ,locked];exact jP h.1
 | _=>exact h
def znn(hk:∀i k,nth σ.ks i=some k->fm k (at' ρ i)=true){ck:CK}{c:C}(h:Oy σ.ks ck c=true):fm ck (bw ρ pa c)=true:=by
 cases c with
 | k v=>exact h
 | v i cl =>
  simp only[Oy] at h;split at h
  ·rename_i k' hn;have:=Ho h;subst this;cases cl
   ·exact hk _ _ hn
   ·exact zo8 (hk _ _ hn)
  ·cases h
 | i k t =>
  simp only[Oy] at h;split at h
  ·have:=Ho h;subst this;simp[fm,bw]
  ·cases h
 | b t=>simp only[Oy] at h;split at h<;>first|rfl|cases h
 | s t=>simp only[Oy] at h;split at h<;>first|rfl|cases h
 | sl sz t o =>
  simp only[Oy] at h;split at h
  ·simp only[bN] at h;simp only[fm,bw,h.1,ug,ue];cases o<;>first|rfl|(simp at h)
  ·cases h
 | p a off=>cases h
 | CV i=>cases h
structure gq(kJ:List CK)(ga:Nat)(x:aj):Prop where
 top:aA x=0
 ks:∀j,j<x.length->∃ck v,nth kJ (ga+j)=some ck/\nth x j=some v/\fm ck v=true
def gq.nil{kJ:List CK}{ga:Nat}:gq kJ ga []:=⟨rfl,λj h=>by simp at h⟩
def gq.app{kJ:List CK}{ga:Nat}{x y:aj}(h1:gq kJ ga x)(h2:gq kJ (ga+x.length) y):gq kJ ga (x++y):=by
 refine⟨by rw[wX,h1.top,h2.top];rfl,λj hj=>?_⟩
 by_cases h:j<x.length
 ·obtain⟨ck,v,a,b,c⟩:=h1.ks j h;exact⟨ck,v,a,QO b,c⟩
 ·obtain⟨ck,v,a,b,c⟩:=h2.ks (j - x.length) (by simp at hj;omega)
  refine⟨ck,v,by rw[show ga+j=ga+x.length+(j - x.length) by omega];exact a,?_,c⟩
  rw[zf] at b ⊢;rw[nN (by omega)];exact b
variable{na base:Nat}{kJ:List CK}
def zky(hp:iu aY bM cW env H)(ht:aA aY=0)(h1:ρ <+: aY)(hb:ρ.length=base)(h2:pa <+: bM)(s8:pa.length=na){ga:Nat}{cJ c:C}{x:List C}(h:Wt na base ga kJ cW.ks cJ c=some x) :
  gq kJ ga (aG aY [] x)/\∀pre post an,base+pre.length=ga->pa <+: an->bw (ρ++pre++aG aY [] x++post) an cJ=bw aY bM c:=by
 subst hb s8;have uz:∀{cJ:C},QA cJ c=true->V8 ρ.length cJ=true->(∀a off,cJ=.p a off->a<pa.length)->∀y an,pa <+: an->bw (ρ++y) an cJ=bw aY bM c:=by
  intro cJ hs hl Zx y an nK;obtain⟨z,rfl⟩:=h1;rw[zm4 y hl,<- zqS _ _ hs,zm4 z hl];cases cJ with
  | p a off =>
   have:=Zx a off rfl;simp only[bw];rw[jo nK this,jo h2 this]
  | v i cl=>cases cl<;>rfl
  | _=>rfl
 unfold Wt at h;split at h
 ·rename_i j;split at h
  ·rename_i hj;split at h
   next hs=>cases h;refine⟨gq.nil,λpre post an _ nK=>?_⟩;rw[nI,nI];exact uz hs hj (λ_ _ e=>by cases e) _ an nK
   ·cases h
  ·split at h
   ·rename_i ck E7;split at h
    ·rename_i hc;simp only[bN] at hc;cases h;obtain⟨⟨c1,c2⟩,c3⟩:=hc;obtain⟨d1,d2,d3⟩:=Tg (pa:=bM) hp.ks ht c3;refine⟨⟨by simp only[aG,aA,d3 [],d1];rfl,λi hi=>?_⟩,λpre post an ek _=>?_⟩
     ·simp only[aG,List.length_singleton] at hi;obtain rfl:i=0:=by omega
      exact⟨ck,bw aY [] c,by rw[rP,<- jP c1];exact E7,rfl,by rw[d3 []];exact znn hp.ks c2⟩
     ·have hjn:=jP c1;subst hjn;simp only[aG];rw[d3 []];show at' _ j=_;rw[xj,nI,nI,nN (by omega),nN (by omega)]
      have:j - ρ.length - pre.length=0:=by omega
      rw[this];rfl
    ·cases h
   ·cases h
 ·rename_i a off;split at h
  next hs=>simp only[bN] at hs;cases h;refine⟨gq.nil,λpre post an _ nK=>?_⟩;rw[nI,nI];exact uz hs.1 rfl (λ_ _ e=>by cases e;exact DA hs.2) _ an nK
  ·cases h
 ·rename_i WI QY;split at h
  next hs=>simp only[bN] at hs;cases h;refine⟨gq.nil,λpre post an _ nK=>?_⟩;rw[nI,nI];exact uz hs.1 hs.2 (λ_ _ e=>absurd e (QY _ _)) _ an nK
  ·cases h
def Ts(hp:iu aY bM cW env H)(ht:aA aY=0)(h1:ρ <+: aY)(hb:ρ.length=base)(h2:pa <+: bM)(s8:pa.length=na):∀{Tt cs:List C}{ga:Nat}{x:List C},Oz na base ga kJ cW.ks Tt cs=some x ->
  gq kJ ga (aG aY [] x)/\∀pre post an,base+pre.length=ga->pa <+: an->aG (ρ++pre++aG aY [] x++post) an Tt=aG aY bM cs
 | [],[],ga,x,h=>by cases h;exact⟨gq.nil,λ_ _ _ _ _=>rfl⟩
 | a::as,b::bs,ga,x,h=>by
  simp only[Oz] at h;split at h
  ·rename_i x1 Dw;split at h
   ·rename_i x2 Cm;cases h;obtain⟨a1,a2⟩:=zky hp ht h1 hb h2 s8 Dw;obtain⟨b1,b2⟩:=Ts hp ht h1 hb h2 s8 Cm;have hx:aG aY [] (x1++x2)=aG aY [] x1++aG aY [] x2:=by simp[qj]
    rw[hx];refine⟨a1.app (by rw[qm];exact b1),λpre post an ek nK=>?_⟩
    simp only[aG];have e1:=a2 pre (aG aY [] x2++post) an ek nK;have e2:=b2 (pre++aG aY [] x1) post an (by simp[qm];omega) nK
    simp only[nI] at e1 e2 ⊢;rw[e1,e2]
   ·cases h
  ·cases h
 | [],_::_,_,_,h=>by cases h
 | _::_,[],_,_,h=>by cases h
def zio(hp:iu aY bM cW env H)(ht:aA aY=0)(h1:ρ <+: aY)(hb:ρ.length=base)(h2:pa <+: bM)(s8:pa.length=na){ga:Nat}{cJ c:SC}{x:List C}(h:Wu na base ga kJ cW.ks cJ c=some x) :
  gq kJ ga (aG aY [] x)/\∀pre post an,base+pre.length=ga->pa <+: an->aQ (ρ++pre++aG aY [] x++post) an cJ=aQ aY bM c:=by
 cases cJ<;>cases c<;>simp only[Wu,reduceCtorEq] at h
 ·exact zky hp ht h1 hb h2 s8 h
 ·obtain⟨a,b⟩:=Ts hp ht h1 hb h2 s8 h;exact⟨a,λpre post an e1 e2=>by simp only[aQ];rw[b pre post an e1 e2]⟩
def zfM(hp:iu aY bM cW env H)(ht:aA aY=0)(h1:ρ <+: aY)(hb:ρ.length=base)(h2:pa <+: bM)(s8:pa.length=na):∀{Tt cs:List SC}{ga:Nat}{x:List C},Wv na base ga kJ cW.ks Tt cs=some x ->
  gq kJ ga (aG aY [] x)/\∀pre post an,base+pre.length=ga->pa <+: an->fe (ρ++pre++aG aY [] x++post) an Tt=fe aY bM cs
 | [],[],ga,x,h=>by cases h;exact⟨gq.nil,λ_ _ _ _ _=>rfl⟩
 | a::as,b::bs,ga,x,h=>by
  simp only[Wv] at h;split at h
  ·rename_i x1 Dw;split at h
   ·rename_i x2 Cm;cases h;obtain⟨a1,a2⟩:=zio hp ht h1 hb h2 s8 Dw;obtain⟨b1,b2⟩:=zfM hp ht h1 hb h2 s8 Cm;have hx:aG aY [] (x1++x2)=aG aY [] x1++aG aY [] x2:=by simp[qj]
    rw[hx];refine⟨a1.app (by rw[qm];exact b1),λpre post an ek nK=>?_⟩
    simp only[fe];have e1:=a2 pre (aG aY [] x2++post) an ek nK;have e2:=b2 (pre++aG aY [] x1) post an (by simp[qm];omega) nK
    simp only[nI] at e1 e2 ⊢;rw[e1,e2]
   ·cases h
  ·cases h
 | [],_::_,_,_,h=>by cases h
 | _::_,[],_,_,h=>by cases h
def zno(hp:iu aY bM cW env H)(ht:aA aY=0)(h1:ρ <+: aY)(hb:ρ.length=base)(h2:pa <+: bM)(s8:pa.length=na){ga:Nat}{cJ c:SV}{x:List C}(h:QL na base ga kJ cW.ks cJ c=some x) :
  gq kJ ga (aG aY [] x)/\∀pre post an v,base+pre.length=ga->pa <+: an->jA (ρ++pre++aG aY [] x++post) an cJ=some v->jA aY bM c=some v:=by
 cases cJ with
 | MG=>cases h;exact⟨gq.nil,λ_ _ _ _ _ _ h=>by cases h⟩
 | val a =>
  cases c<;>simp only[QL,reduceCtorEq] at h;obtain⟨e1,e2⟩:=zio hp ht h1 hb h2 s8 h;exact⟨e1,λpre post an v f1 f2 f3=>by cases f3;simp only[jA];rw[e2 pre post an f1 f2]⟩
 | vp a =>
  cases c<;>simp only[QL,reduceCtorEq] at h;obtain⟨e1,e2⟩:=Ts hp ht h1 hb h2 s8 h;exact⟨e1,λpre post an v f1 f2 f3=>by cases f3;simp only[jA];rw[e2 pre post an f1 f2]⟩
 | bx a =>
  cases c<;>simp only[QL,reduceCtorEq] at h;obtain⟨e1,e2⟩:=zfM hp ht h1 hb h2 s8 h;exact⟨e1,λpre post an v f1 f2 f3=>by cases f3;simp only[jA];rw[e2 pre post an f1 f2]⟩
 | gd g a=>cases c<;>cases h
 | fn f a =>
  cases c<;>simp only[QL,reduceCtorEq] at h;split at h
  next hf=>subst hf;obtain⟨e1,e2⟩:=Ts hp ht h1 hb h2 s8 h;exact⟨e1,λpre post an v f1 f2 f3=>by cases f3;simp only[jA];rw[e2 pre post an f1 f2]⟩
  ·cases h
def zfN(hp:iu aY bM cW env H)(ht:aA aY=0)(h1:ρ <+: aY)(hb:ρ.length=base)(h2:pa <+: bM)(s8:pa.length=na):∀{eJ e:List SV}{ga:Nat}{x:List C},Ww na base ga kJ cW.ks eJ e=some x ->
  eJ.length=e.length/\gq kJ ga (aG aY [] x)/\∀pre post an,base+pre.length=ga->pa <+: an->∀i sv v,nth eJ i=some sv->jA (ρ++pre++aG aY [] x++post) an sv=some v->∃MM,nth e i=some MM/\jA aY bM MM=some v
 | [],[],ga,x,h=>by cases h;exact⟨rfl,gq.nil,λ_ _ _ _ _ i sv v h=>by simp[nth] at h⟩
 | a::as,b::bs,ga,x,h=>by
  simp only[Ww] at h;split at h
  ·rename_i x1 Dw;split at h
   ·rename_i x2 Cm;cases h;obtain⟨a1,a2⟩:=zno hp ht h1 hb h2 s8 Dw;obtain⟨b0,b1,b2⟩:=zfN hp ht h1 hb h2 s8 Cm;have hx:aG aY [] (x1++x2)=aG aY [] x1++aG aY [] x2:=by simp[qj]
    rw[hx];refine⟨by simp[b0],a1.app (by rw[qm];exact b1),λpre post an ek nK i sv v hi hv=>?_⟩
    have e1:=a2 pre (aG aY [] x2++post) an;have e2:=b2 (pre++aG aY [] x1) post an (by simp[qm];omega) nK
    simp only[nI] at e1 e2 hv;cases i with
    | zero=>cases hi;exact⟨b,rfl,e1 v ek nK hv⟩
    | succ i=>exact e2 i sv v hi hv
   ·cases h
  ·cases h
 | [],_::_,_,_,h=>by cases h
 | _::_,[],_,_,h=>by cases h
def zeI(hp:iu aY bM cW env H)(ht:aA aY=0)(h1:ρ <+: aY)(hb:ρ.length=base)(h2:pa <+: bM)(s8:pa.length=na):∀{bJ:List (Nat×List C×ai)}{ga:Nat}{x:List C},Wx na base ga kJ cW.ks cW.af bJ=some x ->
  gq kJ ga (aG aY [] x)/\(∀a y,jC a bJ=some y->a<na)/\∀pre post an,base+pre.length=ga->pa <+: an->∀a cs ty,jC a bJ=some (cs,ty)->∃cs',jC a cW.af=some (cs',ty)/\aG (ρ++pre++aG aY [] x++post) an cs=aG aY bM cs'
 | [],ga,x,h=>by cases h;exact⟨gq.nil,λa y h=>by simp[jC] at h,λ_ _ _ _ _ a cs ty h=>by simp[jC] at h⟩
 | (a,cs,t)::r,ga,x,h=>by
  simp only[Wx] at h;split at h
  ·rename_i cs' t' hf;split at h
   ·rename_i hc;simp only[bN] at hc;obtain rfl:=jP hc.1;split at h
    ·rename_i x1 Dw;split at h
     ·rename_i x2 Cm;cases h;obtain⟨a1,a2⟩:=Ts hp ht h1 hb h2 s8 Dw;obtain⟨b1,b0,b2⟩:=zeI hp ht h1 hb h2 s8 Cm;have hx:aG aY [] (x1++x2)=aG aY [] x1++aG aY [] x2:=by simp[qj]
      rw[hx];refine⟨a1.app (by rw[qm];exact b1),λb y hb=>?_,λpre post an ek nK b ds ty hb=>?_⟩
      ·rw[wv] at hb;split at hb
       next e=>subst e;exact DA hc.2
       ·exact b0 b y hb
      ·have e1:=a2 pre (aG aY [] x2++post) an ek nK;have e2:=b2 (pre++aG aY [] x1) post an (by simp[qm];omega) nK
       simp only[nI] at e1 e2 ⊢;rw[wv] at hb;split at hb
       next e=>subst e;cases hb;exact⟨cs',hf,e1⟩
       ·exact e2 b ds ty hb
     ·cases h
    ·cases h
   ·cases h
  ·cases h
def Fu:∀{a b:List CK},Lj a b=true->a <+: b
 | [],b,_=>List.nil_prefix
 | x::xs,[],h=>by cases h
 | x::xs,y::ys,h=>by
  simp only[Lj] at h;split at h
  next e=>subst e;exact List.cons_prefix_cons.2 ⟨rfl,Fu h⟩
  ·cases h
def zjy{x:List C}(rT:Rel n0 B ρ pa σ s)(hJ:S6 σ mP=true){s':St}(hr:Rel n0 B aY bM cW s')(h1:ρ <+: aY)(h2:pa <+: bM)(h:fit σ.ks.length mP cW=some x) :
  Rel n0 B (ρ++aG aY [] x) pa mP s':=by
 simp only[S6,bN] at hJ;obtain⟨⟨⟨⟨j1,j2⟩,j3⟩,j4⟩,j5⟩:=hJ;have l5:=Fu j1;have s8:=jP j4;have OE:=jP j5;have has:mP.as=[]:=by simpa using j2
 have mW:mP.lk=[]:=by simpa using j3
 unfold fit at h;split at h
 ·rename_i x1 Dw;split at h
  ·rename_i x2 Cm;split at h
   ·rename_i hc;simp only[bN] at hc;obtain⟨⟨c1,c2⟩,c3⟩:=hc;cases h;have hlen:ρ.length=σ.ks.length:=rT.kl;have o6:pa.length=mP.na:=by rw[rT.na,s8]
    obtain⟨a0,a1,a2⟩:=zfN hr.here hr.top h1 hlen h2 o6 Dw;obtain⟨b1,b0,b2⟩:=zeI hr.here hr.top h1 hlen h2 o6 Cm;have hx:aG aY [] (x1++x2)=aG aY [] x1++aG aY [] x2:=by simp[qj]
    have Tu:=a1.app (by rw[qm];exact b1)
    rw[hx];have BJ:∀a,a<mP.na->pd bM a=pd pa a:=λa ha=>jo h2 (by rw[o6];exact ha)
    have anG:mP.na<=cW.na:=Z_ c2;have anH:=jP c3;have QW:(ρ++(aG aY [] x1++aG aY [] x2)).length=mP.ks.length:=by
     rw[<- jP c1];simp[qm,hlen]
    refine⟨λak an e1 e2=>⟨λi sv v hi hv=>?_,λa cs ty hf=>?_,λi k hi=>?_,by rw[has];exact λt ht=>by simp at ht⟩,by rw[a0];exact hr.len,o6,?_,?_,?_,QW,by rw[wX,rT.top,Tu.top];rfl,hr.tM,?_,hr.uI,hr.df,λa off hl=>by rw[mW] at hl;simp[ye,xi] at hl,b0,λa off hl=>by rw[mW] at hl;simp[ye,xi] at hl,by rw[<- s8,<- OE];exact rT.nf⟩
    ·obtain⟨z,rfl⟩:=e1;obtain⟨MM,f1,f2⟩:=a2 [] (aG aY [] x2++z) an (by simp) e2 i sv v hi (by simpa using hv)
     exact hr.here.env i MM v f1 f2
    ·obtain⟨z,rfl⟩:=e1;obtain⟨cs',f1,f2⟩:=b2 (aG aY [] x1) z an (by simp[qm]) e2 a cs ty hf
     simp only[nI] at f2 ⊢;rw[f2];have:=hr.here.af a cs' ty f1;rw[jo e2 (by rw[o6];exact b0 _ _ hf),<- BJ a (b0 _ _ hf)]
     exact this
    ·have OC:i<mP.ks.length:=zjv hi;rw[vG e1 (by rw[QW];exact OC)]
     by_cases hb:i<σ.ks.length
     ·rw[kW (by rw[hlen];exact hb)]
      obtain⟨z,hz⟩:=l5;rw[<- hz,zf,nH hb,<- zf] at hi;exact rT.here.ks i k hi
     ·obtain⟨ck,v,f1,f2,f3⟩:=Tu.ks (i - σ.ks.length) (by rw[<- QW] at OC;simp only[oI] at OC ⊢;omega)
      rw[show σ.ks.length+(i - σ.ks.length)=i by omega,hi] at f1
      cases f1;rw[xj,nN (by omega),hlen,<- zf,f2]
      exact f3
    ·intro a a' ha p6 he;rw[<- BJ a ha,<- BJ a' p6] at he;exact hr.inj a a' (by omega) (by omega) he
    ·intro a h3 h4;rw[<- BJ a h4];exact hr.lo a (by omega) (by omega)
    ·intro a h4;rw[<- BJ a h4];exact hr.hi a (by omega)
    ·intro b hb hn;refine hr.base b hb λa ha=>?_;rw[BJ a (by have:=rT.nf;omega)]
     exact hn a (by omega)
   ·cases h
  ·cases h
 ·cases h
end
section
variable{cx:Cx}{all:Array Oper}{takes:bA}{df:aV}
abbrev lW:=Hp×aC
def mY(D:Nat):aR->List lW->Option lW
 | i::rl,h::hs=>match bit D i with
  | true=>some h
  | false=>mY D rl hs
 | [],h::_=>some h
 | _,[]=>none
def qY(rs:List Rec)(D:Nat):Prop:=(∀b,bit D b=true->bit (cn rs) b=true)/\∀q∈rs,q.hp=true->bit D q.idx=true->∀b,bit q.m b=true->bit (cn rs) b=true->bit D b=true
def xn(cx:Cx)(takes:bA)(df:aV)(q:Rec)(S:lW):Prop:=∃c2,cx.dX takes q.o q.env ⟨0,S.1,S.2,df⟩ 0=some (q.v,c2)
inductive tj(cx:Cx)(takes:bA)(df:aV)(rs:List Rec):aR->List lW->Prop where
 |nil (h:lW):tj cx takes df rs [] [h]
 |cons {rl:aR} {h h':lW} {hs:List lW} (q:Rec):q∈rs->q.hp=true->(∀j∈rl,bit q.m j=true/\bit (cn rs) j=true)->(∀D D',cx.dX takes q.o q.env ⟨D',h'.1,h'.2,df⟩ D=some (q.v,⟨D,h.1,h.2,df⟩))->tj cx takes df rs rl (h'::hs)->tj cx takes df rs (q.idx::rl) (h::h'::hs)
structure BK(cx:Cx)(takes:bA)(df:aV)(i:Nat)(rs:List Rec)(rl:aR)(hs:List lW)(c0:eZ)(cs:List eZ):Prop where
 idx:∀q∈rs,q.idx<i
 Fv:∀q∈rs,∀b,bit q.m b=true->b<q.idx
 uniq:∀q∈rs,∀p∈rs,q.idx=p.idx->q=p
 cfg:∀c∈c0::cs,mY c.D rl hs=some (c.H,c.lk)/\c.df=df
 Bq:∀c∈c0::cs,qY rs c.D
 WU:c0.D=cn rs
 comp:∀D,qY rs D->∃c∈c0::cs,c.D=D
 calls:∀q∈rs,q.hp=true->q.idx ∉ rl->∀S∈hs,∀D D',cx.dX takes q.o q.env ⟨D',S.1,S.2,df⟩ D=some (q.v,⟨D,S.1,S.2,df⟩)
 Tv:∀j∈rl,j<i
 chain:tj cx takes df rs rl hs
 rds:∀q∈rs,q.hp=false->q.free=false->∀D S,qY rs D->kj (Nat.land q.m (cn rs)) D=true->mY D rl hs=some S->q9 D q rs=true\/xn cx takes df q S
def uB{o:Oper}{env:aj}{c:eZ}{D:Nat}{v:V}{H':Hp}{oM:aC}{Fb:aV}(h:cx.dX takes o env c D=some (v,⟨D,H',oM,Fb⟩))(D':Nat)(c':eZ)(h1:c'.H=c.H)(h2:c'.lk=c.lk)(h3:c'.df=c.df):cx.dX takes o env c' D'=some (v,⟨D',H',oM,Fb⟩):=by
 unfold Cx.dX at h ⊢;rw[h1,h2,h3];split at h<;>first|(cases h;done)|skip
 all_goals
  rename_i az;simp only[aO,bP,eZ.mk.injEq,fK] at h;obtain⟨rfl,rfl,rfl,rfl⟩:=h;simp only[]
def zfO{q:Rec}{c:eZ}(h:xn cx takes df q (c.H,c.lk))(hd:c.df=df):cx.eU takes q.o q.env q.v c=true:=by
 obtain⟨c2,h⟩:=h;have:cx.dX takes q.o q.env c 0=some (q.v,c2):=by
  rw[<- h];unfold Cx.dX;simp only[hd]
 simp only[Cx.eU,this,V.ej]
def zeJ{D:Nat}:∀{l:List eZ},(∃c∈l,c.D=D)->∃c,xP D l=some c/\c∈l/\c.D=D
 | [],h=>by obtain⟨c,hc,_⟩:=h;simp at hc
 | c::l,h=>by
  simp only[xP]
  by_cases hD:c.D=D
  ·exact⟨c,by simp[hD],ew,hD⟩
  ·have hb:Nat.beq c.D D=false:=by cases hh:Nat.beq c.D D with|false=>rfl|true=>exact absurd (eT hh) hD
   obtain⟨x,hx,QZ⟩:=h;rcases cS.1 hx with rfl|hx
   ·exact absurd QZ hD
   ·obtain⟨y,h1,h2,h3⟩:=zeJ ⟨x,hx,QZ⟩;exact⟨y,by simp[hb,h1],cZ _ h2,h3⟩
def zgT(b:aN):gM b b=true:=by
 cases b with
 | cells cs t=>simp[gM,eP]
 | map es =>
  simp only[gM]
  induction es with
  | nil=>rfl
  | cons x xs ih=>obtain⟨a,b⟩:=x;simp[uj,V.ej,ih]
 | iter s i=>simp[gM,pZ]
 | ul v z cs e=>simp[gM,eP]
def tn:∀(l:List aN),m7 l l=true
 | []=>rfl
 | b::l=>by simp[m7,zgT,tn l]
def tq:∀(l:aC),mg l l=true
 | []=>rfl
 | (a,b)::l=>by simp[mg,tq l]
def tr:∀(l:aV),nQ l l=true
 | []=>rfl
 | (a,b)::l=>by simp[nQ,V.ej,eP,tr l]
def zeK{a b:eZ}(h1:a.H=b.H)(h2:a.lk=b.lk)(h3:a.df=b.df):RA a b=true:=by
 simp[RA,h1,h2,h3,tq,tr,tn]
def zc9{D:Nat}{q d:Rec}:∀{rs:List Rec},d∈rs->d.hp=true->bit D d.idx=true->bit d.m q.idx=true->q9 D q rs=true
 | e::rs,h,h1,h2,h3=>by
  simp only[q9,gZ,bN];rcases cS.1 h with rfl|h
  ·exact .inl ⟨⟨h1,h2⟩,h3⟩
  ·exact .inr (zc9 h h1 h2 h3)
def bF{r:Rec}{rs:List Rec}{b:Nat}:bit (cn (r::rs)) b=true ↔ (r.hp=true/\r.idx=b)\/bit (cn rs) b=true:=by
 rw[ep,ep];constructor
 ·rintro⟨q,hq,h1,h2⟩;rcases cS.1 hq with rfl|hq
  ·exact .inl ⟨h1,h2⟩
  ·exact .inr ⟨q,hq,h1,h2⟩
 ·rintro(⟨h1,h2⟩|⟨q,hq,h1,h2⟩)
  ·exact⟨r,ew,h1,h2⟩
  ·exact⟨q,cZ _ hq,h1,h2⟩
section
variable{i:Nat}{rs:List Rec}{rl:aR}{hs:List lW}{c0:eZ}{cs:List eZ}{r:Rec}
def wY(hp:r.hp=false){D:Nat}:qY (r::rs) D ↔ qY rs D:=by
 have hc:∀b,bit (cn (r::rs)) b=true ↔ bit (cn rs) b=true:=λb=>by rw[bF];simp[hp]
 unfold qY;constructor
 ·rintro⟨h1,h2⟩;exact⟨λb hb=>(hc b).1 (h1 b hb),λq hq fh tu b hb nc=>h2 q (cZ _ hq) fh tu b hb ((hc b).2 nc)⟩
 ·rintro⟨h1,h2⟩;refine⟨λb hb=>(hc b).2 (h1 b hb),λq hq fh tu b hb nc=>?_⟩;rcases cS.1 hq with rfl|hq
  ·rw[hp] at fh;cases fh
  ·exact h2 q hq fh tu b hb ((hc b).1 nc)
def zbL(hp:r.hp=false):cn (r::rs)=cn rs:=by simp only[cn,hp]
def zbM{rs':List Rec}(dZ:∀q∈rs,q∈rs')(KL:∀b,bit (cn rs) b=true->bit (cn rs') b=true){rl:aR}{hs:List lW}(h:tj cx takes df rs rl hs):tj cx takes df rs' rl hs:=by
 induction h with
 | nil h=>exact .nil h
 | cons q h1 h2 h3 h4 _ ih=>exact .cons q (dZ q h1) h2 (λj hj=>⟨(h3 j hj).1,KL j (h3 j hj).2⟩) h4 ih
def BK.quiet(h:BK cx takes df i rs rl hs c0 cs)(hi:r.idx=i)(hm:∀b,bit r.m b=true->b<i)(hp:r.hp=false)
  (hv:r.free=true\/∀D S,qY rs D->kj (Nat.land r.m (cn rs)) D=true->mY D rl hs=some S->xn cx takes df r S) {c1:eZ} :
  (∀k,cx.lF takes rs r c0 c1 cs k=k (c0::cs))/\BK cx takes df (i+1) (r::rs) rl hs c0 cs:=by
 constructor
 ·intro k;unfold Cx.lF;simp only[hp];split
  ·rfl
  ·rename_i hf;exfalso;rcases hv with hv|hv
   ·simp[hv] at hf
   ·have dz:jW (λc=>match kj (Nat.land r.m (cn rs)) c.D with|true=>cx.eU takes r.o r.env r.v c|false=>true) cs=true:=by
     refine yH λc hc=>?_;split
     next hs'=>have lX:=cZ c0 hc;exact zfO (hv c.D _ (h.Bq c lX) hs' (h.cfg c lX).1) (h.cfg c lX).2
     ·rfl
    have hf2:=(KD.1 hf).2;exact Bool.noConfusion (hf2.symm.trans dz)
 ·have sZ:cn (r::rs)=cn rs:=zbL hp;refine⟨λq hq=>?_,λq hq b hb=>?_,λq hq p CG he=>?_,h.cfg,λc hc=>(wY hp).2 (h.Bq c hc),by rw[sZ];exact h.WU,λD hD=>h.comp D ((wY hp).1 hD),λq hq h1 h2=>?_,λq hq=>?_,zbM (λq hq=>cZ _ hq) (λb hb=>by rw[sZ];exact hb) h.chain,λq hq h1 h2 D S hD dZ hS=>?_⟩
  ·rcases cS.1 hq with rfl|hq
   ·omega
   ·have:=h.idx q hq;omega
  ·rcases cS.1 hq with rfl|hq
   ·have:=hm b hb;omega
   ·exact h.Fv q hq b hb
  ·rcases cS.1 hq with e1|g1<;>rcases cS.1 CG with e2|g2
   ·rw[e1,e2]
   ·have:=h.idx p g2;rw[e1] at he;omega
   ·have:=h.idx q g1;rw[e2] at he;omega
   ·exact h.uniq q g1 p g2 he
  ·rcases cS.1 hq with rfl|hq
   ·rw[hp] at h1;cases h1
   ·exact h.calls q hq h1 h2
  ·have:=h.Tv q hq;omega
  ·rw[sZ] at dZ;rw[wY hp] at hD;have Lm:∀q,q9 D q (r::rs)=q9 D q rs:=λq=>by simp[q9,hp]
   rw[Lm];rcases cS.1 hq with rfl|hq
   ·rcases hv with hv|hv
    ·rw[hv] at h2;cases h2
    ·exact .inr (hv D S hD dZ hS)
   ·exact h.rds q hq h1 h2 D S hD dZ hS
def Tw{D:Nat}(MT:i ∉ rl):mY (Nat.lor D (Nat.pow 2 i)) rl hs=mY D rl hs:=by
 induction rl generalizing hs with
 | nil=>cases hs<;>rfl
 | cons j rl ih =>
  simp only[cS,not_or] at MT;cases hs with
  | nil=>rfl
  | cons a hs =>
   have:bit (Nat.lor D (Nat.pow 2 i)) j=bit D j:=by rw[qW,jh];simp[MT.1]
   simp only[mY,this,ih MT.2]
def zgU{D:Nat}{S:lW}:∀{rl:aR}{hs:List lW},mY D rl hs=some S->S∈hs
 | [],[],h=>by cases h
 | [],a::hs,h=>by simp only[mY,aO] at h;subst h;exact ew
 | j::rl,[],h=>by cases h
 | j::rl,a::hs,h=>by
  simp only[mY] at h;split at h
  ·cases h;exact ew
  ·exact cZ _ (zgU h)
def WV{D:Nat}{rl:aR}{a:lW}{hs:List lW}(h:∀j∈rl,bit D j=true):mY D rl (a::hs)=some a:=by
 cases rl with
 | nil=>rfl
 | cons j rl=>simp only[mY,h j ew]
def zjz{q:Rec}(hu:∀q∈rs,∀p∈rs,q.idx=p.idx->q=p)(hq:q∈rs)(_hqh:q.hp=true){D:Nat}(hD:qY rs D)(tu:bit D q.idx=false)(dZ:∀b,bit q.m b=true->bit (cn rs) b=true->bit D b=true) :
  ∀{rl:aR}{hs:List lW},tj cx takes df rs rl hs->rl.Nodup->q.idx∈rl->∃S S',mY D rl hs=some S/\mY (Nat.lor D (Nat.pow 2 q.idx)) rl hs=some S'/\∀D1 D2,cx.dX takes q.o q.env ⟨D1,S.1,S.2,df⟩ D2=some (q.v,⟨D2,S'.1,S'.2,df⟩):=by
 intro rl hs hc
 induction hc with
 | nil h=>intro _ h;simp at h
 | @cons rl h h' hs p h1 h2 h3 h4 _ ih =>
  intro DU hm;have hb:∀b,bit (Nat.lor D (Nat.pow 2 q.idx)) b=(bit D b || decide (q.idx=b)):=λb=>by rw[qW,jh]
  simp only[List.nodup_cons] at DU
  by_cases he:q.idx=p.idx
  ·obtain rfl:=hu q hq p h1 he;refine⟨h',h,?_,?_,λD1 D2=>h4 D2 D1⟩
   ·simp only[mY,tu];exact WV λj hj=>dZ j (h3 j hj).1 (h3 j hj).2
   ·simp only[mY,hb];simp
  ·have Lo:q.idx∈rl:=by simpa[he] using hm
   have OF:bit D p.idx=false:=by
    cases hh:bit D p.idx with
    | false=>rfl
    | true =>
     have:=hD.2 p h1 h2 hh q.idx (h3 _ Lo).1 (h3 _ Lo).2;rw[this] at tu;cases tu
   obtain⟨S,S',g1,g2,g3⟩:=ih DU.2 Lo;refine⟨S,S',?_,?_,g3⟩
   ·simp only[mY,OF];exact g1
   ·simp only[mY,hb,OF,he,decide_false,Bool.or_false];exact g2
def BK.Mh(h:BK cx takes df i rs rl hs c0 cs)(hi:r.idx=i)(hm:∀b,bit r.m b=true->b<i)(hp:r.hp=true){sH:aR}{hs':List lW}{c1:eZ}(rR:c1.D=Nat.lor c0.D (Nat.pow 2 i))
  (hr:∀c∈c0::cs,kj (Nat.land r.m (cn rs)) c.D=true->∃H' oM,(∀D',cx.dX takes r.o r.env c D'=some (r.v,⟨D',H',oM,df⟩))/\mY (Nat.lor c.D (Nat.pow 2 i)) sH hs'=some (H',oM))
  (h1c:mY c1.D sH hs'=some (c1.H,c1.lk)/\c1.df=df)
  (b8:∀D,bit D i=false->mY D sH hs'=mY D rl hs)
  (IQ:(sH=rl/\hs'=hs)\/∃S',sH=i::rl/\hs'=S'::hs)
  (IS:∀q∈r::rs,q.hp=true->q.idx ∉ sH->∀S∈hs',∀D D',cx.dX takes q.o q.env ⟨D',S.1,S.2,df⟩ D=some (q.v,⟨D,S.1,S.2,df⟩))
  (IT:tj cx takes df (r::rs) sH hs') (DU:sH.Nodup)
  (aaI:sH=i::rl->∀q∈rs,q.hp=false->q.free=false->∀D S,qY (r::rs) D->bit D i=true->kj (Nat.land q.m (cn rs)) D=true->mY D sH hs'=some S->q9 D q (r::rs)=true\/xn cx takes df q S) :
  ∃cs',(∀k,cx.lF takes rs r c0 c1 cs k=k cs')/\∃Ke,cs'=c1::Ke/\BK cx takes df (i+1) (r::rs) sH hs' c1 Ke:=by
 have oe:∀q∈rs,q.idx<i:=h.idx;have MT:∀j∈sH,j=i\/j∈rl:=λj hj=>by
  rcases IQ with⟨e,_⟩|⟨_,e,_⟩
  ·rw[e] at hj;exact .inr hj
  ·rw[e] at hj;exact cS.1 hj
 have aaJ:∀j∈rl,j∈sH:=λj hj=>by
  rcases IQ with⟨e,_⟩|⟨_,e,_⟩
  ·rw[e];exact hj
  ·rw[e];exact cZ _ hj
 have Iy:∀q∈r::rs,∀p∈r::rs,q.idx=p.idx->q=p:=λq hq p CG he=>by
  rcases cS.1 hq with e1|g1<;>rcases cS.1 CG with e2|g2
  ·rw[e1,e2]
  ·have:=oe p g2;rw[e1] at he;omega
  ·have:=oe q g1;rw[e2] at he;omega
  ·exact h.uniq q g1 p g2 he
 have Fw:bit (cn rs) i=false:=by
  cases hb:bit (cn rs) i with
  | false=>rfl
  | true=>obtain⟨q,hq,_,he⟩:=ep.1 hb;have:=oe q hq;omega
 have CQ:∀c∈c0::cs,bit c.D i=false:=λc hc=>by
  cases hb:bit c.D i with
  | false=>rfl
  | true=>rw[(h.Bq c hc).1 i hb] at Fw;cases Fw
 have aaK:∀D,qY rs D->qY (r::rs) D:=λD hD=>by
  refine⟨λb hb=>bF.2 (.inr (hD.1 b hb)),λq hq fh tu b hb nc=>?_⟩;rcases cS.1 hq with rfl|hq
  ·rw[hi] at tu;rw[hD.1 i tu] at Fw;cases Fw
  ·refine hD.2 q hq fh tu b hb ?_;rcases bF.1 nc with⟨_,he⟩|nc
   ·have:=h.Fv q hq b hb;have:=oe q hq;omega
   ·exact nc
 have Ty:∀D,qY rs D->kj (Nat.land r.m (cn rs)) D=true->qY (r::rs) (Nat.lor D (Nat.pow 2 i)):=λD hD dZ=>by
  refine⟨λb hb=>?_,λq hq fh tu b hb nc=>?_⟩
  ·rw[qW,gZ,jh,decide_eq_true_eq] at hb;rcases hb with hb|rfl
   ·exact bF.2 (.inr (hD.1 b hb))
   ·exact bF.2 (.inl ⟨hp,hi⟩)
  ·rw[qW,gZ]
   left
   rcases cS.1 hq with rfl|hq
   ·rcases bF.1 nc with⟨_,he⟩|nc
    ·have:=hm b hb;omega
    ·exact bR.1 dZ b (by rw[qX,hb,nc];rfl)
   ·have K6:b<i:=by have:=h.Fv q hq b hb;have:=oe q hq;omega
    rw[qW,gZ,jh,decide_eq_true_eq] at tu;rcases tu with tu|he
    ·refine hD.2 q hq fh tu b hb ?_;rcases bF.1 nc with⟨_,he⟩|nc
     ·omega
     ·exact nc
    ·have:=oe q hq;omega
 have Tz:∀D,qY (r::rs) D->bit D i=false->qY rs D:=λD hD nG=>by
  refine⟨λb hb=>?_,λq hq fh tu b hb nc=>hD.2 q (cZ _ hq) fh tu b hb (bF.2 (.inr nc))⟩;rcases bF.1 (hD.1 b hb) with⟨_,he⟩|nc
  ·rw[hi] at he;subst he;rw[hb] at nG;cases nG
  ·exact nc
 have TA:∀D,qY (r::rs) D->bit D i=true->∃D0,qY rs D0/\kj (Nat.land r.m (cn rs)) D0=true/\D=Nat.lor D0 (Nat.pow 2 i)/\∀b,bit D0 b=true ↔ (bit D b=true/\b≠i):=λD hD nG=>by
  have pg:∀b,bit (Nat.xor D (Nat.pow 2 i)) b=true ↔ (bit D b=true/\b≠i):=λb=>by
   have:bit (Nat.xor D (Nat.pow 2 i)) b=(bit D b ^^ decide (i=b)):=by
    rw[yC,yC];have:Nat.xor D (Nat.pow 2 i)=D ^^^ (2 ^ i):=rfl;rw[this,Nat.testBit_xor,Nat.testBit_two_pow]
   rw[this]
   by_cases he:i=b
   ·subst he;simp[nG]
   ·have:¬b=i:=λe=>he e.symm;simp[he,this]
  refine⟨Nat.xor D (Nat.pow 2 i),⟨λb hb=>?_,λq hq fh tu b hb nc=>?_⟩,bR.2 λb hb=>?_,kK λb=>?_,pg⟩
  ·obtain⟨h1,h2⟩:=(pg b).1 hb;rcases bF.1 (hD.1 b h1) with⟨_,he⟩|nc
   ·rw[hi] at he;exact absurd he.symm h2
   ·exact nc
  ·obtain⟨h1,h2⟩:=(pg _).1 tu;refine(pg b).2 ⟨hD.2 q (cZ _ hq) fh h1 b hb (bF.2 (.inr nc)),?_⟩;have:=h.Fv q hq b hb;have:=oe q hq;omega
  ·rw[qX,bN] at hb;refine(pg b).2 ⟨hD.2 r ew hp (by rw[hi];exact nG) b hb.1 (bF.2 (.inr hb.2)),?_⟩
   have:=hm b hb.1;omega
  ·have hb:=pg b;rw[qW,jh]
   by_cases he:i=b
   ·subst he;simp[nG]
   ·have cg:b≠i:=λe=>he e.symm;have Ee:bit (Nat.xor D (Nat.pow 2 i)) b=true ↔ bit D b=true:=⟨λh=>(hb.1 h).1,λh=>hb.2 ⟨h,cg⟩⟩;rw[FY.2 Ee];simp[he]
 have MU:∀q∈rs,q.hp=false->q.free=false->∀D S,qY (r::rs) D->bit D i=true->kj (Nat.land q.m (cn rs)) D=true->mY D sH hs'=some S->q9 D q (r::rs)=true\/xn cx takes df q S:=by
  intro q hq g1 g2 D S hD nG dZ hS;rcases IQ with⟨ea,eb⟩|⟨_,e,_⟩
  ·obtain⟨D0,k1,k2,k3,k4⟩:=TA D hD nG;subst ea eb;have r_:i ∉ sH:=λhh=>by have:=h.Tv i hh;omega
   rw[k3,Tw r_] at hS;have TC:kj (Nat.land q.m (cn rs)) D0=true:=bR.2 λb hb=>by
    refine(k4 b).2 ⟨bR.1 dZ b hb,?_⟩;rw[qX,bN] at hb;have:=h.Fv q hq b hb.1;have:=oe q hq;omega
   rcases h.rds q hq g1 g2 D0 S k1 TC hS with g|g
   ·left
    have IU:∀l:List Rec,q9 D0 q l=true->q9 D q l=true:=by
     intro l
     induction l with
     | nil=>intro h;cases h
     | cons x l ih =>
      simp only[q9,gZ,bN];rintro(⟨⟨a1,a2⟩,a3⟩|a)
      ·exact .inl ⟨⟨a1,((k4 _).1 a2).1⟩,a3⟩
      ·exact .inr (ih a)
    simp only[q9,IU rs g,Bool.or_true]
   ·exact .inr g
  ·exact aaI e q hq g1 g2 D S hD nG dZ hS
 have Hj:∀l:List eZ,(∀c∈l,c∈c0::cs)->∃l',cx.lE takes r.o r.env r.v (Nat.land r.m (cn rs)) (Nat.pow 2 i) l=some l'/\(∀c'∈l',∃c∈l,kj (Nat.land r.m (cn rs)) c.D=true/\c'.D=Nat.lor c.D (Nat.pow 2 i)/\mY c'.D sH hs'=some (c'.H,c'.lk)/\c'.df=df)/\(∀c∈l,kj (Nat.land r.m (cn rs)) c.D=true->∃c'∈l',c'.D=Nat.lor c.D (Nat.pow 2 i)):=by
  intro l
  induction l with
  | nil=>intro _;exact⟨[],rfl,λc hc=>by simp at hc,λc hc=>by simp at hc⟩
  | cons c l ih =>
   intro hl;obtain⟨l',e1,e2,e3⟩:=ih λx hx=>hl x (cZ _ hx);cases dZ:kj (Nat.land r.m (cn rs)) c.D with
   | false =>
    refine⟨l',by simp only[Cx.lE,dZ,e1],λc' ez=>?_,λx hx s4=>?_⟩
    ·obtain⟨x,hx,g⟩:=e2 c' ez;exact⟨x,cZ _ hx,g⟩
    ·rcases cS.1 hx with rfl|hx
     ·rw[dZ] at s4;cases s4
     ·exact e3 x hx s4
   | true =>
    obtain⟨H',oM,g1,g2⟩:=hr c (hl c ew) dZ;refine⟨⟨Nat.lor c.D (Nat.pow 2 i),H',oM,df⟩::l',by simp only[Cx.lE,dZ,g1,V.ej,e1],λc' ez=>?_,λx hx s4=>?_⟩
    ·rcases cS.1 ez with rfl|ez
     ·exact⟨c,ew,dZ,rfl,g2,rfl⟩
     ·obtain⟨x,hx,g⟩:=e2 c' ez;exact⟨x,cZ _ hx,g⟩
    ·rcases cS.1 hx with rfl|hx
     ·exact⟨_,ew,rfl⟩
     ·obtain⟨c',g1,g2⟩:=e3 x hx s4;exact⟨c',cZ _ g1,g2⟩
 obtain⟨l,e1,e2,e3⟩:=Hj cs λc hc=>cZ _ hc;have R2:kj (Nat.land r.m (cn rs)) c0.D=true:=bR.2 λb hb=>by rw[qX,bN] at hb;rw[h.WU];exact hb.2
 have OG:∀c∈c1::l++c0::cs,mY c.D sH hs'=some (c.H,c.lk)/\c.df=df:=λc hc=>by
  simp only[iQ,cS,rO] at hc;rcases hc with rfl|hc|hc
  ·exact h1c
  ·obtain⟨x,_,_,_,g1,g2⟩:=e2 c hc;exact⟨g1,g2⟩
  ·have ez:c∈c0::cs:=by simpa using hc
   rw[b8 c.D (CQ c ez)];exact h.cfg c ez
 have Lp:∀c∈c1::l++c0::cs,qY (r::rs) c.D:=λc hc=>by
  simp only[iQ,cS,rO] at hc;rcases hc with rfl|hc|hc
  ·rw[rR];exact Ty _ (h.Bq c0 ew) R2
  ·obtain⟨x,hx,s4,QZ,_⟩:=e2 c hc;rw[QZ];exact Ty _ (h.Bq x (cZ _ hx)) s4
  ·exact aaK _ (h.Bq c (by simpa using hc))
 have MV:∀D,qY (r::rs) D->∃c∈c1::l++c0::cs,c.D=D:=λD hD=>by
  cases nG:bit D i with
  | false =>
   obtain⟨c,hc,CQ⟩:=h.comp D (Tz D hD nG);exact⟨c,by simp only[iQ,cS,rO];right;right;simpa using hc,CQ⟩
  | true =>
   obtain⟨D0,g1,g2,g3,_⟩:=TA D hD nG;obtain⟨c,hc,hcE⟩:=h.comp D0 g1;rcases cS.1 hc with e|hc
   ·exact⟨c1,by simp,by rw[rR,g3,<- hcE,e]⟩
   ·obtain⟨c',ez,aaM⟩:=e3 c hc (by rw[hcE];exact g2)
    exact⟨c',by simp[ez],by rw[aaM,hcE,g3]⟩
 have fZ:jW (λc=>cx.CC takes rs (cn rs) r (c1::l++c0::cs) c) (c1::l)=true:=by
  refine yH λc hc=>yH λq hq=>?_;have sZ:c∈c1::l++c0::cs:=by simp only[iQ,cS,rO] at hc ⊢;rcases hc with rfl|hc;exact .inl rfl;exact .inr (.inl hc)
  have OH:bit c.D i=true:=by
   rcases cS.1 hc with rfl|hc
   ·rw[rR,qW,jh];simp
   ·obtain⟨x,_,_,QZ,_⟩:=e2 c hc;rw[QZ,qW,jh];simp
  obtain⟨s1,s2⟩:=OG c sZ;split
  ·rfl
  ·rename_i dZ;split
   ·rename_i fh;split
    ·rfl
    ·rename_i tu;have gI:qY (r::rs) (Nat.lor c.D (Nat.pow 2 q.idx)):=by
      have hC:=Lp c sZ;refine⟨λb hb=>?_,λp CG OD OF b hb nc=>?_⟩
      ·rw[qW,gZ,jh,decide_eq_true_eq] at hb;rcases hb with hb|rfl
       ·exact hC.1 b hb
       ·exact bF.2 (.inr (ep.2 ⟨q,hq,fh,rfl⟩))
      ·rw[qW,gZ]
       left
       rw[qW,gZ,jh,decide_eq_true_eq] at OF;rcases OF with OF|he
       ·exact hC.2 p CG OD OF b hb nc
       ·have hpq:p=q:=by
         rcases cS.1 CG with rfl|CG
         ·have:=oe q hq;omega
         ·exact h.uniq p CG q hq he.symm
        subst hpq;refine bR.1 dZ b ?_;rw[qX,hb,ug];rcases bF.1 nc with⟨_,K4⟩|nc
        ·have:=h.Fv p hq b hb;have:=oe p hq;omega
        ·exact nc
     obtain⟨c3,f1,f2,f3⟩:=zeJ (MV _ gI);obtain⟨t1,t2⟩:=OG c3 f2;rw[f3] at t1;rw[f1]
     by_cases hqr:q.idx∈rl
     ·obtain⟨S,S',g1,g2,g3⟩:=zjz Iy (cZ _ hq) fh (Lp c sZ) tu (λb hb nc=>bR.1 dZ b (by
       rw[qX,hb,ug];rcases bF.1 nc with⟨_,K4⟩|nc
       ·have:=h.Fv q hq b hb;have:=oe q hq;omega
       ·exact nc)) IT DU (aaJ _ hqr)
      rw[s1] at g1;obtain rfl:=tU g1;rw[t1] at g2;obtain rfl:=tU g2;have:=uB (g3 0 0) 0 c rfl rfl s2;simp only[this,V.ej,ug];exact zeK rfl rfl t2.symm
     ·have cg:q.idx ∉ sH:=λhh=>by
       rcases MT _ hh with he|hh
       ·have:=oe q hq;omega
       ·exact hqr hh
      have:=uB (IS q (cZ _ hq) fh cg (c.H,c.lk) (zgU s1) 0 0) 0 c rfl rfl s2;simp only[this,V.ej,ug];rw[Tw cg,s1] at t1;simp only[aO,bP] at t1;exact zeK t1.1 t1.2 t2.symm
   ·rename_i fh;cases hf:q.free with
    | true=>simp
    | false =>
     rcases MU q hq fh hf c.D _ (Lp c sZ) OH dZ s1 with g|g
     ·simp only[q9,gZ,bN] at g;rcases g with⟨⟨_,_⟩,g⟩|g
      ·simp[g]
      ·simp[g]
     ·rw[zfO g s2];simp
 refine⟨c1::l++c0::cs,λk=>?_,l++c0::cs,rfl,?_⟩
 ·unfold Cx.lF;simp only[hp,hi,e1];rw[fZ]
 ·refine⟨λq hq=>?_,λq hq b hb=>?_,λq hq p CG he=>?_,OG,Lp,?_,MV,IS,λj hj=>?_,IT,λq hq g1 g2 D S hD dZ hS=>?_⟩
  ·rcases cS.1 hq with rfl|hq
   ·omega
   ·have:=oe q hq;omega
  ·rcases cS.1 hq with rfl|hq
   ·have:=hm b hb;omega
   ·exact h.Fv q hq b hb
  ·rcases cS.1 hq with e1|g1<;>rcases cS.1 CG with e2|g2
   ·rw[e1,e2]
   ·have:=oe p g2;rw[e1] at he;omega
   ·have:=oe q g1;rw[e2] at he;omega
   ·exact h.uniq q g1 p g2 he
  ·rw[rR,h.WU];refine kK λb=>?_;have:=@bF r rs b;rw[qW,jh];cases g1:bit (cn (r::rs)) b<;>cases g2:bit (cn rs) b<;>simp_all
  ·rcases MT j hj with e|e
   ·omega
   ·have:=h.Tv j e;omega
  ·rcases cS.1 hq with rfl|hq
   ·rw[hp] at g1;cases g1
   ·have MW:kj (Nat.land q.m (cn rs)) D=true:=bR.2 λb hb=>by
     rw[qX,bN] at hb;exact bR.1 dZ b (by rw[qX,hb.1,bF.2 (.inr hb.2)];rfl)
    cases nG:bit D i with
    | true=>exact MU q hq g1 g2 D S hD nG MW hS
    | false =>
     rw[b8 D nG] at hS;rcases h.rds q hq g1 g2 D S (Tz D hD nG) MW hS with g|g
     ·left;simp[q9,g]
     ·exact .inr g
end
end
section
set_option linter.unusedSectionVars false
variable{P:aD}{gl:Gl}{ph:PH}{N:Nat}{r:Nat×aj}{ρ aY:aj}{pa bM:aR}{σ:Sg}{s:St}{n0:Nat}{B:List aN}{env:aj}{H:Hp}{lk:aC}{df:aV}{takes:bA}{k:KT}{t:Tree}
variable [ir gl]
def xE{dst:eC}{tt:ai}{a:aH}{type:ai}{pos:String}{after:Array Edge}{guard:i_}{c:Cp}(h:j7 takes σ ⟨dst,.load tt a,type,pos,after,guard⟩=some c) :
  (qy takes dst=false/\(∃g,a=.global g)/\c=.free)\/(qy takes dst=false/\∃b off,pk σ a=some (.val (.one (.p b off)))/\c=.rd b)\/(qy takes dst=false/\∃cs,pk σ a=some (.vp cs)/\c=.free)\/(qy takes dst=true/\∃b off,pk σ a=some (.val (.one (.p b off)))/\c=.wr b):=by
 simp only[j7] at h;cases ht:qy takes dst with
 | false =>
  cases a with
  | global g=>simp only[ht] at h;cases h;exact .inl ⟨rfl,⟨g,rfl⟩,rfl⟩
  | _ =>
   simp only[ht] at h;split at h
   next hh=>cases hh
   next l5 _=>cases h;exact .inr (.inl ⟨rfl,_,_,l5,rfl⟩)
   next l5 _=>cases h;exact .inr (.inr (.inl ⟨rfl,_,l5,rfl⟩))
   ·cases h
 | true =>
  simp only[ht] at h;split at h
  next l5 _=>cases h;exact .inr (.inr (.inr ⟨rfl,_,_,l5,rfl⟩))
  next hh=>cases hh
  next hh=>cases hh
  ·cases h
def WW{o:Oper}{c:Cp}(h:j7 takes σ o=some c):vk takes o=(match c with|.free=>false|.rd _=>false|.call=>true|.wr _=>true):=by
 obtain⟨dst,op,type,pos,after,guard⟩:=o;cases op
 case load tt a =>
  have hl:vk takes ⟨dst,.load tt a,type,pos,after,guard⟩=qy takes dst:=by
   cases dst<;>rfl
  rw[hl];rcases xE h with⟨e,_,rfl⟩|⟨e,_,_,_,rfl⟩|⟨e,_,_,rfl⟩|⟨e,_,_,_,rfl⟩<;>exact e
 all_goals simp only[j7] at h;try (cases h;done)
 case store tt a x =>
  split at h
  ·cases h;rfl
  ·cases h
 case call c =>
  obtain⟨callee,args,s_⟩:=c;simp only at h;split at h
  ·rename_i f l h1 h2;split at h
   ·cases h;rfl
   ·cases h
  ·rename_i x h1 h2;split at h
   ·cases h;rfl
   ·cases h
  ·split at h
   ·cases h;rfl
   ·cases h
  ·cases h;rfl
  ·cases h;rfl
  ·cases h
 all_goals first|(cases h;rfl)
def zkz{x:aH}(hr:iu ρ pa σ env H)(h:Ws σ x=true):∃v,aq env x=some v/\((∃s,v=.str s)\/v=.aU\/∃sz xs o,v=.sl sz xs o):=by
 unfold Ws at h;split at h
 next t hc=>exact⟨_,ja hr hc,.inl ⟨_,rfl⟩⟩
 next sz t o hc=>exact⟨_,ja hr hc,.inr (.inr ⟨_,_,_,rfl⟩)⟩
 next hc=>exact⟨_,ja hr hc,.inr (.inl rfl)⟩
 ·rename_i i cl hc;refine⟨_,ja hr hc,?_⟩;split at h
  ·rename_i hk;have:=hr.ks i _ hk;cases hv:at' ρ i with
   | str s=>left;refine⟨s,?_⟩;cases cl<;>simp only[bw,hv,aX]
   | _=>rw[hv] at this;simp[fm] at this
  ·rename_i sz hk;have:=hr.ks i _ hk;cases hv:at' ρ i with
   | aU=>right;left;cases cl<;>simp only[bw,hv,aX]
   | sl mj xs o=>right;right;cases cl<;>simp only[bw,hv,aX]<;>exact⟨_,_,_,rfl⟩
   | _=>rw[hv] at this;simp[fm] at this
  ·cases h
 ·cases h
def zbN{cx:Cx}(hu:∀e,cx.uq e=false){b:Builtin}(hb:b≠.copy){args:nO}{s_:Array ai}{dst:eC}{type:ai}{pos:String}{after:Array Edge}{guard:i_} :
  cx.op takes ⟨dst,.call ⟨.builtin b,args,s_⟩,type,pos,after,guard⟩ env H lk df=ZU H lk df (cx.builtin b s_ args env H):=by
 have plain:(match cx.builtin b s_ args env H with|none=>none|some (r,env)=>some (r,(⟨env,H,lk,df⟩:St)))=ZU H lk df (cx.builtin b s_ args env H):=by
  cases cx.builtin b s_ args env H<;>rfl
 simp only[Cx.op];split
 ·exact absurd rfl hb
 next x y t u h1 h2=>simp only[MC hu];exact plain
 ·exact plain
def zlR{o:Oper}{c:Cp}(h:j7 takes σ o=some c){v:V}{s':St}{cx:Cx}(hu:∀e,cx.uq e=false)(hr:iu ρ pa σ env H)(hc:c=.free)(az:cx.op takes o env H lk df=some (.val v,s')) :
  ∀H2 lV pL,∃s2,cx.op takes o env H2 lV pL=some (.val v,s2):=by
 subst hc;have hn:vk takes o=false:=WW h;cases hl:SN o with
 | false=>exact λH2 lV pL=>zj8 (by rw[xA hu];exact hn) (by rw[zh8 hu];exact hl) az lV pL
 | true =>
  intro H2 lV pL;obtain⟨dst,op,type,pos,after,guard⟩:=o;cases op<;>simp only[SN,bH] at hl
  case load tt a =>
   have ht:qy takes dst=false:=by
    have hl:vk takes ⟨dst,.load tt a,type,pos,after,guard⟩=qy takes dst:=by cases dst<;>rfl
    rw[<- hl];exact hn
   rw[Ta ht] at az ⊢;have key:(aq env a).bind (zA cx.P H2 cx.gl tt)=(aq env a).bind (zA cx.P H cx.gl tt):=by
    rcases xE h with⟨_,⟨g,rfl⟩,_⟩|⟨_,_,_,_,e⟩|⟨_,cs,l5,_⟩|⟨_,_,_,_,e⟩
    ·simp only[aq,cG,zA]
    ·cases e
    ·obtain⟨u,e1,e2⟩:=wE hr l5;cases e2;simp only[e1,cG,zA]
    ·cases e
   rw[key];unfold fU at az ⊢;split at az
   ·cases az;exact⟨_,rfl⟩
   ·cases az
  case lookup=>simp only[j7] at h;cases h
  case call c =>
   obtain⟨callee,args,s_⟩:=c;simp only[j7] at h;have bi:∀b,callee=.builtin b->cx.builtin b s_ args env H2=cx.builtin b s_ args env H->∃s2,cx.op takes ⟨dst,.call ⟨callee,args,s_⟩,type,pos,after,guard⟩ env H2 lV pL=some (.val v,s2):=λb hb he=>by
    subst hb;have N1:b≠.copy:=by rintro rfl;simp[vk] at hn
    rw[zbN hu N1] at az ⊢;rw[he];unfold ZU at az ⊢;split at az
    ·simp only[aO,bP] at az;obtain⟨rfl,rfl⟩:=az;exact⟨_,rfl⟩
    ·cases az
   split at h
   ·split at h
    ·cases h
    ·cases h
   ·rename_i x h2;split at h
    ·rename_i hf;refine bi _ rfl ?_;obtain⟨u,e1,e2⟩:=zkz hr hf;obtain rfl:args=#[x]:=by apply Array.toList_inj.1;simpa using h2
     have hl:∀t',jM cx.P H2 t' u=jM cx.P H t' u:=λt'=>by
      rcases e2 with⟨_,rfl⟩|rfl|⟨_,_,_,rfl⟩<;>unfold jM<;>split<;>simp_all
     unfold Cx.builtin;split<;>first|rfl|skip
     next x' t' _ g1 g2=>simp only[rZ,r8] at g1;subst g1;simp only[e1,Option.bind_eq_bind,cG,hl]
     next hh _ _=>cases hh
    ·cases h
   ·rename_i x y h2;split at h
    ·rename_i hf;refine bi _ rfl ?_;obtain⟨u,e1,e2⟩:=zkz hr hf;obtain rfl:args=#[x,y]:=by apply Array.toList_inj.1;simpa using h2
     have ha:∀t' w,jN cx.P H2 t' w u=jN cx.P H t' w u:=λt' w=>by
      have he:∀e,kE cx.P H2 e u=kE cx.P H e u:=λe=>by
       rcases e2 with⟨_,rfl⟩|rfl|⟨_,_,_,rfl⟩<;>rfl
      simp only[jN,he]
     unfold Cx.builtin;split<;>first|rfl|skip
     next hh _ _=>cases hh
     next x' y' t' u' _ g1 g2=>simp only[rZ,r8] at g1;obtain⟨g1a,g1b⟩:=g1;subst g1a g1b;simp only[e1,Option.bind_eq_bind,cG,ha]
    ·cases h
   ·refine bi _ rfl ?_;unfold Cx.builtin;split
    next hh _ _=>cases hh
    next hh _ _=>cases hh
    all_goals rfl
   ·refine bi _ rfl ?_;unfold Cx.builtin;split
    next hh _ _=>cases hh
    next hh _ _=>cases hh
    all_goals rfl
   ·cases h
def zrM{o:Oper}{b:Nat}(h:j7 takes σ o=some (.rd b)){v:V}{s':St}{cx:Cx}(hr:iu ρ pa σ env H)(az:cx.op takes o env H lk df=some (.val v,s')) :
  ∀H2 lV pL,H2.get (pd pa b)=H.get (pd pa b)->∃s2,cx.op takes o env H2 lV pL=some (.val v,s2):=by
 intro H2 lV pL hb;have hn:vk takes o=false:=WW h;obtain⟨dst,op,type,pos,after,guard⟩:=o;cases op
 case load tt a =>
  have ht:qy takes dst=false:=by
   have hl:vk takes ⟨dst,.load tt a,type,pos,after,guard⟩=qy takes dst:=by cases dst<;>rfl
   rw[<- hl];exact hn
  rw[Ta ht] at az ⊢;have key:(aq env a).bind (zA cx.P H2 cx.gl tt)=(aq env a).bind (zA cx.P H cx.gl tt):=by
   rcases xE h with⟨_,_,e⟩|⟨_,b',off,l5,e⟩|⟨_,_,_,e⟩|⟨_,_,_,_,e⟩<;>cases e
   obtain⟨u,e1,e2⟩:=wE hr l5;cases e2;simp only[e1,cG,aQ,bw,zA,hb]
  rw[key];unfold fU at az ⊢;split at az
  ·cases az;exact⟨_,rfl⟩
  ·cases az
 case store tt a x =>
  simp only[j7] at h;split at h<;>cases h
 case call c =>
  obtain⟨callee,args,s_⟩:=c;simp only[j7] at h
  repeat' split at h
  all_goals cases h
 all_goals simp only[j7] at h;cases h
def znp(OD:Tp P gl ph){o:Oper}(hc:j7 takes σ o=some .call)(h:iS P takes σ o k=some t)(hr:Rel n0 B ρ pa σ ⟨env,H,lk,df⟩)(hq:bU ph gl N t ρ=some r) :
  ∃v,∀H2,∃k0,∀n,k0<=n->∀lV pL,Cx.op ⟨P,gl,zl P gl n,gl.uq⟩ takes o env H2 lV pL=some (.val v,⟨env,H2,lV,pL⟩):=by
 obtain⟨dst,op,type,pos,after,guard⟩:=o;cases op
 case load tt a=>rcases xE hc with⟨_,_,e⟩|⟨_,_,_,_,e⟩|⟨_,_,_,e⟩|⟨_,_,_,_,e⟩<;>cases e
 case store tt a x =>
  simp only[j7] at hc;split at hc<;>cases hc
 case call c =>
  obtain⟨callee,args,s_⟩:=c;simp only[j7] at hc;split at hc
  ·rename_i f l;split at hc
   ·rename_i vs0 TD;simp only[iS] at h;unfold Wp at h;split at h
    ·rename_i fn vs ns su l5;rw[TD] at l5;simp only[aO,bP] at l5;obtain⟨rfl,rfl⟩:=l5;split at h
     ·rename_i body bD lI od;obtain⟨nF,p1,p2,_,p4⟩:=pn hr TD (by simp)
      simp only[QF,aO] at od;subst od;split at h
      ·rename_i t0 CF;cases h;simp only[bU] at hq;split at hq
       ·rename_i v out hv;obtain⟨e1,e2,e3,e4⟩:=OD _ _ _ _ _ hv;refine⟨v,λH2=>?_⟩;obtain⟨k0,e4⟩:=e4 [] H2 (by simp) trivial
        refine⟨k0,λn hn lV pL=>?_⟩;have:=e4 n hn;simp only[Bm] at p2;rw[<- p2] at this;rw[jH,p1,qn,zR su lI this,zes];rfl
       ·cases hq
      ·cases h
     ·cases h
    ·cases h
   ·cases hc
  ·split at hc<;>cases hc
  ·split at hc<;>cases hc
  ·cases hc
  ·cases hc
  ·cases hc
 all_goals simp only[j7] at hc;cases hc
end
section
set_option linter.unusedSectionVars false
variable{P:aD}{gl:Gl}{ph:PH}{N:Nat}{ρ aY:aj}{pa bM:aR}{σ:Sg}{s:St}{n0:Nat}{B:List aN}{env:aj}{H:Hp}{lk:aC}{df:aV}{takes:bA}{k:KT}{t:Tree}
variable [ir gl]
abbrev C1(P:aD)(gl:Gl)(n:Nat):Cx:=⟨P,gl,zl P gl n,gl.uq⟩
section
variable{i:Nat}{rs:List Rec}{rl:aR}{hs:List lW}{r q:Rec}{X:Option aN}{b:Nat}
def zo9{D i b:Nat}(nG:bit D i=true):bit (Nat.xor D (Nat.pow 2 i)) b=true ↔ (bit D b=true/\b≠i):=by
 have:bit (Nat.xor D (Nat.pow 2 i)) b=(bit D b ^^ decide (i=b)):=by
  rw[yC,yC];have:Nat.xor D (Nat.pow 2 i)=D ^^^ (2 ^ i):=rfl;rw[this,Nat.testBit_xor,Nat.testBit_two_pow]
 rw[this]
 by_cases he:i=b
 ·subst he;simp[nG]
 ·have:¬b=i:=λe=>he e.symm;simp[he,this]
def zkA{D:Nat}(hi:r.idx=i)(hD:qY (r::rs) D)(nG:bit D i=false):qY rs D:=by
 refine⟨λb hb=>?_,λq hq fh tu b hb nc=>hD.2 q (cZ _ hq) fh tu b hb (bF.2 (.inr nc))⟩;rcases bF.1 (hD.1 b hb) with⟨_,he⟩|nc
 ·rw[hi] at he;subst he;rw[hb] at nG;cases nG
 ·exact nc
def znq{D:Nat}(hi:r.idx=i)(hp:r.hp=true)(hm:∀b,bit r.m b=true->b<i)(oe:∀q∈rs,q.idx<i)(aaO:∀q∈rs,∀b,bit q.m b=true->b<q.idx)(hD:qY (r::rs) D)(nG:bit D i=true) :
  ∃D0,qY rs D0/\kj (Nat.land r.m (cn rs)) D0=true/\D=Nat.lor D0 (Nat.pow 2 i)/\∀b,bit D0 b=true ↔ (bit D b=true/\b≠i):=by
 have pg:∀b,bit (Nat.xor D (Nat.pow 2 i)) b=true ↔ (bit D b=true/\b≠i):=λb=>zo9 nG;refine⟨Nat.xor D (Nat.pow 2 i),⟨λb hb=>?_,λq hq fh tu b hb nc=>?_⟩,bR.2 λb hb=>?_,kK λb=>?_,pg⟩
 ·obtain⟨h1,h2⟩:=(pg b).1 hb;rcases bF.1 (hD.1 b h1) with⟨_,he⟩|nc
  ·rw[hi] at he;exact absurd he.symm h2
  ·exact nc
 ·obtain⟨h1,h2⟩:=(pg _).1 tu;refine(pg b).2 ⟨hD.2 q (cZ _ hq) fh h1 b hb (bF.2 (.inr nc)),?_⟩;have:=aaO q hq b hb;have:=oe q hq;omega
 ·rw[qX,bN] at hb;refine(pg b).2 ⟨hD.2 r ew hp (by rw[hi];exact nG) b hb.1 (bF.2 (.inr hb.2)),?_⟩
  have:=hm b hb.1;omega
 ·have hb:=pg b;rw[qW,jh]
  by_cases he:i=b
  ·subst he;simp[nG]
  ·have cg:b≠i:=λe=>he e.symm;have Ee:bit (Nat.xor D (Nat.pow 2 i)) b=true ↔ bit D b=true:=⟨λh=>(hb.1 h).1,λh=>hb.2 ⟨h,cg⟩⟩;rw[FY.2 Ee];simp[he]
def zaR{D0 D:Nat}(h:∀b,bit D0 b=true->bit D b=true):∀{l:List Rec},q9 D0 q l=true->q9 D q l=true
 | [],h=>by cases h
 | x::l,hf=>by
  simp only[q9,gZ,bN] at hf ⊢;rcases hf with⟨⟨a1,a2⟩,a3⟩|a
  ·exact .inl ⟨⟨a1,h _ a2⟩,a3⟩
  ·exact .inr (zaR h a)
def vW{D:Nat}{l:List Rec}(h:q9 D q l=true):q9 D q (r::l)=true:=by simp[q9,h]
def AB(rs:List Rec)(rl:aR)(hs:List lW)(q:Rec)(b:Nat)(X:Option aN):Prop :=
 ∀D S,qY rs D->kj (Nat.land q.m (cn rs)) D=true->mY D rl hs=some S->q9 D q rs=true\/S.1.get b=X
def AB.quiet(h:AB rs rl hs q b X)(hp:r.hp=false):AB (r::rs) rl hs q b X:=by
 intro D S hD dZ hS;rw[zbL hp] at dZ;rcases h D S ((wY hp).1 hD) dZ hS with g|g
 ·exact .inl (vW g)
 ·exact .inr g
structure Up(i:Nat)(rs:List Rec):Prop where
 lt:∀q∈rs,q.idx<i
 Fv:∀q∈rs,∀b,bit q.m b=true->b<q.idx
def Up.cons(h:Up i rs)(hi:r.idx=i)(hm:∀b,bit r.m b=true->b<i):Up (i+1) (r::rs):=by
 refine⟨λq hq=>?_,λq hq b hb=>?_⟩
 ·rcases cS.1 hq with rfl|hq
  ·omega
  ·have:=h.lt q hq;omega
 ·rcases cS.1 hq with rfl|hq
  ·rw[hi];exact hm b hb
  ·exact h.Fv q hq b hb
def zgW{D:Nat}(_hq:q∈rs)(_hu:Up i rs)(h:kj (Nat.land q.m (cn (r::rs))) D=true):kj (Nat.land q.m (cn rs)) D=true:=by
 refine bR.2 λb hb=>bR.1 h b ?_;rw[qX,bN] at hb ⊢;exact⟨hb.1,bF.2 (.inr hb.2)⟩
def zkB{D D0:Nat}(hq:q∈rs)(hu:Up i rs)(h0:∀b,bit D0 b=true ↔ (bit D b=true/\b≠i))(h:kj (Nat.land q.m (cn (r::rs))) D=true):kj (Nat.land q.m (cn rs)) D0=true:=by
 refine bR.2 λb hb=>(h0 b).2 ⟨bR.1 (zgW hq hu h) b hb,?_⟩;rw[qX,bN] at hb;have:=hu.Fv q hq b hb.1;have:=hu.lt q hq;omega
def AB.call(h:AB rs rl hs q b X)(hq:q∈rs)(hi:r.idx=i)(hp:r.hp=true)(hm:∀b,bit r.m b=true->b<i)(hu:Up i rs)(r_:i ∉ rl):AB (r::rs) rl hs q b X:=by
 intro D S hD dZ hS;cases nG:bit D i with
 | false =>
  rcases h D S (zkA hi hD nG) (zgW hq hu dZ) hS with g|g
  ·exact .inl (vW g)
  ·exact .inr g
 | true =>
  obtain⟨D0,k1,k2,k3,k4⟩:=znq hi hp hm hu.lt hu.Fv hD nG;rw[k3,Tw r_] at hS;rcases h D0 S k1 (zkB hq hu k4 dZ) hS with g|g
  ·exact .inl (vW (zaR (λb hb=>((k4 b).1 hb).1) g))
  ·exact .inr g
def AB.wr{S0 S':lW}{tl:List lW}(h:AB rs rl (S0::tl) q b X)(hq:q∈rs)(hi:r.idx=i)(hp:r.hp=true)(hm:∀b,bit r.m b=true->b<i)(hu:Up i rs)(dz:∀j∈rl,bit r.m j=true/\bit (cn rs) j=true)
  (hc:bit r.m q.idx=true\/S'.1.get b=S0.1.get b\/∃e∈rs,e.hp=true/\bit e.m q.idx=true/\bit r.m e.idx=true):AB (r::rs) (i::rl) (S'::S0::tl) q b X:=by
 intro D S hD dZ hS;cases nG:bit D i with
 | false =>
  simp only[mY,nG] at hS;rcases h D S (zkA hi hD nG) (zgW hq hu dZ) hS with g|g
  ·exact .inl (vW g)
  ·exact .inr g
 | true =>
  simp only[mY,nG,aO] at hS;subst hS;obtain⟨D0,k1,k2,k3,k4⟩:=znq hi hp hm hu.lt hu.Fv hD nG;rcases hc with hc|hc|⟨e,e1,e2,e3,e4⟩
  ·exact .inl (zc9 ew hp (by rw[hi];exact nG) hc)
  ·have Oe:mY D0 rl (S0::tl)=some S0:=WV λj hj=>bR.1 k2 j (by rw[qX,(dz j hj).1,(dz j hj).2];rfl)
   rcases h D0 S0 k1 (zkB hq hu k4 dZ) Oe with g|g
   ·exact .inl (vW (zaR (λb hb=>((k4 b).1 hb).1) g))
   ·exact .inr (hc.trans g)
  ·left
   refine zc9 (cZ _ e1) e2 ?_ e3;exact((k4 _).1 (bR.1 k2 e.idx (by rw[qX,e4,ep.2 ⟨e,e1,e2,rfl⟩];rfl))).1
inductive Fr(ds:List DR)(pa:aR):aR->List lW->Prop where
 |nil (h:lW):Fr ds pa [] [h]
 |cons {rl:aR} {h h':lW} {hs:List lW} (d:DR) (a:Nat):d∈ds->d.cls=.wr a->a<pa.length->(∀X,X≠pd pa a->h.1.get X=h'.1.get X)->Fr ds pa rl (h'::hs)->Fr ds pa (d.lg.idx::rl) (h::h'::hs)
def Fr.mono{ds K1:List DR}(h:Fr ds pa rl hs)(hd:∀d∈ds,d∈K1)(hp:pa <+: bM):Fr K1 bM rl hs:=by
 induction h with
 | nil h=>exact .nil h
 | cons d a h1 h2 h3 h4 _ ih =>
  refine .cons d a (hd d h1) h2 (rY h3 hp.length_le) (λX hX=>h4 X ?_) ih
  rwa [jo hp h3] at hX
def Fr.get{ds:List DR}(h:Fr ds pa rl hs){D b:Nat}(hc:∀d∈ds,∀a,d.cls=.wr a->d.lg.idx∈rl->a<pa.length->bit D d.lg.idx=false->b≠pd pa a) :
  ∀{S0 S:lW}{tl:List lW},hs=S0::tl->mY D rl hs=some S->S.1.get b=S0.1.get b:=by
 induction h with
 | nil h=>intro S0 S tl e hS;cases e;simp only[mY,aO] at hS;rw[hS]
 | @cons rl h h' hs d a h1 h2 h3 h4 _ ih =>
  intro S0 S tl e hS;cases e;simp only[mY] at hS;split at hS
  ·cases hS;rfl
  next hb=>rw[ih (λd' sA a' p6 hj=>hc d' sA a' p6 (cZ _ hj)) rfl hS];exact(h4 b (hc d h1 a h2 ew h3 hb)).symm
end
inductive uL(R:DR->Rec->Prop):List DR->List Rec->Prop where
 |nil:uL R [] []
 |cons {d:DR} {q:Rec} {ds:List DR} {rs:List Rec}:R d q->uL R ds rs->uL R (d::ds) (q::rs)
def uL.mono{R R':DR->Rec->Prop}{ds:List DR}{rs:List Rec}(h:uL R ds rs)(hR:∀d q,d∈ds->q∈rs->R d q->R' d q):uL R' ds rs:=by
 induction h with
 | nil=>exact .nil
 | cons h1 _ ih=>exact .cons (hR _ _ ew ew h1) (ih λd q hd hq=>hR d q (cZ _ hd) (cZ _ hq))
def uL.left{R:DR->Rec->Prop}{ds:List DR}{rs:List Rec}(h:uL R ds rs){d:DR}(hd:d∈ds):∃q∈rs,R d q:=by
 induction h with
 | nil=>simp at hd
 | cons h1 _ ih =>
  rcases cS.1 hd with rfl|hd
  ·exact⟨_,ew,h1⟩
  ·obtain⟨q,h1,h2⟩:=ih hd;exact⟨q,cZ _ h1,h2⟩
def uL.right{R:DR->Rec->Prop}{ds:List DR}{rs:List Rec}(h:uL R ds rs){q:Rec}(hq:q∈rs):∃d∈ds,R d q:=by
 induction h with
 | nil=>simp at hq
 | cons h1 _ ih =>
  rcases cS.1 hq with rfl|hq
  ·exact⟨_,ew,h1⟩
  ·obtain⟨d,h1,h2⟩:=ih hq;exact⟨d,cZ _ h1,h2⟩
structure Key(d:DR)(q:Rec):Prop where
 idx:q.idx=d.lg.idx
 m:q.m=d.lg.m
 tm:q.tm=d.lg.tm
 lm:q.lm=d.lg.lm
def zlS{R:DR->Rec->Prop}(hR:∀d q,R d q->Key d q){ds:List DR}{rs:List Rec}(h:uL R ds rs)(j:Nat):maskAt rs j=maskAt (ds.map (·.lg)) j:=by
 induction h with
 | nil=>rfl
 | cons h1 _ ih=>have:=hR _ _ h1;simp only[iC,maskAt,this.idx,this.m,ih]
def zfP{R:DR->Rec->Prop}(hR:∀d q,R d q->Key d q){ds:List DR}{rs:List Rec}(h:uL R ds rs):∀(es:List Edge),kG rs es=kG (ds.map (·.lg)) es
 | []=>rfl
 | e::es=>by simp only[kG,zlS hR h,zfP hR h es]
def ziq{R:DR->Rec->Prop}(hR:∀d q,R d q->Key d q){ds:List DR}{rs:List Rec}(h:uL R ds rs){r r':Rec}(e1:r.m=r'.m)(e2:r.tm=r'.tm)(e3:r.lm=r'.lm)(hs:jW (jG r) (ds.map (·.lg))=true):jW (jG r') rs=true:=by
 refine yH λq hq=>?_;obtain⟨d,hd,hR'⟩:=h.right hq;have hk:=hR _ _ hR';have:=kx hs d.lg (r7.2 ⟨d,hd,rfl⟩);simp only[jG] at this ⊢;rw[<- e1,<- e2,<- e3,hk.idx,hk.tm,hk.lm];exact this
structure Ga(P:aD)(gl:Gl)(takes:bA)(pa:aR)(rs:List Rec)(rl:aR)(hs:List lW)(d:DR)(q:Rec):Prop where
 key:Key d q
 free:d.cls=.free->q.hp=false/\(q.free=true\/∀n S,xn (C1 P gl n) takes [] q S)
 rd:∀b,d.cls=.rd b->q.hp=false/\b<pa.length/\∃X,AB rs rl hs q (pd pa b) X/\∀n (S:lW),S.1.get (pd pa b)=X->xn (C1 P gl n) takes [] q S
 call:d.cls=.call->q.hp=true/\q.idx ∉ rl/\∀S:lW,∃k,∀n,k<=n->∀D D',(C1 P gl n).dX takes q.o q.env ⟨D',S.1,S.2,[]⟩ D=some (q.v,⟨D,S.1,S.2,[]⟩)
 wr:∀a,d.cls=.wr a->q.hp=true/\a<pa.length/\q.idx∈rl
structure Lk(P:aD)(gl:Gl)(takes:bA)(pa:aR)(s:St)(i:Nat)(ds:List DR)(rs:List Rec)(rl:aR)(hs:List lW):Prop where
 IV:uL (Ga P gl takes pa rs rl hs) ds rs
 head:∃tl,hs=(s.H,s.lk)::tl
 fr:Fr ds pa rl hs
 up:Up i rs
 nd:rl.Nodup
 MX:∀j∈rl,∃q∈rs,q.idx=j/\q.hp=true
def Lk.Tv{i:Nat}{ds:List DR}{rs:List Rec}{rl:aR}{hs:List lW}(h:Lk P gl takes pa s i ds rs rl hs):i ∉ rl:=λhh=>by
 obtain⟨q,h1,h2,_⟩:=h.MX i hh;have:=h.up.lt q h1;omega
def znr{pa:aR}{rs0:List Rec}{rl:aR}{hs:List lW}(S:lW){ds:List DR}{rs:List Rec}(h:uL (Ga P gl takes pa rs0 rl hs) ds rs) :
  ∃k,∀n,k<=n->∀q∈rs,q.hp=true->q.idx ∉ rl->∀D D',(C1 P gl n).dX takes q.o q.env ⟨D',S.1,S.2,[]⟩ D=some (q.v,⟨D,S.1,S.2,[]⟩):=by
 induction h with
 | nil=>exact⟨0,λn _ q hq=>by simp at hq⟩
 | @cons d q ds rs h1 _ ih =>
  obtain⟨k1,ih⟩:=ih;cases hc:d.cls with
  | call =>
   obtain⟨_,_,h2⟩:=h1.call hc;obtain⟨k2,h2⟩:=h2 S;refine⟨max k1 k2,λn hn q' uM hp r_=>?_⟩;rcases cS.1 uM with rfl|uM
   ·exact h2 n (by omega)
   ·exact ih n (by omega) q' uM hp r_
  | free =>
   refine⟨k1,λn hn q' uM hp r_=>?_⟩;rcases cS.1 uM with rfl|uM
   ·rw[(h1.free hc).1] at hp;cases hp
   ·exact ih n hn q' uM hp r_
  | rd b =>
   refine⟨k1,λn hn q' uM hp r_=>?_⟩;rcases cS.1 uM with rfl|uM
   ·rw[(h1.rd b hc).1] at hp;cases hp
   ·exact ih n hn q' uM hp r_
  | wr a =>
   refine⟨k1,λn hn q' uM hp r_=>?_⟩;rcases cS.1 uM with rfl|uM
   ·exact absurd (h1.wr a hc).2.2 r_
   ·exact ih n hn q' uM hp r_
end
section
set_option linter.unusedSectionVars false
variable{P:aD}{gl:Gl}{ph:PH}{N:Nat}{ρ aY:aj}{pa bM:aR}{σ:Sg}{s:St}{n0:Nat}{B:List aN}{env:aj}{H:Hp}{lk:aC}{df:aV}{takes:bA}{k:KT}{t:Tree}
variable [ir gl]
def WX(o:Oper)(x:OR):Bool:=match x with|.val _=>!SN o|_=>false
def zns{cx:Cx}(hu:∀e,cx.uq e=false){all:Array Oper}{i m:Nat}{rs:List Rec}{c0:eZ}{cs:List eZ}{o:Oper}{os:List Oper}{x:OR}{s1:St}{v:V}(hm:kG rs o.after.toList=some m)(hw:zN all o env=some true)(az:cx.op takes o env H lk df=some (x,s1))(hx:WJ x v){r:Rec}
  (hr:r=⟨i,o,m,lT takes o,Nat.lor (lT takes o) (tG all o),vk takes o,WX o x,env,v⟩) (hs:jW (jG r) rs=true) :
  cx.mh all takes i rs (c0::cs) (o::os) ⟨env,H,lk,df⟩=cx.lF takes rs r c0 ⟨Nat.lor c0.D (Nat.pow 2 i),s1.H,s1.lk,s1.defers⟩ cs λcs'=>cx.mh all takes (i+1) (r::rs) cs' os ⟨aI s1.env o.dst v,s1.H,s1.lk,s1.defers⟩:=by
 obtain⟨bT,H1,c7,dB⟩:=s1;subst hr;rcases hx with rfl|⟨rfl,rfl⟩
 ·simp only[WX] at hs ⊢;simp only[Cx.mh,hm,qh,hw,az,zQ,jc,xA hu,zh8 hu,hs]
 ·simp only[WX] at hs ⊢;simp only[Cx.mh,hm,qh,hw,az,zQ,jc,xA hu,hs]
def zlT{cx:Cx}{all:Array Oper}{i m:Nat}{rs:List Rec}{c0:eZ}{cs:List eZ}{o:Oper}{os:List Oper}(hm:kG rs o.after.toList=some m)(hw:zN all o env=some false){r:Rec}
  (hr:r=⟨i,o,m,lT takes o,Nat.lor (lT takes o) (tG all o),false,true,env,.bx []⟩) (hs:jW (jG r) rs=true) :
  cx.mh all takes i rs (c0::cs) (o::os) ⟨env,H,lk,df⟩=cx.lF takes rs r c0 ⟨Nat.lor c0.D (Nat.pow 2 i),H,lk,df⟩ cs λcs'=>cx.mh all takes (i+1) (r::rs) cs' os ⟨aI env o.dst (.bx []),H,lk,df⟩:=by
 subst hr;simp only[Cx.mh,hm,qh,hw,zQ,jc,hs]
def zpb{i m:Nat}{rs:List Rec}{es:List Edge}(hu:Up i rs)(h:kG rs es=some m):∀b,bit m b=true->b<i:=by
 intro b hb;obtain⟨_,h2⟩:=yR h;have:=h2 b hb
 grind [Up]
def Q0(P:aD)(gl:Gl)(ph:PH)(N:Nat)(takes:bA)(all:Array Oper)(kk:Sg->Option Tree)(r:Nat×aj)(n0:Nat)(B:List aN)(i:Nat)(rs:List Rec)(rl:aR)(hs:List lW)(os:List Oper)(ρ:aj)(pa:aR)(s:St):Prop :=
 ∃cW aY bM t' s',kk cW=some t'/\bU ph gl N t' aY=some r/\ρ <+: aY/\pa <+: bM/\Rel n0 B aY bM cW s'/\∃k0,∀n,k0<=n->∀c0 cs,BK (C1 P gl n) takes [] i rs rl hs c0 cs->(C1 P gl n).mh all takes i rs (c0::cs) os s=some (.normal,s')
def Ga.quiet{rs:List Rec}{rl:aR}{hs:List lW}{d:DR}{q r:Rec}(h:Ga P gl takes pa rs rl hs d q)(hp:r.hp=false)(nK:pa <+: bM):Ga P gl takes bM (r::rs) rl hs d q:=by
 refine⟨h.key,h.free,λb hb=>?_,h.call,λa ha=>?_⟩
 ·obtain⟨h1,h2,X,h3,h4⟩:=h.rd b hb;refine⟨h1,rY h2 nK.length_le,X,?_,?_⟩
  ·rw[jo nK h2];exact h3.quiet hp
  ·rw[jo nK h2];exact h4
 ·obtain⟨h1,h2,h3⟩:=h.wr a ha;exact⟨h1,rY h2 nK.length_le,h3⟩
def Ga.TE{i:Nat}{rs:List Rec}{rl:aR}{hs:List lW}{d:DR}{q r:Rec}(h:Ga P gl takes pa rs rl hs d q)(hq:q∈rs)(hi:r.idx=i)(hp:r.hp=true)(hm:∀b,bit r.m b=true->b<i)(hu:Up i rs)(r_:i ∉ rl)(nK:pa <+: bM):Ga P gl takes bM (r::rs) rl hs d q:=by
 refine⟨h.key,h.free,λb hb=>?_,h.call,λa ha=>?_⟩
 ·obtain⟨h1,h2,X,h3,h4⟩:=h.rd b hb;refine⟨h1,rY h2 nK.length_le,X,?_,?_⟩
  ·rw[jo nK h2];exact h3.call hq hi hp hm hu r_
  ·rw[jo nK h2];exact h4
 ·obtain⟨h1,h2,h3⟩:=h.wr a ha;exact⟨h1,rY h2 nK.length_le,h3⟩
def Ga.wrr{i:Nat}{rs:List Rec}{rl:aR}{S0 S':lW}{tl:List lW}{d:DR}{q r:Rec}(h:Ga P gl takes pa rs rl (S0::tl) d q)(hq:q∈rs)(hi:r.idx=i)(hp:r.hp=true)(hm:∀b,bit r.m b=true->b<i)(hu:Up i rs)(dz:∀j∈rl,bit r.m j=true/\bit (cn rs) j=true)(nK:pa <+: bM)
  (hc:∀b,d.cls=.rd b->b<pa.length->bit r.m q.idx=true\/S'.1.get (pd pa b)=S0.1.get (pd pa b)\/∃e∈rs,e.hp=true/\bit e.m q.idx=true/\bit r.m e.idx=true):Ga P gl takes bM (r::rs) (i::rl) (S'::S0::tl) d q:=by
 refine⟨h.key,h.free,λb hb=>?_,λhd=>?_,λa ha=>?_⟩
 ·obtain⟨h1,h2,X,h3,h4⟩:=h.rd b hb;refine⟨h1,rY h2 nK.length_le,X,?_,?_⟩
  ·rw[jo nK h2];exact h3.wr hq hi hp hm hu dz (hc b hb h2)
  ·rw[jo nK h2];exact h4
 ·obtain⟨h1,h2,h3⟩:=h.call hd;refine⟨h1,?_,h3⟩;simp only[cS,not_or];exact⟨λe=>by have:=hu.lt q hq;omega,h2⟩
 ·obtain⟨h1,h2,h3⟩:=h.wr a ha;exact⟨h1,rY h2 nK.length_le,cZ _ h3⟩
def TF{cx:Cx}{o:Oper}{c:eZ}{D:Nat}{x:OR}{v:V}{s1:St}(h:cx.op takes o env c.H c.lk c.df=some (x,s1))(hx:WJ x v):cx.dX takes o env c D=some (v,⟨D,s1.H,s1.lk,s1.defers⟩):=by
 unfold Cx.dX;rcases hx with rfl|⟨rfl,rfl⟩<;>simp only[h]
def zfQ{o:Oper}(hn:vk takes o=false)(n n':Nat):(C1 P gl n).op takes o env H lk df=(C1 P gl n').op takes o env H lk df:=by
 obtain⟨dst,op,type,pos,after,guard⟩:=o;cases op
 case slice t x lo hi mx=>cases mx<;>rfl
 case call c =>
  obtain⟨callee,args,s_⟩:=c;cases callee
  case builtin b =>
   have N1:b≠.copy:=by rintro rfl;simp[vk] at hn
   rw[zbN (ir.out (gl:=gl)) N1,zbN (ir.out (gl:=gl)) N1];rfl
  all_goals simp[vk] at hn
 all_goals first|rfl|(simp[vk] at hn)
def zrN{o:Oper}{b:Nat}(hc:j7 takes σ o=some (.rd b))(h:iS P takes σ o k=some t)(hr:Rel n0 B ρ pa σ s):b<σ.na:=by
 have hn:vk takes o=false:=WW hc;obtain⟨dst,op,type,pos,after,guard⟩:=o;cases op
 case load tt a =>
  rcases xE hc with⟨_,_,e⟩|⟨ht,b',off,l5,e⟩|⟨_,_,_,e⟩|⟨_,_,_,_,e⟩<;>cases e
  simp only[iS,ht] at h;have key:yd P σ (.load tt a) k=some t->b<σ.na:=λh=>by
   unfold yd at h;simp only[MI,l5] at h;split at h
   ·rename_i v hv;split at hv
    next cs _ hf=>exact hr.bn b _ hf
    ·cases hv
   ·cases h
  cases a with
  | global g=>simp[pk] at l5
  | _=>exact key h
 case store tt a x =>
  simp only[j7] at hc;split at hc<;>cases hc
 case call c =>
  obtain⟨callee,args,s_⟩:=c;simp only[j7] at hc
  repeat' split at hc
  all_goals cases hc
 all_goals simp only[j7] at hc;cases hc
def zeL{x:aH}{f g:Sg->SC->Option Tree}(h:yV σ x f=some t)(Q1:∀cW sc,cW.na=σ.na->cW.af=σ.af->∀t,f cW sc=some t->g cW sc=some t):yV σ x g=some t:=by
 unfold yV at h ⊢;split at h
 ·split at h
  ·exact Q1 _ _ (by exact rfl) (by exact rfl) _ h
  ·split at h
   ·exact Q1 _ _ (by exact rfl) (by exact rfl) _ h
   ·cases h
  ·split at h
   ·exact Q1 _ _ (by exact rfl) (by exact rfl) _ h
   ·cases h
  ·cases h
 ·split at h
  ·exact Q1 _ _ (by exact rfl) (by exact rfl) _ h
  ·cases h
def Lq(c:Cp)(σ:Sg):Bool:=match c with|.wr a=>Nat.blt a σ.na|_=>true
def znt{o:Oper}{c:Cp}(hc:j7 takes σ o=some c)(h:iS P takes σ o k=some t)(hr:Rel n0 B ρ pa σ s):iS P takes σ o (λcW v=>if Lq c cW then k cW v else none)=some t:=by
 have Lr:(∀cW,Lq c cW=true)->iS P takes σ o (λcW v=>if Lq c cW then k cW v else none)=some t:=λhh=>by
  simp only[hh,aT];exact h
 cases c with
 | free=>exact Lr λ_=>rfl
 | rd b=>exact Lr λ_=>rfl
 | call=>exact Lr λ_=>rfl
 | wr a =>
  clear Lr;obtain⟨dst,op,type,pos,after,guard⟩:=o;have hb:∀x,jC a σ.af=some x->Nat.blt a σ.na=true:=λx hx=>by
   have:=hr.bn a x hx;simpa[G6] using this
  cases op
  case load tt a' =>
   rcases xE hc with⟨_,_,e⟩|⟨_,_,_,_,e⟩|⟨_,_,_,e⟩|⟨ht,b',off,l5,e⟩<;>cases e
   simp only[iS,ht,l5] at h ⊢;split at h
   ·rename_i h1 h2;cases h2;split at h
    next cs ty hf=>simp only[Lq,hb _ hf,aT];exact h
    ·cases h
   ·cases h
  case alloc tt =>
   simp only[j7,aO,Cp.wr.injEq] at hc;subst hc;simp only[iS] at h ⊢;split at h
   ·rename_i z hz;have bu:Nat.blt σ.na (σ.na+1)=true:=by simp
    simp only[Lq,yW,bu,aT];exact h
   ·cases h
  case box tt x =>
   simp only[j7,aO,Cp.wr.injEq] at hc;subst hc;simp only[iS] at h ⊢;refine zeL h λcW sc e1 e2 t h=>?_;have bu:Nat.blt σ.na (cW.na+1)=true:=by rw[e1];simp
   simp only[Lq,yW,bu,aT];exact h
  case store tt a' x =>
   simp only[j7] at hc;simp only[iS] at h ⊢;split at hc
   ·rename_i b off l5;cases hc;simp only[l5] at h ⊢;refine zeL h λcW sc e1 e2 t h=>?_;split at h
    ·rename_i n cs ty h1 h2;have bu:=hb _ (by rw[<- e2];exact h2)
     rw[<- e1] at bu;simp only[Lq,bu,aT];exact h
    ·cases h
   ·cases hc
  case call c =>
   obtain⟨callee,args,s_⟩:=c;simp only[j7] at hc
   repeat' split at hc
   all_goals cases hc
  all_goals simp only[j7] at hc;cases hc
def zgY(he:Env P gl ph){all:Array Oper}{kk:Sg->Option Tree}{r:Nat×aj}:∀{os:List Oper}{i:Nat}{ds:List DR}{σ:Sg}{ρ:aj}{pa:aR}{s:St}{t:Tree}{rs:List Rec}{rl:aR}{hs:List lW},
  Li P all takes kk i ds os σ=some t->Rel n0 B ρ pa σ s->bU ph gl N t ρ=some r->Lk P gl takes pa s i ds rs rl hs->Q0 P gl ph N takes all kk r n0 B i rs rl hs os ρ pa s
 | [],i,ds,σ,ρ,pa,s,t,rs,rl,hs,h,hr,hq,hL=>⟨σ,ρ,pa,t,s,h,hq,di _,di _,hr,0,λn _ c0 cs _=>rfl⟩
 | o::os,i,ds,σ,ρ,pa,⟨env,H,lk,df⟩,t,rs,rl,hs,h,hr,hq,hL=>by
  simp only[Li] at h;split at h
  ·cases h
  rename_i iX;simp only[ue,J8] at iX;split at h
  ·cases h
  rename_i m R2;split at h
  ·cases h
  rename_i pN;simp only[ue,J8] at pN;have hm:kG rs o.after.toList=some m:=by rw[zfP (λd q h=>h.key) hL.IV];exact R2
  have uN:=zpb hL.up hm;obtain⟨tl,Kq⟩:=hL.head;have K2:df=[]:=hr.df;subst K2;have r_:=hL.Tv;have run:∀{tc:Sg}{Cq:aj}{t0:Tree}{c:Cp},zN all o env=some true->Rel n0 B Cq pa tc ⟨env,H,lk,[]⟩->ρ <+: Cq->j7 takes tc o=some c->S4 m c ds=true ->
    iS P takes tc o (λσ v=>Li P all takes kk (i+1) (⟨II takes all i m o,c⟩::ds) os (mO σ o.dst v))=some t0->bU ph gl N t0 Cq=some r->Q0 P gl ph N takes all kk r n0 B i rs rl hs (o::os) ρ pa ⟨env,H,lk,[]⟩:=by
   intro tc Cq t0 c hw rT ek hc sZ h0 Ko;obtain⟨rS,sv,sG,Ft,t1,x,s1,v,g1,g2,g3,g4,g5,⟨k1,g6⟩,g7,g8,g9⟩:=znm he (znt hc h0 rT) rT Ko iX
   dsimp only at g1
   have gw:Lq c rS=true:=by
    split at g1
    ·assumption
    ·cases g1
   simp only[gw,aT] at g1;obtain⟨bT,H1,c7,dB⟩:=s1;have aaS:dB=[]:=g5.df;subst aaS;have F5:=g5.mO (d:=o.dst) (sv:=sv) (v:=v) g8;have Al:=WW hc
   let eD:Rec:=⟨i,o,m,lT takes o,Nat.lor (lT takes o) (tG all o),vk takes o,WX o x,env,v⟩
   have OI:jW (jG eD) rs=true:=ziq (λd q h=>h.key) hL.IV (r:=II takes all i m o) (r':=eD) rfl rfl rfl pN;have Ls:Key ⟨II takes all i m o,c⟩ eD:=⟨rfl,rfl,rfl,rfl⟩;have step:=λn (hn:k1<=n) c0 cs=>zns (ir.out (gl:=gl)) (c0:=c0) (cs:=cs) (os:=os) (rs:=rs) hm hw (g6 n hn) g7 (r:=eD) rfl OI;have OJ:pa.length=tc.na:=rT.na
   have fin:∀{sH:aR}{hs':List lW},Lk P gl takes Ft ⟨aI bT o.dst v,H1,c7,[]⟩ (i+1) (⟨II takes all i m o,c⟩::ds) (eD::rs) sH hs' ->
     (∃k2,∀n,k2<=n->∀c0 cs,BK (C1 P gl n) takes [] i rs rl hs c0 cs->∃IW cs',(∀k,(C1 P gl n).lF takes rs eD c0 ⟨Nat.lor c0.D (Nat.pow 2 i),H1,c7,[]⟩ cs k=k (IW::cs'))/\BK (C1 P gl n) takes [] (i+1) (eD::rs) sH hs' IW cs') ->
     Q0 P gl ph N takes all kk r n0 B i rs rl hs (o::os) ρ pa ⟨env,H,lk,[]⟩:=by
    intro sH hs' hL' ⟨k2,fB⟩;obtain⟨cW,aY,bM,t',s',f1,f2,f3,f4,f5,k3,f6⟩:=zgY he g1 F5 g2 hL';refine⟨cW,aY,bM,t',s',f1,f2,(ek.trans g3).trans f3,g4.trans f4,f5,max k1 (max k2 k3),λn hn c0 cs hD=>?_⟩;rw[step n (by omega) c0 cs]
    obtain⟨IW,cs',e1,e2⟩:=fB n (by omega) c0 cs hD
    rw[e1];exact f6 n (by omega) IW cs' e2
   have look:eD.hp=false->(eD.free=true\/∀n D (S:lW),qY rs D->kj (Nat.land eD.m (cn rs)) D=true->mY D rl hs=some S->xn (C1 P gl n) takes [] eD S)->Ga P gl takes Ft (eD::rs) rl hs ⟨II takes all i m o,c⟩ eD ->
     Q0 P gl ph N takes all kk r n0 B i rs rl hs (o::os) ρ pa ⟨env,H,lk,[]⟩:=by
    intro hp hv lH;obtain⟨v',e1,e2,_⟩:=wS (by rw[xA (ir.out (gl:=gl))];exact hp) (g6 k1 (bV _))
    simp only[St.mk.injEq] at e2;obtain⟨_,rfl,rfl,_⟩:=e2;refine fin (sH:=rl) (hs':=hs) ⟨?_,⟨tl,Kq⟩,hL.fr.mono (λd hd=>cZ _ hd) g4,hL.up.cons rfl uN,hL.nd,λj hj=>?_⟩ ⟨0,λn _ c0 cs hD=>?_⟩
    ·exact .cons lH (hL.IV.mono λd q _ _ hh=>hh.quiet hp g4)
    ·obtain⟨q,q1,q2⟩:=hL.MX j hj;exact⟨q,cZ _ q1,q2⟩
    ·obtain⟨e1,e2⟩:=hD.quiet (r:=eD) rfl uN hp (hv.imp id λhv=>hv n) (c1:=⟨Nat.lor c0.D (Nat.pow 2 i),H1,c7,[]⟩);exact⟨c0,cs,e1,e2⟩
   cases c with
   | free =>
    have hp:eD.hp=false:=Al;obtain⟨v',e1,e2,_⟩:=wS (by rw[xA (ir.out (gl:=gl))];exact hp) (g6 k1 (bV _))
    have hx:x=.val v:=by rcases g7 with g7|⟨g7,_⟩;exact g7;rw[g7] at e1;cases e1
    have eW:∀n (S:lW),xn (C1 P gl n) takes [] eD S:=λn S=>by
     have az:=g6 k1 (bV _);rw[hx,zfQ hp k1 n] at az;obtain⟨s2,hs2⟩:=zlR hc (ir.out (gl:=gl)) rT.here rfl az S.1 S.2 [];exact⟨_,TF (x:=.val v) (c:=⟨0,S.1,S.2,[]⟩) (D:=0) hs2 (.inl rfl)⟩
    exact look hp (.inr λn D S _ _ _=>eW n S) ⟨Ls,λ_=>⟨hp,.inr eW⟩,λ_ hh=>(by cases hh),λhh=>(by cases hh),λ_ hh=>(by cases hh)⟩
   | rd b =>
    have hp:eD.hp=false:=Al;obtain⟨v',e1,e2,_⟩:=wS (by rw[xA (ir.out (gl:=gl))];exact hp) (g6 k1 (bV _))
    have hx:x=.val v:=by rcases g7 with g7|⟨g7,_⟩;exact g7;rw[g7] at e1;cases e1
    have hb:b<pa.length:=by rw[OJ];exact zrN hc h0 rT
    have eW:∀n (S:lW),S.1.get (pd pa b)=H.get (pd pa b)->xn (C1 P gl n) takes [] eD S:=λn S hS=>by
     have az:=g6 k1 (bV _);rw[hx,zfQ hp k1 n] at az;obtain⟨s2,hs2⟩:=zrM hc rT.here az S.1 S.2 [] hS;exact⟨_,TF (x:=.val v) (c:=⟨0,S.1,S.2,[]⟩) (D:=0) hs2 (.inl rfl)⟩
    have dO:∀D (S:lW),qY rs D->kj (Nat.land eD.m (cn rs)) D=true->mY D rl hs=some S->S.1.get (pd pa b)=H.get (pd pa b):=λD S hD dZ hS=>by
     refine hL.fr.get (λd hd a ha hj bu D7=>?_) Kq hS;simp only[S4] at sZ;have o_:=kx sZ d hd;obtain⟨q,q1,q2,q3⟩:=hL.MX _ hj;have Sy:bit m d.lg.idx=false:=by
      cases hh:bit m d.lg.idx with
      | false=>rfl
      | true =>
       have:=bR.1 dZ d.lg.idx (by rw[qX,ep.2 ⟨q,q1,q3,q2⟩];simp only[eD,hh,oP])
       rw[this] at D7;cases D7
     rw[Sy,ha] at o_;simp only[zmZ,Bl,ue] at o_;intro e;have:=rT.inj b a (by rw[<- OJ];exact hb) (by rw[<- OJ];exact bu) e
     subst this;simp at o_
    refine look hp (.inr λn D S h1 h2 h3=>eW n S (dO D S h1 h2 h3)) ⟨Ls,λhh=>(by cases hh),λb' bY=>?_,λhh=>(by cases hh),λ_ hh=>(by cases hh)⟩
    cases bY;refine⟨hp,rY hb g4.length_le,H.get (pd pa b),?_,?_⟩
    ·rw[jo g4 hb];intro D S hD dZ hS;rw[zbL hp] at dZ;exact .inr (dO D S ((wY hp).1 hD) dZ hS)
    ·rw[jo g4 hb];exact eW
   | call =>
    have hp:eD.hp=true:=Al;obtain⟨v',TG⟩:=znp he.calls hc h0 rT Ko;have cP:x=.val v'/\(⟨bT,H1,c7,[]⟩:St)=⟨env,H,lk,[]⟩:=by
     obtain⟨k2,h2⟩:=TG H;have a:=g6 (max k1 k2) (by omega)
     have b:=h2 (max k1 k2) (by omega) lk []
     have:=a.symm.trans b;simpa using this
    obtain⟨WY,WZ⟩:=cP;have hvv:v'=v:=by
     rcases g7 with g7|⟨g7,_⟩
     ·rw[g7] at WY;cases WY;rfl
     ·rw[g7] at WY;cases WY
    subst hvv;simp only[St.mk.injEq,r8] at WZ;obtain⟨rfl,rfl,rfl⟩:=WZ;have dQ:∀S:lW,∃k,∀n,k<=n->∀D D',(C1 P gl n).dX takes eD.o eD.env ⟨D',S.1,S.2,[]⟩ D=some (eD.v,⟨D,S.1,S.2,[]⟩):=λS=>by
     obtain⟨k2,h2⟩:=TG S.1;exact⟨k2,λn hn D D'=>TF (x:=.val v') (c:=⟨D',S.1,S.2,[]⟩) (h2 n hn S.2 []) (.inl rfl)⟩
    refine fin (sH:=rl) (hs':=hs) ⟨?_,⟨tl,Kq⟩,hL.fr.mono (λd hd=>cZ _ hd) g4,hL.up.cons rfl uN,hL.nd,λj hj=>?_⟩ ?_
    ·refine .cons ⟨Ls,λhh=>(by cases hh),λ_ hh=>(by cases hh),λ_=>⟨hp,r_,dQ⟩,λ_ hh=>(by cases hh)⟩ (hL.IV.mono λd q _ hq hh=>hh.TE hq rfl hp uN hL.up r_ g4)
    ·obtain⟨q,q1,q2⟩:=hL.MX j hj;exact⟨q,cZ _ q1,q2⟩
    ·have hk:∃k2,∀n,k2<=n->∀S∈hs,∀D D',(C1 P gl n).dX takes eD.o eD.env ⟨D',S.1,S.2,[]⟩ D=some (eD.v,⟨D,S.1,S.2,[]⟩):=by
      have:∀l:List lW,∃k2,∀n,k2<=n->∀S∈l,∀D D',(C1 P gl n).dX takes eD.o eD.env ⟨D',S.1,S.2,[]⟩ D=some (eD.v,⟨D,S.1,S.2,[]⟩):=by
       intro l
       induction l with
       | nil=>exact⟨0,λn _ S hS=>by simp at hS⟩
       | cons S l ih =>
        obtain⟨k2,ih⟩:=ih;obtain⟨k3,h3⟩:=dQ S;refine⟨max k2 k3,λn hn S' hS'=>?_⟩;rcases cS.1 hS' with rfl|hS'
        ·exact h3 n (by omega)
        ·exact ih n (by omega) S' hS'
      exact this hs
     obtain⟨k2,fB⟩:=hk;refine⟨k2,λn hn c0 cs hD=>?_⟩;have TH:∀D,(∀j∈rl,bit D j=true)->mY D rl hs=some (H1,c7):=λD hDD=>by rw[Kq];exact WV hDD
     obtain⟨cs',e1,Ke,e2,e3⟩:=hD.Mh (r:=eD) (sH:=rl) (hs':=hs) (c1:=⟨Nat.lor c0.D (Nat.pow 2 i),H1,c7,[]⟩) rfl uN hp rfl
      (λc hc dZ=>by
       obtain⟨d1,d2⟩:=hD.cfg c hc;refine⟨c.H,c.lk,λD'=>?_,by rw[Tw r_];exact d1⟩
       have:=fB n hn (c.H,c.lk) (zgU d1) D' c.D;obtain⟨cD,cH,clk,cdf⟩:=c;simp only at d2 this ⊢;subst d2
       exact this)
      ⟨(by
        rw[Tw r_];refine TH c0.D λj hj=>?_;obtain⟨q,q1,q2,q3⟩:=hL.MX j hj
        rw[hD.WU];exact ep.2 ⟨q,q1,q3,q2⟩),rfl⟩
      (λD _=>rfl) (.inl ⟨rfl,rfl⟩)
      (λq hq fh Dx S hS D D'=>by
       rcases cS.1 hq with rfl|hq
       ·exact fB n hn S hS D D'
       ·exact hD.calls q hq fh Dx S hS D D')
      (zbM (λq hq=>cZ _ hq) (λb hb=>bF.2 (.inr hb)) hD.chain) hL.nd
      (λe=>by have:=congrArg List.length e;simp at this)
     subst e2;exact⟨_,Ke,e1,e3⟩
   | wr a =>
    have hp:eD.hp=true:=Al;have OK:Ft.length=rS.na:=g5.na;have ha:a<Ft.length:=by rw[OK];simpa[Lq,G6] using gw
    simp only[S4] at sZ;have dz:∀j∈rl,bit eD.m j=true/\bit (cn rs) j=true:=λj hj=>by
     obtain⟨q,q1,q2,q3⟩:=hL.MX j hj;refine⟨?_,ep.2 ⟨q,q1,q3,q2⟩⟩;obtain⟨d,hd,Gb⟩:=hL.IV.right q1;have o_:=kx sZ d hd;have Zh:d.lg.idx=j:=by rw[<- Gb.key.idx];exact q2
     cases Fe:d.cls with
     | free=>rw[(Gb.free Fe).1] at q3;cases q3
     | rd b=>rw[(Gb.rd b Fe).1] at q3;cases q3
     | call=>exact absurd (by rw[q2];exact hj) (Gb.call Fe).2.1
     | wr a' =>
      rw[Fe,Zh] at o_;simpa using o_
    have MY:∀d q,d∈ds->q∈rs->Ga P gl takes pa rs rl hs d q->∀b,d.cls=.rd b->b<pa.length->bit eD.m q.idx=true\/H1.get (pd pa b)=H.get (pd pa b)\/∃e∈rs,e.hp=true/\bit e.m q.idx=true/\bit eD.m e.idx=true:=λd q hd hq Gb b Fe bu=>by
     have o_:=kx sZ d hd;rw[Fe] at o_;simp only[gZ,ue] at o_;rcases o_ with g|g|g
     ·left;rw[Gb.key.idx];exact g
     ·right;left
      rw[<- jo g4 bu];refine g9 a hc _ λe=>?_;have:=g5.inj b a (by rw[<- OK];exact rY bu g4.length_le) (by rw[<- OK];exact ha) e
      subst this;simp at g
     ·right;right
      obtain⟨e,WZ,K4⟩:=zgN g;simp only[bN] at K4;obtain⟨qe,f1,f2⟩:=hL.IV.left WZ;cases Hs:e.cls with
      | wr a' =>
       obtain⟨f3,_,f4⟩:=f2.wr a' Hs;exact⟨qe,f1,f3,by rw[f2.key.m,Gb.key.idx];exact K4.2,(dz _ f4).1⟩
      | _=>rw[Hs] at K4;simp[Cp.real] at K4
    obtain⟨k3,D8⟩:=znr (H1,c7) hL.IV;have hLL:=hL;subst Kq;refine fin (sH:=i::rl) (hs':=(H1,c7)::(H,lk)::tl) ⟨?_,⟨_,rfl⟩,?_,hL.up.cons rfl uN,?_,λj hj=>?_⟩ ⟨max k1 k3,λn hn c0 cs hD=>?_⟩
    ·exact .cons ⟨Ls,λhh=>(by cases hh),λ_ hh=>(by cases hh),λhh=>(by cases hh),λa' hh=>(by cases hh;exact⟨hp,ha,ew⟩)⟩ (hL.IV.mono λd q hd hq hh=>hh.wrr hq rfl hp uN hL.up dz g4 (MY d q hd hq hh))
    ·exact .cons ⟨II takes all i m o,.wr a⟩ a ew rfl ha (λX hX=>g9 a hc X hX) (hL.fr.mono (λd hd=>cZ _ hd) g4)
    ·exact List.nodup_cons.2 ⟨r_,hL.nd⟩
    ·rcases cS.1 hj with rfl|hj
     ·exact⟨eD,ew,rfl,hp⟩
     ·obtain⟨q,q1,q2⟩:=hL.MX j hj;exact⟨q,cZ _ q1,q2⟩
    ·have K6:∀D,bit (Nat.lor D (Nat.pow 2 i)) i=true:=λD=>by rw[qW,jh];simp
     obtain⟨cs',e1,Ke,e2,e3⟩:=hD.Mh (r:=eD) (sH:=i::rl) (hs':=(H1,c7)::(H,lk)::tl) (c1:=⟨Nat.lor c0.D (Nat.pow 2 i),H1,c7,[]⟩) rfl uN hp rfl
      (λc ez dZ=>by
       obtain⟨d1,d2⟩:=hD.cfg c ez;have:mY c.D rl ((H,lk)::tl)=some (H,lk):=WV λj hj=>bR.1 dZ j (by rw[qX,(dz j hj).1,(dz j hj).2];rfl)
       rw[this] at d1;simp only[aO,bP] at d1;refine⟨H1,c7,λD'=>?_,by simp only[mY,K6]⟩
       have az:=g6 n (by omega)
       obtain⟨cD,cH,clk,cdf⟩:=c;simp only at d1 d2;obtain⟨rfl,rfl⟩:=d1;subst d2
       exact TF (c:=⟨cD,_,_,[]⟩) az g7)
      ⟨by simp only[mY,K6],rfl⟩
      (λD nG=>by simp only[mY,nG]) (.inr ⟨(H1,c7),rfl,rfl⟩)
      (λq hq fh Dx S hS D D'=>by
       simp only[cS,not_or] at Dx;rcases cS.1 hq with rfl|hq
       ·exact absurd rfl Dx.1
       ·rcases cS.1 hS with rfl|hS
        ·exact D8 n (by omega) q hq fh Dx.2 D D'
        ·exact hD.calls q hq fh Dx.2 S hS D D')
      (.cons eD ew hp (λj hj=>⟨(dz j hj).1,bF.2 (.inr (dz j hj).2)⟩) (λD D'=>TF (c:=⟨D',H,lk,[]⟩) (g6 n (by omega)) g7) (zbM (λq hq=>cZ _ hq) (λb hb=>bF.2 (.inr hb)) hD.chain))
      (List.nodup_cons.2 ⟨r_,hL.nd⟩)
      (λ_ q hq f1 f2 D S hDc nG dZ hS=>by
       obtain⟨d,hd,Gb⟩:=hL.IV.right hq;cases Fe:d.cls with
       | free =>
        rcases (Gb.free Fe).2 with g|g
        ·rw[g] at f2;cases f2
        ·exact .inr (g n S)
       | rd b =>
        obtain⟨_,x2,X,x3,x4⟩:=Gb.rd b Fe;have x5:=x3.wr hq (r:=eD) (S':=(H1,c7)) rfl hp uN hL.up dz (MY d q hd hq Gb b Fe x2)
        rcases x5 D S hDc (bR.2 λb hb=>by
          rw[qX,bN] at hb
          refine bR.1 dZ b (by
           rw[qX,bN];refine⟨hb.1,?_⟩;rcases bF.1 hb.2 with⟨_,e⟩|e
           ·have z1:=hL.up.Fv q hq b hb.1;have z2:=hL.up.lt q hq;have z3:i=b:=e;omega
           ·exact e)) hS with g|g
        ·exact .inl g
        ·exact .inr (x4 n S g)
       | call=>rw[(Gb.call Fe).1] at f1;cases f1
       | wr a'=>rw[(Gb.wr a' Fe).1] at f1;cases f1)
     subst e2;exact⟨_,Ke,e1,e3⟩
  have skip:∀{tc:Sg}{t0:Tree},zN all o env=some false->Rel n0 B ρ pa tc ⟨env,H,lk,[]⟩ ->
    Li P all takes kk (i+1) (⟨{ II takes all i m o with hp:=false },.free⟩::ds) os (mO tc o.dst tK)=some t0->bU ph gl N t0 ρ=some r->Q0 P gl ph N takes all kk r n0 B i rs rl hs (o::os) ρ pa ⟨env,H,lk,[]⟩:=by
   intro tc t0 hw rT h0 Ko;have F5:=rT.mO (d:=o.dst) (sv:=tK) (v:=.bx []) (λ_ _ _ _ v' cP=>by cases cP;rfl)
   let eD:Rec:=⟨i,o,m,lT takes o,Nat.lor (lT takes o) (tG all o),false,true,env,.bx []⟩
   have OI:jW (jG eD) rs=true:=ziq (λd q h=>h.key) hL.IV (r:=II takes all i m o) (r':=eD) rfl rfl rfl pN;have hL':Lk P gl takes pa ⟨aI env o.dst (.bx []),H,lk,[]⟩ (i+1) (⟨{ II takes all i m o with hp:=false },.free⟩::ds) (eD::rs) rl hs:=by
    refine⟨?_,⟨tl,Kq⟩,hL.fr.mono (λd hd=>cZ _ hd) (di _),hL.up.cons rfl uN,hL.nd,λj hj=>?_⟩
    ·exact .cons ⟨⟨rfl,rfl,rfl,rfl⟩,λ_=>⟨rfl,.inl rfl⟩,λ_ hh=>(by cases hh),λhh=>(by cases hh),λ_ hh=>(by cases hh)⟩ (hL.IV.mono λd q _ _ hh=>hh.quiet rfl (di _))
    ·obtain⟨q,q1,q2⟩:=hL.MX j hj;exact⟨q,cZ _ q1,q2⟩
   obtain⟨cW,aY,bM,t',s',f1,f2,f3,f4,f5,k3,f6⟩:=zgY he h0 F5 Ko hL';refine⟨cW,aY,bM,t',s',f1,f2,f3,f4,f5,k3,λn hn c0 cs hD=>?_⟩;rw[zlT hm hw (r:=eD) rfl OI];obtain⟨e1,e2⟩:=hD.quiet (r:=eD) rfl uN rfl (.inl rfl) (c1:=⟨Nat.lor c0.D (Nat.pow 2 i),H,lk,[]⟩);rw[e1];exact f6 n hn c0 cs e2
  have go:∀{tc:Sg}{t0:Tree},zN all o env=some true->Rel n0 B ρ pa tc ⟨env,H,lk,[]⟩ ->
    (match j7 takes tc o with|none=>none|some c=>if S4 m c ds=true then iS P takes tc o λσ v=>Li P all takes kk (i+1) (⟨II takes all i m o,c⟩::ds) os (mO σ o.dst v) else none)=some t0->bU ph gl N t0 ρ=some r->Q0 P gl ph N takes all kk r n0 B i rs rl hs (o::os) ρ pa ⟨env,H,lk,[]⟩:=by
   intro tc t0 hw rT h0 Ko;split at h0
   ·cases h0
   ·rename_i c hc;split at h0
    next sZ=>exact run hw rT (di _) hc sZ h0 Ko
    ·cases h0
  split at h
  ·cases h
  next hg=>exact skip (iF hg hr) hr h hq
  next hg=>exact go (iF hg hr) hr h hq
  ·rename_i c hg;obtain⟨b,hw,hb⟩:=iF hg hr;obtain⟨ta,tb,h1,h2,h3⟩:=Th h hq;have h0:=hb ρ pa (di _) (di _);rcases h3 with⟨h3,h4⟩|⟨h3,h4⟩
   ·rw[h0] at h3;subst h3;exact go hw (hr.cond hb) h1 h4
   ·rw[h0] at h3;subst h3;exact skip hw (hr.cond (c:=mkNot c) λak an f1 f2=>by rw[jQ,hb ak an f1 f2];rfl) h2 h4
def znu(he:Env P gl ph){ops:Array Oper}{kk:Sg->Option Tree}{r:Nat×aj}(h:Li P ops (wi ops) kk 0 [] ops.toList σ=some t)(hr:Rel n0 B ρ pa σ ⟨env,H,[],df⟩)(hq:bU ph gl N t ρ=some r) :
  ∃cW aY bM t' s',kk cW=some t'/\bU ph gl N t' aY=some r/\ρ <+: aY/\pa <+: bM/\Rel n0 B aY bM cW s'/\∃k0,∀n,k0<=n->Cx.draw ⟨P,gl,zl P gl n,gl.uq⟩ ops ⟨env,H,lk,df⟩=some (.normal,s'):=by
 have K2:df=[]:=hr.df;subst K2;obtain⟨cW,aY,bM,t',s',h1,h2,h3,h4,h5,k0,h6⟩:=zgY (rs:=[]) (rl:=[]) (hs:=[(H,[])]) he h hr hq ⟨.nil,⟨[],rfl⟩,.nil _,⟨λq hq=>by simp at hq,λq hq=>by simp at hq⟩,List.nodup_nil,λj hj=>by simp at hj⟩
 refine⟨cW,aY,bM,t',s',h1,h2,h3,h4,h5,k0,λn hn=>?_⟩;have gI:∀D,qY [] D->D=0:=λD hD=>kK λb=>by
  rw[wR];cases hb:bit D b with
  | false=>rfl
  | true=>have:=hD.1 b hb;simp[cn,wR] at this
 refine h6 n hn ⟨0,H,[],[]⟩ [] ⟨λq hq=>by simp at hq,λq hq=>by simp at hq,λq hq=>by simp at hq,λc hc=>?_,λc hc=>?_,rfl,λD hD=>⟨_,ew,(gI D hD).symm⟩,λq hq=>by simp at hq,λj hj=>by simp at hj,.nil _,λq hq=>by simp at hq⟩
 ·simp only[HM] at hc;subst hc;exact⟨rfl,rfl⟩
 ·simp only[HM] at hc;subst hc;exact⟨λb hb=>(by rw[wR] at hb;cases hb),λq hq=>(by simp at hq)⟩
end
section
set_option linter.unusedSectionVars false
variable{P:aD}{gl:Gl}{ph:PH}{N:Nat}{ρ aY:aj}{pa bM:aR}{σ cW mP:Sg}{s:St}{n0:Nat}{B:List aN}{env:aj}{H:Hp}{lk:aC}{df:aV}{takes:bA}{k:KT}{t:Tree}
variable [ir gl]
def mQ:XE->Ex
 | .normal=>.normal
 | .exit i=>.exit i
 | .ret=>.ret
def TJ(_P:aD)(gl:Gl)(ph:PH)(N:Nat)(n0:Nat)(B:List aN)(K:KE)(r:Nat×aj)(ρ:aj)(pa:aR)(run:Nat->Option (Ex×St)):Prop :=
 ∃e cW aY bM t' s',K e cW=some t'/\bU ph gl N t' aY=some r/\ρ <+: aY/\pa <+: bM/\Rel n0 B aY bM cW s'/\∃k0,∀n,k0<=n->run n=some (mQ e,s')
def zkC{js:JS}{body:KE->Option Tree}{pick:XE->Bool}{K:KE}{next:Sg->Option Tree}{r:Nat×aj}{run:Nat->Option (Ex×St)}(h:Wy js σ body pick K next=some t)(hr:Rel n0 B ρ pa σ s)(hq:bU ph gl N t ρ=some r)
    (hb:∀K t r,body K=some t->bU ph gl N t ρ=some r->TJ P gl ph N n0 B K r ρ pa run) :
    ∃e s',(∃k0,∀n,k0<=n->run n=some (mQ e,s')) /\
      ((pick e=true/\∃rS sG t1,next rS=some t1/\bU ph gl N t1 sG=some r/\ρ <+: sG/\Rel n0 B sG pa rS s') \/
       (pick e=false/\∃rS sG Ft t1,K e rS=some t1/\bU ph gl N t1 sG=some r/\ρ <+: sG/\pa <+: Ft/\Rel n0 B sG Ft rS s')):=by
  simp only[Wy] at h;split at h
  · cases h
  · rename_i hJ
    simp only[ue,J8] at hJ;split at h
    · rename_i b t1 lI TK
      cases h;simp only[bU] at hq;cases OL:bU ph gl N b ρ with
      | none=>rw[OL] at hq;cases hq
      | some rb =>
        rw[OL] at hq;obtain⟨e,cW,aY,bM,t',s',h1,h2,h3,h4,h5,h6⟩:=hb _ _ _ lI OL;refine⟨e,s',h6,?_⟩;cases hp:pick e with
        | true =>
          left
          simp only[hp,S7] at h1;split at h1
          · rename_i nF hv
            cases h1;simp only[bU,aO] at h2;subst h2;exact⟨rfl,gen js σ,ρ++aG aY [] nF,t1,TK,hq,Ag _ _,zjy hr hJ h5 h3 h4 hv⟩
          · cases h1
        | false =>
          right
          simp only[hp,QM] at h1;split at h1
          · rename_i t2 Iv
            cases h1;simp only[bU] at h2;split at h2
            · rename_i j vs hj
              cases h2;simp only[aO] at hq;subst hq;exact⟨rfl,cW,aY,bM,t2,Iv,hj,h3,h4,h5⟩
            · cases h2
          · cases h1
    · cases h
def zkD{js:JS}{c:Code}{body:Tree}{K:KE}{r:Nat×aj}(rT:Rel n0 B ρ pa σ s)(hJ:S6 σ (gen js σ)=true)
  (hb:∀(sG:aj)(s1:St)(r:Nat×aj),Rel n0 B sG pa (gen js σ) s1->bU ph gl N body sG=some r->TJ P gl ph N n0 B (λe cW=>match e with|.normal=>S7 (fit σ.ks.length (gen js σ) cW)|e=>QM (K e cW)) r sG pa (λn=>Cx.code ⟨P,gl,zl P gl n,gl.uq⟩ n c s1)) :
  ∀(m:Nat)(vs:aj)(s1:St),Rel n0 B (ρ++vs) pa (gen js σ) s1->Hl (λvs=>bU ph gl N body (ρ++vs)) m vs=some r ->
   ∃e cW aY bM t' s',K e cW=some t'/\bU ph gl N t' aY=some r/\ρ <+: aY/\pa <+: bM/\Rel n0 B aY bM cW s'/\∃k0,∀n,k0<=n->∀j,m<=j->yP (Cx.code ⟨P,gl,zl P gl n,gl.uq⟩ n c) j s1=some (mQ e,s')
 | 0,vs,s1,_,h=>by cases h
 | m+1,vs,s1,hr,h=>by
  simp only[Hl] at h;cases OL:bU ph gl N body (ρ++vs) with
  | none=>rw[OL] at h;cases h
  | some rb =>
   rw[OL] at h;obtain⟨e,cW,aY,bM,t',s',h1,h2,h3,h4,h5,k1,h6⟩:=hb (ρ++vs) s1 rb hr OL;have ek:ρ <+: aY:=QU h3;have p9:∀e',e=e'->e'≠.normal->QM (K e' cW)=some t'->∃e cW aY bM t' s',K e cW=some t'/\bU ph gl N t' aY=some r/\ρ <+: aY/\pa <+: bM/\Rel n0 B aY bM cW s'/\∃k0,∀n,k0<=n->∀j,m+1<=j->yP (Cx.code ⟨P,gl,zl P gl n,gl.uq⟩ n c) j s1=some (mQ e,s'):=by
    rintro e' rfl cg h1;simp only[QM] at h1;split at h1
    ·rename_i t2 Iv;cases h1;simp only[bU] at h2;split at h2
     ·rename_i j vs hj;cases h2;simp only[aO] at h;subst h;refine⟨e,cW,aY,bM,t2,s',Iv,hj,ek,h4,h5,k1,λn hn j hj=>?_⟩
      match j,hj with
      | j+1,_ =>
      have:=h6 n hn;simp only[yP,this];cases e<;>first|exact absurd rfl cg|rfl
     ·cases h2
    ·cases h1
   cases e with
   | normal =>
    simp only[S7] at h1;split at h1
    ·rename_i nF hv;cases h1;simp only[bU,aO] at h2;subst h2;have mX:=zjy rT hJ h5 ek h4 hv;obtain⟨e,TM,MZ,TN,t2,s2,g1,g2,g3,g4,g5,k2,g6⟩:=zkD (K:=K) rT hJ hb m _ s' mX h;refine⟨e,TM,MZ,TN,t2,s2,g1,g2,g3,g4,g5,max k1 k2,λn hn j hj=>?_⟩
     match j,hj with
     | j+1,hj =>
     have:=h6 n (by omega)
     simp only[yP,this,mQ];exact g6 n (by omega) j (by omega)
    ·cases h1
   | exit i=>exact p9 _ rfl (by intro h;cases h) h1
   | ret=>exact p9 _ rfl (by intro h;cases h) h1
def kO(he:Env P gl ph){hs:List (Nat×JS)}:∀(c:Code)(p:Nat)(σ:Sg)(K:KE)(t:Tree)(ρ:aj)(pa:aR)(s:St)(r:Nat×aj),kf P hs p c σ K=some t->Rel n0 B ρ pa σ s->bU ph gl N t ρ=some r ->
  TJ P gl ph N n0 B K r ρ pa (λn=>Cx.code ⟨P,gl,zl P gl n,gl.uq⟩ n c s)
 | .skip,p,σ,K,t,ρ,pa,s,r,h,hr,hq=>⟨.normal,σ,ρ,pa,t,s,h,hq,di _,di _,hr,0,λn _=>rfl⟩
 | .label _,p,σ,K,t,ρ,pa,s,r,h,hr,hq=>⟨.normal,σ,ρ,pa,t,s,h,hq,di _,di _,hr,0,λn _=>rfl⟩
 | .exit i,p,σ,K,t,ρ,pa,s,r,h,hr,hq=>⟨.exit i,σ,ρ,pa,t,s,h,hq,di _,di _,hr,0,λn _=>rfl⟩
 | .ret,p,σ,K,t,ρ,pa,s,r,h,hr,hq=>⟨.ret,σ,ρ,pa,t,s,h,hq,di _,di _,hr,0,λn _=>rfl⟩
 | .region id ops false,p,σ,K,t,ρ,pa,⟨env,H,lk,df⟩,r,h,hr,hq=>by
  simp only[kf] at h;obtain⟨cW,aY,bM,t',s',h1,h2,h3,h4,h5,k0,h6⟩:=Tr he h hr.Tc hq;exact⟨.normal,cW,aY,bM,t',s',h1,h2,h3,h4,h5,k0,λn hn=>by simp only[Cx.code];exact h6 n hn⟩
 | .region id ops true,p,σ,K,t,ρ,pa,⟨env,H,lk,df⟩,r,h,hr,hq=>by
  simp only[kf] at h;obtain⟨cW,aY,bM,t',s',h1,h2,h3,h4,h5,k0,h6⟩:=znu (lk:=lk) he h hr.Tc hq;exact⟨.normal,cW,aY,bM,t',s',h1,h2,h3,h4,h5,k0,λn hn=>by simp only[Cx.code];exact h6 n hn⟩
 | .scope c,p,σ,K,t,ρ,pa,s,r,h,hr,hq=>by
  simp only[kf] at h;obtain⟨e,cW,aY,bM,t',s',h1,h2,h3,h4,h5,k0,h6⟩:=kO he c (2 * p) σ K t ρ pa s r h hr hq;refine⟨e,cW,aY,bM,t',s',h1,h2,h3,h4,h5,k0,λn hn=>?_⟩;have:=h6 n hn;simp only[Cx.code,this];cases e<;>rfl
 | .cond c a b,p,σ,K,t,ρ,pa,s,r,h,hr,hq=>by
  simp only[kf] at h;split at h
  ·cases h
  ·rename_i tt hc;have ec:∀ak an,ρ <+: ak->pa <+: an->aq s.env c=some (.bool (bk ak tt)):=λak an e1 e2=>zju (hr.ext ak an e1 e2) hc;have e0:=ec ρ pa (di _) (di _);have b8:∀ak an,ρ <+: ak->pa <+: an->bk ak tt=bk ρ tt:=λak an e1 e2=>by
    have:=(ec ak an e1 e2).symm.trans e0;simpa using this
   have goA:∀{rS:Sg}{t1:Tree},bk ρ tt=true->kf P hs (2 * p) a rS K=some t1->Rel n0 B ρ pa rS s->bU ph gl N t1 ρ=some r->TJ P gl ph N n0 B K r ρ pa (λn=>Cx.code ⟨P,gl,zl P gl n,gl.uq⟩ n (.cond c a b) s):=λhb h1 BC Lt=>by
    obtain⟨e,cW,aY,bM,t',s',h1,h2,h3,h4,h5,k0,h6⟩:=kO he a (2 * p) _ K _ ρ pa s r h1 BC Lt;exact⟨e,cW,aY,bM,t',s',h1,h2,h3,h4,h5,k0,λn hn=>by simp only[Cx.code,e0,hb];exact h6 n hn⟩
   have goB:∀{rS:Sg}{t1:Tree},bk ρ tt=false->kf P hs (2 * p+1) b rS K=some t1->Rel n0 B ρ pa rS s->bU ph gl N t1 ρ=some r->TJ P gl ph N n0 B K r ρ pa (λn=>Cx.code ⟨P,gl,zl P gl n,gl.uq⟩ n (.cond c a b) s):=λhb h1 BC Lt=>by
    obtain⟨e,cW,aY,bM,t',s',h1,h2,h3,h4,h5,k0,h6⟩:=kO he b (2 * p+1) _ K _ ρ pa s r h1 BC Lt;exact⟨e,cW,aY,bM,t',s',h1,h2,h3,h4,h5,k0,λn hn=>by simp only[Cx.code,e0,hb];exact h6 n hn⟩
   split at h
   next hk=>exact goA (jX hr.here.as hk) h hr hq
   next hk=>exact goB (jX hr.here.as hk) h hr hq
   ·obtain⟨ta,tb,h1,h2,h3⟩:=Th h hq;rcases h3 with⟨h3,h4⟩|⟨h3,h4⟩
    ·exact goA h3 h1 (hr.cond λak an f1 f2=>by rw[b8 ak an f1 f2];exact h3) h4
    ·exact goB h3 h2 (hr.cond (c:=mkNot tt) λak an f1 f2=>by rw[jQ,b8 ak an f1 f2,h3];rfl) h4
 | .seq a b,p,σ,K,t,ρ,pa,s,r,h,hr,hq=>by
  simp only[kf] at h;split at h
  ·obtain⟨e,cW,aY,bM,t',s',h1,h2,h3,h4,h5,k1,h6⟩:=kO he a (2 * p) σ _ t ρ pa s r h hr hq;cases e with
   | normal =>
    obtain⟨e,TM,MZ,TN,t2,s2,g1,g2,g3,g4,g5,k2,g6⟩:=kO he b (2 * p+1) cW K t' aY bM s' r h1 h5 h2;refine⟨e,TM,MZ,TN,t2,s2,g1,g2,h3.trans g3,h4.trans g4,g5,max k1 k2,λn hn=>?_⟩;have:=h6 n (by omega)
    simp only[Cx.code,this,mQ];exact g6 n (by omega)
   | exit i=>exact⟨.exit i,cW,aY,bM,t',s',h1,h2,h3,h4,h5,k1,λn hn=>by have:=h6 n hn;simp only[Cx.code,this,mQ]⟩
   | ret=>exact⟨.ret,cW,aY,bM,t',s',h1,h2,h3,h4,h5,k1,λn hn=>by have:=h6 n hn;simp only[Cx.code,this,mQ]⟩
  ·rename_i js Lu;obtain⟨e,s',⟨k1,h1⟩,h2⟩:=zkC (run:=λn=>Cx.code ⟨P,gl,zl P gl n,gl.uq⟩ n a s) h hr hq λK t r hb hq=>kO he a (2 * p) σ K t ρ pa s r hb hr hq;rcases h2 with⟨hp,rS,sG,t1,g1,g2,g3,g4⟩|⟨hp,rS,sG,Ft,t1,g1,g2,g3,g4,g5⟩
   ·cases e with
    | normal =>
     obtain⟨e,TM,MZ,TN,t2,s2,f1,f2,f3,f4,f5,k2,f6⟩:=kO he b (2 * p+1) rS K t1 sG pa s' r g1 g4 g2;refine⟨e,TM,MZ,TN,t2,s2,f1,f2,g3.trans f3,f4,f5,max k1 k2,λn hn=>?_⟩;have:=h1 n (by omega)
     simp only[Cx.code,this,mQ];exact f6 n (by omega)
    | _=>cases hp
   ·cases e with
    | normal=>cases hp
    | exit i=>exact⟨.exit i,rS,sG,Ft,t1,s',g1,g2,g3,g4,g5,k1,λn hn=>by have:=h1 n hn;simp only[Cx.code,this,mQ]⟩
    | ret=>exact⟨.ret,rS,sG,Ft,t1,s',g1,g2,g3,g4,g5,k1,λn hn=>by have:=h1 n hn;simp only[Cx.code,this,mQ]⟩
 | .block id c,p,σ,K,t,ρ,pa,s,r,h,hr,hq=>by
  simp only[kf] at h;split at h
  ·obtain⟨e,cW,aY,bM,t',s',h1,h2,h3,h4,h5,k1,h6⟩:=kO he c (2 * p) σ _ t ρ pa s r h hr hq;cases e with
   | normal=>exact⟨.normal,cW,aY,bM,t',s',h1,h2,h3,h4,h5,k1,λn hn=>by have:=h6 n hn;simp only[Cx.code,this,mQ]⟩
   | ret=>exact⟨.ret,cW,aY,bM,t',s',h1,h2,h3,h4,h5,k1,λn hn=>by have:=h6 n hn;simp only[Cx.code,this,mQ]⟩
   | exit i =>
    simp only at h1;cases hb:Nat.beq i id with
    | true =>
     rw[hb] at h1;exact⟨.normal,cW,aY,bM,t',s',h1,h2,h3,h4,h5,k1,λn hn=>by have:=h6 n hn;simp only[Cx.code,this,mQ,hb,aT]⟩
    | false =>
     rw[hb] at h1;exact⟨.exit i,cW,aY,bM,t',s',h1,h2,h3,h4,h5,k1,λn hn=>by have:=h6 n hn;simp only[Cx.code,this,mQ,hb,bH,aZ]⟩
  ·rename_i js Lu;obtain⟨e,s',⟨k1,h1⟩,h2⟩:=zkC (run:=λn=>Cx.code ⟨P,gl,zl P gl n,gl.uq⟩ n c s) h hr hq λK t r hb hq=>kO he c (2 * p) σ K t ρ pa s r hb hr hq;rcases h2 with⟨hp,rS,sG,t1,g1,g2,g3,g4⟩|⟨hp,rS,sG,Ft,t1,g1,g2,g3,g4,g5⟩
   ·refine⟨.normal,rS,sG,pa,t1,s',g1,g2,g3,di _,g4,k1,λn hn=>?_⟩;have:=h1 n hn;cases e with
    | normal=>simp only[Cx.code,this,mQ]
    | exit i=>simp only at hp;simp only[Cx.code,this,mQ,hp,aT]
    | ret=>cases hp
   ·cases e with
    | normal=>cases hp
    | exit i=>simp only at hp;exact⟨.exit i,rS,sG,Ft,t1,s',g1,g2,g3,g4,g5,k1,λn hn=>by have:=h1 n hn;simp only[Cx.code,this,mQ,hp,bH,aZ]⟩
    | ret=>exact⟨.ret,rS,sG,Ft,t1,s',g1,g2,g3,g4,g5,k1,λn hn=>by have:=h1 n hn;simp only[Cx.code,this,mQ]⟩
 | .loop c,p,σ,K,t,ρ,pa,s,r,h,hr,hq=>by
  simp only[kf] at h;split at h
  ·cases h
  ·rename_i js Lu;split at h
   ·cases h
   ·rename_i hJ;simp only[ue,J8] at hJ;split at h
    next Ay body aaW lI=>cases h;simp only[bU] at hq;have mX:=zjy hr hJ hr (di _) (di _) aaW;obtain⟨e,cW,aY,bM,t',s',h1,h2,h3,h4,h5,k0,h6⟩:=zkD (c:=c) (K:=K) hr hJ (λsG s1 r1 BC Lt=>kO he c (2 * p) (gen js σ) _ body sG pa s1 r1 lI BC Lt) N _ s mX hq;exact⟨e,cW,aY,bM,t',s',h1,h2,h3,h4,h5,max k0 N,λn hn=>by simp only[Cx.code];exact h6 n (by omega) n (by omega)⟩
    ·cases h
 | .rangeFunc ..,_,_,_,_,_,_,_,_,h,_,_=>by simp[kf] at h
 | .goto _,_,_,_,_,_,_,_,_,h,_,_=>by simp[kf] at h
 | .refuse _,_,_,_,_,_,_,_,_,h,_,_=>by simp[kf] at h
end
section
set_option linter.unusedSectionVars false
variable{P:aD}{gl:Gl}{ph:PH}{N:Nat}{ρ aY:aj}{pa bM:aR}{σ cW mP:Sg}{s:St}{n0:Nat}{B:List aN}{env:aj}{H:Hp}{lk:aC}{df:aV}{takes:bA}{t:Tree}{r:Nat×aj}
variable [ir gl]
def zir{kk:Sg->Option Tree}:∀{CX:List CK}{i:Nat}{σ:Sg}{t:Tree},Wz kk σ CX i=some t->Rel n0 B ρ pa σ s->i+CX.length<=σ.ks.length->bU ph gl N t ρ=some r ->
  ∃iZ t',iZ.length=σ.ks.length/\kk { σ with ks:=iZ }=some t'/\bU ph gl N t' ρ=some r/\Rel n0 B ρ pa { σ with ks:=iZ } s
 | [],i,σ,t,h,hr,hi,hq=>⟨σ.ks,t,rfl,h,hq,hr⟩
 | ck::CX,i,σ,t,h,hr,hi,hq=>by
  simp only[Wz] at h;split at h
  ·rename_i t1 ht;cases h;simp only[bU,cond_eq_ite] at hq;split at hq
   ·rename_i hk;simp only[fY] at hi;obtain⟨iZ,t',h1,h2,h3,h4⟩:=zir ht (hr.kind (by omega) hk) (by simp;omega) hq
    exact⟨iZ,t',by simpa using h1,h2,h3,h4⟩
   ·cases hq
  ·cases h
def we(P:aD):List ai->List AV->Nat->Prop
 | [],[],_=>True
 | t::ts,.p j' off::gQ,j=>(∃e,P.underlying t=some (.pointer e))/\j'=j/\off=0/\we P ts gQ (j+1)
 | t::ts,.d _x::gQ,j=>(∀e,P.underlying t≠some (.pointer e))/\we P ts gQ j
 | _,_,_=>False
def A6:AV->V
 | .d x=>x
 | .p _ _=>.dx
def ng{kk:Sg->List SV->Option Tree}:∀{ts:List ai}{gQ:List AV}{i j:Nat}{σ:Sg}{ρ:aj}{acc:List SV}{t:Tree},xX P kk σ ts i j acc=some t->we P ts gQ j->Rel n0 B ρ pa σ s->i+ts.length<=σ.ks.length->(∀m av,gQ[m]?=some av->at' ρ (i+m)=A6 av)->bU ph gl N t ρ=some r ->
  ∃(iZ:List CK)(sE:List SV)(aY:aj)(t':Tree),sE.length=gQ.length/\kk { σ with ks:=iZ } (acc++sE)=some t'/\bU ph gl N t' aY=some r/\ρ <+: aY/\Rel n0 B aY pa { σ with ks:=iZ } s/\∀(ak:aj)(an:aR),aY <+: ak->pa <+: an->∀(m:Nat)(sv:SV),sE[m]?=some sv->∃av,gQ[m]?=some av/\jA ak an sv=some (vV an av)
 | [],[],i,j,σ,ρ,acc,t,h,hp,hr,hi,fP,hq=>⟨σ.ks,[],ρ,t,rfl,by rw[uf];exact h,hq,di _,hr,λ_ _ _ _ m sv hm=>by simp at hm⟩
 | ty::ts,.p j' off::gQ,i,j,σ,ρ,acc,t,h,hp,hr,hi,fP,hq=>by
  obtain⟨⟨e,he⟩,rfl,rfl,hp⟩:=hp;simp only[xX,he] at h;simp only[fY] at hi;obtain⟨iZ,sE,aY,t',h0,h1,h2,h3,h4,h5⟩:=ng (gQ:=gQ) h hp hr (by omega) (λm av hm=>by rw[show i+1+m=i+(m+1) by omega];exact fP (m+1) av (by simpa using hm)) hq
  refine⟨iZ,.val (.one (.p j' 0))::sE,aY,t',by simp[h0],by simpa using h1,h2,h3,h4,λak an e1 e2 m sv hm=>?_⟩
  cases m with
  | zero=>simp only[Ce,aO] at hm;subst hm;exact⟨.p j' 0,by simp,rfl⟩
  | succ m=>simp only[HJ] at hm ⊢;exact h5 ak an e1 e2 m sv hm
 | ty::ts,.d x::gQ,i,j,σ,ρ,acc,t,h,hp,hr,hi,fP,hq=>by
  obtain⟨he,hp⟩:=hp;simp only[fY] at hi;have hx:at' ρ i=x:=fP 0 (.d x) (by simp)
  have h':xW P σ ty i (λσ x=>xX P kk σ ts (i+1) j (acc++[.val x]))=some t:=by
   unfold xX at h;split at h
   next e Lv=>exact absurd Lv (he e)
   ·exact h
  obtain⟨ks1,sc,sG,t1,g1,g2,g3,g4,g5,_⟩:=WL h' hr (by omega) hq
  have aaX:=g4.kl;have QW:=hr.kl;have agy:ρ.length<=sG.length:=by obtain⟨z,rfl⟩:=g3;simp
  obtain⟨iZ,sE,aY,t',h0,h1,h2,h3,h4,h5⟩:=ng (gQ:=gQ) g1 hp g4 (by simp only at aaX ⊢;omega) (λm av hm=>by
   have Ik:=(dW.1 hm).1;have nu:ts.length=gQ.length:=BL hp
   rw[vG g3 (by omega),show i+1+m=i+(m+1) by omega];exact fP (m+1) av (by simpa using hm)) g2
  refine⟨iZ,.val sc::sE,aY,t',by simp[h0],by simpa using h1,h2,g3.trans h3,h4,λak an e1 e2 m sv hm=>?_⟩
  cases m with
  | zero =>
   simp only[Ce,aO] at hm;subst hm;exact⟨.d x,by simp,by simp only[jA,vV];rw[g5 ak an (h3.trans e1),hx]⟩
  | succ m=>simp only[HJ] at hm ⊢;exact h5 ak an e1 e2 m sv hm
 | [],_::_,_,_,_,_,_,_,_,hp,_,_,_,_=>hp.elim
 | _::_,[],_,_,_,_,_,_,_,hp,_,_,_,_=>hp.elim
 where
 BL:∀{ts:List ai}{gQ:List AV}{j:Nat},we P ts gQ j->ts.length=gQ.length
 | [],[],_,_=>rfl
 | _::_,.p _ _::_,_,h=>by simp[BL h.2.2.2]
 | _::_,.d _::_,_,h=>by simp[BL h.2]
 | [],_::_,_,h=>h.elim
 | _::_,[],_,h=>h.elim
def zis(hr:Rel n0 B ρ pa σ s){tt:Tmp}{x:SC}(h:WA σ tt=some x):nth s.env tt=some (aQ ρ pa x):=by
 unfold WA at h;split at h
 ·rename_i sv WK;split at h
  next y hu=>cases h;obtain⟨_,v,h1,h2⟩:=zig (pa:=pa) hr.here.as hu;cases h2;exact hr.here.env _ _ _ WK h1
  ·cases h
 ·cases h
def W0(hr:Rel n0 B ρ pa σ s):∀{rs:List ResultVar}{xs:List SC},QN P σ rs=some xs->zG P s.H s.env rs=some (fe ρ pa xs)
 | [],xs,h=>by cases h;rfl
 | .tmp tt::rs,xs,h=>by
  simp only[QN] at h;split at h
  next x ys h1 h2=>cases h;simp only[zG,zis hr h1,W0 hr h2,fe]
  ·cases h
 | .cell a ty::rs,xs,h=>by
  simp only[QN] at h;split at h
  ·rename_i a' off h1;split at h
   ·rename_i cs Hh hf;split at h
    next x ys h2 h3=>cases h;have e1:=zis hr h1;simp only[aQ,bw] at e1;simp only[zG,e1,V7];rw[hr.here.af _ _ _ hf];simp only[xV,wW (ρ:=ρ) (pa:=pa) h2,W0 hr h3,fe,kM]
    ·cases h
   ·cases h
  ·cases h
def zlU(xs:List SC):fe ρ pa (BH xs)=(fe ρ pa xs).map aX:=by
 induction xs with
 | nil=>rfl
 | cons x xs ih=>simp[BH,fe,ih,kM]
def zeM(hk:∀i k,nth σ.ks i=some k->fm k (at' ρ i)=true)(ht:aA ρ=0):∀{xs:List SC},Wh σ.ks xs=true->aA (fe ρ pa xs)=0/\∀bM,fe ρ bM xs=fe ρ pa xs
 | [],_=>⟨rfl,λ_=>rfl⟩
 | x::xs,h=>by
  simp only[Wh,bN] at h;obtain⟨a1,a2⟩:=yn (pa:=pa) hk ht h.1;obtain⟨b1,b2⟩:=zeM hk ht h.2;exact⟨by simp only[fe,aA,a1,b1];rfl,λbM=>by simp only[fe,a2 bM,b2 bM]⟩
def ju(l:aj):aA (l.map aX)=aA l:=by
 induction l with
 | nil=>rfl
 | cons v vs ih=>simp only[iC,aA,dw,ih]
def zeN(hr:Rel n0 B ρ pa σ s):∀{bD:List (ai×List CK)}{j:Nat}{o:List C},OA σ j bD=some o ->
  ∃out:List aj,aG ρ [] o=cw out/\aA (cw out)=0/\out.length=bD.length/\∀m e ks,bD[m]?=some (e,ks)->∃vs,out[m]?=some vs/\vs.length=ks.length/\s.H.get (pd pa (j+m))=some (.cells vs e)
 | [],j,o,h=>by cases h;exact⟨[],rfl,rfl,rfl,λm e ks hm=>by simp at hm⟩
 | (e,ks)::bD,j,o,h=>by
  simp only[OA] at h;split at h
  ·rename_i cs ty o' hf ho;split at h
   ·rename_i hc;simp only[bN] at hc;obtain⟨⟨c1,c2⟩,c3⟩:=hc;obtain rfl:=jP c2;cases h;obtain⟨out,h1,h2,h3,h4⟩:=zeN hr ho;obtain⟨d1,d2,d3⟩:=wF (pa:=pa) hr.here.ks hr.top c1;refine⟨aG ρ pa cs::out,?_,by simp only[cw,wX,d1,h2];rfl,by simp[h3],λm e' iZ hm=>?_⟩
    ·simp only[cw,<- h1,<- d3 []];simp[qj]
    ·cases m with
     | zero =>
      simp only[Ce,aO,bP] at hm;obtain⟨rfl,rfl⟩:=hm;exact⟨_,by simp,by rw[qm];exact jP c3,hr.here.af _ _ _ hf⟩
     | succ m =>
      simp only[HJ] at hm;obtain⟨vs,g1,g2,g3⟩:=h4 m e' iZ hm;exact⟨vs,by simpa using g1,g2,by rw[show j+(m+1)=j+1+m by omega];exact g3⟩
   ·cases h
  ·cases h
def noP{ks:List CK}:∀{cs:List C},vr ks cs=true->aG ρ [] cs=aG ρ pa cs
 | [],_=>rfl
 | c::cs,h=>by
  simp only[vr,bN] at h;simp only[aG];rw[noP h.2];cases c with
  | p a off=>simp[IG] at h
  | v i cl=>cases cl<;>rfl
  | _=>rfl
def zpc(hr:Rel n0 B ρ pa σ s){bD:List (ai×List CK)}{rs:List ResultVar}{w:aj}(h:S8 P bD rs σ=some t)(hq:bU ph gl N t ρ=some (0,w)) :
  ∃v out vs,σ.nf=bD.length/\w=v::cw out/\zG P s.H s.env rs=some vs/\fN vs=v/\v.top=0/\aA (cw out)=0/\out.length=bD.length/\∀m e ks,bD[m]?=some (e,ks)->∃vs,out[m]?=some vs/\vs.length=ks.length/\s.H.get (pd pa m)=some (.cells vs e):=by
 unfold S8 at h;split at h
 ·cases h
 rename_i OE;simp only[ue,J8] at OE;have ext:∀{tc:Sg}{o:List C}{v:V},OA σ 0 bD=some o->aG (ρ++[v]) [] o=aG ρ [] o:=by
  intro tc o v ho;have key:∀{bD:List (ai×List CK)}{j:Nat}{o:List C},OA σ j bD=some o->aG (ρ++[v]) [] o=aG ρ [] o:=by
   intro bD
   induction bD with
   | nil=>intro j o h;cases h;rfl
   | cons x bD ih =>
    obtain⟨e,ks⟩:=x;intro j o h;simp only[OA] at h;split at h
    ·rename_i cs ty o' hf ho;split at h
     ·rename_i hc;simp only[bN] at hc;cases h;have a1:=hr.here.af _ _ _ hf;have a2:=(hr.ext (ρ++[v]) pa (Ag _ _) (di _)).af _ _ _ hf;rw[a1] at a2;simp only[aO,aN.cells.injEq,r8] at a2;have nop:∀{Cq:aj},aG Cq [] cs=aG Cq pa cs:=λ{Cq}=>noP hc.1.1;have e1:aG (ρ++[v]) [] (cs++o')=aG (ρ++[v]) [] cs++aG (ρ++[v]) [] o':=by simp[qj]
      have e2:aG ρ [] (cs++o')=aG ρ [] cs++aG ρ [] o':=by simp[qj]
      rw[e1,e2,ih ho,nop,nop,a2]
     ·cases h
    ·cases h
  exact key ho
 split at h
 ·rename_i x o hx ho;split at h
  ·rename_i hd;cases h;obtain⟨d1,d2⟩:=yn (pa:=pa) hr.here.ks hr.top hd;obtain⟨out,o1,o2,o3,o4⟩:=zeN hr ho;simp only[bU,aO,bP,fK,aG,bw,eo,d2 []] at hq;rw[<- hr.kl,xC,ext (tc:=σ) ho,o1] at hq;refine⟨_,out,_,jP OE,hq.symm,W0 hr hx,rfl,d1,o2,o3,λm e ks hm=>?_⟩;have:=o4 m e ks hm
   rwa [eM] at this
  ·cases h
 ·rename_i xs o cg hx ho;split at h
  ·rename_i hd;cases h;obtain⟨d1,d2⟩:=zeM (pa:=pa) hr.here.ks hr.top hd;obtain⟨out,o1,o2,o3,o4⟩:=zeN hr ho;simp only[bU,aO,bP,fK,aG,bw,eo,zlU,d2 []] at hq;rw[<- hr.kl,xC,ext (tc:=σ) ho,o1] at hq;refine⟨_,out,_,jP OE,hq.symm,W0 hr hx,?_,by simp only[V.top,ju,d1],o2,o3,λm e ks hm=>?_⟩
   ·match xs,cg with
    | [],_=>rfl
    | [x],cg=>exact absurd rfl (cg x)
    | x::y::z,_=>rfl
   ·have:=o4 m e ks hm
    rwa [eM] at this
  ·cases h
 ·cases h
def q_:∀{θ:aR}{fp:List (aj×ai)}{out:List aj}{H:Hp},θ.Nodup->θ.length=fp.length->out.length=fp.length->(∀b∈θ,b<H.af.length) ->
  (BI H θ fp out).aS=H.aS/\(BI H θ fp out).af.length=H.af.length/\(∀(m b:Nat)(o:aj)(c:aj)(ty:ai),θ[m]?=some b->out[m]?=some o->fp[m]?=some (c,ty)->(BI H θ fp out).get b=some (.cells o ty))/\(∀b,b ∉ θ->(BI H θ fp out).get b=H.get b)
 | [],[],[],H,_,_,_,_=>⟨rfl,rfl,λm b o c ty h=>by simp at h,λb _=>rfl⟩
 | b::θ,(c,ty)::fp,o::out,H,hn,h1,h2,h3=>by
  simp only[List.nodup_cons] at hn;simp only[fY,Nat.add_right_cancel_iff] at h1 h2;have iH:(H.set b (.cells o ty)).af.length=H.af.length:=by simp[Hp.set]
  obtain⟨a1,a2,a3,a4⟩:=q_ (H:=H.set b (.cells o ty)) hn.2 h1 h2 (λx hx=>by rw[iH];exact h3 x (cZ _ hx))
  refine⟨a1,by rw[BI,a2,iH],λm x o' c' Hh g1 g2 g3=>?_,λx hx=>?_⟩
  ·cases m with
   | zero =>
    simp only[Ce,aO,bP] at g1 g2 g3;obtain⟨rfl,rfl⟩:=g3;subst g1 g2;rw[BI,a4 b hn.1,zab (h3 b ew)]
   | succ m =>
    simp only[HJ] at g1 g2 g3;exact a3 m x o' c' Hh g1 g2 g3
  ·simp only[cS,not_or] at hx;rw[BI,a4 x hx.2,yK (λe=>hx.1 e.symm)]
 | [],[],_::_,_,_,_,h,_=>by simp at h
 | [],_::_,_,_,_,h,_,_=>by simp at h
 | _::_,[],_,_,_,h,_,_=>by simp at h
 | _::_,_::_,[],_,_,_,h,_=>by simp at h
def IX:List (ai×List CK)->List (aj×ai)->Prop
 | [],[]=>True
 | (e,ks)::r,(vs,t)::fp=>e=t/\vs.length=ks.length/\aA vs=0/\IX r fp
 | _,_=>False
def lM:List (aj×ai)->aj
 | []=>[]
 | (vs,_)::r=>vs++lM r
def C2:∀{l:List (ai×List CK)}{fp:List (aj×ai)},IX l fp->l.length=fp.length/\(sF l).length=(lM fp).length/\aA (lM fp)=0/\∀(m:Nat)(e:ai)(ks:List CK),l[m]?=some (e,ks)->∃vs:aj,fp[m]?=some (vs,e)/\vs.length=ks.length
 | [],[],_=>⟨rfl,rfl,rfl,λm e ks h=>by simp at h⟩
 | (e,ks)::r,(vs,t)::fp,h=>by
  obtain⟨rfl,h1,h2,h3⟩:=h;obtain⟨a1,a2,a3,a4⟩:=C2 h3;refine⟨by simp[a1],by simp[sF,lM,a2,h1],by simp only[lM,wX,h2,a3];rfl,λm e' iZ hm=>?_⟩
  cases m with
  | zero=>simp only[Ce,aO,bP] at hm;obtain⟨rfl,rfl⟩:=hm;exact⟨vs,by simp,h1⟩
  | succ m=>simp only[HJ] at hm ⊢;exact a4 m e' iZ hm
 | [],_::_,h=>h.elim
 | _::_,[],h=>h.elim
def zdz{θ:aR}{H:Hp}:∀{l:List (ai×List CK)}{fp:List (aj×ai)}{j i:Nat}{x y:aj}{th:aR},IX l fp->xm H th fp->(∀m b,th[m]?=some b->pd θ (j+m)=b)->x.length=i ->
  ∀a cs ty,jC a (iO l j i)=some (cs,ty)->H.get (pd θ a)=some (.cells (aG (x++lM fp++y) [] cs) ty)/\(∀pa,aG (x++lM fp++y) pa cs=aG (x++lM fp++y) [] cs)/\a<j+l.length
 | [],[],j,i,x,y,th,_,_,_,_,a,cs,ty,h=>by simp[iO,jC] at h
 | (e,ks)::r,(vs,t)::fp,j,i,x,y,b::th,hf,hl,hth,hi,a,cs,ty,h=>by
  obtain⟨rfl,h1,h2,h3⟩:=hf;simp only[iO,wv] at h;split at h
  ·rename_i ha;subst ha;cases h;have e1:∀pa,aG (x++lM ((vs,e)::fp)++y) pa (lits ks i)=vs:=λpa=>by
    simp only[lM,nI];have:=Tf (pa:=pa) (x:=x) (z:=vs) (ks:=ks) (y:=lM fp++y) h1 hi;simpa only[nI] using this
   refine⟨?_,λpa=>by rw[e1 pa,e1 []],by simp⟩
   have h0:=hth 0 b rfl;rw[rP] at h0;rw[e1 [],h0];exact hl.1
  ·obtain⟨g1,g2,g3⟩:=zdz (x:=x++vs) (y:=y) h3 hl.2 (λm c hm=>by rw[show j+1+m=j+(m+1) by omega];exact hth (m+1) c (by simpa using hm)) (by simp[hi,h1]) a cs ty h
   simp only[lM,nI] at g1 g2 ⊢;exact⟨g1,g2,by simp;omega⟩
 | [],_::_,_,_,_,_,_,h,_,_,_,_,_,_,_=>h.elim
 | _::_,[],_,_,_,_,_,h,_,_,_,_,_,_,_=>h.elim
 | _::_,_::_,_,_,_,_,[],_,h,_,_,_,_,_,_=>h.elim
def Ht(gQ:List AV)(fp:List (aj×ai)):aj:=gQ.map A6++lM fp
def zbO{H:Hp}:∀{θ:aR}{fp:List (aj×ai)},xm H θ fp->θ.length=fp.length/\∀b∈θ,b<H.af.length
 | [],[],_=>⟨rfl,λb hb=>by simp at hb⟩
 | b::θ,(c,t)::r,h=>by
  obtain⟨h1,h2⟩:=zbO h.2;refine⟨by simp[h1],λx hx=>?_⟩
  rcases cS.1 hx with rfl|hx
  ·have:=h.1;simp only[Hp.get] at this;exact zjv this
  ·exact h2 x hx
 | [],_::_,h=>h.elim
 | _::_,[],h=>h.elim
def zcw{bs:List aN}{es nS:aC}:∀{θ:aR}{fp:List (aj×ai)},xm ⟨bs,es⟩ θ fp->xm ⟨bs,nS⟩ θ fp
 | [],[],_=>trivial
 | _::_,(_,_)::_,h=>⟨h.1,zcw h.2⟩
 | [],_::_,h=>h.elim
 | _::_,[],h=>h.elim
def zeO{ty:ai}{ts:List ai}{bD:List (ai×List CK)}(h:Kn P (ty::ts)=some bD):(∃e ks r,P.underlying ty=some (.pointer e)/\Kn P ts=some r/\bD=(e,ks)::r)\/((∀e,P.underlying ty≠some (.pointer e))/\Kn P ts=some bD):=by
 simp only[Kn] at h;split at h
 ·rename_i e r h1 h2;split at h
  next ks hk=>cases h;exact .inl ⟨e,ks,r,h1,h2,rfl⟩
  ·cases h
 next d r cg h1 h2=>cases h;exact .inr ⟨λe he=>by rw[h1] at he;cases he;exact cg e rfl,h2⟩
 ·cases h
def OM:∀{ts:List ai}{gQ:List AV}{j0:Nat}{bD:List (ai×List CK)},we P ts gQ j0->Kn P ts=some bD->∀(i j off:Nat),gQ[i]?=some (AV.p j off)->off=0/\j<j0+bD.length
 | [],[],j0,bD,_,_,i,j,off,h=>by simp at h
 | ty::ts,.p j' Lw::gQ,j0,bD,hp,hl,i,j,off,h=>by
  obtain⟨⟨e,he⟩,rfl,rfl,hp⟩:=hp;rcases zeO hl with⟨e',ks,r,h1,h2,rfl⟩|⟨h1,_⟩
  ·cases i with
   | zero=>simp only[Ce,aO,AV.p.injEq] at h;obtain⟨rfl,rfl⟩:=h;exact⟨rfl,by simp⟩
   | succ i =>
    simp only[HJ] at h;obtain⟨a,b⟩:=OM hp h2 i j off h;exact⟨a,by simp;omega⟩
  ·exact absurd he (h1 e)
 | ty::ts,.d x::gQ,j0,bD,hp,hl,i,j,off,h=>by
  obtain⟨cg,hp⟩:=hp;rcases zeO hl with⟨e',ks,r,h1,h2,rfl⟩|⟨_,h2⟩
  ·exact absurd h1 (cg e')
  ·cases i with
   | zero=>simp at h
   | succ i=>simp only[HJ] at h;exact OM hp h2 i j off h
 | [],_::_,_,_,h,_,_,_,_,_=>h.elim
 | _::_,[],_,_,h,_,_,_,_,_=>h.elim
def A7:∀{a b:List aj},(a.length=b.length/\∀(m:Nat)(x y:aj),a[m]?=some x->b[m]?=some y->x.length=y.length)->cw a=cw b->a=b
 | [],[],_,_=>rfl
 | x::a,y::b,h,he=>by
  obtain⟨h1,h2⟩:=h;simp only[cw] at he;obtain⟨e1,e2⟩:=List.append_inj he (h2 0 x y rfl rfl);rw[e1,A7 ⟨by simpa using h1,λm u w hu hw=>h2 (m+1) u w (by simpa using hu) (by simpa using hw)⟩ e2]
 | [],_::_,h,_=>by simp at h
 | _::_,[],h,_=>by simp at h
def ri:∀{fp:List (aj×ai)}{out:List aj},IM fp out->out.length=fp.length/\∀(m:Nat)(x:aj×ai)(a:aj),fp[m]?=some x->out[m]?=some a->x.1.length=a.length
 | [],[],_=>⟨rfl,λm x a h=>by simp at h⟩
 | (c,t)::fp,o::out,h=>by
  obtain⟨h1,h2⟩:=ri h.2;refine⟨by simp[h1],λm x a hx ha=>?_⟩
  cases m with
  | zero=>simp only[Ce,aO] at hx ha;subst hx ha;exact h.1
  | succ m=>simp only[HJ] at hx ha;exact h2 m x a hx ha
 | [],_::_,h=>h.elim
 | _::_,[],h=>h.elim
def BM:∀(fp:List (aj×ai))(bs:List aN),xm ⟨bs++fp.map (λx=>aN.cells x.1 x.2),[]⟩ (List.range' bs.length fp.length) fp
 | [],_=>trivial
 | (c,t)::fp,bs=>by
  refine⟨by simp[Hp.get,zf],?_⟩
  have:=BM fp (bs++[.cells c t]);simpa using this
def zkE(he:Env P gl ph){f:FuncId}(hk:∀args,gl.hk f args=none){hs:List (Nat×JS)}{fn:Func}{bD:List (ai×List CK)}(h:vv P hs f=some t)(su:P.funcs[f]?=some fn)(od:Kn P fn.params.toList=some bD){gQ:List AV}{fp:List (aj×ai)}
  (hp:we P fn.params.toList gQ 0) (hf:IX bD fp) (bX:∀x,AV.d x∈gQ->x.top=0) {v:V} {out:List aj} (fR:IM fp out) (hq:bU ph gl N t (Ht gQ fp)=some (0,v::cw out)):Ev P gl f gQ fp v out:=by
 simp only[vv,su,od] at h;split at h
 ·rename_i body l lI hl;cases hl;obtain⟨f1,f2,f3,f4⟩:=C2 hf;have o6:fn.params.toList.length=gQ.length:=ng.BL hp;have aa0:aA (Ht gQ fp)=0:=by
   unfold Ht
   rw[wX,f3,Tb (l:=gQ.map A6) λv hv=>by
    obtain⟨a,ha,rfl⟩:=r7.1 hv;cases a with
    | d x=>exact bX x ha
    | p _ _=>rfl]
   rfl
  have key:∀(θ:aR)(bs:List aN)(es:aC),θ.Nodup->xm ⟨bs,es⟩ θ fp->v.top=0/\aA (cw out)=0/\∃k,∀n,k<=n->zl P gl n f (gQ.map (vV θ)) ⟨bs,es⟩=some (.ret v,BI ⟨bs,es⟩ θ fp out):=by
   intro θ bs es hn hL;obtain⟨l1,l2⟩:=zbO hL;simp only at l2;have BJ:∀a,a<θ.length->θ[a]?=some (pd θ a):=λa ha=>by
    simp[pd,zf,ha]
   have rT:Rel bs.length bs (Ht gQ fp) θ ⟨[],iO bD 0 fn.params.toList.length,bD.length,List.replicate (fn.params.toList.length+(sF bD).length) .raw,[],[],bD.length⟩ ⟨[],⟨bs,[]⟩,[],[]⟩:=by
    have hB:∀(y:aj) a cs ty,jC a (iO bD 0 fn.params.toList.length)=some (cs,ty)->Hp.get ⟨bs,[]⟩ (pd θ a)=some (.cells (aG (Ht gQ fp++y) [] cs) ty)/\(∀pa,aG (Ht gQ fp++y) pa cs=aG (Ht gQ fp++y) [] cs)/\a<0+bD.length:=λy a cs ty hh =>
     zdz (x:=gQ.map A6) (y:=y) (th:=θ) (H:=⟨bs,[]⟩) hf (zcw hL) (λm b hm=>by rw[eM];have:=BJ m (dW.1 hm).1;rw[this] at hm;exact tU hm) (by simp[o6]) a cs ty hh
    refine⟨λak an e1 e2=>⟨λi sv v hi=>by simp[nth] at hi,λa cs ty hh=>?_,λi k hi=>?_,λt ht=>by simp at ht⟩,rfl,by simp only[l1,f1],?_,?_,?_,?_,aa0,λe hh=>by simp at hh,λb _ _=>rfl,bV _,rfl,λa off hh=>by simp[ye,xi] at hh,λa x hh=>?_,λa off hh=>by simp[ye,xi] at hh,bV _⟩
    ·obtain⟨y,rfl⟩:=e1;obtain⟨g1,g2,g3⟩:=hB y a cs ty hh;rw[jo e2 (by omega),g2 an]
     exact g1
    ·rw[zf,List.getElem?_replicate] at hi;split at hi
     ·cases hi;rfl
     ·cases hi
    ·intro a a' ha p6 hh;have g1:=BJ a (by simp only at ha;omega)
     have g2:=BJ a' (by simp only at p6;omega)
     rw[hh] at g1;exact(List.getElem?_inj (by simp only at ha;omega) hn).1 (g1.trans g2.symm)
    ·intro a h1 h2;simp only at h1 h2;omega
    ·intro a ha;simp only at ha;exact l2 _ (oH (BJ a (by omega)))
    ·simp[Ht,o6,f2]
    ·obtain⟨_,_,g3⟩:=hB [] a x.1 x.2 hh;simpa using g3
   obtain⟨ks1,t1,k1,k2,k3,k4⟩:=zir h rT (by simp) hq
   simp only[List.length_replicate] at k1
   obtain⟨ks2,sE,MZ,t2,p0,p1,p2,p3,p4,p5⟩:=ng (gQ:=gQ) k2 hp k4 (by simp only[k1];omega) (λm av hm=>by
    rw[eM,xj];unfold Ht;rw[nH (by simpa using (dW.1 hm).1)]
    simp[hm]) k3
   simp only[gF] at p1;have mX:Rel bs.length bs MZ θ ⟨sE++List.replicate (fn.ntmps - sE.length) tK,iO bD 0 fn.params.toList.length,bD.length,ks2,[],[],bD.length⟩ ⟨gQ.map (vV θ)++List.replicate (fn.ntmps - (gQ.map (vV θ)).length) (.bx []),⟨bs,[]⟩,[],[]⟩:=by
    refine⟨λak an e1 e2=>⟨λi sv w hi hw=>?_,(p4.ext ak an e1 e2).af,(p4.ext ak an e1 e2).ks,(p4.ext ak an e1 e2).as⟩,by simp[p0],p4.na,p4.inj,p4.lo,p4.hi,p4.kl,p4.top,p4.tM,p4.base,p4.uI,rfl,p4.lk,p4.bn,p4.ln,p4.nf⟩
    rw[zf] at hi ⊢
    by_cases bu:i<sE.length
    ·rw[nH bu] at hi;rw[nH (by simp;omega)]
     obtain⟨av,g1,g2⟩:=p5 ak an e1 e2 i sv hi;rw[g2] at hw;cases hw;simp only[pH,g1,cA,aO];cases av with
     | d x=>rfl
     | p j off =>
      obtain⟨g3,g4⟩:=OM hp od i j off g1;simp only[vV];rw[jo e2 (by omega)]
    ·rw[nN (by omega),List.getElem?_replicate] at hi
     rw[nN (by simp;omega),List.getElem?_replicate]
     split at hi
     ·cases hi;cases hw;rename_i IK;simp only[oO,p0] at IK ⊢;simp[IK,aQ,bw]
     ·cases hi
   obtain⟨e,cW,aY,bM,t',s',c1,c2,c3,c4,c5,k0,c6⟩:=kO he body 1 _ _ t2 MZ θ _ _ p1 mX p2;have D5:S8 P bD fn.results.toList cW=some t'/\(e=.normal\/e=.ret):=by
    cases e with
    | normal=>exact⟨c1,.inl rfl⟩
    | ret=>exact⟨c1,.inr rfl⟩
    | exit i=>cases c1
   obtain⟨v',Ef,vs,OE,w1,w2,w3,w4,w5,w6,w7⟩:=zpc c5 D5.1 c2;simp only[rZ] at w1;obtain⟨rfl,w1⟩:=w1;have mm:out=Ef:=by
    refine A7 ?_ w1;have g1:=ri fR;refine⟨by rw[g1.1,w6,f1],λm a b ha hb=>?_⟩
    obtain⟨x,hx⟩:∃x,fp[m]?=some x:=by
     have:=(dW.1 ha).1;exact⟨fp[m]'(by rw[<- g1.1];exact this),by simp⟩
    obtain⟨y,hy⟩:∃y,bD[m]?=some y:=by
     have:=(dW.1 ha).1;exact⟨bD[m]'(by rw[f1,<- g1.1];exact this),by simp⟩
    have h1:=g1.2 m x a hx ha;obtain⟨oz,h2,h3⟩:=f4 m y.1 y.2 hy;obtain⟨ws,h4,h5,_⟩:=w7 m y.1 y.2 hy;rw[hx] at h2;cases h2;rw[hb] at h4;cases h4;simp only at h1;omega
   subst mm;refine⟨w4,w5,k0+1,λn Hu=>?_⟩;obtain⟨n,rfl⟩:∃n',n=n'+1:=⟨n - 1,by omega⟩
   obtain⟨bB,⟨bs',fJ⟩,oM,Fb⟩:=s';have K2:Fb=[]:=c5.df;refine yT (hk _) (ir.Iz _ _ _) su lI ⟨mQ e,_,by rw[uf];exact c6 n (by omega),?_⟩
   have TO:ql bs.length es (fN vs).top ⟨bs',fJ⟩=BI ⟨bs,es⟩ θ fp out:=by
    rw[w3,w4];have Yu:fJ.all (λe=>Nat.ble bs.length e.1 || Nat.ble e.2 bs.length)=true:=by
     rw[Cf];intro x hx;have:=c5.tM x hx;simp[HK this]
    have hef:fJ.filter (λe=>Nat.blt e.1 bs.length)=[]:=by
     rw[List.filter_eq_nil_iff];intro x hx;have:=c5.tM x hx;simp only[G6];omega
    obtain⟨q1,q2,q3,q4⟩:=q_ (H:=⟨bs,es⟩) (out:=out) hn l1 (by rw[w6,f1]) l2
    simp only at q1 q2;have lU:(BI ⟨bs,es⟩ θ fp out).af=bs'.take bs.length:=by
     apply HO;intro b;rw[Bk];split
     ·rename_i hb
      by_cases hm:b∈θ
      ·obtain⟨m,VC,Qj⟩:=List.mem_iff_getElem.1 hm;have Ik:m<bD.length:=by omega
       obtain⟨oz,h2,h3⟩:=f4 m _ _ (show bD[m]?=some (bD[m].1,bD[m].2) by simp[Ik])
       obtain⟨ws,h4,h5,h6⟩:=w7 m _ _ (show bD[m]?=some (bD[m].1,bD[m].2) by simp[Ik])
       have g1:=q3 m b ws oz bD[m].1 (by simp[VC,Qj]) h4 h2
       have g2:pd bM m=b:=by
        rw[jo c4 (by omega)]
        have:=BJ m (by omega)
        rw[lB VC,Qj] at this;exact(tU this).symm
       rw[g2] at h6;simp only[Hp.get,zf] at g1 h6;rw[g1,h6]
      ·have g1:=q4 b hm;simp only[Hp.get,zf] at g1;rw[g1];refine(c5.base b hb λa ha hh=>?_).symm;rw[OE] at ha;rw[jo c4 (by omega)] at hh
       exact hm (hh ▸ oH (BJ a (by omega)))
     next hb=>exact tE (by rw[q2];omega)
    have:BI ⟨bs,es⟩ θ fp out=⟨bs'.take bs.length,es⟩:=by
     rw[<- lU];cases hpb:BI ⟨bs,es⟩ θ fp out;rw[hpb] at q1;simp only at q1;rw[q1]
    rw[this];simp only[ql,Yu,hef,gF];simp
   rcases D5.2 with rfl|rfl<;>exact⟨K2,vs,w2,by rw[w3],TO.symm⟩
  obtain⟨a1,a2,_⟩:=key _ _ _ (List.nodup_range') (BM fp []);exact⟨a1,a2,fR,λθ H hn hL=>(key θ H.af H.aS hn hL).2.2⟩
 ·cases h
end
section
set_option linter.unusedSectionVars false
variable{P:aD}{gl:Gl}
variable [ir gl]
def zit{m n i:Nat}(h:i<n):(List.range' m n)[i]?=some (m+i):=by
 simp[h]
def Ev.det{f:FuncId}{gQ:List AV}{fp:List (aj×ai)}{v v':V}{out Ef:List aj}(h:Ev P gl f gQ fp v out)(h':Ev P gl f gQ fp v' Ef):v=v'/\out=Ef:=by
 obtain⟨_,_,s1,h⟩:=h;obtain⟨_,_,s2,h'⟩:=h';have hn:=List.nodup_range' (s:=0) (n:=fp.length) (step:=1);have hL:xm ⟨[]++fp.map (λx=>aN.cells x.1 x.2),[]⟩ (List.range' 0 fp.length) fp:=BM fp [];obtain⟨k,h⟩:=h _ _ hn hL;obtain⟨k',h'⟩:=h' _ _ hn hL;have e1:=h (max k k') (by omega)
 have e2:=h' (max k k') (by omega)
 rw[e1] at e2;simp only[aO,bP,Out.ret.injEq] at e2;refine⟨e2.1,?_⟩;obtain⟨l1,l2⟩:=zbO hL;obtain⟨g1,g2⟩:=ri s1;obtain⟨g3,g4⟩:=ri s2;obtain⟨_,_,p1,_⟩:=q_ (out:=out) hn l1 g1 l2;obtain⟨_,_,q1,_⟩:=q_ (out:=Ef) hn l1 g3 l2;apply HO;intro m
 by_cases hm:m<fp.length
 ·have hb:(List.range' 0 fp.length)[m]?=some (0+m):=zit hm;have ho:out[m]?=some (out[m]'(by omega)):=by simp[g1,hm]
  have P3:Ef[m]?=some (Ef[m]'(by omega)):=by simp[g3,hm]
  have hf:fp[m]?=some ((fp[m]'hm).1,(fp[m]'hm).2):=by simp[hm]
  have a:=p1 m _ _ _ _ hb ho hf;have b:=q1 m _ _ _ _ hb P3 hf;rw[e2.2,b] at a;simp only[aO,aN.cells.injEq,r8] at a;rw[ho,P3,a]
 ·rw[tE (by omega),tE (by omega)]
open Classical in
noncomputable def rV(P:aD)(gl:Gl):PH:=λf gQ fp =>
 if h:∃p:V×List aj,Ev P gl f gQ fp p.1 p.2 then some (Classical.choose h) else none
def ON:Tp P gl (rV P gl):=by
 intro f gQ fp v out h;unfold rV at h;split at h
 next hex=>have:=KC hex;have e:=tU h;rw[e] at this;exact this
 ·cases h
def qM{f:FuncId}{gQ:List AV}{fp:List (aj×ai)}{v:V}{out:List aj}(h:Ev P gl f gQ fp v out):rV P gl f gQ fp=some (v,out):=by
 unfold rV;have hex:∃p:V×List aj,Ev P gl f gQ fp p.1 p.2:=⟨(v,out),h⟩;rw[dif_pos hex];obtain⟨e1,e2⟩:=(KC hex).det h
 congr 1
 exact Prod.ext e1 e2
def znv(cU:∀g off v,gl g off=some v->v.top=0):Env P gl (rV P gl):=⟨cU,ON⟩
def qv(cU:∀g off v,gl g off=some v->v.top=0){hs:List (Nat×JS)}{f:FuncId}(hk:∀args,gl.hk f args=none){fn:Func}{t:Tree}(h:vv P hs f=some t)(su:P.funcs[f]?=some fn)(od:Kn P fn.params.toList=some []){xs:aj}
  (hp:we P fn.params.toList (xs.map .d) 0) (bX:aA xs=0) {v:V} (N:Nat) (hq:bU (rV P gl) gl N t xs=some (0,[v])):Ev P gl f (xs.map .d) [] v []:=by
 refine zkE (N:=N) (znv cU) hk h su od hp (fp:=[]) trivial (λx hx=>?_) (v:=v) (out:=[]) trivial ?_
 ·simp only[r7,AV.d.injEq,exists_eq_right] at hx;exact vT hx bX
 ·have:Ht (xs.map AV.d) []=xs:=by simp[Ht,lM,A6,Function.comp_def]
  rw[this];exact hq
def Ev.run{f:FuncId}{xs:aj}{v:V}(h:Ev P gl f (xs.map .d) [] v [])(H:Hp):∃k,∀n,k<=n->zl P gl n f xs H=some (.ret v,H):=by
 obtain⟨_,_,_,h⟩:=h;obtain⟨k,h⟩:=h [] H (by simp) trivial
 refine⟨k,λn hn=>?_⟩;have:=h n hn;simpa[vV,Function.comp_def,BI] using this
def Ev.OO{f:FuncId}{xs:aj}{v:V}(ht:v.top=0)(h:∀H,∃k,∀n,k<=n->zl P gl n f xs H=some (.ret v,H)):Ev P gl f (xs.map .d) [] v []:=by
 refine⟨ht,rfl,trivial,λθ H _ hL=>?_⟩;cases θ with
 | nil =>
  obtain⟨k,h⟩:=h H;refine⟨k,λn hn=>?_⟩;have:=h n hn;simpa[vV,Function.comp_def,BI] using this
 | cons=>exact hL.elim
def Ev.Gc{f:FuncId}{xs:aj}{v:V}(hk:gl.hk f xs=some v)(ht:v.top=0):Ev P gl f (xs.map .d) [] v [] :=
 Ev.OO ht λH=>⟨1,λn hn=>by
  obtain⟨m,rfl⟩:∃m,n=m+1:=⟨n - 1,by omega⟩
  obtain⟨bs,es⟩:=H
  simp only[zl,hk]⟩
end
section
set_option linter.unusedSectionVars false
variable{P:aD}{gl:Gl}{ph:PH}{N:Nat}{t:Tree}
variable [ir gl]
end
section
def jS(v:V)(ρ:aj):at' (v::ρ) 0=v:=rfl
def j8(v:V)(ρ:aj)(n:Nat):at' (v::ρ) (n+1)=at' ρ n:=rfl
def znw{α:Type}{step:α->Option (Nat×α)}{st:Nat->α}{m j:Nat}{r:α}(hs:∀i,i<m->step (st i)=some (0,st (i+1)))(he:step (st m)=some (j+1,r)):∀{N:Nat},m<N->Hl step N (st 0)=some (j,r):=by
 have key:∀k i N,i+k=m->k<N->Hl step N (st i)=some (j,r):=by
  intro k
  induction k with
  | zero =>
   intro i N hi hN;obtain rfl:i=m:=by omega
   cases N with
   | zero=>omega
   | succ N=>simp only[Hl,he]
  | succ k ih =>
   intro i N hi hN;cases N with
   | zero=>omega
   | succ N =>
    simp only[Hl,hs i (by omega)]
    exact ih (i+1) N (by omega) (by omega)
 intro N hN;exact key m 0 N (by omega) hN
def zK(v:V)(a b:aj):(v::a)++b=v::(a++b):=rfl
def zT(b:aj):([]:aj)++b=b:=rfl
def ku{α:Type}(a b:α):(bif true then a else b)=a:=rfl
def OP{α:Type}(a b:α):(bif false then a else b)=b:=rfl
def gh(x y:Int):Bool:=decide (x<y)
def Eg(x y:Int):Bool:=decide (x<=y)
def wc(x y:Int):CW .lss x y=gh x y:=rfl
def Q2(x y:Int):CW .leq x y=Eg x y:=rfl
def wZ(x y:Int):CW .gtr x y=gh y x:=rfl
def Q3(x y:Int):CW .geq x y=Eg y x:=rfl
def jE(x y:Int):CW .eql x y=(x == y):=rfl
def znx(x y:Int):CW .neq x y=(x != y):=rfl
def yf{x y:Int}(h:x<y):gh x y=true:=decide_eq_true h
def yZ{x y:Int}(h:y<=x):gh x y=false:=decide_eq_false (by omega)
def OQ{x y:Int}(h:x<=y):Eg x y=true:=decide_eq_true h
def zp4{x y:Int}(h:y<x):Eg x y=false:=decide_eq_false (by omega)
def IY{x y:Int}:gh x y=true ↔ x<y:=decide_eq_true_iff
def TP{x y:Int}:Eg x y=true ↔ x<=y:=decide_eq_true_iff
def Hv{i n:Nat}(h:i<n):gh (i:Int) (n:Int)=true:=yf (by omega)
def Hw{i n:Nat}(h:n<=i):gh (i:Int) (n:Int)=false:=yZ (by omega)
def OS{i:Nat}:gh (i:Int) 0=false:=yZ (by omega)
def vz(k:IntKind)(n:Int):fm (.int k) (.int k n)=true:=by simp[fm]
def xF(s:aR):fm .str (.str s)=true:=by simp[fm]
def Lx(b:Bool):fm .bool (.bool b)=true:=by simp[fm]
def kSl(z:Nat)(l:aj):fm (.sl z) (.sl z l .no)=true:=by simp[fm,locked]
def zrO(z:Nat):fm (.sl z) .aU=true:=by simp[fm]
def zrP(z:Nat)(l:aj)(e:ai):fm (.sl z) (.sl z l (.yes e))=true:=by simp[fm,locked]
def dL:lu [] []=true:=by simp[lu]
def qL(k:CK)(ks:List CK)(v:V)(vs:aj):lu (k::ks) (v::vs)=(fm k v && lu ks vs):=rfl
def qz(k:IntKind)(n:Int):vI (.int k n)=n:=by simp[vI]
def y4(b:Bool):vB (.bool b)=b:=by simp[vB]
def zjA(s:aR):vS (.str s)=s:=by simp[vS]
def zp5(z:Nat)(l:aj)(o:Own):vL (.sl z l o)=l:=by simp[vL]
def IZ:vL .aU=[]:=by simp[vL]
section
variable{pc:FuncId->List AV->List (aj×ai)->Option (V×List aj)}{gl:Nat->Nat->bS}{N:Nat}{ρ:aj}{t a b body:Tree}{c:TB}{i:Nat}{ks:List CK}
def zny(pc:FuncId->List AV->List (aj×ai)->Option (V×List aj))(gl:Nat->Nat->bS)(N:Nat)(body:Tree)(ρ Ay:aj):Option (Nat×aj):=Hl (λvs=>bU pc gl N body (ρ++vs)) N Ay
def OT(Ay:List C):bU pc gl N (.loop Ay body) ρ=zny pc gl N body ρ (aG ρ [] Ay):=rfl
def wg{st:Nat->aj}{m j:Nat}{r:aj}(hs:∀i,i<m->bU pc gl N body (ρ++st i)=some (0,st (i+1)))(he:bU pc gl N body (ρ++st m)=some (j+1,r))(hN:m<N):zny pc gl N body ρ (st 0)=some (j,r):=znw hs he hN
def xG(pc:FuncId->List AV->List (aj×ai)->Option (V×List aj))(gl:Nat->Nat->bS)(N:Nat)(body:Tree)(ρ:aj)(k:Nat)(Ay:aj):Option (Nat×aj):=Hl (λvs=>bU pc gl N body (ρ++vs)) k Ay
def kX{Ay:aj}{x:Option (Nat×aj)}(h:xG pc gl N body ρ N Ay=x):zny pc gl N body ρ Ay=x:=h
def kP{Ay vs:aj}{k:Nat}{x:Option (Nat×aj)}(h:bU pc gl N body (ρ++Ay)=some (0,vs))(hx:xG pc gl N body ρ k vs=x):xG pc gl N body ρ (k+1) Ay=x:=by
 subst hx;simp only[xG,Hl,h]
def jl{Ay vs:aj}{k j:Nat}(h:bU pc gl N body (ρ++Ay)=some (j+1,vs)):xG pc gl N body ρ (k+1) Ay=some (j,vs):=by
 simp only[xG,Hl,h]
def vi(h:bk ρ c=true):bU pc gl N (.ite c a b) ρ=bU pc gl N a ρ:=by simp[bU,h]
def w8(h:bk ρ c=false):bU pc gl N (.ite c a b) ρ=bU pc gl N b ρ:=by simp[bU,h]
def OU(h:bk ρ c=true):bU pc gl N (.iM c t) ρ=bU pc gl N t ρ:=by simp[bU,h]
def qq(vs:List C):bU pc gl N (.out vs) ρ=some (0,aG ρ [] vs):=rfl
def nh:bU pc gl N (.p9 t) ρ=match bU pc gl N t ρ with|some (j,vs)=>some (j+1,vs)|none=>none:=rfl
def qp(e:VE):bU pc gl N (.bO e t) ρ=bU pc gl N t (ρ++[eo ρ e]):=rfl
def OV(l:TL)(i:TI):bU pc gl N (.elem l i t) ρ=bif gh (bG ρ i) 0 then none else match nth (cV ρ l) (bG ρ i).toNat with|some v=>bU pc gl N t (ρ++[v])|none=>none:=by
 rw[bU,cond_eq_ite]
 by_cases h:bG ρ i<0
 ·simp[gh,h]
 ·simp only[gh,h,aZ,decide_false,bH];rfl
def znz(cs:List C)(i:TI):bU pc gl N (.ZX cs i t) ρ=bif gh (bG ρ i) 0 then none else match nth (aG ρ [] cs) (bG ρ i).toNat with|some v=>bU pc gl N t (ρ++[v])|none=>none:=by
 rw[bU,cond_eq_ite]
 by_cases h:bG ρ i<0
 ·simp[gh,h]
 ·simp only[gh,h,aZ,decide_false,bH];rfl
def dM:bU pc gl N (.iN i ks t) ρ=match at' ρ i with|.agg cs=>(bif lu ks cs then bU pc gl N t (ρ++cs) else none)|_=>none:=rfl
def I0:bU pc gl N (.ZY i ks t) ρ=match at' ρ i with|.bx cs=>(bif lu ks cs then bU pc gl N t (ρ++cs) else none)|_=>none:=rfl
def jv{k:CK}(h:fm k (at' ρ i)=true):bU pc gl N (.gG i k t) ρ=bU pc gl N t ρ:=by simp[bU,h]
def vH(f:FuncId)(args:List AS)(bD:List (List C×ai)):bU pc gl N (.call f args bD ks t) ρ=match pc f (lK ρ args) (dY ρ bD) with|some (v,out)=>(bif dI bD out && lu ks (cw out) then bU pc gl N t (ρ++(v::cw out)) else none)|none=>none:=rfl
def zkF(g off:Nat):bU pc gl N (.Oo g off t) ρ=match gl g off with|some v=>bU pc gl N t (ρ++[v])|none=>none:=rfl
def znA(l:TL):bU pc gl N (.ZZ l t) ρ=match mc (cV ρ l) with|some s=>bU pc gl N t (ρ++[.str s])|none=>none:=rfl
def I1:bU pc gl N (.br body t) ρ=match bU pc gl N body ρ with|some (0,vs)=>bU pc gl N t (ρ++vs)|some (j+1,vs)=>some (j,vs)|none=>none:=rfl
end
def wG{α:Type}{l r:List α}{i:Nat}{a:α}(h:l.drop i=a::r):l[i]?=some a/\i<l.length/\l.drop (i+1)=r:=by
 have h1:i<l.length:=by
  rcases iT i l.length with h1|h1
  ·exact h1
  ·rw[List.drop_eq_nil_of_le h1] at h;cases h
 rw[J6 h1] at h;cases h;exact⟨by simp[h1],h1,rfl⟩
def wH{α:Type}{l:List α}{i:Nat}(h:l.drop i=[]):l.length<=i:=by simpa using h
def vJ(a:aj):a++([]:aj)=a:=uf a
end
section
def lv(sz:Nat)(nl:Bool)(l:aj):V:=if nl && l.isEmpty then .aU else .sl sz l .no
def gr(sz:Nat)(nl:Bool)(l:aj):lv sz nl l=.sl sz l .no\/(l=[]/\lv sz nl l=.aU):=by
 unfold lv;split
 next h=>rw[bN] at h;exact .inr ⟨by simpa using h.2,rfl⟩
 ·exact .inl rfl
def BN{sz:Nat}{nl:Bool}{l:aj}:aX (lv sz nl l)=lv sz nl l:=by
 rcases gr sz nl l with h|⟨_,h⟩<;>rw[h]<;>rfl
def TQ{sz:Nat}{nl:Bool}{l:aj}:(lv sz nl l).top=aA l:=by
 rcases gr sz nl l with h|⟨hl,h⟩<;>rw[h]
 ·rfl
 ·rw[hl];rfl
def zqY(sz:Nat)(nl:Bool)(l:aj):fm (.sl sz) (lv sz nl l)=true:=by
 rcases gr sz nl l with h|⟨_,h⟩<;>rw[h]<;>simp[fm,locked]
def znB(sz:Nat)(nl:Bool)(l:aj):vL (lv sz nl l)=l:=by
 rcases gr sz nl l with h|⟨h0,h⟩<;>rw[h]
 ·simp[vL]
 ·rw[h0];simp[vL]
def acc(sz:Nat)(e:ai)(l:aj):V:=match l with|[]=>.aU|_=>.sl sz l (.yes e)
def zrQ(sz:Nat)(e:ai)(l:aj):fm (.sl sz) (acc sz e l)=true:=by cases l<;>simp[acc,fm,locked]
def zqZ(sz:Nat)(e:ai)(l:aj):vL (acc sz e l)=l:=by cases l<;>simp[acc,vL]
def zpd(sz:Nat)(e:ai)(l:aj):Qz e (acc sz e l)=true:=by cases l<;>simp[acc,Qz]
def zpe(sz:Nat)(e:ai)(l:aj):aX (acc sz e l)=lv sz true l:=by cases l<;>simp[acc,aX,lv]
def znC(sz:Nat)(e:ai)(l:aj)(a:V):V.sl sz (l++[a]) (.yes e)=acc sz e (l++[a]):=by cases l<;>simp[acc]
def gR{n b:Nat}(h1:n<=140737488355328)(h2:n * b<=140737488355328):jJ n b=true:=by
 simp only[jJ,bN];exact⟨HK h1,HK h2⟩
section
variable{pc:FuncId->List AV->List (aj×ai)->Option (V×List aj)}{gl:Nat->Nat->bS}{N:Nat}{ρ:aj}{body:Tree}
end
end
end Go.Vm.Sx
namespace Go.Vm
open Go
def OW(g:Nat):List (Nat×aj)->Option aj
 | []=>none
 | (k,vs)::r=>match Nat.beq g k with
  | true=>some vs
  | false=>OW g r
def Q4(U:ai)(ks:aR)(T:List (Nat×aj)):Nat->Nat->bS:=λg o=>match OW g T with
 | some vs=>nth vs o
 | none=>Lb U ks g o
def zp6(W:aB)(x:Nat×aj):Prop:=∀(o:Nat)(v:V),x.2[o]?=some v->v.top=0/\∃cv,W.cell? ⟨x.1,o,none⟩=some cv/\∀g,aL g v cv
def zeT{g:Nat}{vs:aj}:∀{T:List (Nat×aj)},OW g T=some vs->(g,vs)∈T
 | [],h=>by simp[OW] at h
 | (k,us)::r,h=>by
  simp only[OW] at h;split at h
  next hb=>simp only[aO] at h;rw[eT hb,h];exact ew ..
  ·exact cZ _ (zeT h)
def zjC{W:aB}{x:Nat×aj}(h:zp6 W x){o:Nat}{U:ai}{j:Nat}:x.2[o]?≠some (.bf U (.obj j)):=by
 intro hv;obtain⟨_,cv,_,h3⟩:=h o _ hv;have k1:∀a,cv=.iface U (.pointer (some a)):=λa=>by
  have:=h3 { xR W with obj:=⟨λ_=>a,λ_=>True⟩ };cases this with
  | bf h2 =>
   cases h2 with
   | obj k=>rfl
 have:=(k1 ⟨0,0,none⟩).symm.trans (k1 ⟨1,0,none⟩);simp at this
def zq0{P:aD}{U:ai}{ks:aR}{T:List (Nat×aj)}{W:aB}(h:Iu U W ks)(hT:∀x∈T,zp6 W x):gv P (Q4 U ks T) (xR W):=by
 have F1:∀k u j,Q4 U ks T k 0=some (.bf u (.obj j))->Lb U ks k 0=some (.bf u (.obj j)):=λk u j hv=>by
  unfold Q4 at hv;split at hv
  next vs K3=>rw[zf] at hv;exact absurd hv (zjC (hT _ (zeT K3)))
  ·exact hv
 have h0:=zoL (P:=P) h;refine⟨?_,λk u j hv=>⟨(h0.2 k u j (F1 k u j hv)).1,λk' u' j' cP e=>(h0.2 k u j (F1 k u j hv)).2 k' u' j' (F1 k' u' j' cP) e⟩⟩;intro k off v hv;unfold Q4 at hv;split at hv
 next vs K3=>rw[zf] at hv;obtain⟨h1,cv,h2,h3⟩:=hT _ (zeT K3) off v hv;exact⟨cv,h2,h3 _,h1⟩
 ·exact h0.1 k off v hv
section
variable{cx:Cx}{n:Nat}
def fW(cx:Cx)(o:Oper)(env:aj)(lk:aC):Bool :=
 match o.op with
 | .load t a=>match jI cx.P t with
  | some false=>true
  | _=>match aq env a with
   | some (.ptr b _)=>lk.all λp=>!(Nat.beq p.1 b)
   | _=>true
 | _=>true
def Cx.Ge(cx:Cx)(all:Array Oper)(takes:bA):List Oper->St->Option St
 | [],s=>some s
 | o::os,⟨env,H,lk,df⟩=>match zN all o env with
  | none=>none
  | some false=>cx.Ge all takes os ⟨aI env o.dst (.bx []),H,lk,df⟩
  | some true=>match fW cx o env lk with
   | false=>none
   | true=>match cx.op takes o env H lk df with
    | some (.val v,⟨env,H,lk,df⟩)=>cx.Ge all takes os ⟨aI env o.dst v,H,lk,df⟩
    | some (.skip,⟨env,H,lk,df⟩)=>cx.Ge all takes os ⟨aI env o.dst (.bx []),H,lk,df⟩
    | _=>none
inductive It where
 |c (c:Code)|eb (id:Nat)|os (all:Array Oper) (takes:bA) (l:List Oper)|on (all:Array Oper) (takes:bA) (l:List Oper)
def go(cx:Cx)(n:Nat)(Q:Ex->St->Prop):List It->Ex->St->Prop
 | [],ex,s=>Q ex s
 | .c c::k,.normal,s=>W cx n c s (go cx n Q k)
 | .c _::k,ex,s=>go cx n Q k ex s
 | .eb id::k,.exit i,s=>go cx n Q k (if Nat.beq i id then .normal else .exit i) s
 | .eb _::k,ex,s=>go cx n Q k ex s
 | .os all takes l::k,.normal,s=>O cx all takes l s (go cx n Q k)
 | .os _ _ _::k,ex,s=>go cx n Q k ex s
 | .on all takes l::k,.normal,s=>∃s',cx.Ge all takes l s=some s'/\go cx n Q k .normal s'
 | .on _ _ _::k,ex,s=>go cx n Q k ex s
variable{Q:Ex->St->Prop}{k:List It}{s:St}{env:aj}{H:Hp}{lk:aC}{df:aV}{all:Array Oper}{takes:bA}{os:List Oper}
def yL{c:Code}(h:go cx n Q [.c c] .normal s):W cx n c s Q:=by
 have:(go cx n Q [])=Q:=by funext ex s;simp[go]
 simpa[go,this] using h
def zo{ex:Ex}:go cx n Q [] ex s ↔ Q ex s:=by simp[go]
def bC:go cx n Q (.c .skip::k) .normal s ↔ go cx n Q k .normal s:=by simp only[go];exact zqI
def zc{a b:Code}:go cx n Q (.c (.seq a b)::k) .normal s ↔ go cx n Q (.c a::.c b::k) .normal s:=by
 simp only[go,zrI];have:(Ld (λs=>W cx n b s (go cx n Q k)) (go cx n Q k))=go cx n Q (.c b::k):=by
  funext ex s;cases ex<;>simp[go]
 rw[this]
def zU{id:Nat}{c:Code}:go cx n Q (.c (.block id c)::k) .normal s ↔ go cx n Q (.c c::.eb id::k) .normal s:=by
 simp only[go,zoN];have:br id (go cx n Q k)=go cx n Q (.eb id::k):=by
  funext ex s;cases ex<;>simp[go]
 rw[this]
def go_ret:go cx n Q (.c .ret::k) .normal s ↔ go cx n Q k .ret s:=by simp only[go];exact zrH
def jY{i:Nat}:go cx n Q (.c (.exit i)::k) .normal s ↔ go cx n Q k (.exit i) s:=by simp only[go];exact zqJ
def wh{id:Nat}:go cx n Q (.eb id::k) .normal s ↔ go cx n Q k .normal s:=by simp[go]
def qB{id i:Nat}:go cx n Q (.eb id::k) (.exit i) s ↔ go cx n Q k (if Nat.beq i id then .normal else .exit i) s:=by simp[go]
def ky{id:Nat}:go cx n Q (.eb id::k) .ret s ↔ go cx n Q k .ret s:=by simp[go]
def q8{c:Code}{i:Nat}:go cx n Q (.c c::k) (.exit i) s ↔ go cx n Q k (.exit i) s:=by simp[go]
def je{c:Code}:go cx n Q (.c c::k) .ret s ↔ go cx n Q k .ret s:=by simp[go]
def Q5(a b:Prop):bS->Prop
 | some (.bool true)=>a
 | some (.bool false)=>b
 | _=>False
def zP{c:aH}{a b:Code}:go cx n Q (.c (.cond c a b)::k) .normal ⟨env,H,lk,df⟩ ↔ Q5 (go cx n Q (.c a::k) .normal ⟨env,H,lk,df⟩) (go cx n Q (.c b::k) .normal ⟨env,H,lk,df⟩) (aq env c):=by
 simp only[go];unfold W;simp only[Cx.code];cases aq env c with
 | none=>simp[Q5]
 | some v =>
  cases v with
  | bool t=>cases t<;>simp[Q5]
  | _=>simp[Q5]
def zY{a b:Prop}{t:Bool}:Q5 a b (some (.bool t)) ↔ (t=true/\a\/t=false/\b):=by cases t<;>simp[Q5]
def Gf{id:Nat}{ops:Array Oper}:go cx n Q (.c (.region id ops false)::k) .normal ⟨env,H,lk,df⟩ ↔ go cx n Q (.os ops (wi ops) ops.toList::k) .normal ⟨env,H,[],df⟩:=by
 simp only[go];exact zmM
def ah:go cx n Q (.os all takes []::k) .normal s ↔ go cx n Q k .normal s:=by simp only[go];exact zrJ
def zt{dst:eC}{op:Op}{type:ai}{pos:String}{after:Array Edge} :
  go cx n Q (.os all takes (⟨dst,op,type,pos,after,none⟩::os)::k) .normal ⟨env,H,lk,df⟩ ↔ MB dst (λs=>go cx n Q (.os all takes os::k) .normal s) (go cx n Q k) (cx.op takes ⟨dst,op,type,pos,after,none⟩ env H lk df):=by
 simp only[go];exact zoO
def Kr(a b:Prop):Option Bool->Prop
 | some true=>a
 | some false=>b
 | none=>False
def jb{dst:eC}{op:Op}{type:ai}{pos:String}{after:Array Edge}{g:Nat×Bool} :
  go cx n Q (.os all takes (⟨dst,op,type,pos,after,some g⟩::os)::k) .normal ⟨env,H,lk,df⟩ ↔
   Kr (MB dst (λs=>go cx n Q (.os all takes os::k) .normal s) (go cx n Q k) (cx.op takes ⟨dst,op,type,pos,after,some g⟩ env H lk df)) (go cx n Q (.os all takes os::k) .normal ⟨aI env dst (.bx []),H,lk,df⟩) (zN all ⟨dst,op,type,pos,after,some g⟩ env):=by
 simp only[go];unfold O;simp only[Cx.ops];cases zN all ⟨dst,op,type,pos,after,some g⟩ env with
 | none=>simp[Kr]
 | some b =>
  cases b with
  | false=>simp[Kr,jc]
  | true =>
   simp only[Kr];cases h:cx.op takes ⟨dst,op,type,pos,after,some g⟩ env H lk df with
   | none=>simp
   | some r =>
    obtain⟨r,s1⟩:=r;obtain⟨bT,H1,c7,dB⟩:=s1;cases r<;>simp[jc,F8]
def A8:go cx n Q (.on all takes []::k) .normal s ↔ go cx n Q k .normal s:=by simp[go,Cx.Ge]
def zp7{dst:eC}{op:Op}{type:ai}{pos:String}{after:Array Edge} :
  go cx n Q (.on all takes (⟨dst,op,type,pos,after,none⟩::os)::k) .normal ⟨env,H,lk,df⟩ ↔ (fW cx ⟨dst,op,type,pos,after,none⟩ env lk=true/\MB dst (λs=>go cx n Q (.on all takes os::k) .normal s) (λ_ _=>False) (cx.op takes ⟨dst,op,type,pos,after,none⟩ env H lk df)):=by
 simp only[go,Cx.Ge,zN];cases fW cx ⟨dst,op,type,pos,after,none⟩ env lk with
 | false=>simp
 | true =>
  cases h:cx.op takes ⟨dst,op,type,pos,after,none⟩ env H lk df with
  | none=>simp
  | some r =>
   obtain⟨r,s1⟩:=r;obtain⟨bT,H1,c7,dB⟩:=s1;cases r<;>simp
def M0(want:Bool):bS->Option Bool
 | some (.bool b)=>some (b == want)
 | some (.bx _)=>some false
 | _=>none
def zlV{dst:eC}{op:Op}{type:ai}{pos:String}{after:Array Edge}{j:Nat}{want:Bool}{d:Tmp}(hd:(all[j]?).bind (·.dst)=some d):zN all ⟨dst,op,type,pos,after,some (j,want)⟩ env=M0 want (nth env d):=by
 unfold zN M0;simp only[hd];cases nth env d with
 | none=>rfl
 | some v=>cases v<;>rfl
def km{c:Code}(Inv:Nat->St->Prop)(j:Nat)(hj:j<n)(h0:Inv j s)(s9:∀j s,Inv j s->go cx n (Ld (λs'=>∃i,i<j/\Inv i s') (go cx n Q k)) [.c c] .normal s):go cx n Q (.c (.loop c)::k) .normal s:=by
 simp only[go];exact zqL Inv j hj h0 λj s h=>yL (s9 j s h)
def qH{P:aD}{gl:Gl}{f:FuncId}{fn:Func}{body:Code}{args:aj}{bs:List aN}{es:aC}{out:Out}{H':Hp}(hk:gl.hk f args=none)(fB:∀H,gl.fB n f args H=none)(hf:P.funcs[f]?=some fn)(hb:fn.body=some body)
  (h:go ⟨P,gl,zl P gl n,gl.uq⟩ n (Fin P fn.results.toList bs.length es out H') [.c body] .normal ⟨args++List.replicate (fn.ntmps - args.length) (.bx []),⟨bs,[]⟩,[],[]⟩):zl P gl (n+1) f args ⟨bs,es⟩=some (out,H') :=
 yT hk fB hf hb (by rw[uf];exact yL h)
def Fx(P:aD)(rs:List ResultVar)(og:V->Hp->Prop):Ex->St->Prop
 | .normal,⟨env,H,_,df⟩|.ret,⟨env,H,_,df⟩=>df=[]/\∃vs,zG P H env rs=some vs/\og (fN vs) H
 | _,_=>False
def jm{P:aD}{gl:Gl}{f:FuncId}{fn:Func}{body:Code}{args:aj}{bs:List aN}{es:aC}{og:V->Hp->Prop}(hk:gl.hk f args=none)(fB:∀H,gl.fB n f args H=none)(hf:P.funcs[f]?=some fn)(hb:fn.body=some body)
  (h:go ⟨P,gl,zl P gl n,gl.uq⟩ n (Fx P fn.results.toList og) [.c body] .normal ⟨args++List.replicate (fn.ntmps - args.length) (.bx []),⟨bs,[]⟩,[],[]⟩):∃v H1,zl P gl (n+1) f args ⟨bs,es⟩=some (.ret v,ql bs.length es v.top H1)/\og v H1:=by
 obtain⟨ex,⟨env,H,lk,df⟩,h1,h2⟩:=yL h;cases ex<;>simp only[Fx] at h2
 ·obtain⟨rfl,vs,h3,h4⟩:=h2;exact⟨_,H,yT hk fB hf hb ⟨.normal,_,by rw[uf];exact h1,⟨rfl,vs,h3,rfl,rfl⟩⟩,h4⟩
 ·obtain⟨rfl,vs,h3,h4⟩:=h2;exact⟨_,H,yT hk fB hf hb ⟨.ret,_,by rw[uf];exact h1,⟨rfl,vs,h3,rfl,rfl⟩⟩,h4⟩
def uJ{x:aN}{b:Nat}:(H.push x).get b=match H.get b with|some y=>some y|none=>if b=H.af.length then some x else none:=by
 simp only[Hp.get,Hp.push,zf,List.getElem?_append];split
 next h=>rw[lB h]
 ·rename_i h;have:H.af[b]?=none:=tE (by omega)
  rw[this]
  by_cases e:b=H.af.length
  ·subst e;simp
  ·rw[if_neg e];simp;omega
def W4{x:aN}{b c:Nat}:(H.set b x).get c=match H.get c with|some y=>some (if c=b then x else y)|none=>none:=by
 simp only[Hp.get,Hp.set,zf,List.getElem?_set']
 by_cases e:b=c
 ·subst e;cases h:H.af[b]?<;>simp
 ·rw[if_neg e];cases h:H.af[c]?<;>simp[Ne.symm e]
def zeU{b c:Nat}{v:V}:(H.bQ b v).get c=H.get c:=by
 unfold Hp.bQ;split<;>rfl
def kQ{b:Nat}{x:aN}(h:H.get b=some x):b<H.af.length:=by
 simp only[Hp.get,zf] at h;exact(dW.1 h).1
end
section
structure SR where
 idx:Nat
 m:Nat
 tm:Nat
 lm:Nat
 hp:Bool
 lk:Bool
 al:Bool
 ld:Bool
 tk:Bool
def vK(o:Oper):Bool:=match o.op with|.alloc _=>true|_=>false
def jT(takes:bA)(o:Oper):Bool :=
 match o.op with
 | .load ..=>match o.dst with
  | some d=>takes.any (Nat.beq d)
  | none=>false
 | _=>false
def Gg(takes:bA)(o:Oper):Bool :=
 match o.op with
 | .load ..=>match o.dst with
  | some d=>!(takes.any (Nat.beq d))
  | none=>false
 | .call ⟨.builtin .len,⟨[_]⟩,⟨[_]⟩⟩=>true
 | _=>false
def tW:List SR->Nat->Option Nat
 | [],_=>none
 | r::rs,j=>if Nat.beq r.idx j then some r.m else tW rs j
def Q6(rs:List SR):List Edge->Option Nat
 | []=>some 0
 | e::es=>match Region.binds .any e with
  | false=>Q6 rs es
  | true=>match tW rs e.on with
   | none=>none
   | some m=>match Q6 rs es with
    | none=>none
    | some k=>some (Nat.lor k (Nat.lor m (Nat.pow 2 e.on)))
def W5(r q:SR):Bool :=
 match bit r.m q.idx with
 | true=>true
 | false=>Nat.beq (Nat.land q.tm r.lm) 0 && Nat.beq (Nat.land r.tm q.lm) 0
variable{cx:Cx}{all:Array Oper}{takes:bA}
structure OX(cx:Cx)(takes:bA)(q:Rec)(t:SR):Prop where
 idx:q.idx=t.idx
 m:q.m=t.m
 tm:q.tm=t.tm
 lm:q.lm=t.lm
 hp:q.hp=true->t.hp=true
 lk:q.hp=false->q.free=false->t.lk=true
 ld:t.ld=Gg takes q.o
 tk:t.tk=jT takes q.o
inductive uL(cx:Cx)(takes:bA):List Rec->List SR->Prop where
 |nil:uL cx takes [] []
 |cons {q:Rec} {t:SR} {rs:List Rec} {ts:List SR} (h:OX cx takes q t) (r:uL cx takes rs ts):uL cx takes (q::rs) (t::ts)
def zfT{rs:List Rec}{ts:List SR}(h:uL cx takes rs ts):∀(es:List Edge),kG rs es=Q6 ts es:=by
 have fP:∀j,maskAt rs j=tW ts j:=by
  intro j
  induction h with
  | nil=>rfl
  | cons a _ ih=>simp only[maskAt,tW,a.idx,a.m,ih]
 intro es
 induction es with
 | nil=>rfl
 | cons e es ih=>simp only[kG,Q6,fP,ih];rfl
def ziu{rs:List Rec}{ts:List SR}(h:uL cx takes rs ts){f:Rec->Bool}{g:SR->Bool}(Q1:∀q t,OX cx takes q t->g t=true->f q=true)(hg:jW g ts=true):jW f rs=true:=by
 induction h with
 | nil=>rfl
 | cons a _ ih =>
  simp only[jW] at hg ⊢;split at hg
  next h1=>rw[Q1 _ _ a h1];exact ih hg
  ·cases hg
def zg0{α:Type}{f:α->Bool}:∀{l:List α},(∀x∈l,f x=true)->jW f l=true
 | [],_=>rfl
 | y::l,h=>by simp only[jW,h y (ew ..)];exact zg0 λx hx=>h x (cZ _ hx)
def vX{rs:List Rec}{ts:List SR}(h:uL cx takes rs ts){g:SR->Bool}(hg:jW g ts=true):∀q∈rs,∃t,OX cx takes q t/\g t=true:=by
 induction h with
 | nil=>intro q hq;simp at hq
 | cons a _ ih =>
  simp only[jW] at hg;split at hg<;>try (cases hg;done)
  rename_i h1;intro q hq;rcases cS.1 hq with rfl|hq
  ·exact⟨_,a,h1⟩
  ·exact ih hg q hq
def xo{H:Hp}{b:Nat}{x y:aN}(h:H.get b=some y):(H.push x).get b=some y:=by rw[uJ,h]
def zjD{P:aD}{gl:Nat->Nat->bS}{H:Hp}{x:aN}{t:ai}{p v:V}(h:zA P H gl t p=some v):zA P (H.push x) gl t p=some v:=by
 cases p<;>simp only[zA] at h ⊢<;>first|exact h|skip
 ·rename_i b off;cases hb:H.get b with
  | none=>simp[hb] at h
  | some y=>rw[xo hb];simpa[hb] using h
 ·rename_i b u k;cases hb:H.get b with
  | none=>simp[hb] at h
  | some y=>rw[xo hb];simpa[hb] using h
def zlW{P:aD}{H:Hp}{x:aN}{t:ai}{p:V}{v:Int}(h:jM P H t p=some v):jM P (H.push x) t p=some v:=by
 unfold jM at h ⊢;split at h<;>try (simp only[*];done)
 ·rename_i hu;split at h<;>try (cases h;done)
  rename_i es hb;simp only[xo hb];exact h
def zfU{o:Oper}(lz:Gg takes o=true){env:aj}{v:V}{D:Nat}{H:Hp}{x:aN}{lk:aC}{df:aV}(h:cx.eU takes o env v ⟨D,H,lk,df⟩=true):cx.eU takes o env v ⟨D,H.push x,lk,df⟩=true:=by
 obtain⟨dst,op,type,pos,after,guard⟩:=o;unfold Gg at lz;split at lz<;>try (cases lz;done)
 ·rename_i t a az;simp only at az;subst az;cases dst with
  | none=>simp at lz
  | some d =>
   have ht:takes.any (Nat.beq d)=false:=by simpa using lz
   simp only[Cx.eU,Cx.dX,SL ht] at h ⊢;cases hp:aq env a with
   | none=>simp[hp,fU] at h
   | some p =>
    cases hl:zA cx.P H cx.gl t p with
    | none=>simp[hp,hl,fU] at h
    | some u=>simpa[hp,hl,zjD hl,fU] using h
 ·rename_i x0 t0 az;simp only at az;subst az;have hh:∀H',cx.op takes ⟨dst,.call ⟨.builtin .len,#[x0],#[t0]⟩,type,pos,after,guard⟩ env H' lk df=fU env H' lk df (((aq env x0).bind (jM cx.P H' t0)).map (.int .i64)):=λH'=>wU;simp only[Cx.eU,Cx.dX] at h ⊢;rw[show(⟨[x0]⟩:nO)=#[x0] from rfl,show(⟨[t0]⟩:Array ai)=#[t0] from rfl] at *;rw[hh] at h ⊢;cases hp:aq env x0 with
  | none=>simp[hp,fU] at h
  | some p =>
   cases hl:jM cx.P H t0 p with
   | none=>simp[hp,hl,fU] at h
   | some u=>simpa[hp,hl,zlW hl,fU] using h
end
section
variable{cx:Cx}{takes:bA}{P:aD}{gl:Nat->Nat->bS}{dst:eC}{type:ai}{pos:String}{after:Array Edge}{guard:i_}{env:aj}{H:Hp}{lk:aC}{df:aV}
def Lz(P:aD)(t:ai)(env:aj)(H:Hp)(lk:aC)(df:aV)(y x:bS):Option (OR×St):=do
 let .slice e <- P.underlying t|none
 let n <- z9 P e
 let i <- P.info? e
 let z <- i.zero
 let ys <- kE P H e (<- y)
 if !Nat.beq z.cells.size n || Nat.beq n 0 then none else
 match <- x with
 | .aU=>match ys with
  | []=>some (.val .aU,⟨env,H,lk,df⟩)
  | _=>if jJ ys.length i.bytes then some (.val (.fA H.af.length 0 ys.length),⟨env,H.push (.ul 0 n (dr ys) e),lk,df⟩) else none
 | .fA b u len=>match H.get b with
  | some (.ul bZ sz cs e') =>
   if Nat.beq e e' && Nat.beq n sz && Nat.beq bZ u && jJ (len+ys.length) i.bytes then
    some (.val (.fA b (bZ+1) (len+ys.length)),⟨env,(H.set b (.ul (bZ+1) sz (cs++dr ys) e)).bQ b (.bx ys),lk,df⟩)
   else none
  | _=>none
 | .sr b off len cap=>match H.get b with
  | some (.cells cs ty) =>
   if Nat.beq off 0 && Nat.beq n 1 && Nat.beq ty e && Nat.beq ((dr ys).map aX).length ys.length && Nat.ble (len+ys.length) cap && Nat.ble (len+ys.length) cs.length && wK lk b len ys.length (cs.drop len) then
    some (.val (.sr b 0 (len+ys.length) cap),⟨env,(H.set b (.cells (storeCells cs len ((dr ys).map aX)) ty)).bQ b (.bx ((dr ys).map aX)),lk,df⟩)
   else none
  | _=>none
 | _=>none
def vY{x y:aH}{t:ai}(hu:CB cx.P cx.uq t=true):cx.op takes ⟨dst,.call ⟨.builtin .append,#[x,y],#[t,t]⟩,type,pos,after,guard⟩ env H lk df=Lz cx.P t env H lk df (aq env y) (aq env x):=by
 simp only[Cx.op,hu,pP,aT];simp only[Cx.m6,Lz,dD,qh,qb,qx]
 congr 1
def zpf{t e n:Nat}{i:TypeInfo}{z:aP}(h1:P.underlying t=some (.slice e))(h2:z9 P e=some n)(h3:P.info? e=some i)(h4:i.zero=some z)(h5:z.cells.size=n)(h6:n≠0){xs:aj}{o:Own}{x:bS} :
  Lz P t env H lk df (some (.sl n xs o)) x=match x with
   | some .aU=>(match xs with
    | []=>some (.val .aU,⟨env,H,lk,df⟩)
    | _=>if jJ xs.length i.bytes then some (.val (.fA H.af.length 0 xs.length),⟨env,H.push (.ul 0 n (dr xs) e),lk,df⟩) else none)
   | some (.fA b u len)=>(match H.get b with
    | some (.ul bZ sz cs e')=>if (e=e'/\n=sz/\bZ=u/\jJ (len+xs.length) i.bytes=true) then
      some (.val (.fA b (bZ+1) (len+xs.length)),⟨env,(H.set b (.ul (bZ+1) sz (cs++dr xs) e)).bQ b (.bx xs),lk,df⟩) else none
    | _=>none)
   | some (.sr b off len cap)=>(match H.get b with
    | some (.cells cs ty)=>if Nat.beq off 0 && Nat.beq n 1 && Nat.beq ty e && Nat.beq ((dr xs).map aX).length xs.length && Nat.ble (len+xs.length) cap && Nat.ble (len+xs.length) cs.length && wK lk b len xs.length (cs.drop len) then
      some (.val (.sr b 0 (len+xs.length) cap),⟨env,(H.set b (.cells (storeCells cs len ((dr xs).map aX)) ty)).bQ b (.bx ((dr xs).map aX)),lk,df⟩) else none
    | _=>none)
   | _=>none:=by
 have h7:(!Nat.beq z.cells.size n || Nat.beq n 0)=false:=by
  rw[h5];cases n with
  | zero=>exact absurd rfl h6
  | succ n=>simp[Nat.beq]
 simp only[Lz,h1,h2,h3,h4,kE,Option.bind_eq_bind,cG,h7,aT,bH,aZ];cases x with
 | none=>rfl
 | some v =>
  cases v<;>try rfl
  rename_i b u len;simp only[cG];cases H.get b with
  | none=>rfl
  | some y =>
   cases y<;>try rfl
   rename_i bZ sz cs e';simp only[bN,G5,and_assoc]
def M1(P:aD)(t:ai)(env:aj)(H:Hp)(lk:aC)(df:aV):bS->Option bS->Option bS->Option (OR×St)
 | some (.fA b u len),some none,some (some (.int _ h))=>match P.underlying t,H.get b with
  | some (.slice e'),some (.ul bZ sz cs e)=>match z9 P e' with
   | some _=>if bZ=u/\0<=h/\h.toNat<=len then some (.val (.fA b (bZ+1) h.toNat),⟨env,(H.set b (.ul (bZ+1) sz (cs.take (h.toNat * sz)) e)).bQ b .dx,lk,df⟩) else none
   | none=>none
  | _,_=>none
 | some (.sr b off len cap),some lo,some hi=>match yp P t (.sr b off len cap) lo hi with
  | some v=>some (.val v,⟨env,H,lk,df⟩)
  | none=>none
 | _,_,_=>none
def zeV{x:aH}{t:ai}{lo hi:Option aH}(hu:CB cx.P cx.uq t=true):cx.op takes ⟨dst,.slice t x lo hi none,type,pos,after,guard⟩ env H lk df=M1 cx.P t env H lk df (aq env x) (d_ env lo) (d_ env hi):=by
 simp only[Cx.op,hu];simp only[Cx.oZ,dN,qh,qx];unfold M1;cases hx:aq env x with
 | none=>split<;>simp_all
 | some v =>
  by_cases TR:∃b off len cap,v=.sr b off len cap
  ·obtain⟨b,off,len,cap,rfl⟩:=TR;cases d_ env lo with
   | none=>split<;>simp_all
   | some lo=>cases d_ env hi with
    | none=>split<;>simp_all
    | some hi=>cases cx.P.underlying t with
     | none=>rfl
     | some d=>cases d<;>rfl
  cases v<;>(try (split<;>simp_all;done))
  rename_i b u len;cases hl:d_ env lo with
  | none=>split<;>simp_all
  | some l =>
   cases l with
   | some l=>split<;>simp_all
   | none =>
    cases hh:d_ env hi with
    | none=>split<;>simp_all
    | some h =>
     cases h with
     | none=>split<;>simp_all
     | some h =>
      cases h<;>(try (split<;>simp_all;done))
      rename_i k h;cases hP:cx.P.underlying t with
      | none=>simp
      | some d =>
       cases d<;>simp only<;>try rfl
       rename_i e';cases H.get b with
       | none=>simp
       | some y =>
        cases y<;>simp only<;>try (cases z9 cx.P e'<;>rfl)
        rename_i bZ sz cs e;cases z9 cx.P e' with
        | none=>rfl
        | some m=>simp only[bN,G5,decide_eq_true_eq,Nat.ble_eq,and_assoc]
def qV(P:aD)(t:ai)(H:Hp)(lk:aC)(df:aV)(x:Option (V×aj)):bS->Option (OR×St)
 | some (.ptr b off)=>match z9 P t with
  | some n=>Qt n H lk df (some (.ptr b off)) x
  | none=>none
 | some (.ny b u k)=>match x,z9 P t,H.get b with
  | some (x,env),some n,some (.ul bZ sz cs e)=>if bZ=u/\eF (aX x)=true/\(aX x).cells.length=n/\k+n<=cs.length then
    some (.skip,⟨env,(H.set b (.ul bZ sz (storeCells cs k (aX x).cells) e)).bQ b (aX x),lk,df⟩) else none
  | _,_,_=>none
 | _=>none
def zC{t:ai}{a x:aH}:cx.op takes ⟨dst,.store t a x,type,pos,after,guard⟩ env H lk df=qV cx.P t H lk df (take env x) (aq env a):=by
 cases ha:aq env a with
 | none=>simp[Cx.op,ha,qV]
 | some p =>
  cases p<;>try (simp[Cx.op,ha,qV];done)
  ·rename_i b off;cases hn:z9 cx.P t with
   | none =>
    simp only[Cx.op,ha,hn,qV];cases take env x<;>rfl
   | some n =>
    rw[zh7 hn (λ_ _ _=>by rw[ha];simp)]
    simp only[qV,hn,ha]
  ·rename_i b u k;simp only[Cx.op,ha,qV,zQ,dN,qx];cases take env x with
   | none=>rfl
   | some q =>
    obtain⟨x,bB⟩:=q;cases z9 cx.P t with
    | none=>rfl
    | some n =>
     cases H.get b with
     | none=>rfl
     | some y =>
      cases y<;>try rfl
      simp only[bN,G5,Nat.ble_eq,and_assoc]
def Ks(P:aD)(t:ai)(env:aj)(H:Hp)(lk:aC)(df:aV):bS->Option (OR×St)
 | some (.ptr b off)=>match jI P t with
  | some false=>match H.get b with
   | some (.cells cs ty)=>match nth cs off with
    | some (.sl sz xs (.yes e))=>some (.val (.sl sz xs (.yes e)),⟨env,(H.set b (.cells (cs.set off (.sl sz xs .lock)) ty)).bQ b .dx,(b,off)::lk,df⟩)
    | some .aU=>some (.val .aU,⟨env,H,lk,df⟩)
    | some (.fA c u n)=>some (.val (.fA c u n),⟨env,H,lk,df⟩)
    | _=>none
   | _=>none
  | _=>none
 | _=>none
def W6{d:Tmp}{t:ai}{a:aH}(h:takes.any (Nat.beq d)=true):cx.op takes ⟨some d,.load t a,type,pos,after,guard⟩ env H lk df=Ks cx.P t env H lk df (aq env a):=by
 simp only[Cx.op,h,eV,qx];unfold Ks;cases ha:aq env a with
 | none=>cases jI cx.P t with
  | none=>rfl
  | some b=>cases b<;>rfl
 | some p =>
  cases p<;>cases jI cx.P t<;>(try rfl)<;>rename_i g<;>cases g<;>rfl
def OY(t:ai)(env:aj)(H:Hp)(lk:aC)(df:aV):bS->Option (OR×St)
 | some z=>if eF z=true then some (.val (.ptr H.af.length 0),⟨env,H.push (.cells z.cells t),lk,df⟩) else none
 | none=>none
def jf{t:ai}:cx.op takes ⟨dst,.alloc t,type,pos,after,guard⟩ env H lk df=OY t env H lk df (qO cx.P t):=by
 simp only[Cx.op,OY];cases qO cx.P t with
 | none=>rfl
 | some z=>cases hz:eF z<;>simp[zQ,qb,hz]
def wI{t:ai}{z:V}(h:eF z=true):OY t env H lk df (some z)=some (.val (.ptr H.af.length 0),⟨env,H.push (.cells z.cells t),lk,df⟩):=by simp[OY,h]
def zrR{d t:Nat}(h:d≠t):[t].any (Nat.beq d)=false:=by
 cases hb:Nat.beq d t with
 | false=>simp[hb]
 | true=>exact absurd (eT hb) h
def zeW{t d:Tmp}{x:aH}(h:d≠t):cx.op [t] ⟨some d,.move x,type,pos,after,guard⟩ env H lk df=fU env H lk df (aq env x):=ZP (zrR h)
def ziw{t d:Tmp}{ty:ai}{a:aH}(h:d≠t):cx.op [t] ⟨some d,.load ty a,type,pos,after,guard⟩ env H lk df=fU env H lk df (((aq env a).bind (zA cx.P H cx.gl ty)).map aX):=SL (zrR h)
def zdd{d:Tmp}{t:ai}{a:aH}:cx.op [d] ⟨some d,.load t a,type,pos,after,guard⟩ env H lk df=Ks cx.P t env H lk df (aq env a):=W6 (by simp)
def zfV{d:Tmp}{x:aH}:cx.op [d] ⟨some d,.move x,type,pos,after,guard⟩ env H lk df=SK H lk df (take env x):=zh6 (by simp)
def OZ(P:aD)(t:ai):bS->bS
 | some v=>match P.underlying t with
  | some (.slice e)=>match z9 P e,qO P e with
   | some n,some z=>if n≠0/\n<=16777216/\z.cells.length=n/\eF z=true/\eF v=true/\v.cells.length=n then some (.sl n [v] (.yes e)) else none
   | _,_=>none
  | _=>none
 | none=>none
def zg2{t:ai}{x:aH}:cx.op takes ⟨dst,.buildSlice t 1 #[(0,x)],type,pos,after,guard⟩ env H lk df=fU env H lk df (OZ cx.P t (aq env x)):=by
 simp only[Cx.op];refine wT ?_;simp only[qi,OZ];cases h1:cx.P.underlying t with
 | none=>cases aq env x<;>rfl
 | some d =>
  cases d<;>(try (cases aq env x<;>rfl))
  rename_i e;cases h2:z9 cx.P e with
  | none=>cases aq env x<;>simp[h2]
  | some n =>
   cases h3:qO cx.P e with
   | none=>cases aq env x<;>simp[h2,h3]
   | some z =>
    simp only[h2,h3,Option.bind_eq_bind,cG];cases hx:aq env x with
    | none=>simp[DM,hx]
    | some v =>
     simp only[DM,hx,Option.bind_eq_bind,cG,zQ,eV,Nat.one_mul]
     by_cases c0:n=0
     ·subst c0;simp[Nat.beq]
     ·have IW:Nat.beq n 0=false:=by cases n with
       | zero=>exact absurd rfl c0
       | succ n=>rfl
      by_cases c1:n<=16777216
      ·have Kb:Nat.blt 16777216 n=false:=by
        cases hb:Nat.blt 16777216 n with
        | false=>rfl
        | true=>have:=pO hb;omega
       by_cases c2:z.cells.length=n
       ·cases c3:eF z with
        | false=>simp[IW,Kb,c2]
        | true =>
         cases c4:eF v with
         | false=>simp[IW,Kb,c2]
         | true =>
          by_cases c5:v.cells.length=n
          ·simp[IW,c2,c5,c0,c1,Nat.blt];omega
          ·simp[IW,Kb,c2,c5]
       ·simp[IW,Kb,c2]
      ·have Kb:Nat.blt 16777216 n=true:=HK (by omega)
       simp[IW,Kb,c1]
def zpg{P:aD}{t e n:Nat}{z v:V}(h1:P.underlying t=some (.slice e))(h2:z9 P e=some n)(h3:qO P e=some z)(h4:(n≠0/\n<=16777216/\z.cells.length=n/\eF z=true))(h5:eF v=true)(h6:v.cells.length=n):OZ P t (some v)=some (.sl n [v] (.yes e)):=by
 obtain⟨a,b,c,d⟩:=h4;simp[OZ,h1,h2,h3,a,b,c,d,h5,h6]
end
end Go.Vm
