/- Vm: a region whose order is drawn, with loads that are not in order with what changes the heap elsewhere: they are looked at again behind each change. Conditions: none but those named. -/
import Derived.Test.YthohlnmcjkjeiaaGreatDoorVmC
namespace Go.Vm
open Go
section
variable{cx:Cx}{all:Array Oper}{takes:bY}
def y6(cx:Cx)(takes:bY)(c:ei):List (Oper×aD×V)->Prop
 | []=>True
 | p::ps=>cx.eM takes p.1 p.2.1 p.2.2 c=true/\y6 cx takes c ps
theorem zg5{c:ei}{ps:List (Oper×aD×V)}(h:y6 cx takes c ps)(p:Oper×aD×V)(hp:p∈ps):cx.eM takes p.1 p.2.1 p.2.2 c=true:=by
 induction ps with
 | nil=>cases hp
 | cons a ps ih =>
  cases hp with
  | head=>exact h.1
  | tail _ hp=>exact ih h.2 hp
def JP(b:Bool)(p:Oper×aD×V)(ps:List (Oper×aD×V)):List (Oper×aD×V):=bif b then p::ps else ps
def AI(cx:Cx)(all:Array Oper)(takes:bY)(P:St->Prop):List (Oper×aD×V)->List (Bool×Bool)->List Oper->St->Prop
 | _,_,[],s=>P s
 | _,[],_::_,_=>False
 | cW,(ld,hp)::fl,o::os,⟨env,H,lk,df⟩=>match zX all o env with
  | none=>False
  | some false=>AI cx all takes P cW fl os ⟨aq env o.dst (.bq []),H,lk,df⟩
  | some true=>au cx o env lk=true/\match cx.op takes o env H lk df with
   | some (.val v,⟨cK,H1,eB,eu⟩)=>(hp=true->y6 cx takes ⟨0,H1,eB,eu⟩ cW)/\AI cx all takes P (JP ld (o,env,v) cW) fl os ⟨aq cK o.dst v,H1,eB,eu⟩
   | some (.skip,⟨cK,H1,eB,eu⟩)=>(hp=true->y6 cx takes ⟨0,H1,eB,eu⟩ cW)/\AI cx all takes P cW fl os ⟨aq cK o.dst (.bq []),H1,eB,eu⟩
   | _=>False
def W7(js:bN)(r q:SR):Bool :=
 match bit r.m q.idx with
 | true=>true
 | false=>!(r.hp && q.hp) && (!(q.hp && r.lk) || (q.tk && r.ld)) && (!(r.hp && q.lk) || (r.al && q.ld) || (js.any (Nat.beq q.idx) && q.ld))
def Tu(P:aQ)(uq:aB->Bool)(all:Array Oper)(takes:bY)(js:bN):Nat->List SR->List (Bool×Bool)->List Oper->Bool
 | _,_,_,[]=>true
 | _,_,[],_::_=>false
 | i,rs,(ld,hp)::fl,o::os=>match NP rs o.after.toList with
  | none=>false
  | some m =>
   let r:SR:=⟨i,m,mU takes o,Nat.lor (mU takes o) (tw all o),q9 P uq takes o,kU P uq o,vM o,D3 takes o,kJ takes o⟩
   ((!q9 P uq takes o || hp) && (!(js.any (Nat.beq i)) || ld)) && ((!r.tk || kz (λq=>!q.tk) rs) && kz (Tr r) rs && (kz (W7 js r) rs && Tu P uq all takes js (i+1) (r::rs) fl os))
theorem zg6{js:bN}{P:St->Prop}:∀(os:List Oper)(fl:List (Bool×Bool))(cW:List (Oper×aD×V))(i:Nat)(rs:List Rec)(ts:List SR)(c0:ei)(rest:List ei)(s:St),Tt cx takes i rs ts c0 rest s->Tu cx.P cx.uq all takes js i ts fl os=true->(∀q∈rs,q.hp=false->q.free=false->js.any (Nat.beq q.idx)=true->(q.o,q.env,q.v)∈cW)->AI cx all takes P cW fl os s->∃s',cx.eN all takes i rs (c0::rest) os s=some (.normal,s')/\P s'
 | [],fl,cW,i,rs,ts,c0,rest,s,_,_,_,hc=>by
  simp only[AI] at hc;exact⟨s,by simp only[Cx.eN],hc⟩
 | _::_,[],cW,i,rs,ts,c0,rest,s,_,_,_,hc=>by
  simp only[AI] at hc
 | o::os,(ld,fhp)::fl,cW,i,rs,ts,c0,rest,⟨env,H,lk,df⟩,hI,e_,hpd,hc=>by
  simp only[Tu] at e_;split at e_<;>try (cases e_;done)
  rename_i m hm;simp only[eo] at e_;obtain⟨⟨Ip,PO⟩,⟨mb,Ib⟩,LJ,e_⟩:=e_;have sC:∀(hp free:Bool)(v:V),kz (kw ⟨i,o,m,mU takes o,Nat.lor (mU takes o) (tw all o),hp,free,env,v⟩) rs=true:=λhp free v =>
   zg3 hI.pr (λq t tG hg=>by simp only[Tr] at hg;simp only[kw,tG.idx,tG.tm,tG.lm];exact hg) Ib
  have key:∀(hp free:Bool)(v:V)(A_:List (Oper×aD×V))(H1:Hp)(eB:aN)(eu:bO)(cK:aD),
    (hp=true->q9 cx.P cx.uq takes o=true)->(hp=false->free=false->kU cx.P cx.uq o=true) ->
    (hp=false->H1=H/\eB=lk/\eu=df)->(hp=false->free=false->∀D,cx.eM takes o env v ⟨D,H,lk,df⟩=true) ->
    (hp=true->vM o=true->∃x,H1=H.push x/\eB=lk/\eu=df) ->
    (hp=true->kJ takes o=true->∀D,Im ⟨D,H,lk,df⟩ ⟨cK,H1,eB,eu⟩) ->
    (hp=false->free=false->D3 takes o=true->∀c,Im c ⟨env,H,lk,df⟩->cx.eM takes o env v c=true) ->
    (hp=true->∀D,∀p∈cW,cx.eM takes p.1 p.2.1 p.2.2 ⟨D,H1,eB,eu⟩=true) ->
    (∀q∈cW,q∈A_)->(hp=false->free=false->js.any (Nat.beq i)=true->(o,env,v)∈A_) ->
    AI cx all takes P A_ fl os ⟨cK,H1,eB,eu⟩ ->
    ∃s',(match kz (kw ⟨i,o,m,mU takes o,Nat.lor (mU takes o) (tw all o),hp,free,env,v⟩) rs,c0::rest with
     | true,c0::cs=>cx.fj takes rs ⟨i,o,m,mU takes o,Nat.lor (mU takes o) (tw all o),hp,free,env,v⟩ c0 ⟨Nat.lor c0.D (Nat.pow 2 i),H1,eB,eu⟩ cs λcs =>
      cx.eN all takes (i+1) (⟨i,o,m,mU takes o,Nat.lor (mU takes o) (tw all o),hp,free,env,v⟩::rs) cs os ⟨cK,H1,eB,eu⟩
     | _,_=>none)=some (.normal,s')/\P s':=by
   intro hp free v A_ H1 eB eu cK h1 h2 h3 h4 h5 W5 W6 OS lQ PR h6;rw[sC];simp only;have bR:∀q∈rs,q.idx≠i:=λq hq e=>by have:=hI.lt q hq;omega
   have ng:∀b,(∃q∈rs,q.hp=true/\q.idx=b)->bit (Nat.lor c0.D (Nat.pow 2 i)) b=true:=λb hb=>by rw[w9,(hI.cD b).2 hb];rfl
   have A8:=yS hI.pr LJ;have og:hp=true->∀q∈rs,q.hp=false->q.free=false->bit m q.idx=true\/(∃c∈rs,c.hp=true/\bit c.m q.idx=true)\/∀D,cx.eM takes q.o q.env q.v ⟨D,H1,eB,eu⟩=true:=λhr q hq lW oV=>by
    obtain⟨t,ht,hg⟩:=A8 q hq;simp only[W7] at hg;split at hg
    next hb=>exact .inl (by rw[ht.idx];exact hb)
    ·rw[h1 hr,ht.lk lW oV] at hg;simp only[s5,mh,uQ,eo,tn] at hg;obtain⟨_,⟨rN,gw⟩|⟨hjs,gw⟩⟩:=hg
     ·rcases hI.Io q hq lW oV with h|h
      ·exact .inr (.inl h)
      ·obtain⟨x,e1,e2,e3⟩:=h5 hr rN;subst e1 e2 e3;rw[ht.ld] at gw;exact .inr (.inr λD=>zeO gw (h D))
     ·exact .inr (.inr λD=>OS hr D _ (hpd q hq lW oV (by rw[ht.idx];exact hjs)))
   have Fi:kJ takes o=true->∀q∈rs,kJ takes q.o=false:=λht q hq=>by
    rw[ht] at mb;simp only[mh,uQ] at mb;obtain⟨t,h7,h8⟩:=yS hI.pr mb q hq;rw[<- h7.tk];simpa using h8
   have iF:(hp=true\/(hp=false/\free=false))->∀q∈rs,q.hp=true->bit m q.idx=true\/(hp=false/\kJ takes q.o=true/\D3 takes o=true):=λhr q hq lW=>by
    obtain⟨t,ht,hg⟩:=A8 q hq;simp only[W7] at hg;split at hg
    next hb=>exact .inl (by rw[ht.idx];exact hb)
    ·rw[ht.hp lW] at hg;simp only[Bool.and_true,s5,eo,Gq] at hg;obtain⟨⟨g1,g2⟩,_⟩:=hg;rcases hr with hr|⟨hr,hf⟩
     ·rw[h1 hr] at g1;cases g1
     ·rw[h2 hr hf] at g2;simp only[mh,uQ,eo] at g2;exact .inr ⟨hr,by rw[<- ht.tk];exact g2.1,g2.2⟩
   have sD:∀c:ei,(∃q∈rs,q.hp=true/\bit m q.idx=true/\bit c.D q.idx=false)->vA (Nat.land m (ep rs)) c.D=false:=λc hc=>by
    obtain⟨q,hq,e1,e2,e3⟩:=hc;cases hs:vA (Nat.land m (ep rs)) c.D with
    | false=>rfl
    | true =>
     have:=pU.1 hs q.idx (by rw[NF,e2,lu.2 ⟨q,hq,e1,rfl⟩];rfl)
     rw[this] at e3;cases e3
   have PN:∀c:ei,(∀b,bit c.D b=true->∃q∈rs,q.idx=b)->bit c.D i=false:=λc hc=>by
    cases hb:bit c.D i with
    | false=>rfl
    | true =>
     obtain⟨q,hq,e⟩:=hc i hb;exact absurd e (bR q hq)
   rw[zje (r:=⟨i,o,m,mU takes o,Nat.lor (mU takes o) (tw all o),hp,free,env,v⟩) ?_ ?_ ng ?_]
   ·have Fj:Tt cx takes (i+1) (⟨i,o,m,mU takes o,Nat.lor (mU takes o) (tw all o),hp,free,env,v⟩::rs) (⟨i,m,mU takes o,Nat.lor (mU takes o) (tw all o),q9 cx.P cx.uq takes o,kU cx.P cx.uq o,vM o,D3 takes o,kJ takes o⟩::ts)
      (bif hp then ⟨Nat.lor c0.D (Nat.pow 2 i),H1,eB,eu⟩ else c0) (bif hp then c0::rest else rest) ⟨cK,H1,eB,eu⟩:=by
     refine⟨.cons ⟨rfl,rfl,rfl,rfl,h1,h2,rfl,rfl⟩ hI.pr,?_,?_,?_,?_,?_,?_⟩
     ·intro q hq;rcases dH.1 hq with rfl|hq
      ·exact Hq _
      ·have:=hI.lt q hq;omega
     ·intro b;cases hp with
      | false =>
       simp only[oq];rw[hI.cD];constructor
       ·rintro⟨q,hq,e⟩;exact⟨q,dR _ hq,e⟩
       ·rintro⟨q,hq,e1,e2⟩;rcases dH.1 hq with rfl|hq
        ·cases e1
        ·exact⟨q,hq,e1,e2⟩
      | true =>
       simp only[mJ];rw[w9,tn,hI.cD,yc,decide_eq_true_eq];constructor
       ·rintro(⟨q,hq,e⟩|rfl)
        ·exact⟨q,dR _ hq,e⟩
        ·exact⟨_,eH ..,rfl,rfl⟩
       ·rintro⟨q,hq,e1,e2⟩;rcases dH.1 hq with rfl|hq
        ·exact .inr e2
        ·exact .inl ⟨q,hq,e1,e2⟩
     ·cases hp with
      | false=>obtain⟨e1,e2,e3⟩:=h3 rfl;subst e1 e2 e3;exact hI.c0
      | true=>exact⟨rfl,rfl,rfl⟩
     ·intro c ej b hb;cases hp with
      | false=>obtain⟨q,hq,e⟩:=hI.rD c ej b hb;exact⟨q,dR _ hq,e⟩
      | true =>
       rcases dH.1 ej with rfl|ej
       ·obtain⟨q,hq,_,e⟩:=(hI.cD b).1 hb;exact⟨q,dR _ hq,e⟩
       ·obtain⟨q,hq,e⟩:=hI.rD c ej b hb;exact⟨q,dR _ hq,e⟩
     ·intro c ej;cases hp with
      | false =>
       obtain⟨e1,e2,e3⟩:=h3 rfl;subst e1 e2 e3;rcases hI.rest c ej with⟨q,hq,e⟩|⟨⟨q,hq,e⟩,hL⟩
       ·exact .inl ⟨q,dR _ hq,e⟩
       ·exact .inr ⟨⟨q,dR _ hq,e⟩,hL⟩
      | true =>
       have Fk:bit c0.D i=false:=PN c0 λb hb=>by obtain⟨q,hq,_,e⟩:=(hI.cD b).1 hb;exact⟨q,hq,e⟩
       cases Ay:kJ takes o with
       | false =>
        rcases dH.1 ej with rfl|ej
        ·exact .inl ⟨_,eH ..,rfl,Ay,Fk⟩
        ·exact .inl ⟨_,eH ..,rfl,Ay,PN c (hI.rD c ej)⟩
       | true =>
        rcases dH.1 ej with rfl|ej
        ·refine .inr ⟨⟨_,eH ..,rfl,Ay,Fk⟩,?_⟩;obtain⟨D0,H0,GL,df0⟩:=c;obtain⟨e1,e2,e3⟩:=hI.c0;simp only at e1 e2 e3;subst e1 e2 e3;exact W5 rfl Ay D0
        ·rcases hI.rest c ej with⟨q,hq,e⟩|⟨⟨q,hq,e1,e2,_⟩,_⟩
         ·exact .inl ⟨q,dR _ hq,e⟩
         ·rw[Fi Ay q hq] at e2;cases e2
     ·intro q hq lW oV;rcases dH.1 hq with rfl|A9
      ·obtain⟨e1,e2,e3⟩:=h3 lW;subst e1 e2 e3;exact .inr (h4 lW oV)
      ·clear hq;cases hp with
       | false =>
        obtain⟨e1,e2,e3⟩:=h3 rfl;subst e1 e2 e3;rcases hI.Io q A9 lW oV with⟨c,hc,e⟩|h
        ·exact .inl ⟨c,dR _ hc,e⟩
        ·exact .inr h
       | true =>
        rcases og rfl q A9 lW oV with h|⟨c,hc,e⟩|h
        ·exact .inl ⟨_,eH ..,rfl,h⟩
        ·exact .inl ⟨c,dR _ hc,e⟩
        ·exact .inr h
    have:=zg6 os fl A_ _ _ _ _ _ _ Fj e_ (λq hq lW oV hj=>by
     rcases dH.1 hq with rfl|hq
     ·exact PR lW oV hj
     ·exact lQ _ (hpd q hq lW oV hj)) h6
    cases hp<;>exact this
   ·intro hr c ej;refine sD c ?_;rcases hI.rest c ej with⟨q,hq,e1,_,e2⟩|⟨⟨q,hq,e1,_,e2⟩,_⟩
    ·rcases iF (.inl hr) q hq e1 with h|⟨h,_⟩
     ·exact⟨q,hq,e1,h,e2⟩
     ·exact absurd (hr.symm.trans h) (by simp)
    ·rcases iF (.inl hr) q hq e1 with h|⟨h,_⟩
     ·exact⟨q,hq,e1,h,e2⟩
     ·exact absurd (hr.symm.trans h) (by simp)
   ·intro hr hf c ej;rcases hI.rest c ej with⟨q,hq,e1,e3,e2⟩|⟨⟨q,hq,e1,e3,e2⟩,hL⟩
    ·rcases iF (.inr ⟨hr,hf⟩) q hq e1 with h|⟨_,h,_⟩
     ·exact .inl (sD c ⟨q,hq,e1,h,e2⟩)
     ·rw[e3] at h;cases h
    ·rcases iF (.inr ⟨hr,hf⟩) q hq e1 with h|⟨_,_,h⟩
     ·exact .inl (sD c ⟨q,hq,e1,h,e2⟩)
     ·exact .inr (W6 hr hf h c hL)
   ·intro hr q hq lW oV;rcases og hr q hq lW oV with h|h|h
    ·exact .inl h
    ·exact .inr (.inl h)
    ·exact .inr (.inr (h _))
  simp only[Cx.eN,zeN hI.pr,hm,qz,qp,jO];simp only[AI] at hc;split at hc<;>try (cases hc;done)
  next hw=>simp only[hw];exact key false true (.bq []) cW H lk df _ (λh=>nomatch h) (λ_ h=>nomatch h) (λ_=>⟨rfl,rfl,rfl⟩) (λ_ h=>nomatch h) (λh=>nomatch h) (λh=>nomatch h) (λ_ h=>nomatch h) (λh=>nomatch h) (λ_ h=>h) (λ_ h=>nomatch h) hc
  ·rename_i hw;simp only[hw];obtain⟨nL,hc⟩:=hc;split at hc<;>try (cases hc;done)
   ·rename_i v cK H1 eB eu aC;simp only[aC];obtain⟨Lm,hc⟩:=hc;have W8:q9 cx.P cx.uq takes o=true->fhp=true:=λh=>by rw[h] at Ip;simpa using Ip
    have hfj:js.any (Nat.beq i)=true->ld=true:=λh=>by rw[h] at PO;simpa using PO
    refine key _ _ v _ H1 eB eu _ (λh=>h) (λ_ h=>by simpa using h) (λhf=>?_) (λhf _ D=>?_) (λ_ ha=>?_) (λ_ ht D=>?_) (λ_ _ hl c hL=>zeQ hl hL nL aC) (λh D p hp=>zg5 (Lm (W8 h)) p hp) (λq hq=>by unfold JP;cases ld<;>simp[hq]) (λ_ _ hj=>by rw[hfj hj];simp[JP]) hc
    ·obtain⟨v',_,e2,_⟩:=yd hf aC;cases e2;exact⟨rfl,rfl,rfl⟩
    ·simp[Cx.eM,Cx.dK,aC,V.cN]
    ·obtain⟨x,e⟩:=zg4 ha aC;cases e;exact⟨x,rfl,rfl,rfl⟩
    ·rcases zjd (D:=D) ht aC with h|h
     ·exact .inl h
     ·exact .inr h
   ·rename_i cK H1 eB eu aC;simp only[aC];have BP:q9 cx.P cx.uq takes o=true:=by
     cases hb:q9 cx.P cx.uq takes o with
     | true=>rfl
     | false=>obtain⟨v',e1,_⟩:=yd hb aC;cases e1
    rw[BP];obtain⟨Lm,hc⟩:=hc;have W8:fhp=true:=by rw[BP] at Ip;simpa using Ip
    refine key true false (.bq []) cW H1 eB eu _ (λ_=>BP) (λh=>nomatch h) (λh=>nomatch h) (λh=>nomatch h) (λ_ ha=>?_) (λ_ ht=>?_) (λh=>nomatch h) (λ_ D p hp=>zg5 (Lm W8) p hp) (λ_ h=>h) (λh=>nomatch h) hc
    ·obtain⟨dst,op,type,pos,after,guard⟩:=o;unfold vM at ha;split at ha<;>try (cases ha;done)
     rename_i t lz;simp only at lz;subst lz;simp only[Cx.op] at aC;split at aC<;>try (cases aC;done)
     split at aC<;>try (cases aC;done)
     simp[qp,qm] at aC
    ·obtain⟨dst,op,type,pos,after,guard⟩:=o;unfold kJ at ht;split at ht<;>try (cases ht;done)
     rename_i t a lz;simp only at lz;subst lz;cases dst with
     | none=>cases ht
     | some d =>
      simp only at ht;rw[xl ht] at aC;unfold vW at aC;split at aC<;>try (cases aC;done)
      split at aC<;>try (cases aC;done)
      split at aC<;>try (cases aC;done)
      split at aC<;>cases aC
theorem Tw{n id:Nat}{Q:Ex->St->Prop}{k:List It}{ops:Array Oper}{env:aD}{H:Hp}{lk:aN}{df:bO}{tk:bY}(js:bN)(fl:List (Bool×Bool))(ht:jN ops=tk)(e_:Tu cx.P cx.uq ops tk js 0 [] fl ops.toList=true)
  (h:AI cx ops tk (λs=>go cx n Q k .normal s) [] fl ops.toList ⟨env,H,[],df⟩) (hl:cx.uq mu=false\/xP ops=none:=by first|exact .inl rfl|exact .inr (by kernel_rfl)):go cx n Q (.c (.region id ops true)::k) .normal ⟨env,H,lk,df⟩:=by
 subst ht;obtain⟨s',h1,h2⟩:=zg6 (js:=js) _ _ _ _ _ _ ⟨0,H,[],df⟩ [] _ ⟨.nil,λq hq=>by simp at hq,λb=>by simp[yC],⟨rfl,rfl,rfl⟩,λc hc=>by simp at hc,λc hc=>by simp at hc,λq hq=>by simp at hq⟩ e_ (λq hq=>by simp at hq) h
 simp only[go];exact⟨.normal,s',by simp only[Cx.code];exact Wz h1 hl,h2⟩
section
variable{P:St->Prop}{cW:List (Oper×aD×V)}{fl:List (Bool×Bool)}{os:List Oper}{env:aD}{H:Hp}{lk:aN}{df:bO}{s:St}{dst:fH}{op:Op}{type:aB}{pos:String}{after:Array Edge}{ld hp:Bool}
theorem u6:AI cx all takes P cW fl [] s ↔ P s:=by simp[AI]
def Iq(cx:Cx)(all:Array Oper)(takes:bY)(P:St->Prop)(cW:List (Oper×aD×V))(ld hp:Bool)(fl:List (Bool×Bool))(o:Oper)(env:aD)(os:List Oper):Option (OR×St)->Prop
 | some (.val v,⟨cK,H1,eB,eu⟩)=>(hp=true->y6 cx takes ⟨0,H1,eB,eu⟩ cW)/\AI cx all takes P (JP ld (o,env,v) cW) fl os ⟨aq cK o.dst v,H1,eB,eu⟩
 | some (.skip,⟨cK,H1,eB,eu⟩)=>(hp=true->y6 cx takes ⟨0,H1,eB,eu⟩ cW)/\AI cx all takes P cW fl os ⟨aq cK o.dst (.bq []),H1,eB,eu⟩
 | _=>False
theorem r8:AI cx all takes P cW ((ld,hp)::fl) (⟨dst,op,type,pos,after,none⟩::os) ⟨env,H,lk,df⟩ ↔ (au cx ⟨dst,op,type,pos,after,none⟩ env lk=true/\Iq cx all takes P cW ld hp fl ⟨dst,op,type,pos,after,none⟩ env os (cx.op takes ⟨dst,op,type,pos,after,none⟩ env H lk df)):=by
 simp only[AI,zX];cases cx.op takes ⟨dst,op,type,pos,after,none⟩ env H lk df with
 | none=>simp[Iq]
 | some r =>
  obtain⟨r,s1⟩:=r;obtain⟨cK,H1,eB,eu⟩:=s1;cases r<;>simp[Iq]
theorem Tx{o:Oper}{v:V}{cK:aD}{H1:Hp}{eB:aN}{eu:bO}:Iq cx all takes P cW ld false fl o env os (some (.val v,⟨cK,H1,eB,eu⟩)) ↔ AI cx all takes P (JP ld (o,env,v) cW) fl os ⟨aq cK o.dst v,H1,eB,eu⟩:=by simp[Iq]
theorem Ty{o:Oper}{v:V}{cK:aD}{H1:Hp}{eB:aN}{eu:bO}:Iq cx all takes P cW ld true fl o env os (some (.val v,⟨cK,H1,eB,eu⟩)) ↔ y6 cx takes ⟨0,H1,eB,eu⟩ cW/\AI cx all takes P (JP ld (o,env,v) cW) fl os ⟨aq cK o.dst v,H1,eB,eu⟩:=by simp[Iq]
theorem W9{o:Oper}{cK:aD}{H1:Hp}{eB:aN}{eu:bO}:Iq cx all takes P cW ld hp fl o env os (some (.skip,⟨cK,H1,eB,eu⟩)) ↔ (hp=true->y6 cx takes ⟨0,H1,eB,eu⟩ cW)/\AI cx all takes P cW fl os ⟨aq cK o.dst (.bq []),H1,eB,eu⟩:=by simp[Iq]
theorem Tz{p:Oper×aD×V}{ps:List (Oper×aD×V)}:JP false p ps=ps:=rfl
theorem TA{p:Oper×aD×V}{ps:List (Oper×aD×V)}:JP true p ps=p::ps:=rfl
theorem xD{c:ei}:y6 cx takes c [] ↔ True:=Iff.rfl
theorem iQ{D:Nat}{o:Oper}{v:V}{s1:St}(h:cx.op takes o env H lk df=some (.val v,s1)):cx.eM takes o env v ⟨D,H,lk,df⟩=true:=by simp[Cx.eM,Cx.dK,h,V.cN]
end
def PS(cx:Cx)(n:Nat)(Q:Ex->St->Prop)(k:List It)(R:St->Prop):Ex->St->Prop
 | .normal,s=>R s
 | ex,s=>go cx n Q k ex s
theorem zlL{n:Nat}{Q:Ex->St->Prop}{k:List It}{c:Code}{s:St}(R:St->Prop)(h:go cx n (PS cx n Q k R) [.c c] .normal s)(h2:∀s',R s'->go cx n Q k .normal s'):go cx n Q (.c c::k) .normal s:=by
 obtain⟨ex,s',h3,h4⟩:=Tq h;simp only[go];refine⟨ex,s',h3,?_⟩;cases ex<;>first|exact h2 _ h4|exact h4
theorem jA{n:Nat}{Q:Ex->St->Prop}{k:List It}{R:St->Prop}{s:St}:PS cx n Q k R .normal s ↔ R s:=Iff.rfl
theorem jJ{n:Nat}{Q:Ex->St->Prop}{k:List It}{R:St->Prop}{s:St}{i:Nat}:PS cx n Q k R (.exit i) s ↔ go cx n Q k (.exit i) s:=Iff.rfl
theorem y7{n:Nat}{Q:Ex->St->Prop}{k:List It}{env:aD}{H:Hp}{lk:aN}{df:bO}(F:aD->Prop)(h:F env)(h2:∀env,F env->go cx n Q k .normal ⟨env,H,lk,df⟩):go cx n Q k .normal ⟨env,H,lk,df⟩:=h2 env h
theorem gS:Nat.beq 4 3=false:=rfl
theorem gT:Nat.beq 5 3=false:=rfl
theorem gU:Nat.beq 5 4=false:=rfl
theorem gV:Nat.beq 2 3=false:=rfl
theorem gW:Nat.beq 2 4=false:=rfl
theorem gX:Nat.beq 2 5=false:=rfl
theorem gZ:Nat.beq 1 2=false:=rfl
theorem g_:Nat.beq 0 2=false:=rfl
theorem hO:Nat.beq 1 3=false:=rfl
theorem h_:Nat.beq 1 4=false:=rfl
theorem ia:Nat.beq 1 5=false:=rfl
theorem gx:Nat.beq 0 1=false:=rfl
theorem l_{n:Nat}{Q:Ex->St->Prop}{k:List It}{s:St}(F:St->Prop)(h:F s)(h2:∀s,F s->go cx n Q k .normal s):go cx n Q k .normal s:=h2 s h
theorem vE{D:Nat}{env:aD}{H:Hp}{lk:aN}{df:bO}{d:Tmp}{t type:aB}{a:aX}{pos:String}{after:Array Edge}{guard:oZ}{p v0 v:V}(h1:ak env a=some p)(h2:zk cx.P H cx.gl t p=some v0)(h3:aW v0=v):y6 cx [] ⟨D,H,lk,df⟩ [(⟨some d,.load t a,type,pos,after,guard⟩,env,v)]:=by
 refine⟨?_,trivial⟩;show cx.eM [] ⟨some d,.load t a,type,pos,after,guard⟩ env v ⟨D,H,lk,df⟩=true;have:cx.op [] ⟨some d,.load t a,type,pos,after,guard⟩ env H lk df=some (.val v,⟨env,H,lk,df⟩):=by
  rw[qu,h1,aT,h2,aS,h3,zr]
 exact iQ this
end
section
variable{cx:Cx}{takes:bY}{dst:fH}{type:aB}{pos:String}{after:Array Edge}{guard:oZ}{env:aD}{H:Hp}{lk:aN}{df:bO}
theorem znI{t e n:Nat}{x y:aX}{z v u:V}(h1:cx.P.underlying t=some (.slice e))(h2:z4 cx.P e=some n)(h3:qQ cx.P e=some z)(hn:n≠0/\2 * n<=16777216)(hz:z.cells.length=n)(W_:dz z=true)(hx:ak env x=some v)(hy:ak env y=some u)(hv:dz v=true)(hu:dz u=true)(BM:v.cells.length=n)(hul:u.cells.length=n) :
  cx.op takes ⟨dst,.buildSlice t 2 #[(0,x),(1,y)],type,pos,after,guard⟩ env H lk df=some (.val (.sl n [v,u] (.yes e)),⟨env,H,lk,df⟩):=by
 have e1:Nat.beq n 0=false:=by
  cases n with
  | zero=>exact absurd rfl hn.1
  | succ n=>rfl
 have e2:Nat.blt 16777216 (2 * n)=false:=by
  cases hb:Nat.blt 16777216 (2 * n) with
  | false=>rfl
  | true=>have:=rJ hb;omega
 simp[Cx.op,jf,h1,h2,h3,hz,W_,Ei,hx,hy,hv,hu,BM,hul,qp,fm,Nat.blt,List.replicate];rw[if_neg (by omega)]
theorem Xa{t e n k:Nat}{lo co:aX}{z:V}{i:TypeInfo}(h1:cx.P.underlying t=some (.slice e))(h2:z4 cx.P e=some n)(h3:qQ cx.P e=some z)(hu:cx.uq e=false)(h4:cx.P.info? e=some i)(hn:n≠0)(hz:z.cells.length=n)(W_:dz z=true)(hl:ak env lo=some (.int .i64 (k:Int)))(hc:ak env co=some (.int .i64 (k:Int)))(hr:kx k i.bytes=true)(hk:k≠0) :
  cx.op takes ⟨dst,.makeSlice t lo co,type,pos,after,guard⟩ env H lk df=some (.val (.sr H.az.length 0 k k),⟨env,H.push (.cells (List.replicate k z.cells).flatten e),lk,df⟩):=by
 have e1:Nat.beq n 0=false:=by
  cases n with
  | zero=>exact absurd rfl hn
  | succ n=>rfl
 have e2:¬((k:Int)<0):=by omega
 have e3:¬((k:Int)=0):=by omega
 simp[Cx.op,h1,h2,h3,h4,hu,e1,e2,hz,W_,hl,hc,hr,hk,de,qm]
theorem zif{t u e b off len cap:Nat}{x y:aX}{ys cs:aD}{ty:aB}{o:ug}(h1:cx.P.underlying t=some (.slice e))(h2:z4 cx.P e=some 1)(hx:ak env x=some (.sr b off len cap))(hy:ak env y=some (.sl 1 ys o))(hb:H.get b=some (.cells cs ty))(hl:ys.length=len)(hf:(bW ys).map aW=ys)(hr:off+len<=cs.length)(hm:wv lk b off len (cs.drop off)=true) :
  cx.op takes ⟨dst,.call ⟨.builtin .copy,#[x,y],#[t,u]⟩,type,pos,after,guard⟩ env H lk df=some (.val (.int .i64 (len:Nat)),⟨env,(H.set b (.cells (storeCells cs off ys) ty)).bQ b (.bq ys),lk,df⟩):=by
 have e1:ys.take len=ys:=by rw[<- hl,DF]
 have e2:Nat.ble (off+len) cs.length=true:=KH hr;have e3:(bW ys).length=len:=by rw[<- hl,<- congrArg List.length hf,gC]
 simp[Cx.op,Cx.sk,h1,h2,hx,hy,ww,hb,hl,e1,hf,hm,de,jd,e3,hr]
end
section
variable{cx:Cx}{all:Array Oper}{takes:bY}
theorem wC{n id:Nat}{Q:Ex->St->Prop}{k:List It}{ops:Array Oper}{env:aD}{H:Hp}{lk:aN}{df:bO}{tk:bY}(ht:jN ops=tk)(h:∃s',cx.eN ops tk 0 [] [⟨0,H,[],df⟩] ops.toList ⟨env,H,[],df⟩=some (.normal,s')/\go cx n Q k .normal s')(hl:cx.uq mu=false\/xP ops=none:=by first|exact .inl rfl|exact .inr (by kernel_rfl)):go cx n Q (.c (.region id ops true)::k) .normal ⟨env,H,lk,df⟩:=by
 subst ht;obtain⟨s',h1,h2⟩:=h;simp only[go];exact⟨.normal,s',by simp only[Cx.code];exact Wz h1 hl,h2⟩
section
variable{i m:Nat}{rs:List Rec}{c0:ei}{cs cs':List ei}{o:Oper}{os:List Oper}{env cK:aD}{H H1:Hp}{lk eB:aN}{df eu:bO}{v:V}{r:Option (Ex×St)}
def jc(all:Array Oper)(takes:bY)(i:Nat)(o:Oper)(m:Nat)(hp free:Bool)(env:aD)(v:V):Rec:=⟨i,o,m,mU takes o,Nat.lor (mU takes o) (tw all o),hp,free,env,v⟩
theorem qx(hm:wx rs o.after.toList=some m)(hg:zX all o env=some true)(aC:cx.op takes o env H lk df=some (.val v,⟨cK,H1,eB,eu⟩))(h1:q9 cx.P cx.uq takes o=false)(h2:kU cx.P cx.uq o=false)
  (hs:kz (kw (jc all takes i o m false true env v)) rs=true) (k:cx.eN all takes (i+1) (jc all takes i o m false true env v::rs) (c0::cs) os ⟨aq cK o.dst v,H1,eB,eu⟩=r):cx.eN all takes i rs (c0::cs) (o::os) ⟨env,H,lk,df⟩=r:=by
 simp only[jc] at hs k;simp only[Cx.eN,hm,qz,hg,aC,qp,jO,h1,h2,oo,hs];simp only[Cx.fj,Bool.true_or];exact k
theorem kj(hm:wx rs o.after.toList=some m)(hg:zX all o env=some true)(aC:cx.op takes o env H lk df=some (.val v,⟨cK,H1,eB,eu⟩))(h1:q9 cx.P cx.uq takes o=false)(h2:kU cx.P cx.uq o=true)
  (hs:kz (kw (jc all takes i o m false false env v)) rs=true) (hc:kz (λc=>match vA (Nat.land m (ep rs)) c.D with|true=>cx.eM takes o env v c|false=>true) cs=true)
  (k:cx.eN all takes (i+1) (jc all takes i o m false false env v::rs) (c0::cs) os ⟨aq cK o.dst v,H1,eB,eu⟩=r):cx.eN all takes i rs (c0::cs) (o::os) ⟨env,H,lk,df⟩=r:=by
 simp only[jc] at hs k;simp only[Cx.eN,hm,qz,hg,aC,qp,jO,h1,h2,mh,hs];simp only[Cx.fj,uQ];split
 ·exact k
 next h=>exact absurd (hc.symm.trans h) (by decide)
theorem yo(hm:wx rs o.after.toList=some m)(hg:zX all o env=some true)(aC:cx.op takes o env H lk df=some (.val v,⟨cK,H1,eB,eu⟩))(h1:q9 cx.P cx.uq takes o=true)(h2:kU cx.P cx.uq o=true)
  (hs:kz (kw (jc all takes i o m true false env v)) rs=true) (hc:∀K,cx.fj takes rs (jc all takes i o m true false env v) c0 ⟨Nat.lor c0.D (Nat.pow 2 i),H1,eB,eu⟩ cs K=K cs')
  (k:cx.eN all takes (i+1) (jc all takes i o m true false env v::rs) cs' os ⟨aq cK o.dst v,H1,eB,eu⟩=r):cx.eN all takes i rs (c0::cs) (o::os) ⟨env,H,lk,df⟩=r:=by
 have ej:=λK=>hc K;simp only[jc] at hs k ej;simp only[Cx.eN,hm,qz,hg,aC,qp,jO,h1,h2,mh,hs];rw[ej];exact k
theorem wD(hm:wx rs o.after.toList=some m)(hg:zX all o env=some true)(aC:cx.op takes o env H lk df=some (.skip,⟨cK,H1,eB,eu⟩))(h1:q9 cx.P cx.uq takes o=true)
  (hs:kz (kw (jc all takes i o m true false env (.bq []))) rs=true) (hc:∀K,cx.fj takes rs (jc all takes i o m true false env (.bq [])) c0 ⟨Nat.lor c0.D (Nat.pow 2 i),H1,eB,eu⟩ cs K=K cs')
  (k:cx.eN all takes (i+1) (jc all takes i o m true false env (.bq [])::rs) cs' os ⟨aq cK o.dst (.bq []),H1,eB,eu⟩=r):cx.eN all takes i rs (c0::cs) (o::os) ⟨env,H,lk,df⟩=r:=by
 have ej:=λK=>hc K;simp only[jc] at hs k ej;simp only[Cx.eN,hm,qz,hg,aC,qp,jO,h1,hs];rw[ej];exact k
theorem wG{s:St}:cx.eN all takes i rs cs [] s=some (.normal,s):=by simp only[Cx.eN]
theorem zkm{R:Rec}{c1:ei}{k:List ei->Option (Ex×St)}(hp:R.hp=true)(cq:∀c∈cs,vA (Nat.land R.m (ep rs)) c.D=false)
  (dX:cx.eK takes rs (ep rs) R (c1::c0::cs) c1=true):cx.fj takes rs R c0 c1 cs k=k (c1::c0::cs):=by
 have hr:∀l:List ei,(∀c∈l,vA (Nat.land R.m (ep rs)) c.D=false)->cx.gR takes R.o R.env R.v (Nat.land R.m (ep rs)) (Nat.pow 2 R.idx) l=some []:=by
  intro l
  induction l with
  | nil=>intro _;rfl
  | cons c l ih=>intro h;simp only[Cx.gR,h c (eH ..)];exact ih λc hc=>h c (dR _ hc)
 unfold Cx.fj;rw[hp];simp only[hr cs cq,a_,bg,kz,dX]
end
theorem rz:∀(l:List aV),mM l l=true
 | []=>rfl
 | a::l=>by
  have h:gm a a=true:=by
   cases a with
   | cells a t=>simp[gm,dh]
   | map a =>
    have:∀(l:List (V×V)),p_ l l=true:=by
     intro l
     induction l with
     | nil=>rfl
     | cons x l ih=>obtain⟨a,b⟩:=x;simp[p_,V.cN,ih]
    simp[gm,this]
   | iter a i =>
    have:∀(l:bN),nQ l l=true:=by
     intro l
     induction l with
     | nil=>rfl
     | cons x l ih=>simp[nQ,ih]
    simp[gm,this]
   | ul a b c d=>simp[gm,dh]
  simp[mM,h,rz l]
theorem rA:∀(l:aN),l9 l l=true
 | []=>rfl
 | (a,b)::l=>by simp[l9,rA l]
theorem rB:∀(l:bO),nk l l=true
 | []=>rfl
 | (a,b)::l=>by simp[nk,V.cN,dh,rB l]
theorem Xb{D D':Nat}{H:Hp}{lk:aN}{df:bO}:vH ⟨D,H,lk,df⟩ ⟨D',H,lk,df⟩=true:=by
 simp[vH,rA,rB,rz]
theorem zkn{r2 r1 r0 R:Rec}{c0 c1 d c2 e:ei}{k:List ei->Option (Ex×St)}(hp:R.hp=true)(h2:r2.hp=false)(TB:r2.free=true)(h0:r0.hp=false)(TC:r0.free=true)(h1:r1.hp=true)
  (hs:vA (Nat.land R.m (ep [r2,r1,r0])) d.D=true) (hr:cx.dK takes R.o R.env d (Nat.lor d.D (Nat.pow 2 R.idx))=some (R.v,c2)) (Ir:bit c1.D r1.idx=true) (nA:bit c2.D r1.idx=false)
  (hq:cx.dK takes r1.o r1.env c2 0=some (r1.v,e)) (hf:vI (Nat.lor c2.D (Nat.pow 2 r1.idx)) [c1,c2,c0,d]=some c1) (he:vH e c1=true) :
  cx.fj takes [r2,r1,r0] R c0 c1 [d] k=k [c1,c2,c0,d]:=by
 have Er:cx.eK takes [r2,r1,r0] (ep [r2,r1,r0]) R [c1,c2,c0,d] c1=true:=by
  unfold Cx.eK;refine kC λq hq=>?_;split
  ·rfl
  ·rcases dH.1 hq with rfl|hq
   ·simp[h2,TB]
   ·rcases dH.1 hq with rfl|hq
    ·simp[h1,Ir]
    ·obtain rfl:q=r0:=by simpa using hq
     simp[h0,TC]
 have PT:cx.eK takes [r2,r1,r0] (ep [r2,r1,r0]) R [c1,c2,c0,d] c2=true:=by
  unfold Cx.eK;refine kC λq A9=>?_;split
  ·rfl
  ·rcases dH.1 A9 with rfl|A9
   ·simp[h2,TB]
   ·rcases dH.1 A9 with rfl|A9
    ·simp only[h1,nA,hq,hf,V.cN,he,Bool.and_self]
    ·obtain rfl:q=r0:=by simpa using A9
     simp[h0,TC]
 unfold Cx.fj;rw[hp];simp only[Cx.gR,hs,hr,V.cN,a_,bg,kz,Er,PT]
theorem jK{rs:List Rec}{cs:List ei}{R:Rec}{c0 c1 lM:ei}{k:List ei->Option (Ex×St)}(e:c1=lM)(hp:R.hp=true)(cq:∀c∈cs,vA (Nat.land R.m (ep rs)) c.D=false)
  (dX:cx.eK takes rs (ep rs) R (lM::c0::cs) lM=true):cx.fj takes rs R c0 c1 cs k=k (lM::c0::cs):=by
 subst e;exact zkm hp cq dX
theorem zig{r2 r1 r0 R:Rec}{c0 c1 lM d c2 e:ei}{k:List ei->Option (Ex×St)}(e1:c1=lM)(hp:R.hp=true)(h2:r2.hp=false)(TB:r2.free=true)(h0:r0.hp=false)(TC:r0.free=true)(h1:r1.hp=true)
  (hs:vA (Nat.land R.m (ep [r2,r1,r0])) d.D=true) (hr:cx.dK takes R.o R.env d (Nat.lor d.D (Nat.pow 2 R.idx))=some (R.v,c2)) (Ir:bit lM.D r1.idx=true) (nA:bit c2.D r1.idx=false)
  (hq:cx.dK takes r1.o r1.env c2 0=some (r1.v,e)) (hf:vI (Nat.lor c2.D (Nat.pow 2 r1.idx)) [lM,c2,c0,d]=some lM) (he:vH e lM=true) :
  cx.fj takes [r2,r1,r0] R c0 c1 [d] k=k [lM,c2,c0,d]:=by
 subst e1;exact zkn hp h2 TB h0 TC h1 hs hr Ir nA hq hf he
end
section
def Is(f:Nat->Bool):Nat->Nat
 | 0=>0
 | n+1=>Is f n ||| (if f n=true then 2 ^ n else 0)
theorem Xc{f:Nat->Bool}{j:Nat}:∀{n:Nat},(Is f n).testBit j=(decide (j<n) && f j)
 | 0=>by simp[Is]
 | n+1=>by
  simp only[Is,Ar,Xc (n:=n)]
  by_cases e:n=j
  ·subst e;cases h:f n<;>simp[]
  ·have:(if f n=true then 2 ^ n else 0).testBit j=false:=by
    cases f n<;>simp[e]
   rw[this];have:(j<n) ↔ (j<n+1):=by omega
   simp[this]
theorem zg7{f:Nat->Bool}:∀{n:Nat},Is f n<2 ^ n
 | 0=>by simp[Is]
 | n+1=>by
  simp only[Is];have h1:=zg7 (f:=f) (n:=n);have h2:2 ^ n<2 ^ (n+1):=Hf (by omega) (by omega)
  refine Jm (by omega) ?_
  split<;>omega
theorem yG{f:Nat->Bool}{n m:Nat}(hm:m<2 ^ n)(h:∀j,j<n->m.testBit j=f j):m=Is f n:=by
 apply Nat.eq_of_testBit_eq;intro j;rw[Xc]
 by_cases hj:j<n
 ·simp[hj,h j hj]
 ·simp only[hj,decide_false,EU];exact Ni (uO hm (Nat.pow_le_pow_right (by omega) (by omega)))
def kK(p:Nat->Bool)(i:Nat):Nat:=Is (λj=>p (64 * i+j)) 64
theorem kZ{p:Nat->Bool}{i:Nat}:kK p i<2 ^ 64:=zg7
theorem wN{p:Nat->Bool}{i j:Nat}(h:j<64):(kK p i).testBit j=p (64 * i+j):=by simp[kK,Xc,h]
def jQ(p:Nat->Bool)(n:Nat):Nat->Bool:=λk=>p k || k == n
def jB(p q:Nat->Bool):Nat->Bool:=λk=>p k || q k
theorem zlM{p:Nat->Bool}{n:Nat}:kK p (n / 64) ||| 2 ^ (n % 64)=kK (jQ p n) (n / 64):=by
 refine yG (Jm kZ (Hf (by omega) (Nat.mod_lt _ (by omega)))) λj hj=>?_
 rw[Ar,wN hj,EP];simp only[jQ]
 congr 1
 rw[ET];simp only[decide_eq_true_eq,beq_iff_eq];omega
theorem zg8{p:Nat->Bool}{n i:Nat}(h:i≠n / 64):kK (jQ p n) i=kK p i:=by
 refine(yG kZ λj hj=>?_).symm;rw[wN hj];simp only[jQ];have:¬(64 * i+j=n):=λe=>h (by omega)
 simp[this]
def pv(m:Nat)(p:Nat->Bool):aD:=(List.range m).map λi=>.int .u64 (kK p i:Nat)
theorem jE{m:Nat}{p:Nat->Bool}:(pv m p).length=m:=by simp[pv]
theorem yH{m:Nat}{p:Nat->Bool}{i:Nat}(h:i<m):(pv m p)[i]?=some (.int .u64 (kK p i:Nat)):=by simp[pv,h]
theorem zpo{m:Nat}{p:Nat->Bool}{n:Nat}:(pv m p).set (n / 64) (.int .u64 (kK (jQ p n) (n / 64):Nat))=pv m (jQ p n):=by
 apply ER;intro i;rw[List.getElem?_set']
 by_cases hi:i<m
 ·rw[yH hi,yH hi]
  by_cases e:n / 64=i
  ·subst e;simp
  ·simp[e,zg8 (Ne.symm e)]
 ·have h1:(pv m p)[i]?=none:=by simp[pv];omega
  have h2:(pv m (jQ p n))[i]?=none:=by simp[pv];omega
  rw[h1,h2];simp
theorem Xd{n:Nat}(h:n<2 ^ 64):IntKind.u64.wrap (n:Int)=n:=by
 simp only[IntKind.wrap,IntKind.bits,IntKind.signed];simp only[EU,fP,bw];omega
theorem kS{n:Int}(h:-9223372036854775808<=n)(h':n<9223372036854775808):IntKind.i64.wrap n=n:=by
 simp only[IntKind.wrap,IntKind.bits,IntKind.signed];simp only[s5,decide_eq_true_eq,ge_iff_le];have e1:(2:Int) ^ 64=18446744073709551616:=by decide
 have e2:(2:Int) ^ (64 - 1)=9223372036854775808:=by decide
 rw[e1,e2];split<;>omega
theorem TD{n:Nat}(h:n<2 ^ 64):(BitVec.ofInt 64 (n:Int)).toNat=n:=by
 simp[];omega
variable{P:aQ}{t:aB}{x y:aX}
theorem Xe{a b:Nat}(ha:a<2 ^ 64)(hb:b<2 ^ 64):qP P .or t x y (some (.int .u64 a)) (some (.int .u64 b))=some (.int .u64 ((a ||| b:Nat):Int)):=by
 have h0:((BitVec.ofInt 64 (a:Int) ||| BitVec.ofInt 64 (b:Int)).toNat)=a ||| b:=by
  rw[BitVec.toNat_or,TD ha,TD hb]
 have h:((BitVec.ofInt IntKind.u64.bits (a:Int) ||| BitVec.ofInt IntKind.u64.bits (b:Int)).toNat)=a ||| b:=h0
 simp only[qP,jt,w7,j3,aF];rw[h,Xd (Jm ha hb)]
theorem zko{k:Nat}(hk:k<2 ^ 60):qP P .quo t x y (some (.int .i64 k)) (some (.int .i64 64))=some (.int .i64 ((k / 64:Nat):Int)):=by
 have h:(k:Int).tdiv 64=((k / 64:Nat):Int):=by
  rw[Int.tdiv_eq_ediv_of_nonneg (by omega)];omega
 simp only[qP,jt,w7,j3,aF];rw[h,kS (by omega) (by omega)]
 rfl
theorem zkp{k:Nat}:qP P .rem t x y (some (.int .i64 k)) (some (.int .i64 64))=some (.int .i64 ((k % 64:Nat):Int)):=by
 have h:(k:Int).tmod 64=((k % 64:Nat):Int):=by
  rw[Int.tmod_eq_emod_of_nonneg (by omega)];omega
 simp only[qP,jt,w7,j3,aF];rw[h];rfl
theorem zlN{k:Nat}(hk:k<64):qP P .shl t x y (some (.int .u64 1)) (some (.int .i64 k))=some (.int .u64 ((2 ^ k:Nat):Int)):=by
 have h1:¬((k:Int)<0):=by omega
 have h2:min (k:Int).toNat IntKind.u64.bits=k:=by simp[IntKind.bits];omega
 have h3:(1:Int) * 2 ^ k=((2 ^ k:Nat):Int):=by simp
 simp only[qP,jt,w7,KP,aF,h1,bw,h2];rw[h3,Xd (Hf (by omega) hk)]
theorem zeR{H:Hp}{b off n:Nat}{v:V}{env:aD}{cs:aD}{ty:aB}{lk:aN}{df:bO}(hb:H.get b=some (.cells cs ty))(h1:dz v=true)(h2:v.laid.length=n)(h3:off+n<=cs.length)(h4:wv lk b off n (cs.drop off)=true) :
  PI n H lk df (some (.ptr b off)) (some (v,env))=some (.skip,⟨env,(H.set b (.cells (Vm.storeCells cs off v.laid) ty)).bQ b v,lk,df⟩):=by
 simp only[PI,hb,h1,h2,h4];simp[h3]
theorem jT{H:Hp}{b:Nat}{v:V}(h:v.top<=b+1):H.bQ b v=H:=by simp[Hp.bQ,h]
theorem Xf{pre post:aD}{m i:Nat}{xs:aD}{v:V}(h:xs.length=m)(hi:i<m):(pre++xs++post).set (pre.length+i) v=pre++xs.set i v++post:=by
 rw[bh,uM _ _ (by omega),Ng,Gp _ _ (by omega),bh]
theorem xE{pre post:aD}{m i:Nat}{xs:aD}(h:xs.length=m)(hi:i<m):(pre++xs++post)[pre.length+i]?=xs[i]?:=by
 rw[bh,fE (by omega),Ng,gb (by omega)]
theorem zg9{lk:aN}{b:Nat}:∀{n off:Nat}{l:aD},(∀i,i<n->∃c,l[i]?=some c/\locked c=false)->wv lk b off n l=true
 | 0,_,_,_=>by simp[wv]
 | n+1,off,[],h=>by obtain⟨c,hc,_⟩:=h 0 (by omega);simp at hc
 | n+1,off,c::l,h=>by
  obtain⟨d,hd,hl⟩:=h 0 (by omega)
  simp only[KG,br] at hd;subst hd;simp only[wv,hl,oo,Bool.true_or,s5];exact zg9 λi hi=>by
   have:=h (i+1) (by omega)
   simpa using this
theorem yp{lk:aN}{b n off:Nat}{cs:aD}(h:∀i,i<n->∃c,cs[off+i]?=some c/\locked c=false):wv lk b off n (cs.drop off)=true :=
 zg9 λi hi=>by rw[Hl];exact h i hi
end
section
theorem Ba:∀(w:Nat),w≠0->∃k m,w=2 ^ (k+1) * m+2 ^ k:=by
 intro w
 induction w using Nat.strongRecOn with
 | ind w ih =>
  intro h;rcases Nat.mod_two_eq_zero_or_one w with h2|h2
  ·obtain⟨k,m,e⟩:=ih (w / 2) (by omega) (by omega)
   refine⟨k+1,m,?_⟩;have:w=2 * (w / 2):=by omega
   rw[this,e,Nat.mul_add,<- Nat.mul_assoc,<- Nat.pow_succ',<- Nat.pow_succ']
  ·exact⟨0,w / 2,by omega⟩
theorem Xg(k:Nat):0<2 ^ k:=Nat.pow_pos (by decide)
theorem TE{k m j:Nat}:(2 ^ (k+1) * m+2 ^ k).testBit j=if j<k then false else if j=k then true else m.testBit (j - (k+1)):=by
 rw[Nat.testBit_two_pow_mul_add _ (Hf (by decide) (by omega)),EP]
 by_cases h1:j<k
 ·rw[if_pos (by omega),if_pos h1];simp;omega
 ·by_cases h2:j=k
  ·subst h2;simp
  ·rw[if_neg (by omega),if_neg h1,if_neg h2]
theorem zha{k m j:Nat}:(2 ^ (k+1) * m+2 ^ k - 1).testBit j=if j<k then true else if j=k then false else m.testBit (j - (k+1)):=by
 have:=Xg k;have h2:2 ^ k<2 ^ (k+1):=Hf (by decide) (by omega)
 rw[Nat.add_sub_assoc (by omega),Nat.testBit_two_pow_mul_add _ (by omega),Nat.testBit_two_pow_sub_one]
 by_cases h1:j<k
 ·rw[if_pos (by omega),if_pos h1];simp[h1]
 ·by_cases h2:j=k
  ·subst h2;simp
  ·rw[if_neg (by omega),if_neg h1,if_neg h2]
theorem PU{k m:Nat}(h:2 ^ (k+1) * m+2 ^ k<2 ^ 64):k<64:=by
 rcases eX k 64 with h1|h1
 ·exact h1
 ·have:=Nat.pow_le_pow_right (n:=2) (by decide) h1
  omega
theorem znJ{k m:Nat}(h:2 ^ (k+1) * m+2 ^ k<2 ^ 64):(2 ^ (k+1) * m+2 ^ k) &&& (2 ^ 64 - (2 ^ (k+1) * m+2 ^ k))=2 ^ k:=by
 have hp:=Xg k;apply Nat.eq_of_testBit_eq;intro j;have e:2 ^ 64 - (2 ^ (k+1) * m+2 ^ k)=2 ^ 64 - ((2 ^ (k+1) * m+2 ^ k - 1)+1):=by omega
 rw[Nat.testBit_and,e,Nat.testBit_two_pow_sub_succ (by omega),zha,TE,EP]
 have:=PU h
 by_cases h1:j<k
 ·simp[h1];omega
 ·by_cases h2:j=k
  ·subst h2;simp[this]
  ·have h3:decide (k=j)=false:=by simp;omega
   rw[h3];simp only[h1,h2,bw];cases m.testBit (j - (k+1))<;>simp
def wg(w:Nat):bN:=(List.range' 0 64).filter λj=>w.testBit j
theorem zhb{k:Nat}{p q:Nat->Bool}(hk:p k=true)(hq:∀j,q j=(p j && !(j == k))):∀(n s:Nat),s<=k->k<s+n->(∀j,s<=j->j<k->p j=false)->(List.range' s n).filter p=k::(List.range' s n).filter q
 | 0,s,h1,h2,_=>by omega
 | n+1,s,h1,h2,h3=>by
  rw[List.range'_succ]
  by_cases e:s=k
  ·subst e;have Xh:q s=false:=by rw[hq];simp
   rw[List.filter_cons_of_pos hk,List.filter_cons_of_neg (by rw[Xh];decide)]
   congr 1
   apply List.filter_congr;intro j hj;have:=List.mem_range'_1.1 hj;have cI:(j == s)=false:=by simp;omega
   rw[hq,cI];simp
  ·have hs:p s=false:=h3 s (dI _) (by omega)
   have Xh:q s=false:=by rw[hq,hs];rfl
   rw[List.filter_cons_of_neg (by rw[hs];decide),List.filter_cons_of_neg (by rw[Xh];decide)]
   exact zhb hk hq n (s+1) (by omega) (by omega) λj h4 h5=>h3 j (by omega) h5
theorem TF{k m:Nat}(h:2 ^ (k+1) * m+2 ^ k<2 ^ 64):wg (2 ^ (k+1) * m+2 ^ k)=k::wg ((2 ^ (k+1) * m+2 ^ k) &&& (2 ^ (k+1) * m+2 ^ k - 1)):=by
 refine zhb (by simp[TE]) (λj=>?_) 64 0 (by omega) (by have:=PU h;omega) λj _ hj=>by simp[TE,hj]
 rw[Nat.testBit_and,TE,zha]
 by_cases h1:j<k
 ·simp[h1]
 ·by_cases h2:j=k
  ·subst h2;simp
  ·simp[h1,h2]
theorem sE:wg 0=[]:=by simp[wg]
def PV:List Int:=[0,1,56,2,57,49,28,3,61,58,42,50,38,29,17,4,62,47,59,36,45,43,51,22,53,39,33,30,24,18,12,5,63,55,48,27,60,41,37,16,46,35,44,21,52,32,23,11,54,26,40,15,34,20,31,10,25,14,19,9,13,8,7,6]
def Bb:aD:=PV.map (V.int .u8)
theorem LL:∀k:Nat,k<64->nth Bb ((2 ^ k * 285870213051353865) % 2 ^ 64 / 2 ^ 58)=some (.int .u8 (k:Int)):=by
 have h:(List.range 64).all (λk:Nat=>match nth Bb ((2 ^ k * 285870213051353865) % 2 ^ 64 / 2 ^ 58) with|some (.int .u8 n)=>n == (k:Int)|_=>false)=true:=by decide +kernel
 intro k hk;have:=B_.1 h k (Ca.2 hk);split at this<;>try (cases this;done)
 rename_i n e;rw[e];have:n=(k:Int):=by simpa using this
 rw[this]
variable{P:aQ}{t:aB}{x y:aX}
theorem zlO{w:Nat}(h0:w≠0)(h:w<2 ^ 64):iz .neg (.int .u64 (w:Int))=some (.int .u64 ((2 ^ 64 - w:Nat):Int)):=by
 simp only[iz]
 congr 2
 simp only[IntKind.wrap,IntKind.bits,IntKind.signed,EU,fP,bw];omega
theorem TG{a b:Nat}(ha:a<2 ^ 64)(hb:b<2 ^ 64):qP P .and t x y (some (.int .u64 a)) (some (.int .u64 b))=some (.int .u64 ((a &&& b:Nat):Int)):=by
 have h0:((BitVec.ofInt 64 (a:Int) &&& BitVec.ofInt 64 (b:Int)).toNat)=a &&& b:=by
  rw[BitVec.toNat_and,TD ha,TD hb]
 have h:((BitVec.ofInt IntKind.u64.bits (a:Int) &&& BitVec.ofInt IntKind.u64.bits (b:Int)).toNat)=a &&& b:=h0;simp only[qP,jt,w7,j3,aF];rw[h,Xd (KL Nat.and_le_left ha)]
theorem zkq{a b:Nat}:qP P .mul t x y (some (.int .u64 a)) (some (.int .u64 b))=some (.int .u64 ((a * b % 2 ^ 64:Nat):Int)):=by
 have h:IntKind.u64.wrap ((a:Int) * b)=((a * b % 2 ^ 64:Nat):Int):=by
  simp only[IntKind.wrap,IntKind.bits,IntKind.signed,EU,fP,bw];rw[<- Int.natCast_mul];omega
 simp only[qP,jt,w7,j3,aF,h]
theorem zkr{a:Nat}:qP P .shr t x y (some (.int .u64 a)) (some (.int .u64 58))=some (.int .u64 ((a / 2 ^ 58:Nat):Int)):=by
 have h2:min (58:Int).toNat IntKind.u64.bits=58:=by decide
 have h3:(a:Int).fdiv (2 ^ 58)=((a / 2 ^ 58:Nat):Int):=by
  rw[Int.fdiv_eq_ediv_of_nonneg _ (show(0:Int)<=2 ^ 58 by decide)]
  omega
 simp only[qP,jt,w7,KP,aF,show ¬((58:Int)<0) by decide,bw,h2,h3]
theorem zeS{w:Nat}(h0:w≠0)(h:w<2 ^ 64):qP P .sub t x y (some (.int .u64 w)) (some (.int .u64 1))=some (.int .u64 ((w - 1:Nat):Int)):=by
 rw[jX]
 congr 2
 simp only[IntKind.wrap,IntKind.bits,IntKind.signed,EU,fP,bw];omega
theorem znK{k:Nat}(hk:k<64):∃x ix:Nat,(∀(t:aB)(u v:aX),qP P .mul t u v (some (.int .u64 ((2 ^ k:Nat):Int))) (some (.int .u64 285870213051353865))=some (.int .u64 (x:Int)))/\(∀(t:aB)(u v:aX),qP P .shr t u v (some (.int .u64 (x:Int))) (some (.int .u64 58))=some (.int .u64 (ix:Int)))/\ix<64/\nth Bb ix=some (.int .u8 (k:Int)):=by
 refine⟨2 ^ k * 285870213051353865 % 2 ^ 64,2 ^ k * 285870213051353865 % 2 ^ 64 / 2 ^ 58,λt u v=>zkq,λt u v=>zkr,?_,LL k hk⟩;have:2 ^ k * 285870213051353865 % 2 ^ 64<2 ^ 64:=Nat.mod_lt _ (by decide)
 omega
theorem znL{k m:Nat}(h:2 ^ (k+1) * m+2 ^ k<2 ^ 64):∃w w':Nat,w=2 ^ (k+1) * m+2 ^ k/\w≠0/\iz .neg (.int .u64 (w:Int))=some (.int .u64 (w':Int))/\(∀(t:aB)(u v:aX),qP P .and t u v (some (.int .u64 (w:Int))) (some (.int .u64 (w':Int)))=some (.int .u64 ((2 ^ k:Nat):Int))):=by
 have hp:=Xg k;refine⟨_,2 ^ 64 - (2 ^ (k+1) * m+2 ^ k),rfl,by omega,zlO (by omega) h,λt u v=>?_⟩
 rw[TG h (by omega),znJ h]
def TH(p:Nat->Bool)(i:Nat):aD:=(wg (kK p i)).map λj=>.int .i64 ((64 * i+j:Nat):Int)
def xm(p:Nat->Bool):Nat->aD
 | 0=>[]
 | i+1=>xm p i++TH p i
theorem Xi{w:Nat}:(wg w).length<=64:=by
 have:=List.length_filter_le (λj=>w.testBit j) (List.range' 0 64);simpa[wg] using this
theorem xn{p:Nat->Bool}:∀i,(xm p i).length<=64 * i
 | 0=>by simp[xm]
 | i+1=>by
  have:=xn (p:=p) i;have:=Xi (w:=kK p i);simp only[xm,TH,aU,gC];omega
def jh(p:Nat->Bool):Nat->bN
 | 0=>[]
 | i+1=>jh p i++(wg (kK p i)).map λj=>64 * i+j
theorem xF{p:Nat->Bool}:∀i,xm p i=(jh p i).map λk=>V.int .i64 ((k:Nat):Int)
 | 0=>rfl
 | i+1=>by simp only[xm,jh,TH,xF i,List.map_append,List.map_map];rfl
theorem zjg{p:Nat->Bool}:∀i,jh p i=(List.range (64 * i)).filter p
 | 0=>rfl
 | i+1=>by
  have h1:wg (kK p i)=(List.range 64).filter λj=>p (64 * i+j):=by
   rw[wg,List.range_eq_range'];apply List.filter_congr;intro j hj;have:=List.mem_range'_1.1 hj;exact wN (by omega)
  rw[jh,zjg i,h1,Nat.mul_add,Jp,List.range_add,List.filter_append,List.filter_map];rfl
theorem iy{p:Nat->Bool}{i k:Nat}:k∈jh p i ↔ k<64 * i/\p k=true:=by
 rw[zjg,List.mem_filter,Ca]
def mF(q:Nat->Bool):bN->List (Nat->Bool)->List (Nat->Bool)
 | [],ns=>ns
 | k::ks,ns=>mF q ks (ns.set k (jB (ns.getD k λ_=>false) q))
theorem wr{q:Nat->Bool}:∀{ks:bN}{ns:List (Nat->Bool)},(mF q ks ns).length=ns.length
 | [],_=>rfl
 | k::ks,ns=>by rw[mF,wr,bD]
theorem zhc{ns:List (Nat->Bool)}{k:Nat}(hk:k<ns.length):∃pre post,pre.length=k * 19/\(ns.map (pv 19)).flatten=pre++pv 19 (ns.getD k λ_=>false)++post/\∀r,((ns.set k r).map (pv 19)).flatten=pre++pv 19 r++post:=by
 induction ns generalizing k with
 | nil=>simp at hk
 | cons p ns ih =>
  cases k with
  | zero=>exact⟨[],(ns.map (pv 19)).flatten,rfl,by simp,λr=>by simp⟩
  | succ k =>
   obtain⟨pre,post,h1,h2,h3⟩:=ih (k:=k) (by simpa using hk)
   refine⟨pv 19 p++pre,post,?_,?_,λr=>?_⟩
   ·rw[aU,jE,h1,Hr,Jo]
   ·simp only[aY,List.flatten_cons,h2,bh,List.getD_cons_succ]
   ·simp only[bT,aY,List.flatten_cons,h3,bh]
end
section
def UL(H:Hp)(sz:Nat)(e:aB)(c:V)(i:Option Nat)(xs:List aD):Prop :=
 match i with
 | none=>c=.aG/\xs=[]
 | some j=>∃v,c=.dD j v xs.length/\H.get j=some (.ul v sz xs.flatten e)
structure sF(H H':Hp)(S:Nat->Prop):Prop where
 len:H.az.length<=H'.az.length
 get:∀d,d<H.az.length->¬S d->H'.get d=H.get d
theorem sF.refl{H:Hp}{S:Nat->Prop}:sF H H S:=⟨dI _,λ_ _ _=>rfl⟩
theorem sF.mono{A B:Hp}{S T:Nat->Prop}(h:sF A B S)(hs:∀d,d<A.az.length->S d->T d):sF A B T:=⟨h.len,λd hd hn=>h.get d hd λe=>hn (hs d hd e)⟩
theorem sF.some{A B:Hp}{S:Nat->Prop}(h:sF A B S){d:Nat}{x:aV}(hx:A.get d=some x)(hn:¬S d):B.get d=some x:=(h.get d (kI hx) hn).trans hx
theorem UL.frame{A B:Hp}{sz:Nat}{e:aB}{c:V}{i:Option Nat}{xs:List aD}(h:UL A sz e c i xs)(hg:∀j,i=some j->B.get j=A.get j):UL B sz e c i xs:=by
 cases i with
 | none=>exact h
 | some j=>obtain⟨v,h1,h2⟩:=h;exact⟨v,h1,(hg j rfl).trans h2⟩
theorem UL.lt{H:Hp}{sz:Nat}{e:aB}{c:V}{j:Nat}{xs:List aD}(h:UL H sz e c (some j) xs):j<H.az.length:=by
 obtain⟨v,_,h2⟩:=h;exact kI h2
theorem ja{n0 t:Nat}{es:aN}{H:Hp}{d:Nat}(hd:d<n0):(zW n0 es t H).get d=H.get d:=by
 unfold zW;obtain⟨bs,new⟩:=H;simp only;split
 ·simp only[Hp.get,zg,Ao,hd,aF]
 ·rfl
theorem vX{n0 t:Nat}{es:aN}{H:Hp}(h:n0<=H.az.length):n0<=(zW n0 es t H).az.length:=by
 unfold zW;obtain⟨bs,new⟩:=H;simp only;split
 ·simp only[uf];simp only at h;omega
 ·exact h
theorem xG{n0 t b m:Nat}{es:aN}{H:Hp}(h:(b,m)∈H.bG)(hb:b<n0)(hm:n0<m):∀d,(zW n0 es t H).get d=H.get d:=by
 unfold zW;obtain⟨bs,new⟩:=H;intro d;have hc:¬((Nat.ble t n0 && new.all λe=>Nat.ble n0 e.1 || Nat.ble e.2 n0)=true):=by
  intro hx;simp only[eo,B_] at hx;have:=hx.2 _ h;simp only[tn] at this;rcases this with h1|h1<;>have:=rJ h1<;>omega
 simp only[hc];rfl
theorem dG{n b:Nat}(h:n * b<=140737488355328)(h':n<=140737488355328):kx n b=true:=by
 simp[kx,Nat.ble_eq,h,h']
def Xj(z:V):Bool:=dz z && z.cells.all λc=>!(locked c)
theorem zjh{P:aQ}{e n:Nat}(h:(qQ P e).map (λz=>(z.cells.length,Xj z))=some (n,true))(hn:n≠0/\n<=16777216):∃z,qQ P e=some z/\(n≠0/\n<=16777216/\z.cells.length=n/\dz z=true)/\z.cells.all (λc=>!(locked c))=true:=by
 cases hz:qQ P e with
 | none=>rw[hz] at h;cases h
 | some z =>
  rw[hz] at h;simp only[aS,br,cg,Xj,eo] at h;exact⟨z,rfl,⟨hn.1,hn.2,h.1,h.2.1⟩,h.2.2⟩
theorem wh{lk:aN}{b n off:Nat}{cs:aD}(h:cs.all (λc=>!(locked c))=true)(hl:off+n<=cs.length):wv lk b off n (cs.drop off)=true :=
 yp λi hi=>⟨cs[off+i]'(by omega),gh (by omega),by
  have:=B_.1 h _ (List.getElem_mem (show off+i<cs.length by omega))
  simpa using this⟩
structure mN(P:aQ)(t e n bytes:Nat):Prop where
 u:P.underlying t=some (.slice e)
 s:z4 P e=some n
 z:(qQ P e).map (λz=>(z.cells.length,Xj z))=some (n,true)
 n0:n≠0/\n<=16777216
 i:((P.info? e).bind λi=>i.zero.map λz=>(z.cells.size,i.bytes))=some (n,bytes)
 a:qD P t=some false
 st:z4 P t=some 1
theorem mN.BQ{P:aQ}{t e n Cy:Nat}(h:mN P t e n Cy){v:V}(h5:dz v=true)(h6:v.cells.length=n):PL P t (some v)=some (.sl n [v] (.yes e)):=by
 obtain⟨z,h1,h2,_⟩:=zjh h.z h.n0;exact znF h.u h.s h1 h2 h5 h6
theorem mN.app{P:aQ}{t e n Cy:Nat}(h:mN P t e n Cy){env:aD}{H:Hp}{lk:aN}{df:bO}{ys:aD}{o:ug}{c:V}{i:Option Nat}{xs:List aD}(hy:ys≠[])(hu:UL H n e c i xs)(fM:kx (xs.length+ys.length) Cy=true) :
  PK P t env H lk df (some (.sl n ys o)) (some c)=match i with
   | none=>some (.val (.dD H.az.length 0 ys.length),⟨env,H.push (.ul 0 n (bW ys) e),lk,df⟩)
   | some j=>match c with
    | .dD _ v _=>some (.val (.dD j (v+1) (xs.length+ys.length)),⟨env,(H.set j (.ul (v+1) n (xs.flatten++bW ys) e)).bQ j (.bq ys),lk,df⟩)
    | _=>none:=by
 have hi:=h.i;cases uX:P.info? e with
 | none=>rw[uX] at hi;cases hi
 | some ti =>
  rw[uX] at hi;simp only[aT] at hi;cases hz:ti.zero with
  | none=>rw[hz] at hi;cases hi
  | some z =>
   rw[hz] at hi;simp only[aS,br,cg] at hi;rw[znD h.u h.s uX hz hi.1 h.n0.1,hi.2];cases i with
   | none =>
    obtain⟨rfl,rfl⟩:=hu;cases ys with
    | nil=>exact absurd rfl hy
    | cons y ys=>simp at fM;simp[fM]
   | some j =>
    obtain⟨v,rfl,hj⟩:=hu;simp[hj,fM]
theorem Xk{P:aQ}{t:aB}{env:aD}{H:Hp}{lk:aN}{df:bO}{b off:Nat}{cs:aD}{ty:aB}{c:V}(ha:qD P t=some false)(hb:H.get b=some (.cells cs ty))(hn:nth cs off=some c)(hc:c=.aG\/∃j v l,c=.dD j v l) :
  vW P t env H lk df (some (.ptr b off))=some (.val c,⟨env,H,lk,df⟩):=by
 rcases hc with rfl|⟨j,v,l,rfl⟩<;>simp[vW,ha,hb,hn]
theorem wc{H:Hp}{x:aV}:(H.push x).get H.az.length=some x:=by rw[wX,Il];simp
theorem TI{bs:List aV}{es:aN}{x:aV}:(Hp.push ⟨bs,es⟩ x).get bs.length=some x:=wc (H:=⟨bs,es⟩)
theorem qY{P:aQ}{t:aB}{H:Hp}{gl:Nat->Nat->bX}{b n off:Nat}{cs:aD}{ty:aB}(ha:qD P t=some true)(hs:z4 P t=some n)(hb:H.get b=some (.cells cs ty))(hl:off+n<=cs.length):zk P H gl t (.ptr b off)=some (.agg ((cs.drop off).take n)):=by
 rw[jW,hb,jv,qy,ha,hs,NL,if_pos hl]
theorem zq{P:aQ}{t:aB}{H:Hp}{gl:Nat->Nat->bX}{b off:Nat}{cs:aD}{ty:aB}{v:V}(ha:qD P t=some false)(hb:H.get b=some (.cells cs ty))(hn:nth cs off=some v):zk P H gl t (.ptr b off)=some v:=by
 rw[jW,hb,jv,qy,ha,Tn,hn]
theorem zy{P:aQ}{t n:aB}{H:Hp}{lk:aN}{df:bO}{b off:Nat}{v:V}{env:aD}{cs:aD}{ty:aB}(hs:z4 P t=some n)(hb:H.get b=some (.cells cs ty))(h1:dz v=true)(h2:v.laid.length=n)(h3:off+n<=cs.length)(h4:wv lk b off n (cs.drop off)=true) :
  qr P t H lk df (some (v,env)) (some (.ptr b off))=some (.skip,⟨env,(H.set b (.cells (Vm.storeCells cs off v.laid) ty)).bQ b v,lk,df⟩):=by
 simp only[qr,hs,zeR hb h1 h2 h3 h4]
theorem qH{env:aD}{t j v l:Nat}:qK env t (some (.dD j v l))=some (.dD j v l,env):=rfl
theorem q8{j v l:Nat}:aW (.dD j v l)=.dD j v l:=rfl
theorem zhd{H:Hp}{b:Nat}{v:V}(h:b+1<v.top):(b,v.top)∈(H.bQ b v).bG:=by
 unfold Hp.bQ;rw[if_neg (by omega)]
 simp
theorem TJ{P:aQ}{t e n b u len:Nat}{i:Int}(hu:P.underlying t=some (.slice e))(hs:z4 P e=some n)(h:0<=i/\i<len):zt P t (.dD b u len) i=some (.gj b u (i.toNat * n)):=by
 simp[zt,hu,hs,h]
theorem zhe{P:aQ}{t:aB}{H:Hp}{gl:Nat->Nat->bX}{b u k n sz:Nat}{cs:aD}{e:aB}(ha:qD P t=some true)(hs:z4 P t=some n)(hb:H.get b=some (.ul u sz cs e))(hl:k+n<=cs.length):zk P H gl t (.gj b u k)=some (.agg ((cs.drop k).take n)):=by
 have:Nat.beq u u=true:=iN u;simp[zk,hb,qy,ha,hs,NL,hl]
theorem vq{n:Nat}:∀{xs:List aD},(∀y∈xs,y.length=n)->xs.flatten.length=xs.length * n
 | [],_=>by simp
 | x::xs,h=>by
  rw[List.flatten_cons,aU,h x (eH ..),vq λy hy=>h y (dR _ hy),aZ,Hr,Jo]
theorem mN.zero{P:aQ}{t e n Cy:Nat}(h:mN P t e n Cy):∃z,qQ P e=some z/\dz z=true/\z.cells.length=n/\z.cells.all (λc=>!(locked c))=true:=by
 obtain⟨z,h1,h2,h3⟩:=zjh h.z h.n0;exact⟨z,h1,h2.2.2.2,h2.2.2.1,h3⟩
theorem xo{P:aQ}{H:Hp}{t e b u n:Nat}(hu:P.underlying t=some (.slice e)):jb P H t (.dD b u n)=some (n:Int):=by simp[jb,hu]
theorem zeT{P:aQ}{H:Hp}{t e:Nat}(hu:P.underlying t=some (.slice e)):jb P H t .aG=some 0:=by simp[jb,hu]
theorem jR{a b c:Nat}:aW (.gj a b c)=.gj a b c:=rfl
theorem Xl{i:Nat}:∀{xs ys:aD}{k:Nat},(Vm.storeCells ys k xs)[i]?=if k<=i/\i<k+xs.length/\i<ys.length then xs[i - k]? else ys[i]?
 | [],ys,k=>by simp[Vm.storeCells];omega
 | x::xs,ys,k=>by
  simp only[Vm.storeCells,Xl (xs:=xs),bD,List.getElem?_set',aZ]
  by_cases h1:i=k
  ·subst h1;have:¬(i+1<=i/\i<i+1+xs.length/\i<ys.length):=by omega
   rw[if_neg this,if_pos rfl]
   by_cases h2:i<ys.length
   ·rw[if_pos (by omega),gh h2];simp
   ·rw[if_neg (by omega),uc (by omega)];simp
  ·rw[if_neg (Ne.symm h1)]
   by_cases h2:k+1<=i/\i<k+1+xs.length/\i<ys.length
   ·rw[if_pos h2,if_pos (by omega),show i - k=(i - (k+1))+1 by omega,List.getElem?_cons_succ]
   ·rw[if_neg h2,if_neg (by omega)]
theorem wO{xs ys:aD}(h:ys.length=xs.length):Vm.storeCells ys 0 xs=xs:=by
 apply ER;intro i;rw[Xl]
 by_cases hi:i<xs.length
 ·rw[if_pos (by omega)];simp
 ·rw[if_neg (by omega),uc (by rw[h];omega),uc (by omega)]
theorem qB{H:Hp}{b c:Nat}{x:aV}(h:c≠b):(H.set b x).get c=H.get c:=by
 rw[jx];cases H.get c<;>simp[h]
theorem wH{H:Hp}{b:Nat}{x y:aV}(h:H.get b=some y):(H.set b x).get b=some x:=by
 rw[jx,h];simp
theorem jG{H:Hp}{d:Nat}{x:aV}(h:d<H.az.length):(H.push x).get d=H.get d:=by
 have:H.get d=some (H.az[d]'h):=by simp[Hp.get,zg,h]
 rw[zM this,this]
theorem ki{H:Hp}{b c:Nat}{x:aV}{v:V}(h:c≠b):((H.set b x).bQ b v).get c=H.get c:=by rw[bU,qB h]
theorem gy{H:Hp}{b:Nat}{x y:aV}{v:V}(h:H.get b=some y):((H.set b x).bQ b v).get b=some x:=by rw[bU,wH h]
theorem TK{H:Hp}{b:Nat}{x:aV}{v:V}:((H.set b x).bQ b v).az.length=H.az.length:=by rw[xk,wm]
theorem za{l:aD}{i j:Nat}{v:V}:nth (l.set i v) j=if i=j then (if i<l.length then some v else none) else nth l j:=by
 rw[zg,zg,s4]
def y8(p q:Nat->Bool)(i:Nat):Nat->Bool:=λn=>p n || (decide (n / 64<i) && q n)
theorem zhf{p q:Nat->Bool}{i:Nat}:kK (y8 p q i) i=kK p i:=by
 refine(yG kZ λj hj=>?_).symm;rw[wN hj];have:¬((64 * i+j) / 64<i):=by omega
 simp[y8,this]
theorem zhg{p q:Nat->Bool}{m i:Nat}:(pv m (y8 p q i)).set i (.int .u64 ((kK p i ||| kK q i:Nat):Int))=pv m (y8 p q (i+1)):=by
 apply ER;intro k;rw[List.getElem?_set']
 by_cases hk:k<m
 ·rw[yH hk,yH hk]
  by_cases e:i=k
  ·subst e;simp only[aF,aS,Function.const,Option.map_eq_map]
   congr 3
   refine yG (Jm kZ kZ) λj hj=>?_;rw[Ar,wN hj,wN hj];have:(64 * i+j) / 64<i+1:=by omega
   simp[y8,this]
  ·rw[if_neg e]
   congr 3
   refine(yG kZ λj hj=>?_);rw[wN hj];have:((64 * k+j) / 64<i) ↔ ((64 * k+j) / 64<i+1):=by omega
   simp[y8,this]
 ·have h1:(pv m (y8 p q i))[k]?=none:=by simp[pv];omega
  have h2:(pv m (y8 p q (i+1)))[k]?=none:=by simp[pv];omega
  rw[h1,h2];simp
theorem zji{p q:Nat->Bool}{m:Nat}:pv m (y8 p q m)=pv m (jB p q):=by
 apply List.map_congr_left;intro i hi;have hi:=Ca.1 hi
 congr 2
 refine yG kZ λj hj=>?_;rw[wN hj];have:(64 * i+j) / 64<m:=by omega
 simp[y8,jB,this]
theorem zhh{p q:Nat->Bool}{m:Nat}:pv m (y8 p q 0)=pv m p:=by
 apply List.map_congr_left;intro i hi
 congr 2
 refine yG kZ λj hj=>?_;rw[wN hj];simp[y8]
theorem jZ{α:Type}{l:List α}{d:Nat}{v:α}(h:nth l d=some v):l.set d v=l:=by
 rw[zg] at h;apply ER;intro t;rw[List.getElem?_set'];split
 next e=>subst e;rw[h];rfl
 ·rfl
theorem zeU{P:aQ}{t:aB}{H:Hp}{gl:Nat->Nat->bX}{b u k sz:Nat}{cs:aD}{e:aB}{v:V}(ha:qD P t=some false)(hb:H.get b=some (.ul u sz cs e))(hn:nth cs k=some v):zk P H gl t (.gj b u k)=some v:=by
 have:Nat.beq u u=true:=iN u;simp[zk,hb,qy,ha,Tn,hn]
theorem zks{P:aQ}{t n:aB}{H:Hp}{lk:aN}{df:bO}{b k u sz:Nat}{v:V}{env:aD}{cs:aD}{e:aB}(hs:z4 P t=some n)(hb:H.get b=some (.ul u sz cs e))(hv:aW v=v)(h1:dz v=true)(h2:v.cells.length=n)(h3:k+n<=cs.length) :
  qr P t H lk df (some (v,env)) (some (.gj b u k))=some (.skip,⟨env,(H.set b (.ul u sz (Vm.storeCells cs k v.cells) e)).bQ b v,lk,df⟩):=by
 simp only[qr,hs,hb,hv,h1,h2,h3,and_self,aF]
def zl(n:Nat)(e:aB)(xs:aD):V:=match xs with|[]=>.aG|xs=>.sl n xs (.yes e)
theorem vY{env:aD}{t n:Nat}{e:aB}{xs:aD}(h:nth env t=some (zl n e xs)):take env (.tmp t)=some (zl n e xs,env.set t (aW (zl n e xs))):=by
 rw[zL,h];cases xs with
 | nil =>
  have h':nth env t=some .aG:=h;simp only[zl,jg,di];rw[jZ h']
 | cons x xs=>rfl
theorem jC{P:aQ}{t e n Cy:Nat}(h:mN P t e n Cy){H:Hp}{xs ys:aD}{o:ug}(hy:ys≠[])(fM:kx (xs.length+ys.length) Cy=true):j9 P H t (zl n e xs) (.sl n ys o)=some (zl n e (xs++ys)):=by
 have hi:=h.i;cases uX:P.info? e with
 | none=>rw[uX] at hi;cases hi
 | some ti =>
  rw[uX] at hi;simp only[aT] at hi;cases hz:ti.zero with
  | none=>rw[hz] at hi;cases hi
  | some z =>
   rw[hz] at hi;simp only[aS,br,cg] at hi;have AU:Nat.beq n 0=false:=by
    have:=h.n0.1;cases n with
    | zero=>exact absurd rfl this
    | succ n=>rfl
   obtain⟨y,ys,rfl⟩:∃y l,ys=y::l:=by
    cases ys with
    | nil=>exact absurd rfl hy
    | cons y l=>exact⟨y,l,rfl⟩
   simp only[j9,h.u,h.s,uX,hz,hi.1,ww,Option.bind_eq_bind,aT,iN,mh,fP,bw,aF];cases xs with
   | nil =>
    simp only[zl,bg];rw[hi.2,AU];simp only[List.length_nil,nO,aZ] at fM;simp[fM]
   | cons x xs =>
    simp only[zl,a_];rw[hi.2,AU];simp only[aZ] at fM;simp[fM]
theorem Xm{P:aQ}{t:aB}{x y:aX}{a b:Nat}(h:a * b<2 ^ 60):qP P .mul t x y (some (.int .i64 a)) (some (.int .i64 b))=some (.int .i64 ((a * b:Nat):Int)):=by
 rw[znC,<- Int.natCast_mul,kS (by omega) (by omega)]
theorem xp{P:aQ}{t:aB}{x y:aX}{a b:Nat}(h:a+b<2 ^ 60):qP P .add t x y (some (.int .i64 a)) (some (.int .i64 b))=some (.int .i64 ((a+b:Nat):Int)):=by
 rw[kg,<- Int.natCast_add,kS (by omega) (by omega)]
theorem Xn{P:aQ}{t:aB}{x y:aX}{a b:Nat}(h:a<2 ^ 60)(hb:b<=a):qP P .sub t x y (some (.int .i64 a)) (some (.int .i64 b))=some (.int .i64 ((a - b:Nat):Int)):=by
 rw[jX,<- Int.natCast_sub hb,kS (by omega) (by omega)]
theorem TL{P:aQ}{H:Hp}{t e n:Nat}{xs:aD}(hu:P.underlying t=some (.slice e)):jb P H t (aW (zl n e xs))=some (xs.length:Int):=by
 cases xs with
 | nil=>simp[zl,aW,jb,hu]
 | cons x xs=>simp[zl,aW,jb,hu]
theorem zkt{P:aQ}{t e n k:Nat}{xs:aD}{x:V}(hu:P.underlying t=some (.slice e))(hs:z4 P e=some n)(hx:nth xs k=some x):zt P t (aW (zl n e xs)) (k:Int)=some (.vp x.cells):=by
 cases xs with
 | nil=>cases hx
 | cons y xs =>
  have:¬((k:Int)<0):=by omega
  simp[zl,aW,zt,hu,hs,this,hx]
theorem zlP{P:aQ}{t:aB}{H:Hp}{gl:Nat->Nat->bX}{x:V}{cs:aD}(ha:qD P t=some false):zk P H gl t (.vp (x::cs))=some x:=by
 simp[zk,qy,ha,Tn,nth]
theorem qT{n:Nat}{e:aB}{xs:aD}:aW (aW (zl n e xs))=aW (zl n e xs):=by cases xs<;>rfl
def oh(n:Nat)(xs:aD):V:=match xs with|[]=>.aG|xs=>.sl n xs .lock
def kD(b off:Nat)(xs:aD):aN:=match xs with|[]=>[]|_=>[(b,off)]
theorem TM{P:aQ}{t:aB}{env:aD}{H:Hp}{df:bO}{b off n:Nat}{e:aB}{xs cs:aD}{ty:aB}(ha:qD P t=some false)(hb:H.get b=some (.cells cs ty))(hn:nth cs off=some (zl n e xs)) :
  vW P t env H [] df (some (.ptr b off))=some (.val (zl n e xs),⟨env,H.set b (.cells (cs.set off (oh n xs)) ty),kD b off xs,df⟩):=by
 cases xs with
 | nil =>
  simp only[vW,ha,hb,hn,zl,oh,kD];have h1:cs.set off .aG=cs:=jZ hn;have h2:H.set b (.cells cs ty)=H:=by
   obtain⟨bs,es⟩:=H;simp only[Hp.set];rw[jZ hb]
  rw[h1,h2]
 | cons x xs =>
  simp only[vW,ha,hb,hn,zl,oh,kD];rw[jT (by simp[V.top])]
theorem PW{b off n:Nat}{xs cs:aD}(h:off<cs.length):wv (kD b off xs) b off 1 ((cs.set off (oh n xs)).drop off)=true:=by
 have h2:(cs.set off (oh n xs)).drop off=oh n xs::cs.drop (off+1):=by
  rw[EL (by simpa using h)]
  simp[List.drop_set]
 rw[h2];cases xs<;>simp[wv,oh,kD,locked]
theorem znM{b off d:Nat}{xs:aD}(h:d≠b):(kD b off xs).all (λp=>!(Nat.beq p.1 d))=true:=by
 cases xs with
 | nil=>rfl
 | cons x xs =>
  have:Nat.beq b d=false:=by
   cases hx:Nat.beq b d with
   | false=>rfl
   | true=>exact absurd (eU hx).symm h
  simp[kD,this]
theorem PX{n:Nat}{e:aB}{xs:aD}:dz (zl n e xs)=true:=by cases xs<;>rfl
theorem vt{n:Nat}{e:aB}{xs:aD}:(zl n e xs).laid=[zl n e xs]:=by cases xs<;>rfl
theorem qc{P:aQ}{t:aB}{x y:aX}{k:Nat}(h:k<2 ^ 60):qP P .add t x y (some (.int .i64 k)) (some (.int .i64 1))=some (.int .i64 ((k+1:Nat):Int)):=by
 rw[kg,kS (by omega) (by omega)];simp
def zqK(env:aD)(t n:Nat)(e:aB)(xs:aD):Option (V×aD):=qK env t (some (zl n e xs))
open Classical in
theorem jL{env:aD}{t n:Nat}{e:aB}{xs:aD}:qK env t (some (zl n e xs))=if nth env t=some (zl n e xs) then some (zl n e xs,env.set t (aW (zl n e xs))) else zqK env t n e xs:=by
 split
 next h=>rw[<- h,<- zL];exact vY h
 ·rfl
theorem ji{env:aD}{t n:Nat}{e:aB}{xs:aD}:qK env t (some (aW (zl n e xs)))=some (aW (zl n e xs),env):=by cases xs<;>rfl
def TN(want:Bool)(env:aD):Option fH->Option Bool
 | some (some d)=>Ik want (nth env d)
 | _=>none
theorem qg{l:List Oper}{dst:fH}{op:Op}{type:aB}{pos:String}{after:Array Edge}{j:Nat}{want:Bool}{env:aD}:zX l.toArray ⟨dst,op,type,pos,after,some (j,want)⟩ env=TN want env ((nth l j).map (·.dst)):=by
 have hj:l.toArray[j]?=nth l j:=by rw[zg,List.getElem?_toArray]
 cases hd:nth l j with
 | none =>
  unfold zX;simp only[hj,hd];rfl
 | some o =>
  cases ho:o.dst with
  | none =>
   unfold zX;simp only[hj,hd,aT,ho];simp only[aS,ho,TN]
  | some d =>
   rw[zki (d:=d) (by rw[hj,hd];exact ho)]
   simp only[aS,ho,TN]
theorem jn{want:Bool}{env:aD}{d:Tmp}:TN want env (some (some d))=Ik want (nth env d):=rfl
theorem cw:Ik true (some (.bool true))=some true:=rfl
theorem cA:Ik true (some (.bool false))=some false:=rfl
theorem cB:Ik false (some (.bool true))=some false:=rfl
theorem cC:Ik false (some (.bool false))=some true:=rfl
theorem wI{a b:Prop}:GO a b (some true) ↔ a:=Iff.rfl
theorem wJ{a b:Prop}:GO a b (some false) ↔ b:=Iff.rfl
theorem kE{a b:bX}:WV a b (some (.bool true))=a:=rfl
theorem kF{a b:bX}:WV a b (some (.bool false))=b:=rfl
theorem zc{B:List aV}{x:aV}{es:aN}:Hp.push ⟨B,es⟩ x=⟨B++[x],es⟩:=rfl
theorem zb{B ls:List aV}{x:aV}{es:aN}:Hp.push ⟨B++ls,es⟩ x=⟨B++(ls++[x]),es⟩:=by simp[Hp.push]
theorem zhi{env:aD}{t b o l c:Nat}:qK env t (some (.sr b o l c))=some (.sr b o l c,env):=rfl
end
end Go.Vm
namespace Go.Vm.Sx
open Go Go.Vm
def vL:V->aD|.sl _ xs _=>xs|_=>[]
section
def dj(x y:Int):Bool:=decide (x<y)
def nD(x y:Int):Bool:=decide (x<=y)
theorem JQ{x y:Int}(h:x<y):dj x y=true:=decide_eq_true h
theorem Xo{x y:Int}(h:y<=x):dj x y=false:=decide_eq_false (by omega)
theorem Fl{x y:Int}:dj x y=true ↔ x<y:=decide_eq_true_iff
end
section
def lv(sz:Nat)(nl:Bool)(l:aD):V:=if nl && l.isEmpty then .aG else .sl sz l .no
theorem cH(sz:Nat)(nl:Bool)(l:aD):lv sz nl l=.sl sz l .no\/(l=[]/\lv sz nl l=.aG):=by
 unfold lv;split
 next h=>rw[eo] at h;exact .inr ⟨by simpa using h.2,rfl⟩
 ·exact .inl rfl
theorem PY{sz:Nat}{nl:Bool}{l:aD}:aW (lv sz nl l)=lv sz nl l:=by
 rcases cH sz nl l with h|⟨_,h⟩<;>rw[h]<;>rfl
theorem JR{sz:Nat}{nl:Bool}{l:aD}:(lv sz nl l).top=aI l:=by
 rcases cH sz nl l with h|⟨hl,h⟩<;>rw[h]
 ·rfl
 ·rw[hl];rfl
theorem zqc(sz:Nat)(nl:Bool)(l:aD):vL (lv sz nl l)=l:=by
 rcases cH sz nl l with h|⟨h0,h⟩<;>rw[h]
 ·simp[vL]
 ·rw[h0];simp[vL]
theorem xH{x:Int}(h1:-9223372036854775808<=x)(h2:x<=9223372036854775807):IntKind.i64.wrap x=x:=by
 simp only[IntKind.wrap,IntKind.bits,IntKind.signed];simp;omega
def wP(ok:Nat->Bool):Nat->Bool
 | 0=>true
 | n+1=>wP ok n && ok n
theorem cL{ok:Nat->Bool}:∀{n:Nat},wP ok n=true ↔ ∀i,i<n->ok i=true
 | 0=>by simp[wP]
 | n+1=>by
  rw[wP,eo,cL];refine⟨λ⟨h1,h2⟩ i hi=>?_,λh=>⟨λi hi=>h i (by omega),h n (by omega)⟩⟩
  rcases eX i n with h|h
  ·exact h1 i h
  ·have:i=n:=by omega
   subst this;exact h2
end
end Go.Vm.Sx
namespace Go.Vm
open Go
theorem aJ{a b:Prop}(x:a)(y:b):a/\b:=⟨x,y⟩
theorem BA:type_of% (aJ @qw (aJ @aH (aJ @jY (aJ @bk (aJ @zh (aJ @bz (aJ @qC (aJ @zw (aJ @zK (aJ @jy (aJ @jr (aJ @qu (aJ @jz (aJ @jq (aJ @wB (aJ @qO (aJ @zU (aJ @zV (aJ @kL (aJ @kW (aJ @kp (aJ @z6 (aJ @zG (aJ @zA (aJ @zT (aJ @kA (aJ @kf (aJ @jP (aJ @ne_eq.{1} (aJ @not_false_eq_true (aJ @av.eq_1 (aJ @av.eq_2 (aJ @qp (aJ @ak.eq_1 (aJ @ak.eq_2 (aJ @ak.eq_3 (aJ @ak.eq_4 (aJ @zL (aJ @qF (aJ @aj.eq_1 (aJ @aj.eq_2 (aJ @aj.eq_3 (aJ @aj.eq_4 (aJ @aj.eq_5 (aJ @aj.eq_6 (aJ @aj.eq_7 (aJ @aj.eq_8 (aJ @aj.eq_9 (aJ @aj.eq_10 (aJ @aj.eq_11 (aJ @aj.eq_12 (aJ @qq (aJ @jo (aJ @qV (aJ @jI (aJ @qH (aJ @jg (aJ @ko (aJ @jL (aJ @ji (aJ @zr (aJ @z9 (aJ @aL (aJ @bu (aJ @aq.eq_1 (aJ @aq.eq_2 (aJ @zR (aJ @qR (aJ @kN (aJ @qX (aJ @qk (aJ @q8 (aJ @jR (aJ @wV (aJ @di (aJ @kY (aJ @qT (aJ @Option.bind_some.{0,0} (aJ @Option.map_some.{0,0} (aJ @aa.eq_1 (aJ @aa.eq_2 (aJ @aa.eq_3 (aJ @aa.eq_4 (aJ @aa.eq_5 (aJ @aa.eq_6 (aJ @aa.eq_7 (aJ @aa.eq_8 (aJ @zS (aJ @ah.eq_1 (aJ @ah.eq_2 (aJ @ah.eq_3 (aJ @ah.eq_4 (aJ @ah.eq_5 (aJ @aE.eq_1 (aJ @aE.eq_2 (aJ @qM (aJ @aA.eq_1 (aJ @aA.eq_2 (aJ @List.map_cons.{0,0} (aJ @List.map_nil.{0,0} (aJ @true_and (aJ @List.length_append.{0} (aJ @List.length_cons.{0} (aJ @List.length_nil.{0} (aJ @Nat.zero_add (aJ @Nat.add_zero (aJ @Nat.add_assoc (aJ @List.append_assoc.{0} (aJ @List.cons_append.{0} (aJ @List.nil_append.{0} (aJ @qS (aJ @qo (aJ @au.eq_1 (aJ @aF.{1} (aJ @kE (@kF)))))))))))))))))))))))))))))))))))))))))))))))))))))))))))))))))))))))))))))))))))))))))))))))))))))))))))))))))))):=⟨@qw,@aH,@jY,@bk,@zh,@bz,@qC,@zw,@zK,@jy,@jr,@qu,@jz,@jq,@wB,@qO,@zU,@zV,@kL,@kW,@kp,@z6,@zG,@zA,@zT,@kA,@kf,@jP,@ne_eq.{1},@not_false_eq_true,@av.eq_1,@av.eq_2,@qp,@ak.eq_1,@ak.eq_2,@ak.eq_3,@ak.eq_4,@zL,@qF,@aj.eq_1,@aj.eq_2,@aj.eq_3,@aj.eq_4,@aj.eq_5,@aj.eq_6,@aj.eq_7,@aj.eq_8,@aj.eq_9,@aj.eq_10,@aj.eq_11,@aj.eq_12,@qq,@jo,@qV,@jI,@qH,@jg,@ko,@jL,@ji,@zr,@z9,@aL,@bu,@aq.eq_1,@aq.eq_2,@zR,@qR,@kN,@qX,@qk,@q8,@jR,@wV,@di,@kY,@qT,@Option.bind_some.{0,0},@Option.map_some.{0,0},@aa.eq_1,@aa.eq_2,@aa.eq_3,@aa.eq_4,@aa.eq_5,@aa.eq_6,@aa.eq_7,@aa.eq_8,@zS,@ah.eq_1,@ah.eq_2,@ah.eq_3,@ah.eq_4,@ah.eq_5,@aE.eq_1,@aE.eq_2,@qM,@aA.eq_1,@aA.eq_2,@List.map_cons.{0,0},@List.map_nil.{0,0},@true_and,@List.length_append.{0},@List.length_cons.{0},@List.length_nil.{0},@Nat.zero_add,@Nat.add_zero,@Nat.add_assoc,@List.append_assoc.{0},@List.cons_append.{0},@List.nil_append.{0},@qS,@qo,@au.eq_1,@aF.{1},@kE,@kF⟩
section
section
variable{cx:Cx}{n:Nat}{Q:Ex->St->Prop}{all:Array Oper}{takes:bY}{os:List Oper}{k:List It}{env:aD}{H:Hp}{lk:aN}{df:bO}{dst:fH}{op:Op}{type:aB}{pos:String}{after:Array Edge}{g:Nat×Bool}
theorem osT(hw:zX all ⟨dst,op,type,pos,after,some g⟩ env=some true):go cx n Q (.os all takes (⟨dst,op,type,pos,after,some g⟩::os)::k) .normal ⟨env,H,lk,df⟩ ↔ Fh dst (λs=>go cx n Q (.os all takes os::k) .normal s) (go cx n Q k) (cx.op takes ⟨dst,op,type,pos,after,some g⟩ env H lk df):=by
 rw[j4,hw];rfl
theorem osF(hw:zX all ⟨dst,op,type,pos,after,some g⟩ env=some false):go cx n Q (.os all takes (⟨dst,op,type,pos,after,some g⟩::os)::k) .normal ⟨env,H,lk,df⟩ ↔ go cx n Q (.os all takes os::k) .normal ⟨aq env dst (.bq []),H,lk,df⟩:=by
 rw[j4,hw];rfl
theorem onT(hw:zX all ⟨dst,op,type,pos,after,some g⟩ env=some true):go cx n Q (.on all takes (⟨dst,op,type,pos,after,some g⟩::os)::k) .normal ⟨env,H,lk,df⟩ ↔ (au cx ⟨dst,op,type,pos,after,some g⟩ env lk=true/\Fh dst (λs=>go cx n Q (.on all takes os::k) .normal s) (λ_ _=>False) (cx.op takes ⟨dst,op,type,pos,after,some g⟩ env H lk df)):=by
 rw[j5,hw];rfl
theorem onF(hw:zX all ⟨dst,op,type,pos,after,some g⟩ env=some false):go cx n Q (.on all takes (⟨dst,op,type,pos,after,some g⟩::os)::k) .normal ⟨env,H,lk,df⟩ ↔ go cx n Q (.on all takes os::k) .normal ⟨aq env dst (.bq []),H,lk,df⟩:=by
 rw[j5,hw];rfl
end
theorem zjk{w:Bool}{l:aD}:Ik w (some (.bq l))=some false:=rfl
theorem BW:type_of% (And.intro @qw (And.intro @aH (And.intro @jY (And.intro @bk (And.intro @zh (And.intro @bz (And.intro @qC (And.intro @zw (And.intro @zK (And.intro @jy (And.intro @jr (And.intro @qu (And.intro @jz (And.intro @jq (And.intro @wB (And.intro @qO (And.intro @zU (And.intro @zV (And.intro @kL (And.intro @kW (And.intro @kp (And.intro @z6 (And.intro @zG (And.intro @zA (And.intro @zT (And.intro @kA (And.intro @kf (And.intro @jP (And.intro @ne_eq.{1} (And.intro @not_false_eq_true (And.intro @av.eq_1 (And.intro @av.eq_2 (And.intro @qp (And.intro @ak.eq_1 (And.intro @ak.eq_2 (And.intro @ak.eq_3 (And.intro @ak.eq_4 (And.intro @zL (And.intro @qF (And.intro @aj.eq_1 (And.intro @aj.eq_2 (And.intro @aj.eq_3 (And.intro @aj.eq_4 (And.intro @aj.eq_5 (And.intro @aj.eq_6 (And.intro @aj.eq_7 (And.intro @aj.eq_8 (And.intro @aj.eq_9 (And.intro @aj.eq_10 (And.intro @aj.eq_11 (And.intro @aj.eq_12 (And.intro @qq (And.intro @jo (And.intro @qV (And.intro @jI (And.intro @qH (And.intro @jg (And.intro @ko (And.intro @jL (And.intro @ji (And.intro @zr (And.intro @z9 (And.intro @aL (And.intro @bu (And.intro @aq.eq_1 (And.intro @aq.eq_2 (And.intro @zR (And.intro @qR (And.intro @kN (And.intro @qX (And.intro @qk (And.intro @q8 (And.intro @jR (And.intro @wV (And.intro @di (And.intro @kY (And.intro @qT (And.intro @Option.bind_some.{0,0} (And.intro @Option.map_some.{0,0} (And.intro @aa.eq_1 (And.intro @aa.eq_2 (And.intro @aa.eq_3 (And.intro @aa.eq_4 (And.intro @aa.eq_5 (And.intro @aa.eq_6 (And.intro @aa.eq_7 (And.intro @aa.eq_8 (And.intro @zS (And.intro @ah.eq_1 (And.intro @ah.eq_2 (And.intro @ah.eq_3 (And.intro @ah.eq_4 (And.intro @ah.eq_5 (And.intro @aE.eq_1 (And.intro @aE.eq_2 (And.intro @qM (And.intro @aA.eq_1 (And.intro @aA.eq_2 (And.intro @List.map_cons.{0,0} (And.intro @List.map_nil.{0,0} (And.intro @true_and (And.intro @List.length_append.{0} (And.intro @List.length_cons.{0} (And.intro @List.length_nil.{0} (And.intro @Nat.zero_add (And.intro @Nat.add_zero (And.intro @Nat.add_assoc (And.intro @List.append_assoc.{0} (And.intro @List.cons_append.{0} (And.intro @List.nil_append.{0} (And.intro @qS (And.intro @au.eq_1 (And.intro @aF.{1} (And.intro @kE (And.intro @kF (And.intro @zc (And.intro @zb (And.intro @zd (And.intro @ze (And.intro @List.set_cons_zero.{0} (And.intro @List.set_cons_succ.{0} (And.intro @za (And.intro @List.length_set.{0} (And.intro @bw.{1} (And.intro @Bool.false_eq_true (And.intro @osT (And.intro @onT (And.intro @qg (And.intro @jn (And.intro @cw (And.intro @cA (And.intro @cB (And.intro @cC (And.intro @osF (And.intro @onF (And.intro @Bool.not_false (And.intro @Bool.not_true (And.intro @ql (And.intro @zN (And.intro @we (And.intro @go_ret (And.intro @wk (And.intro @zD (And.intro @zp (And.intro @zjk (And.intro @jA (And.intro @l6 (And.intro @bJ (And.intro @aM (And.intro @Nat.beq_refl (And.intro @gx (And.intro @kX (And.intro @qU (And.intro @w4 (And.intro @NM (And.intro @Tp (And.intro @wM (And.intro @PJ (And.intro @decide_true (And.intro @decide_false (And.intro @zjb @zjc))))))))))))))))))))))))))))))))))))))))))))))))))))))))))))))))))))))))))))))))))))))))))))))))))))))))))))))))))))))))))))))))))))))))))))))))))))))))))))))))):=(And.intro @qw (And.intro @aH (And.intro @jY (And.intro @bk (And.intro @zh (And.intro @bz (And.intro @qC (And.intro @zw (And.intro @zK (And.intro @jy (And.intro @jr (And.intro @qu (And.intro @jz (And.intro @jq (And.intro @wB (And.intro @qO (And.intro @zU (And.intro @zV (And.intro @kL (And.intro @kW (And.intro @kp (And.intro @z6 (And.intro @zG (And.intro @zA (And.intro @zT (And.intro @kA (And.intro @kf (And.intro @jP (And.intro @ne_eq.{1} (And.intro @not_false_eq_true (And.intro @av.eq_1 (And.intro @av.eq_2 (And.intro @qp (And.intro @ak.eq_1 (And.intro @ak.eq_2 (And.intro @ak.eq_3 (And.intro @ak.eq_4 (And.intro @zL (And.intro @qF (And.intro @aj.eq_1 (And.intro @aj.eq_2 (And.intro @aj.eq_3 (And.intro @aj.eq_4 (And.intro @aj.eq_5 (And.intro @aj.eq_6 (And.intro @aj.eq_7 (And.intro @aj.eq_8 (And.intro @aj.eq_9 (And.intro @aj.eq_10 (And.intro @aj.eq_11 (And.intro @aj.eq_12 (And.intro @qq (And.intro @jo (And.intro @qV (And.intro @jI (And.intro @qH (And.intro @jg (And.intro @ko (And.intro @jL (And.intro @ji (And.intro @zr (And.intro @z9 (And.intro @aL (And.intro @bu (And.intro @aq.eq_1 (And.intro @aq.eq_2 (And.intro @zR (And.intro @qR (And.intro @kN (And.intro @qX (And.intro @qk (And.intro @q8 (And.intro @jR (And.intro @wV (And.intro @di (And.intro @kY (And.intro @qT (And.intro @Option.bind_some.{0,0} (And.intro @Option.map_some.{0,0} (And.intro @aa.eq_1 (And.intro @aa.eq_2 (And.intro @aa.eq_3 (And.intro @aa.eq_4 (And.intro @aa.eq_5 (And.intro @aa.eq_6 (And.intro @aa.eq_7 (And.intro @aa.eq_8 (And.intro @zS (And.intro @ah.eq_1 (And.intro @ah.eq_2 (And.intro @ah.eq_3 (And.intro @ah.eq_4 (And.intro @ah.eq_5 (And.intro @aE.eq_1 (And.intro @aE.eq_2 (And.intro @qM (And.intro @aA.eq_1 (And.intro @aA.eq_2 (And.intro @List.map_cons.{0,0} (And.intro @List.map_nil.{0,0} (And.intro @true_and (And.intro @List.length_append.{0} (And.intro @List.length_cons.{0} (And.intro @List.length_nil.{0} (And.intro @Nat.zero_add (And.intro @Nat.add_zero (And.intro @Nat.add_assoc (And.intro @List.append_assoc.{0} (And.intro @List.cons_append.{0} (And.intro @List.nil_append.{0} (And.intro @qS (And.intro @au.eq_1 (And.intro @aF.{1} (And.intro @kE (And.intro @kF (And.intro @zc (And.intro @zb (And.intro @zd (And.intro @ze (And.intro @List.set_cons_zero.{0} (And.intro @List.set_cons_succ.{0} (And.intro @za (And.intro @List.length_set.{0} (And.intro @bw.{1} (And.intro @Bool.false_eq_true (And.intro @osT (And.intro @onT (And.intro @qg (And.intro @jn (And.intro @cw (And.intro @cA (And.intro @cB (And.intro @cC (And.intro @osF (And.intro @onF (And.intro @Bool.not_false (And.intro @Bool.not_true (And.intro @ql (And.intro @zN (And.intro @we (And.intro @go_ret (And.intro @wk (And.intro @zD (And.intro @zp (And.intro @zjk (And.intro @jA (And.intro @l6 (And.intro @bJ (And.intro @aM (And.intro @Nat.beq_refl (And.intro @gx (And.intro @kX (And.intro @qU (And.intro @w4 (And.intro @NM (And.intro @Tp (And.intro @wM (And.intro @PJ (And.intro @decide_true (And.intro @decide_false (And.intro @zjb @zjc)))))))))))))))))))))))))))))))))))))))))))))))))))))))))))))))))))))))))))))))))))))))))))))))))))))))))))))))))))))))))))))))))))))))))))))))))))))))))))))))))
end
section
def oI(p i:Nat):Nat:=p / 2 ^ (8 * i) % 256
theorem vF{p i:Nat}:oI p i<256:=Nat.mod_lt _ (by decide)
theorem wY{p i j:Nat}(h:j<8):(oI p i).testBit j=p.testBit (8 * i+j):=by
 have e:(256:Nat)=2 ^ 8:=rfl;rw[oI,e,Nat.testBit_mod_two_pow,Nat.testBit_div_two_pow,decide_eq_true h,s5,Jo]
theorem PZ{m p i:Nat}(hm:m<256)(h:∀j,j<8->m.testBit j=p.testBit (8 * i+j)):m=oI p i:=by
 apply Nat.eq_of_testBit_eq;intro j
 by_cases hj:j<8
 ·rw[h j hj,wY hj]
 ·have h1:2 ^ 8<=2 ^ j:=Nat.pow_le_pow_right (by decide) (by omega)
  have h2:oI p i<256:=vF;rw[Ni (by omega),Ni (by omega)]
theorem Xp{a b:Nat}(ha:a<256)(hb:b<256):a ||| b<256:=Jm (n:=8) ha hb
theorem zpq{p q i:Nat}:oI p i ||| oI q i=oI (p ||| q) i :=
 PZ (Xp vF vF) λj hj=>by rw[Ar,Ar,wY hj,wY hj]
theorem Xq{k:Nat}(h:k<8):2 ^ k<256:=Hf (n:=8) (by decide) h
theorem znN{p n:Nat}:oI p (n / 8) ||| 2 ^ (n % 8)=oI (p ||| 2 ^ n) (n / 8) :=
 PZ (Xp vF (Xq (Nat.mod_lt _ (by decide)))) λj hj=>by
  rw[Ar,Ar,wY hj,EP,EP]
  congr 1
  rw[ET];simp only[decide_eq_true_eq];omega
theorem zih{p n i:Nat}(h:i≠n / 8):oI (p ||| 2 ^ n) i=oI p i :=
 (PZ vF λj hj=>by
  rw[wY hj,Ar,EP];have:¬(n=8 * i+j):=λe=>h (by omega)
  simp[this]).symm
def pX(m p:Nat):bN:=(List.range m).map (oI p)
def dM(m p:Nat):aD:=(pX m p).map λb=>.int .u8 (b:Nat)
theorem znO{m p:Nat}:(pX m p).length=m:=by simp[pX]
theorem yT{m p:Nat}:(dM m p).length=m:=by simp[dM,znO]
theorem vN{m p i:Nat}(h:i<m):(dM m p)[i]?=some (.int .u8 (oI p i:Nat)):=by simp[dM,pX,h]
theorem Xr{m:Nat}{l:aD}{p:Nat}(hl:l.length=m)(h:∀i,i<m->l[i]?=some (.int .u8 (oI p i:Nat))):l=dM m p:=by
 apply ER;intro i
 by_cases hi:i<m
 ·rw[h i hi,vN hi]
 ·rw[uc (by omega),uc (by rw[yT];omega)]
theorem znP{m p n:Nat}:(dM m p).set (n / 8) (.int .u8 (oI (p ||| 2 ^ n) (n / 8):Nat))=dM m (p ||| 2 ^ n):=by
 refine Xr (by rw[bD,yT]) λi hi=>?_
 rw[List.getElem?_set']
 by_cases e:n / 8=i
 ·subst e;simp[vN hi]
 ·simp[e,vN hi,zih (Ne.symm e)]
theorem zlR{m:Nat}:dM m 0=List.replicate m (.int .u8 0):=by
 refine(Xr (by simp) λi hi=>?_).symm
 simp[oI,hi]
theorem zpr{m p:Nat}:∀b∈pX m p,b<256:=λb hb=>by
 obtain⟨i,_,rfl⟩:=mj.1 hb;exact vF
theorem znQ{m p q:Nat}(hp:p<2 ^ (8 * m))(hq:q<2 ^ (8 * m))(h:pX m p=pX m q):p=q:=by
 apply Nat.eq_of_testBit_eq;intro j
 by_cases hj:j<8 * m
 ·have hi:j / 8<m:=by omega
  have e:(pX m p)[j / 8]?=(pX m q)[j / 8]?:=by rw[h]
  simp only[pX,iY,Hj hi,aS,br] at e;have h1:=wY (p:=p) (i:=j / 8) (j:=j % 8) (Nat.mod_lt _ (by decide))
  have h2:=wY (p:=q) (i:=j / 8) (j:=j % 8) (Nat.mod_lt _ (by decide))
  rw[show 8 * (j / 8)+j % 8=j by omega] at h1 h2
  rw[<- h1,<- h2,e]
 ·have hx:=Nat.pow_le_pow_right (n:=2) (by decide) (show 8 * m<=j by omega)
  rw[Ni (by omega),Ni (by omega)]
theorem Bc:∀{a b:bN},nQ a b=true ↔ a=b
 | [],[]=>by simp[nQ]
 | [],_::_=>by simp[nQ]
 | _::_,[]=>by simp[nQ]
 | x::a,y::b=>by
  simp only[nQ,eo,Bc (a:=a),Aq,Nat.beq_eq]
theorem zjl{m p q:Nat}(hp:p<2 ^ (8 * m))(hq:q<2 ^ (8 * m)):nQ (pX m p) (pX m q)=(p == q):=by
 rw[ET,Bc,beq_iff_eq];exact⟨znQ hp hq,λh=>by rw[h]⟩
def xR(w:Nat):bN:=(List.range 8).filter λj=>w.testBit j
def Be(w:Nat):Nat:=(xR w).headD 8
theorem Cz:∀w:Nat,w<256->w≠0->xR w=Be w::xR (w &&& (w - 1))/\w &&& (w - 1)<w:=by
 have h:(List.range 256).all (λw:Nat=>w == 0 || (xR w == Be w::xR (w &&& (w - 1)) && decide (w &&& (w - 1)<w)))=true:=by decide +kernel
 intro w hw h0;have:=B_.1 h w (Ca.2 hw);simp only[tn,beq_iff_eq,eo,decide_eq_true_eq] at this;rcases this with h|h
 ·exact absurd h h0
 ·exact h
theorem CA:xR 0=[]:=by decide
def wi(m p:Nat):bN:=(List.range (8 * m)).filter λj=>p.testBit j
def NS(p:Nat):Nat->bN
 | 0=>[]
 | i+1=>NS p i++(xR (oI p i)).map (8 * i + ·)
theorem zjm(p:Nat):∀m,NS p m=wi m p
 | 0=>rfl
 | m+1=>by
  have h:List.range (8 * (m+1))=List.range (8 * m)++(List.range 8).map (8 * m + ·):=by
   rw[show 8 * (m+1)=8 * m+8 by omega,List.range_add]
  rw[NS,zjm p m,wi,wi,h,List.filter_append,List.filter_map]
  congr 2
  apply List.filter_congr;intro j hj;have hj:=Ca.1 hj;simp only[Function.comp_apply];rw[wY hj]
variable{P:aQ}{t:aB}{x y:aX}
theorem P0{n:Nat}(h:n<256):IntKind.u8.wrap (n:Int)=n:=by
 simp only[IntKind.wrap,IntKind.bits,IntKind.signed];simp only[EU,fP,bw];omega
theorem xI{n:Nat}(h:n<256):(BitVec.ofInt 8 (n:Int)).toNat=n:=by
 simp[];omega
theorem zjn{a b:Nat}(ha:a<256)(hb:b<256):qP P .or t x y (some (.int .u8 a)) (some (.int .u8 b))=some (.int .u8 ((a ||| b:Nat):Int)):=by
 have h0:((BitVec.ofInt 8 (a:Int) ||| BitVec.ofInt 8 (b:Int)).toNat)=a ||| b:=by
  rw[BitVec.toNat_or,xI ha,xI hb]
 have h:((BitVec.ofInt IntKind.u8.bits (a:Int) ||| BitVec.ofInt IntKind.u8.bits (b:Int)).toNat)=a ||| b:=h0
 simp only[qP,jt,w7,j3,aF];rw[h,P0 (Xp ha hb)]
theorem zlS{a b:Nat}(ha:a<256)(hb:b<256):qP P .and t x y (some (.int .u8 a)) (some (.int .u8 b))=some (.int .u8 ((a &&& b:Nat):Int)):=by
 have h0:((BitVec.ofInt 8 (a:Int) &&& BitVec.ofInt 8 (b:Int)).toNat)=a &&& b:=by
  rw[BitVec.toNat_and,xI ha,xI hb]
 have h:((BitVec.ofInt IntKind.u8.bits (a:Int) &&& BitVec.ofInt IntKind.u8.bits (b:Int)).toNat)=a &&& b:=h0;simp only[qP,jt,w7,j3,aF];rw[h,P0 (KL Nat.and_le_left ha)]
theorem zlT{w:Nat}(h0:w≠0)(h:w<256):qP P .sub t x y (some (.int .u8 w)) (some (.int .u8 1))=some (.int .u8 ((w - 1:Nat):Int)):=by
 rw[jX]
 congr 2
 simp only[IntKind.wrap,IntKind.bits,IntKind.signed,EU,fP,bw];omega
theorem zhj{k:Nat}(hk:k<2 ^ 60):qP P .quo t x y (some (.int .i64 k)) (some (.int .i64 8))=some (.int .i64 ((k / 8:Nat):Int)):=by
 have h:(k:Int).tdiv 8=((k / 8:Nat):Int):=by
  rw[Int.tdiv_eq_ediv_of_nonneg (by omega)];omega
 simp only[qP,jt,w7,j3,aF];rw[h,kS (by omega) (by omega)]
 rfl
theorem zlU{k:Nat}:qP P .rem t x y (some (.int .i64 k)) (some (.int .i64 8))=some (.int .i64 ((k % 8:Nat):Int)):=by
 have h:(k:Int).tmod 8=((k % 8:Nat):Int):=by
  rw[Int.tmod_eq_emod_of_nonneg (by omega)];omega
 simp only[qP,jt,w7,j3,aF];rw[h];rfl
theorem zlV{k:Nat}(hk:k<8):qP P .shl t x y (some (.int .u8 1)) (some (.int .i64 k))=some (.int .u8 ((2 ^ k:Nat):Int)):=by
 have h1:¬((k:Int)<0):=by omega
 have h2:min (k:Int).toNat IntKind.u8.bits=k:=by simp[IntKind.bits];omega
 have h3:(1:Int) * 2 ^ k=((2 ^ k:Nat):Int):=by simp
 simp only[qP,jt,w7,KP,aF,h1,bw,h2];rw[h3,P0 (Xq hk)]
end
section
variable{cx:Cx}
theorem zku{ops:Array Oper}{env:aD}{H:Hp}{df:bO}{s':St}(e_:JO cx.P cx.uq ops (jN ops) 0 [] ops.toList=true)(hc:cx.pW ops (jN ops) ops.toList ⟨env,H,[],df⟩=some s'):cx.eN ops (jN ops) 0 [] [⟨0,H,[],df⟩] ops.toList ⟨env,H,[],df⟩=some (.normal,s') :=
 W4 _ _ _ _ _ _ _ ⟨.nil,λq hq=>by simp at hq,λb=>by simp[yC],⟨rfl,rfl,rfl⟩,λc hc=>by simp at hc,λc hc=>by simp at hc,λq hq=>by simp at hq⟩ e_ hc
def zoQ(cx:Cx)(t:aB)(x:aX)(d:Tmp)(K:St->Prop):St->Prop
 | ⟨env,H,lk,df⟩=>∃v cX m z,take env x=some (v,cX)/\z4 cx.P t=some m/\qQ cx.P t=some z/\dz z=true/\z.cells.length=m/\dz v=true/\v.laid.length=m/\K ⟨cX.set d (.ptr H.az.length 0),H.push (.cells v.laid t),lk,df⟩
theorem znR{n id:Nat}{Q:Ex->St->Prop}{k:List It}{ops:Array Oper}{env:aD}{H:Hp}{lk:aN}{df:bO}{os:List Oper}{d:Tmp}{t:aB}{x:aX}{tk:bY}(hu:cx.uq mu=true)(hq:xP ops=some (os,d,t,x))(mb:jN os.toArray=tk)
  (NH:kz (SF tk d) os=true) (hd:d<env.length) (e_:JO cx.P cx.uq os.toArray tk 0 [] os=true)
  (h:go cx n (λex s=>ex=.normal/\zoQ cx t x d (λs'=>go cx n Q k .normal s') s) [.on os.toArray tk os] .normal ⟨env.set d .dW,H,[],df⟩):go cx n Q (.c (.region id ops true)::k) .normal ⟨env,H,lk,df⟩:=by
 subst mb;simp only[go] at h ⊢;obtain⟨⟨bI,H2,AA,AB⟩,h1,_,v,cX,m,z,e1,e2,e3,e4,e5,e6,e7,hK⟩:=h;refine⟨.normal,_,?_,hK⟩;simp only[Cx.code];refine zkd hu hq ?_;have Dk:=zku (cx:=cx) (ops:=os.toArray) e_ h1;have s9:Nat.blt d env.length=true:=by
  show Nat.ble (d+1) env.length=true;rw[Nat.ble_eq];exact hd
 unfold Cx.late;simp only[hq,NH,s9,Bool.and_self];rw[show os.toArray.toList=os from rfl] at Dk;rw[Dk];have l1:Nat.beq z.cells.length m=true:=by rw[e5];simp
 have l2:Nat.beq v.laid.length m=true:=by rw[e7];simp
 simp only[e1,e2,e3,e4,e6,l1,Bool.and_self,qp,de,l2,qm]
end
section
variable{cx:Cx}{takes:bY}
theorem zii{rs:List Rec}{r1 R:Rec}{c0 c1 lM d c2 e:ei}{k:List ei->Option (Ex×St)}(e1:c1=lM)(hp:R.hp=true)(ho:∀q∈rs,q=r1\/(q.hp=false/\(q.free=true\/bit R.m q.idx=true)))(h1:r1.hp=true)
  (hs:vA (Nat.land R.m (ep rs)) d.D=true) (hr:cx.dK takes R.o R.env d (Nat.lor d.D (Nat.pow 2 R.idx))=some (R.v,c2)) (Ir:bit lM.D r1.idx=true) (nA:bit c2.D r1.idx=false)
  (hq:cx.dK takes r1.o r1.env c2 0=some (r1.v,e)) (hf:vI (Nat.lor c2.D (Nat.pow 2 r1.idx)) [lM,c2,c0,d]=some lM) (he:vH e lM=true) :
  cx.fj takes rs R c0 c1 [d] k=k [lM,c2,c0,d]:=by
 subst e1;have Er:cx.eK takes rs (ep rs) R [c1,c2,c0,d] c1=true:=by
  unfold Cx.eK;refine kC λq hq=>?_;split
  ·rfl
  ·rcases ho q hq with rfl|⟨h2,h3⟩
   ·simp[h1,Ir]
   ·rcases h3 with h3|h3<;>simp[h2,h3]
 have PT:cx.eK takes rs (ep rs) R [c1,c2,c0,d] c2=true:=by
  unfold Cx.eK;refine kC λq A9=>?_;split
  ·rfl
  ·rcases ho q A9 with rfl|⟨h2,h3⟩
   ·simp only[h1,nA,hq,hf,V.cN,he,Bool.and_self]
   ·rcases h3 with h3|h3<;>simp[h2,h3]
 unfold Cx.fj;rw[hp];simp only[Cx.gR,hs,hr,V.cN,a_,bg,kz,Er,PT]
end
section
variable{P:aQ}{gl:Gl}{d:Nat}{g g':Gh}{w w':aP}{H:Hp}
theorem mC.Xs{H':Hp}{G:Gh}(tJ:q_ g' H'.az w')(hle:Gh.Le 0 g' G)(dg:∀b,b<H'.az.length->∀o v,w'.cell? ⟨g'.bP b,o,none⟩=some v->G.M (g'.bP b) o=some v)
  (b_:∀b c,b<H'.az.length->(c=g'.bP b\/g'.own c=some (.cell b 0))->∀o v,w'.cell? ⟨c,o,none⟩=some v->G.M c o=some v) {sz:Nat} {xs ys:aD} {o:ug}
  (hl:xs.length=ys.length) (hf:(zI xs).length=(zI ys).length) (h1:∀y∈ys,y.cells.length=sz) (h2:∀(j:Nat)(y:V),(zI ys)[j]?=some y->y.one=true)
  (h3:∀(j:Nat)(x y:V),(zI xs)[j]?=some x->(zI ys)[j]?=some y->mC H' x y) {cv:bt} (hr:aR g' (.sl sz xs o) cv):aR G (.sl sz ys .no) cv:=by
 cases hr with
 | sl f e1 e2 e3 e4 e5 e6 =>
  rw[hl];have hx:∀(j:Nat)(y:V),(zI ys)[j]?=some y->∃x,(zI xs)[j]?=some x:=λj y hy=>⟨_,gh (by rw[hf];exact(c_.1 hy).1)⟩
  refine .sl f h1 (by rw[<- hl];exact e2) (λcI=>e3 λe=>cI (He (by rw[<- hl,e];rfl))) h2 (λj y hy=>?_) (λj y hy=>?_)
  ·obtain⟨x,hx⟩:=hx j y hy;exact hle.M _ _ _ (e5 j x hx)
  ·obtain⟨x,hx⟩:=hx j y hy;exact(h3 j x y hx hy).LF tJ hle dg b_ (e6 j x hx)
theorem znS(oG:P.follows .mixedOrders=true)(fN:yA P)(dP:w8 P)(DX:nW P gl){n:Nat}{f:FuncId}{args:aD}{sz:Nat}{xs ys:aD}{o:ug}{H':Hp}
  (hc:zj P gl n f args ⟨[],[]⟩=some (.ret (.bq [.sl sz xs o,.bM]),H')) (ht:aI args=0) (hl:xs.length=ys.length) (m5:(zI xs).length=(zI ys).length) (fu:∀y∈ys,y.cells.length=sz) (o9:∀(j:Nat)(y:V),(zI ys)[j]?=some y->y.one=true)
  (hz:∀(j:Nat)(x y:V),(zI xs)[j]?=some x->(zI ys)[j]?=some y->mC H' x y) (dr:aI ys=0) {bx:dN} {l:Loc} (h1:iu P gl g) (h2:q_ g H.az w) (h3:eP g H.az.length args bx) :
  Calls P f bx w (fS d H g w l (.ret (.bq [.sl sz ys .no,.bM])) H):=by
 refine Calls.mono (yR oG fN dP DX n f args ⟨[],[]⟩ _ _ hc g.bare w bx l (h1.le nN) (WO h2) ⟨h3.len,λj x c hx iV=>(h3.rel j x c hx iV).le nN (cP (zn (zv hx)) (by omega)),by simp[ht],h3.no⟩) λe w' he=>?_
 cases e with
 | returned cv =>
  obtain⟨u,g',e1,e2,e3,e4,_⟩:=he;cases e1;have dX:∀b,b<H'.az.length->w.heap.size<=g'.bP b:=λb hb=>e2.d_ b (eg _) hb;have dg:∀b,b<H'.az.length->∀o v,w'.cell? ⟨g'.bP b,o,none⟩=some v->(Gh.tK w.heap.size g w').M (g'.bP b) o=some v:=λb hb o v hv=>by
   simp only[Gh.tK,if_neg (Nat.not_lt.2 (dX b hb))];exact hv
  have b_:∀b c,b<H'.az.length->(c=g'.bP b\/g'.own c=some (.cell b 0))->∀o v,w'.cell? ⟨c,o,none⟩=some v->(Gh.tK w.heap.size g w').M c o=some v:=λb c hb hc o v hv=>by
   have Au:¬c<w.heap.size:=λbR=>by
    rcases hc with e|e
    ·have:=dX b hb;omega
    ·rw[(kR e2.fr bR).2.1] at e;cases e
   simp only[Gh.tK,if_neg Au];exact hv
  refine⟨.bq [.sl sz ys .no,.bM],_,rfl,zeK h2 e2.cY e2.fr,?_,trivial,by simp[V.top,aI,dr]⟩
  cases e3 with
  | bq k1 k2 =>
   refine .bq k1 λj y v hy hv=>?_
   match j,hy with
   | 0,hy=>cases hy;exact mC.Xs e2.cY (WQ e2.cY e2.fr) dg b_ hl m5 fu o9 hz (k2 0 _ v rfl hv)
   | 1,hy=>cases hy;exact(mC.same (H:=H') (v:=.bM) rfl).LF e2.cY (WQ e2.cY e2.fr) dg b_ (k2 1 _ v rfl hv)
   | j+2,hy=>simp at hy
 | panicked chain =>
  obtain⟨u,cv,g',e1,_⟩:=he;cases e1
 | outgrown=>exact he.elim
end
end Go.Vm
