/- Vm: a region whose order is drawn, with loads that are not in order with what changes the heap elsewhere: they are looked at again behind each change. Conditions: none but those named. -/
import Derived.Test.YthohlnmcjkjeiaaGreatDoorVmC
namespace Go.Vm
open Go
section
variable{cx:Cx}{all:Array Oper}{takes:cg}
def y8(cx:Cx)(takes:cg)(c:ew):List (Oper×aD×V)->Prop
 | []=>True
 | p::ps=>cx.eX takes p.1 p.2.1 p.2.2 c=true/\y8 cx takes c ps
theorem zhj{c:ew}{ps:List (Oper×aD×V)}(h:y8 cx takes c ps)(p:Oper×aD×V)(hp:p∈ps):cx.eX takes p.1 p.2.1 p.2.2 c=true:=by
 induction ps with
 | nil=>cases hp
 | cons a ps ih =>
  cases hp with
  | head=>exact h.1
  | tail _ hp=>exact ih h.2 hp
def Ka(b:Bool)(p:Oper×aD×V)(ps:List (Oper×aD×V)):List (Oper×aD×V):=bif b then p::ps else ps
def A0(cx:Cx)(all:Array Oper)(takes:cg)(P:St->Prop):List (Oper×aD×V)->List (Bool×Bool)->List Oper->St->Prop
 | _,_,[],s=>P s
 | _,[],_::_,_=>False
 | cR,(ld,hp)::fl,o::os,⟨env,H,lk,df⟩=>match zY all o env with
  | none=>False
  | some false=>A0 cx all takes P cR fl os ⟨aq env o.dst (.br []),H,lk,df⟩
  | some true=>au cx o env lk=true/\match cx.op takes o env H lk df with
   | some (.val v,⟨cK,H1,eB,eA⟩)=>(hp=true->y8 cx takes ⟨0,H1,eB,eA⟩ cR)/\A0 cx all takes P (Ka ld (o,env,v) cR) fl os ⟨aq cK o.dst v,H1,eB,eA⟩
   | some (.skip,⟨cK,H1,eB,eA⟩)=>(hp=true->y8 cx takes ⟨0,H1,eB,eA⟩ cR)/\A0 cx all takes P cR fl os ⟨aq cK o.dst (.br []),H1,eB,eA⟩
   | _=>False
def XI(js:bM)(r q:SR):Bool :=
 match bit r.m q.idx with
 | true=>true
 | false=>!(r.hp && q.hp) && (!(q.hp && r.lk) || (q.tk && r.ld)) && (!(r.hp && q.lk) || (r.al && q.ld) || (js.any (Nat.beq q.idx) && q.ld))
def T'(P:aQ)(uq:aB->Bool)(all:Array Oper)(takes:cg)(js:bM):Nat->List SR->List (Bool×Bool)->List Oper->Bool
 | _,_,_,[]=>true
 | _,_,[],_::_=>false
 | i,rs,(ld,hp)::fl,o::os=>match Oi rs o.after.toList with
  | none=>false
  | some m =>
   let r:SR:=⟨i,m,m8 takes o,Nat.lor (m8 takes o) (ug all o),q9 P uq takes o,kV P uq o,vI o,Ek takes o,kK takes o⟩
   ((!q9 P uq takes o || hp) && (!(js.any (Nat.beq i)) || ld)) && ((!r.tk || kB (λq=>!q.tk) rs) && kB (T8 r) rs && (kB (XI js r) rs && T' P uq all takes js (i+1) (r::rs) fl os))
theorem zhk{js:bM}{P:St->Prop}:∀(os:List Oper)(fl:List (Bool×Bool))(cR:List (Oper×aD×V))(i:Nat)(rs:List Rec)(ts:List SR)(c0:ew)(rest:List ew)(s:St),T_ cx takes i rs ts c0 rest s->T' cx.P cx.uq all takes js i ts fl os=true->(∀q∈rs,q.hp=false->q.free=false->js.any (Nat.beq q.idx)=true->(q.o,q.env,q.v)∈cR)->A0 cx all takes P cR fl os s->∃s',cx.eN all takes i rs (c0::rest) os s=some (.normal,s')/\P s'
 | [],fl,cR,i,rs,ts,c0,rest,s,_,_,_,hc=>by
  simp only[A0] at hc;exact⟨s,by simp only[Cx.eN],hc⟩
 | _::_,[],cR,i,rs,ts,c0,rest,s,_,_,_,hc=>by
  simp only[A0] at hc
 | o::os,(ld,fhp)::fl,cR,i,rs,ts,c0,rest,⟨env,H,lk,df⟩,hI,eZ,hpd,hc=>by
  simp only[T'] at eZ;split at eZ<;>try (cases eZ;done)
  rename_i m hm;simp only[d_] at eZ;obtain⟨⟨IS,Qo⟩,⟨mq,IE⟩,L7,eZ⟩:=eZ;have sX:∀(hp free:Bool)(v:V),kB (kw ⟨i,o,m,m8 takes o,Nat.lor (m8 takes o) (ug all o),hp,free,env,v⟩) rs=true:=λhp free v =>
   zhh hI.pr (λq t uk hg=>by simp only[T8] at hg;simp only[kw,uk.idx,uk.tm,uk.lm];exact hg) IE
  have key:∀(hp free:Bool)(v:V)(Br:List (Oper×aD×V))(H1:Hp)(eB:aO)(eA:bP)(cK:aD),
    (hp=true->q9 cx.P cx.uq takes o=true)->(hp=false->free=false->kV cx.P cx.uq o=true) ->
    (hp=false->H1=H/\eB=lk/\eA=df)->(hp=false->free=false->∀D,cx.eX takes o env v ⟨D,H,lk,df⟩=true) ->
    (hp=true->vI o=true->∃x,H1=H.push x/\eB=lk/\eA=df) ->
    (hp=true->kK takes o=true->∀D,IP ⟨D,H,lk,df⟩ ⟨cK,H1,eB,eA⟩) ->
    (hp=false->free=false->Ek takes o=true->∀c,IP c ⟨env,H,lk,df⟩->cx.eX takes o env v c=true) ->
    (hp=true->∀D,∀p∈cR,cx.eX takes p.1 p.2.1 p.2.2 ⟨D,H1,eB,eA⟩=true) ->
    (∀q∈cR,q∈Br)->(hp=false->free=false->js.any (Nat.beq i)=true->(o,env,v)∈Br) ->
    A0 cx all takes P Br fl os ⟨cK,H1,eB,eA⟩ ->
    ∃s',(match kB (kw ⟨i,o,m,m8 takes o,Nat.lor (m8 takes o) (ug all o),hp,free,env,v⟩) rs,c0::rest with
     | true,c0::cs=>cx.fN takes rs ⟨i,o,m,m8 takes o,Nat.lor (m8 takes o) (ug all o),hp,free,env,v⟩ c0 ⟨Nat.lor c0.D (Nat.pow 2 i),H1,eB,eA⟩ cs λcs =>
      cx.eN all takes (i+1) (⟨i,o,m,m8 takes o,Nat.lor (m8 takes o) (ug all o),hp,free,env,v⟩::rs) cs os ⟨cK,H1,eB,eA⟩
     | _,_=>none)=some (.normal,s')/\P s':=by
   intro hp free v Br H1 eB eA cK h1 h2 h3 h4 h5 XG XH Pr lR Qp h6;rw[sX];simp only;have bR:∀q∈rs,q.idx≠i:=λq hq e=>by have:=hI.lt q hq;omega
   have nu:∀b,(∃q∈rs,q.hp=true/\q.idx=b)->bit (Nat.lor c0.D (Nat.pow 2 i)) b=true:=λb hb=>by rw[vf,(hI.cD b).2 hb];rfl
   have Bq:=yT hI.pr L7;have oB:hp=true->∀q∈rs,q.hp=false->q.free=false->bit m q.idx=true\/(∃c∈rs,c.hp=true/\bit c.m q.idx=true)\/∀D,cx.eX takes q.o q.env q.v ⟨D,H1,eB,eA⟩=true:=λhr q hq l6 pE=>by
    obtain⟨t,ht,hg⟩:=Bq q hq;simp only[XI] at hg;split at hg
    next hb=>exact .inl (by rw[ht.idx];exact hb)
    ·rw[h1 hr,ht.lk l6 pE] at hg;simp only[tP,mo,uM,d_,p7] at hg;obtain⟨_,⟨sQ,gx⟩|⟨Ua,gx⟩⟩:=hg
     ·rcases hI.IQ q hq l6 pE with h|h
      ·exact .inr (.inl h)
      ·obtain⟨x,e1,e2,e3⟩:=h5 hr sQ;subst e1 e2 e3;rw[ht.ld] at gx;exact .inr (.inr λD=>ze2 gx (h D))
     ·exact .inr (.inr λD=>Pr hr D _ (hpd q hq l6 pE (by rw[ht.idx];exact Ua)))
   have FG:kK takes o=true->∀q∈rs,kK takes q.o=false:=λht q hq=>by
    rw[ht] at mq;simp only[mo,uM] at mq;obtain⟨t,h7,h8⟩:=yT hI.pr mq q hq;rw[<- h7.tk];simpa using h8
   have iE:(hp=true\/(hp=false/\free=false))->∀q∈rs,q.hp=true->bit m q.idx=true\/(hp=false/\kK takes q.o=true/\Ek takes o=true):=λhr q hq l6=>by
    obtain⟨t,ht,hg⟩:=Bq q hq;simp only[XI] at hg;split at hg
    next hb=>exact .inl (by rw[ht.idx];exact hb)
    ·rw[ht.hp l6] at hg;simp only[Bool.and_true,tP,d_,Dd] at hg;obtain⟨⟨g1,g2⟩,_⟩:=hg;rcases hr with hr|⟨hr,hf⟩
     ·rw[h1 hr] at g1;cases g1
     ·rw[h2 hr hf] at g2;simp only[mo,uM,d_] at g2;exact .inr ⟨hr,by rw[<- ht.tk];exact g2.1,g2.2⟩
   have sZ:∀c:ew,(∃q∈rs,q.hp=true/\bit m q.idx=true/\bit c.D q.idx=false)->vN (Nat.land m (eJ rs)) c.D=false:=λc hc=>by
    obtain⟨q,hq,e1,e2,e3⟩:=hc;cases hs:vN (Nat.land m (eJ rs)) c.D with
    | false=>rfl
    | true =>
     have:=rA.1 hs q.idx (by rw[N8,e2,lp.2 ⟨q,hq,e1,rfl⟩];rfl)
     rw[this] at e3;cases e3
   have Qn:∀c:ew,(∀b,bit c.D b=true->∃q∈rs,q.idx=b)->bit c.D i=false:=λc hc=>by
    cases hb:bit c.D i with
    | false=>rfl
    | true =>
     obtain⟨q,hq,e⟩:=hc i hb;exact absurd e (bR q hq)
   rw[zjv (r:=⟨i,o,m,m8 takes o,Nat.lor (m8 takes o) (ug all o),hp,free,env,v⟩) ?_ ?_ nu ?_]
   ·have FH:T_ cx takes (i+1) (⟨i,o,m,m8 takes o,Nat.lor (m8 takes o) (ug all o),hp,free,env,v⟩::rs) (⟨i,m,m8 takes o,Nat.lor (m8 takes o) (ug all o),q9 cx.P cx.uq takes o,kV cx.P cx.uq o,vI o,Ek takes o,kK takes o⟩::ts)
      (bif hp then ⟨Nat.lor c0.D (Nat.pow 2 i),H1,eB,eA⟩ else c0) (bif hp then c0::rest else rest) ⟨cK,H1,eB,eA⟩:=by
     refine⟨.cons ⟨rfl,rfl,rfl,rfl,h1,h2,rfl,rfl⟩ hI.pr,?_,?_,?_,?_,?_,?_⟩
     ·intro q hq;rcases dG.1 hq with rfl|hq
      ·exact HW _
      ·have:=hI.lt q hq;omega
     ·intro b;cases hp with
      | false =>
       simp only[oJ];rw[hI.cD];constructor
       ·rintro⟨q,hq,e⟩;exact⟨q,dU _ hq,e⟩
       ·rintro⟨q,hq,e1,e2⟩;rcases dG.1 hq with rfl|hq
        ·cases e1
        ·exact⟨q,hq,e1,e2⟩
      | true =>
       simp only[mS];rw[vf,p7,hI.cD,yc,decide_eq_true_eq];constructor
       ·rintro(⟨q,hq,e⟩|rfl)
        ·exact⟨q,dU _ hq,e⟩
        ·exact⟨_,eK ..,rfl,rfl⟩
       ·rintro⟨q,hq,e1,e2⟩;rcases dG.1 hq with rfl|hq
        ·exact .inr e2
        ·exact .inl ⟨q,hq,e1,e2⟩
     ·cases hp with
      | false=>obtain⟨e1,e2,e3⟩:=h3 rfl;subst e1 e2 e3;exact hI.c0
      | true=>exact⟨rfl,rfl,rfl⟩
     ·intro c ei b hb;cases hp with
      | false=>obtain⟨q,hq,e⟩:=hI.rD c ei b hb;exact⟨q,dU _ hq,e⟩
      | true =>
       rcases dG.1 ei with rfl|ei
       ·obtain⟨q,hq,_,e⟩:=(hI.cD b).1 hb;exact⟨q,dU _ hq,e⟩
       ·obtain⟨q,hq,e⟩:=hI.rD c ei b hb;exact⟨q,dU _ hq,e⟩
     ·intro c ei;cases hp with
      | false =>
       obtain⟨e1,e2,e3⟩:=h3 rfl;subst e1 e2 e3;rcases hI.rest c ei with⟨q,hq,e⟩|⟨⟨q,hq,e⟩,hL⟩
       ·exact .inl ⟨q,dU _ hq,e⟩
       ·exact .inr ⟨⟨q,dU _ hq,e⟩,hL⟩
      | true =>
       have FI:bit c0.D i=false:=Qn c0 λb hb=>by obtain⟨q,hq,_,e⟩:=(hI.cD b).1 hb;exact⟨q,hq,e⟩
       cases Ai:kK takes o with
       | false =>
        rcases dG.1 ei with rfl|ei
        ·exact .inl ⟨_,eK ..,rfl,Ai,FI⟩
        ·exact .inl ⟨_,eK ..,rfl,Ai,Qn c (hI.rD c ei)⟩
       | true =>
        rcases dG.1 ei with rfl|ei
        ·refine .inr ⟨⟨_,eK ..,rfl,Ai,FI⟩,?_⟩;obtain⟨D0,H0,Hh,df0⟩:=c;obtain⟨e1,e2,e3⟩:=hI.c0;simp only at e1 e2 e3;subst e1 e2 e3;exact XG rfl Ai D0
        ·rcases hI.rest c ei with⟨q,hq,e⟩|⟨⟨q,hq,e1,e2,_⟩,_⟩
         ·exact .inl ⟨q,dU _ hq,e⟩
         ·rw[FG Ai q hq] at e2;cases e2
     ·intro q hq l6 pE;rcases dG.1 hq with rfl|CO
      ·obtain⟨e1,e2,e3⟩:=h3 l6;subst e1 e2 e3;exact .inr (h4 l6 pE)
      ·clear hq;cases hp with
       | false =>
        obtain⟨e1,e2,e3⟩:=h3 rfl;subst e1 e2 e3;rcases hI.IQ q CO l6 pE with⟨c,hc,e⟩|h
        ·exact .inl ⟨c,dU _ hc,e⟩
        ·exact .inr h
       | true =>
        rcases oB rfl q CO l6 pE with h|⟨c,hc,e⟩|h
        ·exact .inl ⟨_,eK ..,rfl,h⟩
        ·exact .inl ⟨c,dU _ hc,e⟩
        ·exact .inr h
    have:=zhk os fl Br _ _ _ _ _ _ FH eZ (λq hq l6 pE hj=>by
     rcases dG.1 hq with rfl|hq
     ·exact Qp l6 pE hj
     ·exact lR _ (hpd q hq l6 pE hj)) h6
    cases hp<;>exact this
   ·intro hr c ei;refine sZ c ?_;rcases hI.rest c ei with⟨q,hq,e1,_,e2⟩|⟨⟨q,hq,e1,_,e2⟩,_⟩
    ·rcases iE (.inl hr) q hq e1 with h|⟨h,_⟩
     ·exact⟨q,hq,e1,h,e2⟩
     ·exact absurd (hr.symm.trans h) (by simp)
    ·rcases iE (.inl hr) q hq e1 with h|⟨h,_⟩
     ·exact⟨q,hq,e1,h,e2⟩
     ·exact absurd (hr.symm.trans h) (by simp)
   ·intro hr hf c ei;rcases hI.rest c ei with⟨q,hq,e1,e3,e2⟩|⟨⟨q,hq,e1,e3,e2⟩,hL⟩
    ·rcases iE (.inr ⟨hr,hf⟩) q hq e1 with h|⟨_,h,_⟩
     ·exact .inl (sZ c ⟨q,hq,e1,h,e2⟩)
     ·rw[e3] at h;cases h
    ·rcases iE (.inr ⟨hr,hf⟩) q hq e1 with h|⟨_,_,h⟩
     ·exact .inl (sZ c ⟨q,hq,e1,h,e2⟩)
     ·exact .inr (XH hr hf h c hL)
   ·intro hr q hq l6 pE;rcases oB hr q hq l6 pE with h|h|h
    ·exact .inl h
    ·exact .inr (.inl h)
    ·exact .inr (.inr (h _))
  simp only[Cx.eN,ze1 hI.pr,hm,qA,qp,jN];simp only[A0] at hc;split at hc<;>try (cases hc;done)
  next hw=>simp only[hw];exact key false true (.br []) cR H lk df _ (λh=>nomatch h) (λ_ h=>nomatch h) (λ_=>⟨rfl,rfl,rfl⟩) (λ_ h=>nomatch h) (λh=>nomatch h) (λh=>nomatch h) (λ_ h=>nomatch h) (λh=>nomatch h) (λ_ h=>h) (λ_ h=>nomatch h) hc
  ·rename_i hw;simp only[hw];obtain⟨oQ,hc⟩:=hc;split at hc<;>try (cases hc;done)
   ·rename_i v cK H1 eB eA aC;simp only[aC];obtain⟨LI,hc⟩:=hc;have XJ:q9 cx.P cx.uq takes o=true->fhp=true:=λh=>by rw[h] at IS;simpa using IS
    have hfj:js.any (Nat.beq i)=true->ld=true:=λh=>by rw[h] at Qo;simpa using Qo
    refine key _ _ v _ H1 eB eA _ (λh=>h) (λ_ h=>by simpa using h) (λhf=>?_) (λhf _ D=>?_) (λ_ ha=>?_) (λ_ ht D=>?_) (λ_ _ hl c hL=>ze4 hl hL oQ aC) (λh D p hp=>zhj (LI (XJ h)) p hp) (λq hq=>by unfold Ka;cases ld<;>simp[hq]) (λ_ _ hj=>by rw[hfj hj];simp[Ka]) hc
    ·obtain⟨v',_,e2,_⟩:=yd hf aC;cases e2;exact⟨rfl,rfl,rfl⟩
    ·simp[Cx.eX,Cx.ee,aC,V.dh]
    ·obtain⟨x,e⟩:=zhi ha aC;cases e;exact⟨x,rfl,rfl,rfl⟩
    ·rcases zju (D:=D) ht aC with h|h
     ·exact .inl h
     ·exact .inr h
   ·rename_i cK H1 eB eA aC;simp only[aC];have Ca:q9 cx.P cx.uq takes o=true:=by
     cases hb:q9 cx.P cx.uq takes o with
     | true=>rfl
     | false=>obtain⟨v',e1,_⟩:=yd hb aC;cases e1
    rw[Ca];obtain⟨LI,hc⟩:=hc;have XJ:fhp=true:=by rw[Ca] at IS;simpa using IS
    refine key true false (.br []) cR H1 eB eA _ (λ_=>Ca) (λh=>nomatch h) (λh=>nomatch h) (λh=>nomatch h) (λ_ ha=>?_) (λ_ ht=>?_) (λh=>nomatch h) (λ_ D p hp=>zhj (LI XJ) p hp) (λ_ h=>h) (λh=>nomatch h) hc
    ·obtain⟨dst,op,type,pos,after,guard⟩:=o;unfold vI at ha;split at ha<;>try (cases ha;done)
     rename_i t lu;simp only at lu;subst lu;simp only[Cx.op] at aC;split at aC<;>try (cases aC;done)
     split at aC<;>try (cases aC;done)
     simp[qp,qn] at aC
    ·obtain⟨dst,op,type,pos,after,guard⟩:=o;unfold kK at ht;split at ht<;>try (cases ht;done)
     rename_i t a lu;simp only at lu;subst lu;cases dst with
     | none=>cases ht
     | some d =>
      simp only at ht;rw[xn ht] at aC;unfold vU at aC;split at aC<;>try (cases aC;done)
      split at aC<;>try (cases aC;done)
      split at aC<;>try (cases aC;done)
      split at aC<;>cases aC
theorem Ub{n id:Nat}{Q:Ex->St->Prop}{k:List It}{ops:Array Oper}{env:aD}{H:Hp}{lk:aO}{df:bP}{tk:cg}(js:bM)(fl:List (Bool×Bool))(ht:jM ops=tk)(eZ:T' cx.P cx.uq ops tk js 0 [] fl ops.toList=true)
  (h:A0 cx ops tk (λs=>go cx n Q k .normal s) [] fl ops.toList ⟨env,H,[],df⟩) (hl:cx.uq mB=false\/xO ops=none:=by first|exact .inl rfl|exact .inr (by kernel_rfl)):go cx n Q (.c (.region id ops true)::k) .normal ⟨env,H,lk,df⟩:=by
 subst ht;obtain⟨s',h1,h2⟩:=zhk (js:=js) _ _ _ _ _ _ ⟨0,H,[],df⟩ [] _ ⟨.nil,λq hq=>by simp at hq,λb=>by simp[yD],⟨rfl,rfl,rfl⟩,λc hc=>by simp at hc,λc hc=>by simp at hc,λq hq=>by simp at hq⟩ eZ (λq hq=>by simp at hq) h
 simp only[go];exact⟨.normal,s',by simp only[Cx.code];exact Xj h1 hl,h2⟩
section
variable{P:St->Prop}{cR:List (Oper×aD×V)}{fl:List (Bool×Bool)}{os:List Oper}{env:aD}{H:Hp}{lk:aO}{df:bP}{s:St}{dst:fJ}{op:Op}{type:aB}{pos:String}{after:Array Edge}{ld hp:Bool}
theorem An:A0 cx all takes P cR fl [] s ↔ P s:=by simp[A0]
def IT(cx:Cx)(all:Array Oper)(takes:cg)(P:St->Prop)(cR:List (Oper×aD×V))(ld hp:Bool)(fl:List (Bool×Bool))(o:Oper)(env:aD)(os:List Oper):Option (OR×St)->Prop
 | some (.val v,⟨cK,H1,eB,eA⟩)=>(hp=true->y8 cx takes ⟨0,H1,eB,eA⟩ cR)/\A0 cx all takes P (Ka ld (o,env,v) cR) fl os ⟨aq cK o.dst v,H1,eB,eA⟩
 | some (.skip,⟨cK,H1,eB,eA⟩)=>(hp=true->y8 cx takes ⟨0,H1,eB,eA⟩ cR)/\A0 cx all takes P cR fl os ⟨aq cK o.dst (.br []),H1,eB,eA⟩
 | _=>False
theorem sD:A0 cx all takes P cR ((ld,hp)::fl) (⟨dst,op,type,pos,after,none⟩::os) ⟨env,H,lk,df⟩ ↔ (au cx ⟨dst,op,type,pos,after,none⟩ env lk=true/\IT cx all takes P cR ld hp fl ⟨dst,op,type,pos,after,none⟩ env os (cx.op takes ⟨dst,op,type,pos,after,none⟩ env H lk df)):=by
 simp only[A0,zY];cases cx.op takes ⟨dst,op,type,pos,after,none⟩ env H lk df with
 | none=>simp[IT]
 | some r =>
  obtain⟨r,s1⟩:=r;obtain⟨cK,H1,eB,eA⟩:=s1;cases r<;>simp[IT]
theorem Uc{o:Oper}{v:V}{cK:aD}{H1:Hp}{eB:aO}{eA:bP}:IT cx all takes P cR ld false fl o env os (some (.val v,⟨cK,H1,eB,eA⟩)) ↔ A0 cx all takes P (Ka ld (o,env,v) cR) fl os ⟨aq cK o.dst v,H1,eB,eA⟩:=by simp[IT]
theorem Ud{o:Oper}{v:V}{cK:aD}{H1:Hp}{eB:aO}{eA:bP}:IT cx all takes P cR ld true fl o env os (some (.val v,⟨cK,H1,eB,eA⟩)) ↔ y8 cx takes ⟨0,H1,eB,eA⟩ cR/\A0 cx all takes P (Ka ld (o,env,v) cR) fl os ⟨aq cK o.dst v,H1,eB,eA⟩:=by simp[IT]
theorem XK{o:Oper}{cK:aD}{H1:Hp}{eB:aO}{eA:bP}:IT cx all takes P cR ld hp fl o env os (some (.skip,⟨cK,H1,eB,eA⟩)) ↔ (hp=true->y8 cx takes ⟨0,H1,eB,eA⟩ cR)/\A0 cx all takes P cR fl os ⟨aq cK o.dst (.br []),H1,eB,eA⟩:=by simp[IT]
theorem Ue{p:Oper×aD×V}{ps:List (Oper×aD×V)}:Ka false p ps=ps:=rfl
theorem Uf{p:Oper×aD×V}{ps:List (Oper×aD×V)}:Ka true p ps=p::ps:=rfl
theorem xF{c:ew}:y8 cx takes c [] ↔ True:=Iff.rfl
theorem iP{D:Nat}{o:Oper}{v:V}{s1:St}(h:cx.op takes o env H lk df=some (.val v,s1)):cx.eX takes o env v ⟨D,H,lk,df⟩=true:=by simp[Cx.eX,Cx.ee,h,V.dh]
end
def Qq(cx:Cx)(n:Nat)(Q:Ex->St->Prop)(k:List It)(R:St->Prop):Ex->St->Prop
 | .normal,s=>R s
 | ex,s=>go cx n Q k ex s
theorem zl6{n:Nat}{Q:Ex->St->Prop}{k:List It}{c:Code}{s:St}(R:St->Prop)(h:go cx n (Qq cx n Q k R) [.c c] .normal s)(h2:∀s',R s'->go cx n Q k .normal s'):go cx n Q (.c c::k) .normal s:=by
 obtain⟨ex,s',h3,h4⟩:=T7 h;simp only[go];refine⟨ex,s',h3,?_⟩;cases ex<;>first|exact h2 _ h4|exact h4
theorem jB{n:Nat}{Q:Ex->St->Prop}{k:List It}{R:St->Prop}{s:St}:Qq cx n Q k R .normal s ↔ R s:=Iff.rfl
theorem jJ{n:Nat}{Q:Ex->St->Prop}{k:List It}{R:St->Prop}{s:St}{i:Nat}:Qq cx n Q k R (.exit i) s ↔ go cx n Q k (.exit i) s:=Iff.rfl
theorem y9{n:Nat}{Q:Ex->St->Prop}{k:List It}{env:aD}{H:Hp}{lk:aO}{df:bP}(F:aD->Prop)(h:F env)(h2:∀env,F env->go cx n Q k .normal ⟨env,H,lk,df⟩):go cx n Q k .normal ⟨env,H,lk,df⟩:=h2 env h
theorem gR:Nat.beq 4 3=false:=rfl
theorem gS:Nat.beq 5 3=false:=rfl
theorem gT:Nat.beq 5 4=false:=rfl
theorem gU:Nat.beq 2 3=false:=rfl
theorem gV:Nat.beq 2 4=false:=rfl
theorem gW:Nat.beq 2 5=false:=rfl
theorem gX:Nat.beq 1 2=false:=rfl
theorem gZ:Nat.beq 0 2=false:=rfl
theorem g_:Nat.beq 1 3=false:=rfl
theorem hO:Nat.beq 1 4=false:=rfl
theorem h_:Nat.beq 1 5=false:=rfl
theorem gy:Nat.beq 0 1=false:=rfl
theorem mj{n:Nat}{Q:Ex->St->Prop}{k:List It}{s:St}(F:St->Prop)(h:F s)(h2:∀s,F s->go cx n Q k .normal s):go cx n Q k .normal s:=h2 s h
theorem vC{D:Nat}{env:aD}{H:Hp}{lk:aO}{df:bP}{d:Tmp}{t type:aB}{a:aW}{pos:String}{after:Array Edge}{guard:pI}{p v0 v:V}(h1:ak env a=some p)(h2:zk cx.P H cx.gl t p=some v0)(h3:aV v0=v):y8 cx [] ⟨D,H,lk,df⟩ [(⟨some d,.load t a,type,pos,after,guard⟩,env,v)]:=by
 refine⟨?_,trivial⟩;show cx.eX [] ⟨some d,.load t a,type,pos,after,guard⟩ env v ⟨D,H,lk,df⟩=true;have:cx.op [] ⟨some d,.load t a,type,pos,after,guard⟩ env H lk df=some (.val v,⟨env,H,lk,df⟩):=by
  rw[qw,h1,aT,h2,aS,h3,zr]
 exact iP this
end
section
variable{cx:Cx}{takes:cg}{dst:fJ}{type:aB}{pos:String}{after:Array Edge}{guard:pI}{env:aD}{H:Hp}{lk:aO}{df:bP}
theorem zn2{t e n:Nat}{x y:aW}{z v u:V}(h1:cx.P.underlying t=some (.slice e))(h2:z4 cx.P e=some n)(h3:qP cx.P e=some z)(hn:n≠0/\2 * n<=16777216)(hz:z.cells.length=n)(XL:dz z=true)(hx:ak env x=some v)(hy:ak env y=some u)(hv:dz v=true)(hu:dz u=true)(B8:v.cells.length=n)(hul:u.cells.length=n) :
  cx.op takes ⟨dst,.buildSlice t 2 #[(0,x),(1,y)],type,pos,after,guard⟩ env H lk df=some (.val (.sl n [v,u] (.yes e)),⟨env,H,lk,df⟩):=by
 have e1:Nat.beq n 0=false:=by
  cases n with
  | zero=>exact absurd rfl hn.1
  | succ n=>rfl
 have e2:Nat.blt 16777216 (2 * n)=false:=by
  cases hb:Nat.blt 16777216 (2 * n) with
  | false=>rfl
  | true=>have:=r_ hb;omega
 simp[Cx.op,je,h1,h2,h3,hz,XL,EJ,hx,hy,hv,hu,B8,hul,qp,fm,Nat.blt,List.replicate];rw[if_neg (by omega)]
theorem XM{t e n k:Nat}{lo co:aW}{z:V}{i:TypeInfo}(h1:cx.P.underlying t=some (.slice e))(h2:z4 cx.P e=some n)(h3:qP cx.P e=some z)(hu:cx.uq e=false)(h4:cx.P.info? e=some i)(hn:n≠0)(hz:z.cells.length=n)(XL:dz z=true)(hl:ak env lo=some (.int .i64 (k:Int)))(hc:ak env co=some (.int .i64 (k:Int)))(hr:kx k i.bytes=true)(hk:k≠0) :
  cx.op takes ⟨dst,.makeSlice t lo co,type,pos,after,guard⟩ env H lk df=some (.val (.sr H.az.length 0 k k),⟨env,H.push (.cells (List.replicate k z.cells).flatten e),lk,df⟩):=by
 have e1:Nat.beq n 0=false:=by
  cases n with
  | zero=>exact absurd rfl hn
  | succ n=>rfl
 have e2:¬((k:Int)<0):=by omega
 have e3:¬((k:Int)=0):=by omega
 simp[Cx.op,h1,h2,h3,h4,hu,e1,e2,hz,XL,hl,hc,hr,hk,c_,qn]
theorem ziv{t u e b off len cap:Nat}{x y:aW}{ys cs:aD}{ty:aB}{o:uN}(h1:cx.P.underlying t=some (.slice e))(h2:z4 cx.P e=some 1)(hx:ak env x=some (.sr b off len cap))(hy:ak env y=some (.sl 1 ys o))(hb:H.get b=some (.cells cs ty))(hl:ys.length=len)(hf:(bY ys).map aV=ys)(hr:off+len<=cs.length)(hm:wz lk b off len (cs.drop off)=true) :
  cx.op takes ⟨dst,.call ⟨.builtin .copy,#[x,y],#[t,u]⟩,type,pos,after,guard⟩ env H lk df=some (.val (.int .i64 (len:Nat)),⟨env,(H.set b (.cells (storeCells cs off ys) ty)).bQ b (.br ys),lk,df⟩):=by
 have e1:ys.take len=ys:=by rw[<- hl,D1]
 have e2:Nat.ble (off+len) cs.length=true:=K3 hr;have e3:(bY ys).length=len:=by rw[<- hl,<- congrArg List.length hf,gk]
 simp[Cx.op,Cx.sJ,h1,h2,hx,hy,wA,hb,hl,e1,hf,hm,c_,jd,e3,hr]
end
section
variable{cx:Cx}{all:Array Oper}{takes:cg}
theorem wY{n id:Nat}{Q:Ex->St->Prop}{k:List It}{ops:Array Oper}{env:aD}{H:Hp}{lk:aO}{df:bP}{tk:cg}(ht:jM ops=tk)(h:∃s',cx.eN ops tk 0 [] [⟨0,H,[],df⟩] ops.toList ⟨env,H,[],df⟩=some (.normal,s')/\go cx n Q k .normal s')(hl:cx.uq mB=false\/xO ops=none:=by first|exact .inl rfl|exact .inr (by kernel_rfl)):go cx n Q (.c (.region id ops true)::k) .normal ⟨env,H,lk,df⟩:=by
 subst ht;obtain⟨s',h1,h2⟩:=h;simp only[go];exact⟨.normal,s',by simp only[Cx.code];exact Xj h1 hl,h2⟩
section
variable{i m:Nat}{rs:List Rec}{c0:ew}{cs cs':List ew}{o:Oper}{os:List Oper}{env cK:aD}{H H1:Hp}{lk eB:aO}{df eA:bP}{v:V}{r:Option (Ex×St)}
def jr(all:Array Oper)(takes:cg)(i:Nat)(o:Oper)(m:Nat)(hp free:Bool)(env:aD)(v:V):Rec:=⟨i,o,m,m8 takes o,Nat.lor (m8 takes o) (ug all o),hp,free,env,v⟩
theorem qy(hm:wB rs o.after.toList=some m)(hg:zY all o env=some true)(aC:cx.op takes o env H lk df=some (.val v,⟨cK,H1,eB,eA⟩))(h1:q9 cx.P cx.uq takes o=false)(h2:kV cx.P cx.uq o=false)
  (hs:kB (kw (jr all takes i o m false true env v)) rs=true) (k:cx.eN all takes (i+1) (jr all takes i o m false true env v::rs) (c0::cs) os ⟨aq cK o.dst v,H1,eB,eA⟩=r):cx.eN all takes i rs (c0::cs) (o::os) ⟨env,H,lk,df⟩=r:=by
 simp only[jr] at hs k;simp only[Cx.eN,hm,qA,hg,aC,qp,jN,h1,h2,oI,hs];simp only[Cx.fN,Bool.true_or];exact k
theorem kj(hm:wB rs o.after.toList=some m)(hg:zY all o env=some true)(aC:cx.op takes o env H lk df=some (.val v,⟨cK,H1,eB,eA⟩))(h1:q9 cx.P cx.uq takes o=false)(h2:kV cx.P cx.uq o=true)
  (hs:kB (kw (jr all takes i o m false false env v)) rs=true) (hc:kB (λc=>match vN (Nat.land m (eJ rs)) c.D with|true=>cx.eX takes o env v c|false=>true) cs=true)
  (k:cx.eN all takes (i+1) (jr all takes i o m false false env v::rs) (c0::cs) os ⟨aq cK o.dst v,H1,eB,eA⟩=r):cx.eN all takes i rs (c0::cs) (o::os) ⟨env,H,lk,df⟩=r:=by
 simp only[jr] at hs k;simp only[Cx.eN,hm,qA,hg,aC,qp,jN,h1,h2,mo,hs];simp only[Cx.fN,uM];split
 ·exact k
 next h=>exact absurd (hc.symm.trans h) (by decide)
theorem yo(hm:wB rs o.after.toList=some m)(hg:zY all o env=some true)(aC:cx.op takes o env H lk df=some (.val v,⟨cK,H1,eB,eA⟩))(h1:q9 cx.P cx.uq takes o=true)(h2:kV cx.P cx.uq o=true)
  (hs:kB (kw (jr all takes i o m true false env v)) rs=true) (hc:∀K,cx.fN takes rs (jr all takes i o m true false env v) c0 ⟨Nat.lor c0.D (Nat.pow 2 i),H1,eB,eA⟩ cs K=K cs')
  (k:cx.eN all takes (i+1) (jr all takes i o m true false env v::rs) cs' os ⟨aq cK o.dst v,H1,eB,eA⟩=r):cx.eN all takes i rs (c0::cs) (o::os) ⟨env,H,lk,df⟩=r:=by
 have ei:=λK=>hc K;simp only[jr] at hs k ei;simp only[Cx.eN,hm,qA,hg,aC,qp,jN,h1,h2,mo,hs];rw[ei];exact k
theorem vg(hm:wB rs o.after.toList=some m)(hg:zY all o env=some true)(aC:cx.op takes o env H lk df=some (.skip,⟨cK,H1,eB,eA⟩))(h1:q9 cx.P cx.uq takes o=true)
  (hs:kB (kw (jr all takes i o m true false env (.br []))) rs=true) (hc:∀K,cx.fN takes rs (jr all takes i o m true false env (.br [])) c0 ⟨Nat.lor c0.D (Nat.pow 2 i),H1,eB,eA⟩ cs K=K cs')
  (k:cx.eN all takes (i+1) (jr all takes i o m true false env (.br [])::rs) cs' os ⟨aq cK o.dst (.br []),H1,eB,eA⟩=r):cx.eN all takes i rs (c0::cs) (o::os) ⟨env,H,lk,df⟩=r:=by
 have ei:=λK=>hc K;simp only[jr] at hs k ei;simp only[Cx.eN,hm,qA,hg,aC,qp,jN,h1,hs];rw[ei];exact k
theorem wZ{s:St}:cx.eN all takes i rs cs [] s=some (.normal,s):=by simp only[Cx.eN]
theorem zkI{R:Rec}{c1:ew}{k:List ew->Option (Ex×St)}(hp:R.hp=true)(cw:∀c∈cs,vN (Nat.land R.m (eJ rs)) c.D=false)
  (dX:cx.fM takes rs (eJ rs) R (c1::c0::cs) c1=true):cx.fN takes rs R c0 c1 cs k=k (c1::c0::cs):=by
 have hr:∀l:List ew,(∀c∈l,vN (Nat.land R.m (eJ rs)) c.D=false)->cx.iA takes R.o R.env R.v (Nat.land R.m (eJ rs)) (Nat.pow 2 R.idx) l=some []:=by
  intro l
  induction l with
  | nil=>intro _;rfl
  | cons c l ih=>intro h;simp only[Cx.iA,h c (eK ..)];exact ih λc hc=>h c (dU _ hc)
 unfold Cx.fN;rw[hp];simp only[hr cs cw,bh,aZ,kB,dX]
end
theorem rT:∀(l:List aY),mV l l=true
 | []=>rfl
 | a::l=>by
  have h:gp a a=true:=by
   cases a with
   | cells a t=>simp[gp,dJ]
   | map a =>
    have:∀(l:List (V×V)),rL l l=true:=by
     intro l
     induction l with
     | nil=>rfl
     | cons x l ih=>obtain⟨a,b⟩:=x;simp[rL,V.dh,ih]
    simp[gp,this]
   | iter a i =>
    have:∀(l:bM),n6 l l=true:=by
     intro l
     induction l with
     | nil=>rfl
     | cons x l ih=>simp[n6,ih]
    simp[gp,this]
   | ul a b c d=>simp[gp,dJ]
  simp[mV,h,rT l]
theorem rU:∀(l:aO),mh l l=true
 | []=>rfl
 | (a,b)::l=>by simp[mh,rU l]
theorem rV:∀(l:bP),nF l l=true
 | []=>rfl
 | (a,b)::l=>by simp[nF,V.dh,dJ,rV l]
theorem zdQ{D D':Nat}{H:Hp}{lk:aO}{df:bP}:v9 ⟨D,H,lk,df⟩ ⟨D',H,lk,df⟩=true:=by
 simp[v9,rU,rV,rT]
theorem zkJ{r2 r1 r0 R:Rec}{c0 c1 d c2 e:ew}{k:List ew->Option (Ex×St)}(hp:R.hp=true)(h2:r2.hp=false)(Ug:r2.free=true)(h0:r0.hp=false)(Uh:r0.free=true)(h1:r1.hp=true)
  (hs:vN (Nat.land R.m (eJ [r2,r1,r0])) d.D=true) (hr:cx.ee takes R.o R.env d (Nat.lor d.D (Nat.pow 2 R.idx))=some (R.v,c2)) (L8:bit c1.D r1.idx=true) (oe:bit c2.D r1.idx=false)
  (hq:cx.ee takes r1.o r1.env c2 0=some (r1.v,e)) (hf:ya (Nat.lor c2.D (Nat.pow 2 r1.idx)) [c1,c2,c0,d]=some c1) (he:v9 e c1=true) :
  cx.fN takes [r2,r1,r0] R c0 c1 [d] k=k [c1,c2,c0,d]:=by
 have Hq:cx.fM takes [r2,r1,r0] (eJ [r2,r1,r0]) R [c1,c2,c0,d] c1=true:=by
  unfold Cx.fM;refine wc λq hq=>?_;split
  ·rfl
  ·rcases dG.1 hq with rfl|hq
   ·simp[h2,Ug]
   ·rcases dG.1 hq with rfl|hq
    ·simp[h1,L8]
    ·obtain rfl:q=r0:=by simpa using hq
     simp[h0,Uh]
 have XN:cx.fM takes [r2,r1,r0] (eJ [r2,r1,r0]) R [c1,c2,c0,d] c2=true:=by
  unfold Cx.fM;refine wc λq CO=>?_;split
  ·rfl
  ·rcases dG.1 CO with rfl|CO
   ·simp[h2,Ug]
   ·rcases dG.1 CO with rfl|CO
    ·simp only[h1,oe,hq,hf,V.dh,he,Bool.and_self]
    ·obtain rfl:q=r0:=by simpa using CO
     simp[h0,Uh]
 unfold Cx.fN;rw[hp];simp only[Cx.iA,hs,hr,V.dh,bh,aZ,kB,Hq,XN]
theorem j5{rs:List Rec}{cs:List ew}{R:Rec}{c0 c1 nw:ew}{k:List ew->Option (Ex×St)}(e:c1=nw)(hp:R.hp=true)(cw:∀c∈cs,vN (Nat.land R.m (eJ rs)) c.D=false)
  (dX:cx.fM takes rs (eJ rs) R (nw::c0::cs) nw=true):cx.fN takes rs R c0 c1 cs k=k (nw::c0::cs):=by
 subst e;exact zkI hp cw dX
theorem ziw{r2 r1 r0 R:Rec}{c0 c1 nw d c2 e:ew}{k:List ew->Option (Ex×St)}(e1:c1=nw)(hp:R.hp=true)(h2:r2.hp=false)(Ug:r2.free=true)(h0:r0.hp=false)(Uh:r0.free=true)(h1:r1.hp=true)
  (hs:vN (Nat.land R.m (eJ [r2,r1,r0])) d.D=true) (hr:cx.ee takes R.o R.env d (Nat.lor d.D (Nat.pow 2 R.idx))=some (R.v,c2)) (L8:bit nw.D r1.idx=true) (oe:bit c2.D r1.idx=false)
  (hq:cx.ee takes r1.o r1.env c2 0=some (r1.v,e)) (hf:ya (Nat.lor c2.D (Nat.pow 2 r1.idx)) [nw,c2,c0,d]=some nw) (he:v9 e nw=true) :
  cx.fN takes [r2,r1,r0] R c0 c1 [d] k=k [nw,c2,c0,d]:=by
 subst e1;exact zkJ hp h2 Ug h0 Uh h1 hs hr L8 oe hq hf he
end
section
def IU(f:Nat->Bool):Nat->Nat
 | 0=>0
 | n+1=>IU f n ||| (if f n=true then 2 ^ n else 0)
theorem XO{f:Nat->Bool}{j:Nat}:∀{n:Nat},(IU f n).testBit j=(decide (j<n) && f j)
 | 0=>by simp[IU]
 | n+1=>by
  simp only[IU,ud,XO (n:=n)]
  by_cases e:n=j
  ·subst e;cases h:f n<;>simp[]
  ·have:(if f n=true then 2 ^ n else 0).testBit j=false:=by
    cases f n<;>simp[e]
   rw[this];have:(j<n) ↔ (j<n+1):=by omega
   simp[this]
theorem zhl{f:Nat->Bool}:∀{n:Nat},IU f n<2 ^ n
 | 0=>by simp[IU]
 | n+1=>by
  simp only[IU];have h1:=zhl (f:=f) (n:=n);have h2:2 ^ n<2 ^ (n+1):=HP (by omega) (by omega)
  refine JL (by omega) ?_
  split<;>omega
theorem yH{f:Nat->Bool}{n m:Nat}(hm:m<2 ^ n)(h:∀j,j<n->m.testBit j=f j):m=IU f n:=by
 apply JK;intro j;rw[XO]
 by_cases hj:j<n
 ·simp[hj,h j hj]
 ·simp only[hj,decide_false,Fe];exact NO (uc hm (Nat.pow_le_pow_right (by omega) (by omega)))
def kL(p:Nat->Bool)(i:Nat):Nat:=IU (λj=>p (64 * i+j)) 64
theorem wd{p:Nat->Bool}{i:Nat}:kL p i<2 ^ 64:=zhl
theorem wP{p:Nat->Bool}{i j:Nat}(h:j<64):(kL p i).testBit j=p (64 * i+j):=by simp[kL,XO,h]
def jP(p:Nat->Bool)(n:Nat):Nat->Bool:=λk=>p k || k == n
def jC(p q:Nat->Bool):Nat->Bool:=λk=>p k || q k
theorem zl7{p:Nat->Bool}{n:Nat}:kL p (n / 64) ||| 2 ^ (n % 64)=kL (jP p n) (n / 64):=by
 refine yH (JL wd (HP (by omega) (Nat.mod_lt _ (by omega)))) λj hj=>?_
 rw[ud,wP hj,E_];simp only[jP]
 congr 1
 rw[EI];simp only[decide_eq_true_eq,beq_iff_eq];omega
theorem zhm{p:Nat->Bool}{n i:Nat}(h:i≠n / 64):kL (jP p n) i=kL p i:=by
 refine(yH wd λj hj=>?_).symm;rw[wP hj];simp only[jP];have:¬(64 * i+j=n):=λe=>h (by omega)
 simp[this]
def pv(m:Nat)(p:Nat->Bool):aD:=(List.range m).map λi=>.int .u64 (kL p i:Nat)
theorem jE{m:Nat}{p:Nat->Bool}:(pv m p).length=m:=by simp[pv]
theorem yI{m:Nat}{p:Nat->Bool}{i:Nat}(h:i<m):(pv m p)[i]?=some (.int .u64 (kL p i:Nat)):=by simp[pv,h]
theorem zpS{m:Nat}{p:Nat->Bool}{n:Nat}:(pv m p).set (n / 64) (.int .u64 (kL (jP p n) (n / 64):Nat))=pv m (jP p n):=by
 apply Fa;intro i;rw[List.getElem?_set']
 by_cases hi:i<m
 ·rw[yI hi,yI hi]
  by_cases e:n / 64=i
  ·subst e;simp
  ·simp[e,zhm (Ne.symm e)]
 ·have h1:(pv m p)[i]?=none:=by simp[pv];omega
  have h2:(pv m (jP p n))[i]?=none:=by simp[pv];omega
  rw[h1,h2];simp
theorem XP{n:Nat}(h:n<2 ^ 64):IntKind.u64.wrap (n:Int)=n:=by
 simp only[IntKind.wrap,IntKind.bits,IntKind.signed];simp only[Fe,fR,bw];omega
theorem kT{n:Int}(h:-9223372036854775808<=n)(h':n<9223372036854775808):IntKind.i64.wrap n=n:=by
 simp only[IntKind.wrap,IntKind.bits,IntKind.signed];simp only[tP,decide_eq_true_eq,ge_iff_le];have e1:(2:Int) ^ 64=18446744073709551616:=by decide
 have e2:(2:Int) ^ (64 - 1)=9223372036854775808:=by decide
 rw[e1,e2];split<;>omega
theorem Ui{n:Nat}(h:n<2 ^ 64):(BitVec.ofInt 64 (n:Int)).toNat=n:=by
 simp[];omega
variable{P:aQ}{t:aB}{x y:aW}
theorem XQ{a b:Nat}(ha:a<2 ^ 64)(hb:b<2 ^ 64):qL P .or t x y (some (.int .u64 a)) (some (.int .u64 b))=some (.int .u64 ((a ||| b:Nat):Int)):=by
 have h0:((BitVec.ofInt 64 (a:Int) ||| BitVec.ofInt 64 (b:Int)).toNat)=a ||| b:=by
  rw[BitVec.toNat_or,Ui ha,Ui hb]
 have h:((BitVec.ofInt IntKind.u64.bits (a:Int) ||| BitVec.ofInt IntKind.u64.bits (b:Int)).toNat)=a ||| b:=h0
 simp only[qL,ju,w9,jY,aF];rw[h,XP (JL ha hb)]
theorem zkK{k:Nat}(hk:k<2 ^ 60):qL P .quo t x y (some (.int .i64 k)) (some (.int .i64 64))=some (.int .i64 ((k / 64:Nat):Int)):=by
 have h:(k:Int).tdiv 64=((k / 64:Nat):Int):=by
  rw[Int.tdiv_eq_ediv_of_nonneg (by omega)];omega
 simp only[qL,ju,w9,jY,aF];rw[h,kT (by omega) (by omega)]
 rfl
theorem zkL{k:Nat}:qL P .rem t x y (some (.int .i64 k)) (some (.int .i64 64))=some (.int .i64 ((k % 64:Nat):Int)):=by
 have h:(k:Int).tmod 64=((k % 64:Nat):Int):=by
  rw[Int.tmod_eq_emod_of_nonneg (by omega)];omega
 simp only[qL,ju,w9,jY,aF];rw[h];rfl
theorem zl8{k:Nat}(hk:k<64):qL P .shl t x y (some (.int .u64 1)) (some (.int .i64 k))=some (.int .u64 ((2 ^ k:Nat):Int)):=by
 have h1:¬((k:Int)<0):=by omega
 have h2:min (k:Int).toNat IntKind.u64.bits=k:=by simp[IntKind.bits];omega
 have h3:(1:Int) * 2 ^ k=((2 ^ k:Nat):Int):=by simp
 simp only[qL,ju,w9,La,aF,h1,bw,h2];rw[h3,XP (HP (by omega) hk)]
theorem ze5{H:Hp}{b off n:Nat}{v:V}{env:aD}{cs:aD}{ty:aB}{lk:aO}{df:bP}(hb:H.get b=some (.cells cs ty))(h1:dz v=true)(h2:v.laid.length=n)(h3:off+n<=cs.length)(h4:wz lk b off n (cs.drop off)=true) :
  Qi n H lk df (some (.ptr b off)) (some (v,env))=some (.skip,⟨env,(H.set b (.cells (Vm.storeCells cs off v.laid) ty)).bQ b v,lk,df⟩):=by
 simp only[Qi,hb,h1,h2,h4];simp[h3]
theorem jR{H:Hp}{b:Nat}{v:V}(h:v.top<=b+1):H.bQ b v=H:=by simp[Hp.bQ,h]
theorem XR{pre post:aD}{m i:Nat}{xs:aD}{v:V}(h:xs.length=m)(hi:i<m):(pre++xs++post).set (pre.length+i) v=pre++xs.set i v++post:=by
 rw[a_,Aa _ _ (by omega),NM,GP _ _ (by omega),a_]
theorem xG{pre post:aD}{m i:Nat}{xs:aD}(h:xs.length=m)(hi:i<m):(pre++xs++post)[pre.length+i]?=xs[i]?:=by
 rw[a_,fI (by omega),NM,gb (by omega)]
theorem zhn{lk:aO}{b:Nat}:∀{n off:Nat}{l:aD},(∀i,i<n->∃c,l[i]?=some c/\locked c=false)->wz lk b off n l=true
 | 0,_,_,_=>by simp[wz]
 | n+1,off,[],h=>by obtain⟨c,hc,_⟩:=h 0 (by omega);simp at hc
 | n+1,off,c::l,h=>by
  obtain⟨d,hd,hl⟩:=h 0 (by omega)
  simp only[K2,bq] at hd;subst hd;simp only[wz,hl,oI,Bool.true_or,tP];exact zhn λi hi=>by
   have:=h (i+1) (by omega)
   simpa using this
theorem yp{lk:aO}{b n off:Nat}{cs:aD}(h:∀i,i<n->∃c,cs[off+i]?=some c/\locked c=false):wz lk b off n (cs.drop off)=true :=
 zhn λi hi=>by rw[HT];exact h i hi
end
section
theorem Bs:∀(w:Nat),w≠0->∃k m,w=2 ^ (k+1) * m+2 ^ k:=by
 intro w
 induction w using Nat.strongRecOn with
 | ind w ih =>
  intro h;rcases Nat.mod_two_eq_zero_or_one w with h2|h2
  ·obtain⟨k,m,e⟩:=ih (w / 2) (by omega) (by omega)
   refine⟨k+1,m,?_⟩;have:w=2 * (w / 2):=by omega
   rw[this,e,Nat.mul_add,<- Nat.mul_assoc,<- Nat.pow_succ',<- Nat.pow_succ']
  ·exact⟨0,w / 2,by omega⟩
theorem XS(k:Nat):0<2 ^ k:=Nat.pow_pos (by decide)
theorem Uj{k m j:Nat}:(2 ^ (k+1) * m+2 ^ k).testBit j=if j<k then false else if j=k then true else m.testBit (j - (k+1)):=by
 rw[Nat.testBit_two_pow_mul_add _ (HP (by decide) (by omega)),E_]
 by_cases h1:j<k
 ·rw[if_pos (by omega),if_pos h1];simp;omega
 ·by_cases h2:j=k
  ·subst h2;simp
  ·rw[if_neg (by omega),if_neg h1,if_neg h2]
theorem zho{k m j:Nat}:(2 ^ (k+1) * m+2 ^ k - 1).testBit j=if j<k then true else if j=k then false else m.testBit (j - (k+1)):=by
 have:=XS k;have h2:2 ^ k<2 ^ (k+1):=HP (by decide) (by omega)
 rw[Nat.add_sub_assoc (by omega),Nat.testBit_two_pow_mul_add _ (by omega),Nat.testBit_two_pow_sub_one]
 by_cases h1:j<k
 ·rw[if_pos (by omega),if_pos h1];simp[h1]
 ·by_cases h2:j=k
  ·subst h2;simp
  ·rw[if_neg (by omega),if_neg h1,if_neg h2]
theorem Qr{k m:Nat}(h:2 ^ (k+1) * m+2 ^ k<2 ^ 64):k<64:=by
 rcases eM k 64 with h1|h1
 ·exact h1
 ·have:=Nat.pow_le_pow_right (n:=2) (by decide) h1
  omega
theorem zn3{k m:Nat}(h:2 ^ (k+1) * m+2 ^ k<2 ^ 64):(2 ^ (k+1) * m+2 ^ k) &&& (2 ^ 64 - (2 ^ (k+1) * m+2 ^ k))=2 ^ k:=by
 have hp:=XS k;apply JK;intro j;have e:2 ^ 64 - (2 ^ (k+1) * m+2 ^ k)=2 ^ 64 - ((2 ^ (k+1) * m+2 ^ k - 1)+1):=by omega
 rw[Nat.testBit_and,e,Nat.testBit_two_pow_sub_succ (by omega),zho,Uj,E_]
 have:=Qr h
 by_cases h1:j<k
 ·simp[h1];omega
 ·by_cases h2:j=k
  ·subst h2;simp[this]
  ·have h3:decide (k=j)=false:=by simp;omega
   rw[h3];simp only[h1,h2,bw];cases m.testBit (j - (k+1))<;>simp
def wi(w:Nat):bM:=(List.range' 0 64).filter λj=>w.testBit j
theorem zhp{k:Nat}{p q:Nat->Bool}(hk:p k=true)(hq:∀j,q j=(p j && !(j == k))):∀(n s:Nat),s<=k->k<s+n->(∀j,s<=j->j<k->p j=false)->(List.range' s n).filter p=k::(List.range' s n).filter q
 | 0,s,h1,h2,_=>by omega
 | n+1,s,h1,h2,h3=>by
  rw[List.range'_succ]
  by_cases e:s=k
  ·subst e;have XT:q s=false:=by rw[hq];simp
   rw[List.filter_cons_of_pos hk,List.filter_cons_of_neg (by rw[XT];decide)]
   congr 1
   apply List.filter_congr;intro j hj;have:=List.mem_range'_1.1 hj;have cH:(j == s)=false:=by simp;omega
   rw[hq,cH];simp
  ·have hs:p s=false:=h3 s (dA _) (by omega)
   have XT:q s=false:=by rw[hq,hs];rfl
   rw[List.filter_cons_of_neg (by rw[hs];decide),List.filter_cons_of_neg (by rw[XT];decide)]
   exact zhp hk hq n (s+1) (by omega) (by omega) λj h4 h5=>h3 j (by omega) h5
theorem Uk{k m:Nat}(h:2 ^ (k+1) * m+2 ^ k<2 ^ 64):wi (2 ^ (k+1) * m+2 ^ k)=k::wi ((2 ^ (k+1) * m+2 ^ k) &&& (2 ^ (k+1) * m+2 ^ k - 1)):=by
 refine zhp (by simp[Uj]) (λj=>?_) 64 0 (by omega) (by have:=Qr h;omega) λj _ hj=>by simp[Uj,hj]
 rw[Nat.testBit_and,Uj,zho]
 by_cases h1:j<k
 ·simp[h1]
 ·by_cases h2:j=k
  ·subst h2;simp
  ·simp[h1,h2]
theorem s4:wi 0=[]:=by simp[wi]
def Qs:List Int:=[0,1,56,2,57,49,28,3,61,58,42,50,38,29,17,4,62,47,59,36,45,43,51,22,53,39,33,30,24,18,12,5,63,55,48,27,60,41,37,16,46,35,44,21,52,32,23,11,54,26,40,15,34,20,31,10,25,14,19,9,13,8,7,6]
def Bt:aD:=Qs.map (V.int .u8)
theorem L9:∀k:Nat,k<64->nth Bt ((2 ^ k * 285870213051353865) % 2 ^ 64 / 2 ^ 58)=some (.int .u8 (k:Int)):=by
 have h:(List.range 64).all (λk:Nat=>match nth Bt ((2 ^ k * 285870213051353865) % 2 ^ 64 / 2 ^ 58) with|some (.int .u8 n)=>n == (k:Int)|_=>false)=true:=by decide +kernel
 intro k hk;have:=Cs.1 h k (BX.2 hk);split at this<;>try (cases this;done)
 rename_i n e;rw[e];have:n=(k:Int):=by simpa using this
 rw[this]
variable{P:aQ}{t:aB}{x y:aW}
theorem zl9{w:Nat}(h0:w≠0)(h:w<2 ^ 64):iH .neg (.int .u64 (w:Int))=some (.int .u64 ((2 ^ 64 - w:Nat):Int)):=by
 simp only[iH]
 congr 2
 simp only[IntKind.wrap,IntKind.bits,IntKind.signed,Fe,fR,bw];omega
theorem Ul{a b:Nat}(ha:a<2 ^ 64)(hb:b<2 ^ 64):qL P .and t x y (some (.int .u64 a)) (some (.int .u64 b))=some (.int .u64 ((a &&& b:Nat):Int)):=by
 have h0:((BitVec.ofInt 64 (a:Int) &&& BitVec.ofInt 64 (b:Int)).toNat)=a &&& b:=by
  rw[BitVec.toNat_and,Ui ha,Ui hb]
 have h:((BitVec.ofInt IntKind.u64.bits (a:Int) &&& BitVec.ofInt IntKind.u64.bits (b:Int)).toNat)=a &&& b:=h0;simp only[qL,ju,w9,jY,aF];rw[h,XP (K7 Nat.and_le_left ha)]
theorem zkM{a b:Nat}:qL P .mul t x y (some (.int .u64 a)) (some (.int .u64 b))=some (.int .u64 ((a * b % 2 ^ 64:Nat):Int)):=by
 have h:IntKind.u64.wrap ((a:Int) * b)=((a * b % 2 ^ 64:Nat):Int):=by
  simp only[IntKind.wrap,IntKind.bits,IntKind.signed,Fe,fR,bw];rw[<- Int.natCast_mul];omega
 simp only[qL,ju,w9,jY,aF,h]
theorem zkN{a:Nat}:qL P .shr t x y (some (.int .u64 a)) (some (.int .u64 58))=some (.int .u64 ((a / 2 ^ 58:Nat):Int)):=by
 have h2:min (58:Int).toNat IntKind.u64.bits=58:=by decide
 have h3:(a:Int).fdiv (2 ^ 58)=((a / 2 ^ 58:Nat):Int):=by
  rw[Int.fdiv_eq_ediv_of_nonneg _ (show(0:Int)<=2 ^ 58 by decide)]
  omega
 simp only[qL,ju,w9,La,aF,show ¬((58:Int)<0) by decide,bw,h2,h3]
theorem ze6{w:Nat}(h0:w≠0)(h:w<2 ^ 64):qL P .sub t x y (some (.int .u64 w)) (some (.int .u64 1))=some (.int .u64 ((w - 1:Nat):Int)):=by
 rw[kD]
 congr 2
 simp only[IntKind.wrap,IntKind.bits,IntKind.signed,Fe,fR,bw];omega
theorem zn4{k:Nat}(hk:k<64):∃x ix:Nat,(∀(t:aB)(u v:aW),qL P .mul t u v (some (.int .u64 ((2 ^ k:Nat):Int))) (some (.int .u64 285870213051353865))=some (.int .u64 (x:Int)))/\(∀(t:aB)(u v:aW),qL P .shr t u v (some (.int .u64 (x:Int))) (some (.int .u64 58))=some (.int .u64 (ix:Int)))/\ix<64/\nth Bt ix=some (.int .u8 (k:Int)):=by
 refine⟨2 ^ k * 285870213051353865 % 2 ^ 64,2 ^ k * 285870213051353865 % 2 ^ 64 / 2 ^ 58,λt u v=>zkM,λt u v=>zkN,?_,L9 k hk⟩;have:2 ^ k * 285870213051353865 % 2 ^ 64<2 ^ 64:=Nat.mod_lt _ (by decide)
 omega
theorem zn5{k m:Nat}(h:2 ^ (k+1) * m+2 ^ k<2 ^ 64):∃w w':Nat,w=2 ^ (k+1) * m+2 ^ k/\w≠0/\iH .neg (.int .u64 (w:Int))=some (.int .u64 (w':Int))/\(∀(t:aB)(u v:aW),qL P .and t u v (some (.int .u64 (w:Int))) (some (.int .u64 (w':Int)))=some (.int .u64 ((2 ^ k:Nat):Int))):=by
 have hp:=XS k;refine⟨_,2 ^ 64 - (2 ^ (k+1) * m+2 ^ k),rfl,by omega,zl9 (by omega) h,λt u v=>?_⟩
 rw[Ul h (by omega),zn3 h]
def Um(p:Nat->Bool)(i:Nat):aD:=(wi (kL p i)).map λj=>.int .i64 ((64 * i+j:Nat):Int)
def xo(p:Nat->Bool):Nat->aD
 | 0=>[]
 | i+1=>xo p i++Um p i
theorem XU{w:Nat}:(wi w).length<=64:=by
 have:=List.length_filter_le (λj=>w.testBit j) (List.range' 0 64);simpa[wi] using this
theorem xp{p:Nat->Bool}:∀i,(xo p i).length<=64 * i
 | 0=>by simp[xo]
 | i+1=>by
  have:=xp (p:=p) i;have:=XU (w:=kL p i);simp only[xo,Um,aU,gk];omega
def jg(p:Nat->Bool):Nat->bM
 | 0=>[]
 | i+1=>jg p i++(wi (kL p i)).map λj=>64 * i+j
theorem xH{p:Nat->Bool}:∀i,xo p i=(jg p i).map λk=>V.int .i64 ((k:Nat):Int)
 | 0=>rfl
 | i+1=>by simp only[xo,jg,Um,xH i,List.map_append,List.map_map];rfl
theorem zjx{p:Nat->Bool}:∀i,jg p i=(List.range (64 * i)).filter p
 | 0=>rfl
 | i+1=>by
  have h1:wi (kL p i)=(List.range 64).filter λj=>p (64 * i+j):=by
   rw[wi,List.range_eq_range'];apply List.filter_congr;intro j hj;have:=List.mem_range'_1.1 hj;exact wP (by omega)
  rw[jg,zjx i,h1,Nat.mul_add,JN,List.range_add,List.filter_append,List.filter_map];rfl
theorem ir{p:Nat->Bool}{i k:Nat}:k∈jg p i ↔ k<64 * i/\p k=true:=by
 rw[zjx,D3,BX]
def mL(q:Nat->Bool):bM->List (Nat->Bool)->List (Nat->Bool)
 | [],ns=>ns
 | k::ks,ns=>mL q ks (ns.set k (jC (ns.getD k λ_=>false) q))
theorem wx{q:Nat->Bool}:∀{ks:bM}{ns:List (Nat->Bool)},(mL q ks ns).length=ns.length
 | [],_=>rfl
 | k::ks,ns=>by rw[mL,wx,bD]
theorem zhq{ns:List (Nat->Bool)}{k:Nat}(hk:k<ns.length):∃pre post,pre.length=k * 19/\(ns.map (pv 19)).flatten=pre++pv 19 (ns.getD k λ_=>false)++post/\∀r,((ns.set k r).map (pv 19)).flatten=pre++pv 19 r++post:=by
 induction ns generalizing k with
 | nil=>simp at hk
 | cons p ns ih =>
  cases k with
  | zero=>exact⟨[],(ns.map (pv 19)).flatten,rfl,by simp,λr=>by simp⟩
  | succ k =>
   obtain⟨pre,post,h1,h2,h3⟩:=ih (k:=k) (by simpa using hk)
   refine⟨pv 19 p++pre,post,?_,?_,λr=>?_⟩
   ·rw[aU,jE,h1,HX,JM]
   ·simp only[bg,List.flatten_cons,h2,a_,List.getD_cons_succ]
   ·simp only[bT,bg,List.flatten_cons,h3,a_]
end
section
def UL(H:Hp)(sz:Nat)(e:aB)(c:V)(i:Option Nat)(xs:List aD):Prop :=
 match i with
 | none=>c=.aG/\xs=[]
 | some j=>∃v,c=.dB j v xs.length/\H.get j=some (.ul v sz xs.flatten e)
structure s5(H H':Hp)(S:Nat->Prop):Prop where
 len:H.az.length<=H'.az.length
 get:∀d,d<H.az.length->¬S d->H'.get d=H.get d
theorem s5.refl{H:Hp}{S:Nat->Prop}:s5 H H S:=⟨dA _,λ_ _ _=>rfl⟩
theorem s5.mono{A B:Hp}{S T:Nat->Prop}(h:s5 A B S)(hs:∀d,d<A.az.length->S d->T d):s5 A B T:=⟨h.len,λd hd hn=>h.get d hd λe=>hn (hs d hd e)⟩
theorem s5.some{A B:Hp}{S:Nat->Prop}(h:s5 A B S){d:Nat}{x:aY}(hx:A.get d=some x)(hn:¬S d):B.get d=some x:=(h.get d (kJ hx) hn).trans hx
theorem UL.frame{A B:Hp}{sz:Nat}{e:aB}{c:V}{i:Option Nat}{xs:List aD}(h:UL A sz e c i xs)(hg:∀j,i=some j->B.get j=A.get j):UL B sz e c i xs:=by
 cases i with
 | none=>exact h
 | some j=>obtain⟨v,h1,h2⟩:=h;exact⟨v,h1,(hg j rfl).trans h2⟩
theorem UL.lt{H:Hp}{sz:Nat}{e:aB}{c:V}{j:Nat}{xs:List aD}(h:UL H sz e c (some j) xs):j<H.az.length:=by
 obtain⟨v,_,h2⟩:=h;exact kJ h2
theorem jb{n0 t:Nat}{es:aO}{H:Hp}{d:Nat}(hd:d<n0):(zW n0 es t H).get d=H.get d:=by
 unfold zW;obtain⟨bs,new⟩:=H;simp only;split
 ·simp only[Hp.get,zg,AK,hd,aF]
 ·rfl
theorem vV{n0 t:Nat}{es:aO}{H:Hp}(h:n0<=H.az.length):n0<=(zW n0 es t H).az.length:=by
 unfold zW;obtain⟨bs,new⟩:=H;simp only;split
 ·simp only[uL];simp only at h;omega
 ·exact h
theorem xI{n0 t b m:Nat}{es:aO}{H:Hp}(h:(b,m)∈H.bG)(hb:b<n0)(hm:n0<m):∀d,(zW n0 es t H).get d=H.get d:=by
 unfold zW;obtain⟨bs,new⟩:=H;intro d;have hc:¬((Nat.ble t n0 && new.all λe=>Nat.ble n0 e.1 || Nat.ble e.2 n0)=true):=by
  intro hx;simp only[d_,Cs] at hx;have:=hx.2 _ h;simp only[p7] at this;rcases this with h1|h1<;>have:=r_ h1<;>omega
 simp only[hc];rfl
theorem dD{n b:Nat}(h:n * b<=140737488355328)(h':n<=140737488355328):kx n b=true:=by
 simp[kx,Nat.ble_eq,h,h']
def XV(z:V):Bool:=dz z && z.cells.all λc=>!(locked c)
theorem zjy{P:aQ}{e n:Nat}(h:(qP P e).map (λz=>(z.cells.length,XV z))=some (n,true))(hn:n≠0/\n<=16777216):∃z,qP P e=some z/\(n≠0/\n<=16777216/\z.cells.length=n/\dz z=true)/\z.cells.all (λc=>!(locked c))=true:=by
 cases hz:qP P e with
 | none=>rw[hz] at h;cases h
 | some z =>
  rw[hz] at h;simp only[aS,bq,cq,XV,d_] at h;exact⟨z,rfl,⟨hn.1,hn.2,h.1,h.2.1⟩,h.2.2⟩
theorem wj{lk:aO}{b n off:Nat}{cs:aD}(h:cs.all (λc=>!(locked c))=true)(hl:off+n<=cs.length):wz lk b off n (cs.drop off)=true :=
 yp λi hi=>⟨cs[off+i]'(by omega),gj (by omega),by
  have:=Cs.1 h _ (List.getElem_mem (show off+i<cs.length by omega))
  simpa using this⟩
structure mW(P:aQ)(t e n bytes:Nat):Prop where
 u:P.underlying t=some (.slice e)
 s:z4 P e=some n
 z:(qP P e).map (λz=>(z.cells.length,XV z))=some (n,true)
 n0:n≠0/\n<=16777216
 i:((P.info? e).bind λi=>i.zero.map λz=>(z.cells.size,i.bytes))=some (n,bytes)
 a:qz P t=some false
 st:z4 P t=some 1
theorem mW.Cc{P:aQ}{t e n Cd:Nat}(h:mW P t e n Cd){v:V}(h5:dz v=true)(h6:v.cells.length=n):Ql P t (some v)=some (.sl n [v] (.yes e)):=by
 obtain⟨z,h1,h2,_⟩:=zjy h.z h.n0;exact znZ h.u h.s h1 h2 h5 h6
theorem mW.app{P:aQ}{t e n Cd:Nat}(h:mW P t e n Cd){env:aD}{H:Hp}{lk:aO}{df:bP}{ys:aD}{o:uN}{c:V}{i:Option Nat}{xs:List aD}(hy:ys≠[])(hu:UL H n e c i xs)(fP:kx (xs.length+ys.length) Cd=true) :
  Qk P t env H lk df (some (.sl n ys o)) (some c)=match i with
   | none=>some (.val (.dB H.az.length 0 ys.length),⟨env,H.push (.ul 0 n (bY ys) e),lk,df⟩)
   | some j=>match c with
    | .dB _ v _=>some (.val (.dB j (v+1) (xs.length+ys.length)),⟨env,(H.set j (.ul (v+1) n (xs.flatten++bY ys) e)).bQ j (.br ys),lk,df⟩)
    | _=>none:=by
 have hi:=h.i;cases Aj:P.info? e with
 | none=>rw[Aj] at hi;cases hi
 | some ti =>
  rw[Aj] at hi;simp only[aT] at hi;cases hz:ti.zero with
  | none=>rw[hz] at hi;cases hi
  | some z =>
   rw[hz] at hi;simp only[aS,bq,cq] at hi;rw[znX h.u h.s Aj hz hi.1 h.n0.1,hi.2];cases i with
   | none =>
    obtain⟨rfl,rfl⟩:=hu;cases ys with
    | nil=>exact absurd rfl hy
    | cons y ys=>simp at fP;simp[fP]
   | some j =>
    obtain⟨v,rfl,hj⟩:=hu;simp[hj,fP]
theorem XW{P:aQ}{t:aB}{env:aD}{H:Hp}{lk:aO}{df:bP}{b off:Nat}{cs:aD}{ty:aB}{c:V}(ha:qz P t=some false)(hb:H.get b=some (.cells cs ty))(hn:nth cs off=some c)(hc:c=.aG\/∃j v l,c=.dB j v l) :
  vU P t env H lk df (some (.ptr b off))=some (.val c,⟨env,H,lk,df⟩):=by
 rcases hc with rfl|⟨j,v,l,rfl⟩<;>simp[vU,ha,hb,hn]
theorem we{H:Hp}{x:aY}:(H.push x).get H.az.length=some x:=by rw[wX,IN];simp
theorem Un{bs:List aY}{es:aO}{x:aY}:(Hp.push ⟨bs,es⟩ x).get bs.length=some x:=we (H:=⟨bs,es⟩)
theorem jc{P:aQ}{t:aB}{H:Hp}{gl:Nat->Nat->b_}{b n off:Nat}{cs:aD}{ty:aB}(ha:qz P t=some true)(hs:z4 P t=some n)(hb:H.get b=some (.cells cs ty))(hl:off+n<=cs.length):zk P H gl t (.ptr b off)=some (.agg ((cs.drop off).take n)):=by
 rw[jU,hb,jx,qu,ha,hs,Oe,if_pos hl]
theorem zt{P:aQ}{t:aB}{H:Hp}{gl:Nat->Nat->b_}{b off:Nat}{cs:aD}{ty:aB}{v:V}(ha:qz P t=some false)(hb:H.get b=some (.cells cs ty))(hn:nth cs off=some v):zk P H gl t (.ptr b off)=some v:=by
 rw[jU,hb,jx,qu,ha,T4,hn]
theorem zy{P:aQ}{t n:aB}{H:Hp}{lk:aO}{df:bP}{b off:Nat}{v:V}{env:aD}{cs:aD}{ty:aB}(hs:z4 P t=some n)(hb:H.get b=some (.cells cs ty))(h1:dz v=true)(h2:v.laid.length=n)(h3:off+n<=cs.length)(h4:wz lk b off n (cs.drop off)=true) :
  qr P t H lk df (some (v,env)) (some (.ptr b off))=some (.skip,⟨env,(H.set b (.cells (Vm.storeCells cs off v.laid) ty)).bQ b v,lk,df⟩):=by
 simp only[qr,hs,ze5 hb h1 h2 h3 h4]
theorem qH{env:aD}{t j v l:Nat}:qF env t (some (.dB j v l))=some (.dB j v l,env):=rfl
theorem q8{j v l:Nat}:aV (.dB j v l)=.dB j v l:=rfl
theorem zhr{H:Hp}{b:Nat}{v:V}(h:b+1<v.top):(b,v.top)∈(H.bQ b v).bG:=by
 unfold Hp.bQ;rw[if_neg (by omega)]
 simp
theorem Uo{P:aQ}{t e n b u len:Nat}{i:Int}(hu:P.underlying t=some (.slice e))(hs:z4 P e=some n)(h:0<=i/\i<len):zp P t (.dB b u len) i=some (.gh b u (i.toNat * n)):=by
 simp[zp,hu,hs,h]
theorem zhs{P:aQ}{t:aB}{H:Hp}{gl:Nat->Nat->b_}{b u k n sz:Nat}{cs:aD}{e:aB}(ha:qz P t=some true)(hs:z4 P t=some n)(hb:H.get b=some (.ul u sz cs e))(hl:k+n<=cs.length):zk P H gl t (.gh b u k)=some (.agg ((cs.drop k).take n)):=by
 have:Nat.beq u u=true:=lK u;simp[zk,hb,qu,ha,hs,Oe,hl]
theorem vt{n:Nat}:∀{xs:List aD},(∀y∈xs,y.length=n)->xs.flatten.length=xs.length * n
 | [],_=>by simp
 | x::xs,h=>by
  rw[List.flatten_cons,aU,h x (eK ..),vt λy hy=>h y (dU _ hy),aX,HX,JM]
theorem mW.zero{P:aQ}{t e n Cd:Nat}(h:mW P t e n Cd):∃z,qP P e=some z/\dz z=true/\z.cells.length=n/\z.cells.all (λc=>!(locked c))=true:=by
 obtain⟨z,h1,h2,h3⟩:=zjy h.z h.n0;exact⟨z,h1,h2.2.2.2,h2.2.2.1,h3⟩
theorem xq{P:aQ}{H:Hp}{t e b u n:Nat}(hu:P.underlying t=some (.slice e)):qX P H t (.dB b u n)=some (n:Int):=by simp[qX,hu]
theorem ze7{P:aQ}{H:Hp}{t e:Nat}(hu:P.underlying t=some (.slice e)):qX P H t .aG=some 0:=by simp[qX,hu]
theorem jQ{a b c:Nat}:aV (.gh a b c)=.gh a b c:=rfl
theorem XX{i:Nat}:∀{xs ys:aD}{k:Nat},(Vm.storeCells ys k xs)[i]?=if k<=i/\i<k+xs.length/\i<ys.length then xs[i - k]? else ys[i]?
 | [],ys,k=>by simp[Vm.storeCells];omega
 | x::xs,ys,k=>by
  simp only[Vm.storeCells,XX (xs:=xs),bD,List.getElem?_set',aX]
  by_cases h1:i=k
  ·subst h1;have:¬(i+1<=i/\i<i+1+xs.length/\i<ys.length):=by omega
   rw[if_neg this,if_pos rfl]
   by_cases h2:i<ys.length
   ·rw[if_pos (by omega),gj h2];simp
   ·rw[if_neg (by omega),uI (by omega)];simp
  ·rw[if_neg (Ne.symm h1)]
   by_cases h2:k+1<=i/\i<k+1+xs.length/\i<ys.length
   ·rw[if_pos h2,if_pos (by omega),show i - k=(i - (k+1))+1 by omega,List.getElem?_cons_succ]
   ·rw[if_neg h2,if_neg (by omega)]
theorem wQ{xs ys:aD}(h:ys.length=xs.length):Vm.storeCells ys 0 xs=xs:=by
 apply Fa;intro i;rw[XX]
 by_cases hi:i<xs.length
 ·rw[if_pos (by omega)];simp
 ·rw[if_neg (by omega),uI (by rw[h];omega),uI (by omega)]
theorem qC{H:Hp}{b c:Nat}{x:aY}(h:c≠b):(H.set b x).get c=H.get c:=by
 rw[jy];cases H.get c<;>simp[h]
theorem wI{H:Hp}{b:Nat}{x y:aY}(h:H.get b=some y):(H.set b x).get b=some x:=by
 rw[jy,h];simp
theorem jG{H:Hp}{d:Nat}{x:aY}(h:d<H.az.length):(H.push x).get d=H.get d:=by
 have:H.get d=some (H.az[d]'h):=by simp[Hp.get,zg,h]
 rw[zM this,this]
theorem ki{H:Hp}{b c:Nat}{x:aY}{v:V}(h:c≠b):((H.set b x).bQ b v).get c=H.get c:=by rw[bU,qC h]
theorem gz{H:Hp}{b:Nat}{x y:aY}{v:V}(h:H.get b=some y):((H.set b x).bQ b v).get b=some x:=by rw[bU,wI h]
theorem Up{H:Hp}{b:Nat}{x:aY}{v:V}:((H.set b x).bQ b v).az.length=H.az.length:=by rw[xm,wv]
theorem za{l:aD}{i j:Nat}{v:V}:nth (l.set i v) j=if i=j then (if i<l.length then some v else none) else nth l j:=by
 rw[zg,zg,tL]
def xa(p q:Nat->Bool)(i:Nat):Nat->Bool:=λn=>p n || (decide (n / 64<i) && q n)
theorem zht{p q:Nat->Bool}{i:Nat}:kL (xa p q i) i=kL p i:=by
 refine(yH wd λj hj=>?_).symm;rw[wP hj];have:¬((64 * i+j) / 64<i):=by omega
 simp[xa,this]
theorem zhu{p q:Nat->Bool}{m i:Nat}:(pv m (xa p q i)).set i (.int .u64 ((kL p i ||| kL q i:Nat):Int))=pv m (xa p q (i+1)):=by
 apply Fa;intro k;rw[List.getElem?_set']
 by_cases hk:k<m
 ·rw[yI hk,yI hk]
  by_cases e:i=k
  ·subst e;simp only[aF,aS,Function.const,Option.map_eq_map]
   congr 3
   refine yH (JL wd wd) λj hj=>?_;rw[ud,wP hj,wP hj];have:(64 * i+j) / 64<i+1:=by omega
   simp[xa,this]
  ·rw[if_neg e]
   congr 3
   refine(yH wd λj hj=>?_);rw[wP hj];have:((64 * k+j) / 64<i) ↔ ((64 * k+j) / 64<i+1):=by omega
   simp[xa,this]
 ·have h1:(pv m (xa p q i))[k]?=none:=by simp[pv];omega
  have h2:(pv m (xa p q (i+1)))[k]?=none:=by simp[pv];omega
  rw[h1,h2];simp
theorem zjz{p q:Nat->Bool}{m:Nat}:pv m (xa p q m)=pv m (jC p q):=by
 apply List.map_congr_left;intro i hi;have hi:=BX.1 hi
 congr 2
 refine yH wd λj hj=>?_;rw[wP hj];have:(64 * i+j) / 64<m:=by omega
 simp[xa,jC,this]
theorem zhv{p q:Nat->Bool}{m:Nat}:pv m (xa p q 0)=pv m p:=by
 apply List.map_congr_left;intro i hi
 congr 2
 refine yH wd λj hj=>?_;rw[wP hj];simp[xa]
theorem jW{α:Type}{l:List α}{d:Nat}{v:α}(h:nth l d=some v):l.set d v=l:=by
 rw[zg] at h;apply Fa;intro t;rw[List.getElem?_set'];split
 next e=>subst e;rw[h];rfl
 ·rfl
theorem ze8{P:aQ}{t:aB}{H:Hp}{gl:Nat->Nat->b_}{b u k sz:Nat}{cs:aD}{e:aB}{v:V}(ha:qz P t=some false)(hb:H.get b=some (.ul u sz cs e))(hn:nth cs k=some v):zk P H gl t (.gh b u k)=some v:=by
 have:Nat.beq u u=true:=lK u;simp[zk,hb,qu,ha,T4,hn]
theorem zkO{P:aQ}{t n:aB}{H:Hp}{lk:aO}{df:bP}{b k u sz:Nat}{v:V}{env:aD}{cs:aD}{e:aB}(hs:z4 P t=some n)(hb:H.get b=some (.ul u sz cs e))(hv:aV v=v)(h1:dz v=true)(h2:v.cells.length=n)(h3:k+n<=cs.length) :
  qr P t H lk df (some (v,env)) (some (.gh b u k))=some (.skip,⟨env,(H.set b (.ul u sz (Vm.storeCells cs k v.cells) e)).bQ b v,lk,df⟩):=by
 simp only[qr,hs,hb,hv,h1,h2,h3,and_self,aF]
def zl(n:Nat)(e:aB)(xs:aD):V:=match xs with|[]=>.aG|xs=>.sl n xs (.yes e)
theorem vW{env:aD}{t n:Nat}{e:aB}{xs:aD}(h:nth env t=some (zl n e xs)):take env (.tmp t)=some (zl n e xs,env.set t (aV (zl n e xs))):=by
 rw[zL,h];cases xs with
 | nil =>
  have h':nth env t=some .aG:=h;simp only[zl,jf,dg];rw[jW h']
 | cons x xs=>rfl
theorem jD{P:aQ}{t e n Cd:Nat}(h:mW P t e n Cd){H:Hp}{xs ys:aD}{o:uN}(hy:ys≠[])(fP:kx (xs.length+ys.length) Cd=true):j9 P H t (zl n e xs) (.sl n ys o)=some (zl n e (xs++ys)):=by
 have hi:=h.i;cases Aj:P.info? e with
 | none=>rw[Aj] at hi;cases hi
 | some ti =>
  rw[Aj] at hi;simp only[aT] at hi;cases hz:ti.zero with
  | none=>rw[hz] at hi;cases hi
  | some z =>
   rw[hz] at hi;simp only[aS,bq,cq] at hi;have Be:Nat.beq n 0=false:=by
    have:=h.n0.1;cases n with
    | zero=>exact absurd rfl this
    | succ n=>rfl
   obtain⟨y,ys,rfl⟩:∃y l,ys=y::l:=by
    cases ys with
    | nil=>exact absurd rfl hy
    | cons y l=>exact⟨y,l,rfl⟩
   simp only[j9,h.u,h.s,Aj,hz,hi.1,wA,Option.bind_eq_bind,aT,lK,mo,fR,bw,aF];cases xs with
   | nil =>
    simp only[zl,aZ];rw[hi.2,Be];simp only[List.length_nil,nY,aX] at fP;simp[fP]
   | cons x xs =>
    simp only[zl,bh];rw[hi.2,Be];simp only[aX] at fP;simp[fP]
theorem XY{P:aQ}{t:aB}{x y:aW}{a b:Nat}(h:a * b<2 ^ 60):qL P .mul t x y (some (.int .i64 a)) (some (.int .i64 b))=some (.int .i64 ((a * b:Nat):Int)):=by
 rw[znW,<- Int.natCast_mul,kT (by omega) (by omega)]
theorem xr{P:aQ}{t:aB}{x y:aW}{a b:Nat}(h:a+b<2 ^ 60):qL P .add t x y (some (.int .i64 a)) (some (.int .i64 b))=some (.int .i64 ((a+b:Nat):Int)):=by
 rw[kg,<- Int.natCast_add,kT (by omega) (by omega)]
theorem XZ{P:aQ}{t:aB}{x y:aW}{a b:Nat}(h:a<2 ^ 60)(hb:b<=a):qL P .sub t x y (some (.int .i64 a)) (some (.int .i64 b))=some (.int .i64 ((a - b:Nat):Int)):=by
 rw[kD,<- Int.natCast_sub hb,kT (by omega) (by omega)]
theorem Uq{P:aQ}{H:Hp}{t e n:Nat}{xs:aD}(hu:P.underlying t=some (.slice e)):qX P H t (aV (zl n e xs))=some (xs.length:Int):=by
 cases xs with
 | nil=>simp[zl,aV,qX,hu]
 | cons x xs=>simp[zl,aV,qX,hu]
theorem zkP{P:aQ}{t e n k:Nat}{xs:aD}{x:V}(hu:P.underlying t=some (.slice e))(hs:z4 P e=some n)(hx:nth xs k=some x):zp P t (aV (zl n e xs)) (k:Int)=some (.vp x.cells):=by
 cases xs with
 | nil=>cases hx
 | cons y xs =>
  have:¬((k:Int)<0):=by omega
  simp[zl,aV,zp,hu,hs,this,hx]
theorem zma{P:aQ}{t:aB}{H:Hp}{gl:Nat->Nat->b_}{x:V}{cs:aD}(ha:qz P t=some false):zk P H gl t (.vp (x::cs))=some x:=by
 simp[zk,qu,ha,T4,nth]
theorem qS{n:Nat}{e:aB}{xs:aD}:aV (aV (zl n e xs))=aV (zl n e xs):=by cases xs<;>rfl
def oC(n:Nat)(xs:aD):V:=match xs with|[]=>.aG|xs=>.sl n xs .lock
def kE(b off:Nat)(xs:aD):aO:=match xs with|[]=>[]|_=>[(b,off)]
theorem Ur{P:aQ}{t:aB}{env:aD}{H:Hp}{df:bP}{b off n:Nat}{e:aB}{xs cs:aD}{ty:aB}(ha:qz P t=some false)(hb:H.get b=some (.cells cs ty))(hn:nth cs off=some (zl n e xs)) :
  vU P t env H [] df (some (.ptr b off))=some (.val (zl n e xs),⟨env,H.set b (.cells (cs.set off (oC n xs)) ty),kE b off xs,df⟩):=by
 cases xs with
 | nil =>
  simp only[vU,ha,hb,hn,zl,oC,kE];have h1:cs.set off .aG=cs:=jW hn;have h2:H.set b (.cells cs ty)=H:=by
   obtain⟨bs,es⟩:=H;simp only[Hp.set];rw[jW hb]
  rw[h1,h2]
 | cons x xs =>
  simp only[vU,ha,hb,hn,zl,oC,kE];rw[jR (by simp[V.top])]
theorem Qt{b off n:Nat}{xs cs:aD}(h:off<cs.length):wz (kE b off xs) b off 1 ((cs.set off (oC n xs)).drop off)=true:=by
 have h2:(cs.set off (oC n xs)).drop off=oC n xs::cs.drop (off+1):=by
  rw[GO (by simpa using h)]
  simp[List.drop_set]
 rw[h2];cases xs<;>simp[wz,oC,kE,locked]
theorem zn6{b off d:Nat}{xs:aD}(h:d≠b):(kE b off xs).all (λp=>!(Nat.beq p.1 d))=true:=by
 cases xs with
 | nil=>rfl
 | cons x xs =>
  have:Nat.beq b d=false:=by
   cases hx:Nat.beq b d with
   | false=>rfl
   | true=>exact absurd (eG hx).symm h
  simp[kE,this]
theorem Qu{n:Nat}{e:aB}{xs:aD}:dz (zl n e xs)=true:=by cases xs<;>rfl
theorem vu{n:Nat}{e:aB}{xs:aD}:(zl n e xs).laid=[zl n e xs]:=by cases xs<;>rfl
theorem z6{P:aQ}{t:aB}{x y:aW}{k:Nat}(h:k<2 ^ 60):qL P .add t x y (some (.int .i64 k)) (some (.int .i64 1))=some (.int .i64 ((k+1:Nat):Int)):=by
 rw[kg,kT (by omega) (by omega)];simp
def zrp(env:aD)(t n:Nat)(e:aB)(xs:aD):Option (V×aD):=qF env t (some (zl n e xs))
open Classical in
theorem jK{env:aD}{t n:Nat}{e:aB}{xs:aD}:qF env t (some (zl n e xs))=if nth env t=some (zl n e xs) then some (zl n e xs,env.set t (aV (zl n e xs))) else zrp env t n e xs:=by
 split
 next h=>rw[<- h,<- zL];exact vW h
 ·rfl
theorem jh{env:aD}{t n:Nat}{e:aB}{xs:aD}:qF env t (some (aV (zl n e xs)))=some (aV (zl n e xs),env):=by cases xs<;>rfl
def Us(want:Bool)(env:aD):Option fJ->Option Bool
 | some (some d)=>IM want (nth env d)
 | _=>none
theorem qg{l:List Oper}{dst:fJ}{op:Op}{type:aB}{pos:String}{after:Array Edge}{j:Nat}{want:Bool}{env:aD}:zY l.toArray ⟨dst,op,type,pos,after,some (j,want)⟩ env=Us want env ((nth l j).map (·.dst)):=by
 have hj:l.toArray[j]?=nth l j:=by rw[zg,List.getElem?_toArray]
 cases hd:nth l j with
 | none =>
  unfold zY;simp only[hj,hd];rfl
 | some o =>
  cases ho:o.dst with
  | none =>
   unfold zY;simp only[hj,hd,aT,ho];simp only[aS,ho,Us]
  | some d =>
   rw[zkE (d:=d) (by rw[hj,hd];exact ho)]
   simp only[aS,ho,Us]
theorem jm{want:Bool}{env:aD}{d:Tmp}:Us want env (some (some d))=IM want (nth env d):=rfl
theorem cA:IM true (some (.bool true))=some true:=rfl
theorem cB:IM true (some (.bool false))=some false:=rfl
theorem cC:IM false (some (.bool true))=some false:=rfl
theorem cE:IM false (some (.bool false))=some true:=rfl
theorem wJ{a b:Prop}:Ho a b (some true) ↔ a:=Iff.rfl
theorem wK{a b:Prop}:Ho a b (some false) ↔ b:=Iff.rfl
theorem kF{a b:b_}:Xy a b (some (.bool true))=a:=rfl
theorem kG{a b:b_}:Xy a b (some (.bool false))=b:=rfl
theorem zc{B:List aY}{x:aY}{es:aO}:Hp.push ⟨B,es⟩ x=⟨B++[x],es⟩:=rfl
theorem zb{B ls:List aY}{x:aY}{es:aO}:Hp.push ⟨B++ls,es⟩ x=⟨B++(ls++[x]),es⟩:=by simp[Hp.push]
theorem zhw{env:aD}{t b o l c:Nat}:qF env t (some (.sr b o l c))=some (.sr b o l c,env):=rfl
end
end Go.Vm
namespace Go.Vm.Sx
open Go Go.Vm
def vL:V->aD|.sl _ xs _=>xs|_=>[]
section
def cJ(x y:Int):Bool:=decide (x<y)
def lO(x y:Int):Bool:=decide (x<=y)
theorem Kb{x y:Int}(h:x<y):cJ x y=true:=decide_eq_true h
theorem X0{x y:Int}(h:y<=x):cJ x y=false:=decide_eq_false (by omega)
theorem FJ{x y:Int}:cJ x y=true ↔ x<y:=decide_eq_true_iff
end
section
def lv(sz:Nat)(nl:Bool)(l:aD):V:=if nl && l.isEmpty then .aG else .sl sz l .no
theorem bZ(sz:Nat)(nl:Bool)(l:aD):lv sz nl l=.sl sz l .no\/(l=[]/\lv sz nl l=.aG):=by
 unfold lv;split
 next h=>rw[d_] at h;exact .inr ⟨by simpa using h.2,rfl⟩
 ·exact .inl rfl
theorem Qv{sz:Nat}{nl:Bool}{l:aD}:aV (lv sz nl l)=lv sz nl l:=by
 rcases bZ sz nl l with h|⟨_,h⟩<;>rw[h]<;>rfl
theorem Kd{sz:Nat}{nl:Bool}{l:aD}:(lv sz nl l).top=aI l:=by
 rcases bZ sz nl l with h|⟨hl,h⟩<;>rw[h]
 ·rfl
 ·rw[hl];rfl
theorem zqM(sz:Nat)(nl:Bool)(l:aD):vL (lv sz nl l)=l:=by
 rcases bZ sz nl l with h|⟨h0,h⟩<;>rw[h]
 ·simp[vL]
 ·rw[h0];simp[vL]
theorem Ke{x:Int}(h1:-9223372036854775808<=x)(h2:x<=9223372036854775807):IntKind.i64.wrap x=x:=by
 simp only[IntKind.wrap,IntKind.bits,IntKind.signed];simp;omega
def kU(ok:Nat->Bool):Nat->Bool
 | 0=>true
 | n+1=>kU ok n && ok n
theorem bX{ok:Nat->Bool}:∀{n:Nat},kU ok n=true ↔ ∀i,i<n->ok i=true
 | 0=>by simp[kU]
 | n+1=>by
  rw[kU,d_,bX];refine⟨λ⟨h1,h2⟩ i hi=>?_,λh=>⟨λi hi=>h i (by omega),h n (by omega)⟩⟩
  rcases eM i n with h|h
  ·exact h1 i h
  ·have:i=n:=by omega
   subst this;exact h2
end
end Go.Vm.Sx
namespace Go.Vm
open Go
theorem aJ{a b:Prop}(x:a)(y:b):a/\b:=⟨x,y⟩
theorem BA:type_of% (aJ @qx (aJ @aH (aJ @jV (aJ @bk (aJ @zh (aJ @bz (aJ @qD (aJ @zw (aJ @zK (aJ @jz (aJ @jq (aJ @qw (aJ @jA (aJ @jp (aJ @wH (aJ @qO (aJ @zU (aJ @zV (aJ @kN (aJ @kX (aJ @kp (aJ @z7 (aJ @zG (aJ @zA (aJ @zT (aJ @kz (aJ @kf (aJ @jO (aJ @ne_eq.{1} (aJ @not_false_eq_true (aJ @av.eq_1 (aJ @av.eq_2 (aJ @qp (aJ @ak.eq_1 (aJ @ak.eq_2 (aJ @ak.eq_3 (aJ @ak.eq_4 (aJ @zL (aJ @qG (aJ @aj.eq_1 (aJ @aj.eq_2 (aJ @aj.eq_3 (aJ @aj.eq_4 (aJ @aj.eq_5 (aJ @aj.eq_6 (aJ @aj.eq_7 (aJ @aj.eq_8 (aJ @aj.eq_9 (aJ @aj.eq_10 (aJ @aj.eq_11 (aJ @aj.eq_12 (aJ @qq (aJ @jn (aJ @qU (aJ @jI (aJ @qH (aJ @jf (aJ @ko (aJ @jK (aJ @jh (aJ @zr (aJ @qd (aJ @aM (aJ @bu (aJ @aq.eq_1 (aJ @aq.eq_2 (aJ @zR (aJ @qQ (aJ @kO (aJ @qW (aJ @ql (aJ @q8 (aJ @jQ (aJ @wW (aJ @dg (aJ @kZ (aJ @qS (aJ @Option.bind_some.{0,0} (aJ @Option.map_some.{0,0} (aJ @aa.eq_1 (aJ @aa.eq_2 (aJ @aa.eq_3 (aJ @aa.eq_4 (aJ @aa.eq_5 (aJ @aa.eq_6 (aJ @aa.eq_7 (aJ @aa.eq_8 (aJ @zS (aJ @ah.eq_1 (aJ @ah.eq_2 (aJ @ah.eq_3 (aJ @ah.eq_4 (aJ @ah.eq_5 (aJ @aE.eq_1 (aJ @aE.eq_2 (aJ @qM (aJ @aA.eq_1 (aJ @aA.eq_2 (aJ @List.map_cons.{0,0} (aJ @List.map_nil.{0,0} (aJ @true_and (aJ @List.length_append.{0} (aJ @List.length_cons.{0} (aJ @List.length_nil.{0} (aJ @Nat.zero_add (aJ @Nat.add_zero (aJ @Nat.add_assoc (aJ @List.append_assoc.{0} (aJ @List.cons_append.{0} (aJ @List.nil_append.{0} (aJ @qR (aJ @qi (aJ @au.eq_1 (aJ @aF.{1} (aJ @kF (@kG)))))))))))))))))))))))))))))))))))))))))))))))))))))))))))))))))))))))))))))))))))))))))))))))))))))))))))))))))))):=⟨@qx,@aH,@jV,@bk,@zh,@bz,@qD,@zw,@zK,@jz,@jq,@qw,@jA,@jp,@wH,@qO,@zU,@zV,@kN,@kX,@kp,@z7,@zG,@zA,@zT,@kz,@kf,@jO,@ne_eq.{1},@not_false_eq_true,@av.eq_1,@av.eq_2,@qp,@ak.eq_1,@ak.eq_2,@ak.eq_3,@ak.eq_4,@zL,@qG,@aj.eq_1,@aj.eq_2,@aj.eq_3,@aj.eq_4,@aj.eq_5,@aj.eq_6,@aj.eq_7,@aj.eq_8,@aj.eq_9,@aj.eq_10,@aj.eq_11,@aj.eq_12,@qq,@jn,@qU,@jI,@qH,@jf,@ko,@jK,@jh,@zr,@qd,@aM,@bu,@aq.eq_1,@aq.eq_2,@zR,@qQ,@kO,@qW,@ql,@q8,@jQ,@wW,@dg,@kZ,@qS,@Option.bind_some.{0,0},@Option.map_some.{0,0},@aa.eq_1,@aa.eq_2,@aa.eq_3,@aa.eq_4,@aa.eq_5,@aa.eq_6,@aa.eq_7,@aa.eq_8,@zS,@ah.eq_1,@ah.eq_2,@ah.eq_3,@ah.eq_4,@ah.eq_5,@aE.eq_1,@aE.eq_2,@qM,@aA.eq_1,@aA.eq_2,@List.map_cons.{0,0},@List.map_nil.{0,0},@true_and,@List.length_append.{0},@List.length_cons.{0},@List.length_nil.{0},@Nat.zero_add,@Nat.add_zero,@Nat.add_assoc,@List.append_assoc.{0},@List.cons_append.{0},@List.nil_append.{0},@qR,@qi,@au.eq_1,@aF.{1},@kF,@kG⟩
section
section
variable{cx:Cx}{n:Nat}{Q:Ex->St->Prop}{all:Array Oper}{takes:cg}{os:List Oper}{k:List It}{env:aD}{H:Hp}{lk:aO}{df:bP}{dst:fJ}{op:Op}{type:aB}{pos:String}{after:Array Edge}{g:Nat×Bool}
theorem osT(hw:zY all ⟨dst,op,type,pos,after,some g⟩ env=some true):go cx n Q (.os all takes (⟨dst,op,type,pos,after,some g⟩::os)::k) .normal ⟨env,H,lk,df⟩ ↔ FF dst (λs=>go cx n Q (.os all takes os::k) .normal s) (go cx n Q k) (cx.op takes ⟨dst,op,type,pos,after,some g⟩ env H lk df):=by
 rw[jZ,hw];rfl
theorem osF(hw:zY all ⟨dst,op,type,pos,after,some g⟩ env=some false):go cx n Q (.os all takes (⟨dst,op,type,pos,after,some g⟩::os)::k) .normal ⟨env,H,lk,df⟩ ↔ go cx n Q (.os all takes os::k) .normal ⟨aq env dst (.br []),H,lk,df⟩:=by
 rw[jZ,hw];rfl
theorem onT(hw:zY all ⟨dst,op,type,pos,after,some g⟩ env=some true):go cx n Q (.on all takes (⟨dst,op,type,pos,after,some g⟩::os)::k) .normal ⟨env,H,lk,df⟩ ↔ (au cx ⟨dst,op,type,pos,after,some g⟩ env lk=true/\FF dst (λs=>go cx n Q (.on all takes os::k) .normal s) (λ_ _=>False) (cx.op takes ⟨dst,op,type,pos,after,some g⟩ env H lk df)):=by
 rw[j4,hw];rfl
theorem onF(hw:zY all ⟨dst,op,type,pos,after,some g⟩ env=some false):go cx n Q (.on all takes (⟨dst,op,type,pos,after,some g⟩::os)::k) .normal ⟨env,H,lk,df⟩ ↔ go cx n Q (.on all takes os::k) .normal ⟨aq env dst (.br []),H,lk,df⟩:=by
 rw[j4,hw];rfl
end
theorem zjB{w:Bool}{l:aD}:IM w (some (.br l))=some false:=rfl
theorem BW:type_of% (And.intro @qx (And.intro @aH (And.intro @jV (And.intro @bk (And.intro @zh (And.intro @bz (And.intro @qD (And.intro @zw (And.intro @zK (And.intro @jz (And.intro @jq (And.intro @qw (And.intro @jA (And.intro @jp (And.intro @wH (And.intro @qO (And.intro @zU (And.intro @zV (And.intro @kN (And.intro @kX (And.intro @kp (And.intro @z7 (And.intro @zG (And.intro @zA (And.intro @zT (And.intro @kz (And.intro @kf (And.intro @jO (And.intro @ne_eq.{1} (And.intro @not_false_eq_true (And.intro @av.eq_1 (And.intro @av.eq_2 (And.intro @qp (And.intro @ak.eq_1 (And.intro @ak.eq_2 (And.intro @ak.eq_3 (And.intro @ak.eq_4 (And.intro @zL (And.intro @qG (And.intro @aj.eq_1 (And.intro @aj.eq_2 (And.intro @aj.eq_3 (And.intro @aj.eq_4 (And.intro @aj.eq_5 (And.intro @aj.eq_6 (And.intro @aj.eq_7 (And.intro @aj.eq_8 (And.intro @aj.eq_9 (And.intro @aj.eq_10 (And.intro @aj.eq_11 (And.intro @aj.eq_12 (And.intro @qq (And.intro @jn (And.intro @qU (And.intro @jI (And.intro @qH (And.intro @jf (And.intro @ko (And.intro @jK (And.intro @jh (And.intro @zr (And.intro @qd (And.intro @aM (And.intro @bu (And.intro @aq.eq_1 (And.intro @aq.eq_2 (And.intro @zR (And.intro @qQ (And.intro @kO (And.intro @qW (And.intro @ql (And.intro @q8 (And.intro @jQ (And.intro @wW (And.intro @dg (And.intro @kZ (And.intro @qS (And.intro @Option.bind_some.{0,0} (And.intro @Option.map_some.{0,0} (And.intro @aa.eq_1 (And.intro @aa.eq_2 (And.intro @aa.eq_3 (And.intro @aa.eq_4 (And.intro @aa.eq_5 (And.intro @aa.eq_6 (And.intro @aa.eq_7 (And.intro @aa.eq_8 (And.intro @zS (And.intro @ah.eq_1 (And.intro @ah.eq_2 (And.intro @ah.eq_3 (And.intro @ah.eq_4 (And.intro @ah.eq_5 (And.intro @aE.eq_1 (And.intro @aE.eq_2 (And.intro @qM (And.intro @aA.eq_1 (And.intro @aA.eq_2 (And.intro @List.map_cons.{0,0} (And.intro @List.map_nil.{0,0} (And.intro @true_and (And.intro @List.length_append.{0} (And.intro @List.length_cons.{0} (And.intro @List.length_nil.{0} (And.intro @Nat.zero_add (And.intro @Nat.add_zero (And.intro @Nat.add_assoc (And.intro @List.append_assoc.{0} (And.intro @List.cons_append.{0} (And.intro @List.nil_append.{0} (And.intro @qR (And.intro @au.eq_1 (And.intro @aF.{1} (And.intro @kF (And.intro @kG (And.intro @zc (And.intro @zb (And.intro @zd (And.intro @ze (And.intro @List.set_cons_zero.{0} (And.intro @List.set_cons_succ.{0} (And.intro @za (And.intro @List.length_set.{0} (And.intro @bw.{1} (And.intro @Bool.false_eq_true (And.intro @osT (And.intro @onT (And.intro @qg (And.intro @jm (And.intro @cA (And.intro @cB (And.intro @cC (And.intro @cE (And.intro @osF (And.intro @onF (And.intro @Bool.not_false (And.intro @Bool.not_true (And.intro @qm (And.intro @zN (And.intro @wh (And.intro @go_ret (And.intro @wm (And.intro @zD (And.intro @zq (And.intro @zjB (And.intro @jB (And.intro @l8 (And.intro @bI (And.intro @aN (And.intro @Nat.beq_refl (And.intro @gy (And.intro @kY (And.intro @qT (And.intro @w6 (And.intro @Of (And.intro @T6 (And.intro @wO (And.intro @Qj (And.intro @decide_true (And.intro @decide_false (And.intro @zjs @zjt))))))))))))))))))))))))))))))))))))))))))))))))))))))))))))))))))))))))))))))))))))))))))))))))))))))))))))))))))))))))))))))))))))))))))))))))))))))))))))))))):=(And.intro @qx (And.intro @aH (And.intro @jV (And.intro @bk (And.intro @zh (And.intro @bz (And.intro @qD (And.intro @zw (And.intro @zK (And.intro @jz (And.intro @jq (And.intro @qw (And.intro @jA (And.intro @jp (And.intro @wH (And.intro @qO (And.intro @zU (And.intro @zV (And.intro @kN (And.intro @kX (And.intro @kp (And.intro @z7 (And.intro @zG (And.intro @zA (And.intro @zT (And.intro @kz (And.intro @kf (And.intro @jO (And.intro @ne_eq.{1} (And.intro @not_false_eq_true (And.intro @av.eq_1 (And.intro @av.eq_2 (And.intro @qp (And.intro @ak.eq_1 (And.intro @ak.eq_2 (And.intro @ak.eq_3 (And.intro @ak.eq_4 (And.intro @zL (And.intro @qG (And.intro @aj.eq_1 (And.intro @aj.eq_2 (And.intro @aj.eq_3 (And.intro @aj.eq_4 (And.intro @aj.eq_5 (And.intro @aj.eq_6 (And.intro @aj.eq_7 (And.intro @aj.eq_8 (And.intro @aj.eq_9 (And.intro @aj.eq_10 (And.intro @aj.eq_11 (And.intro @aj.eq_12 (And.intro @qq (And.intro @jn (And.intro @qU (And.intro @jI (And.intro @qH (And.intro @jf (And.intro @ko (And.intro @jK (And.intro @jh (And.intro @zr (And.intro @qd (And.intro @aM (And.intro @bu (And.intro @aq.eq_1 (And.intro @aq.eq_2 (And.intro @zR (And.intro @qQ (And.intro @kO (And.intro @qW (And.intro @ql (And.intro @q8 (And.intro @jQ (And.intro @wW (And.intro @dg (And.intro @kZ (And.intro @qS (And.intro @Option.bind_some.{0,0} (And.intro @Option.map_some.{0,0} (And.intro @aa.eq_1 (And.intro @aa.eq_2 (And.intro @aa.eq_3 (And.intro @aa.eq_4 (And.intro @aa.eq_5 (And.intro @aa.eq_6 (And.intro @aa.eq_7 (And.intro @aa.eq_8 (And.intro @zS (And.intro @ah.eq_1 (And.intro @ah.eq_2 (And.intro @ah.eq_3 (And.intro @ah.eq_4 (And.intro @ah.eq_5 (And.intro @aE.eq_1 (And.intro @aE.eq_2 (And.intro @qM (And.intro @aA.eq_1 (And.intro @aA.eq_2 (And.intro @List.map_cons.{0,0} (And.intro @List.map_nil.{0,0} (And.intro @true_and (And.intro @List.length_append.{0} (And.intro @List.length_cons.{0} (And.intro @List.length_nil.{0} (And.intro @Nat.zero_add (And.intro @Nat.add_zero (And.intro @Nat.add_assoc (And.intro @List.append_assoc.{0} (And.intro @List.cons_append.{0} (And.intro @List.nil_append.{0} (And.intro @qR (And.intro @au.eq_1 (And.intro @aF.{1} (And.intro @kF (And.intro @kG (And.intro @zc (And.intro @zb (And.intro @zd (And.intro @ze (And.intro @List.set_cons_zero.{0} (And.intro @List.set_cons_succ.{0} (And.intro @za (And.intro @List.length_set.{0} (And.intro @bw.{1} (And.intro @Bool.false_eq_true (And.intro @osT (And.intro @onT (And.intro @qg (And.intro @jm (And.intro @cA (And.intro @cB (And.intro @cC (And.intro @cE (And.intro @osF (And.intro @onF (And.intro @Bool.not_false (And.intro @Bool.not_true (And.intro @qm (And.intro @zN (And.intro @wh (And.intro @go_ret (And.intro @wm (And.intro @zD (And.intro @zq (And.intro @zjB (And.intro @jB (And.intro @l8 (And.intro @bI (And.intro @aN (And.intro @Nat.beq_refl (And.intro @gy (And.intro @kY (And.intro @qT (And.intro @w6 (And.intro @Of (And.intro @T6 (And.intro @wO (And.intro @Qj (And.intro @decide_true (And.intro @decide_false (And.intro @zjs @zjt)))))))))))))))))))))))))))))))))))))))))))))))))))))))))))))))))))))))))))))))))))))))))))))))))))))))))))))))))))))))))))))))))))))))))))))))))))))))))))))))))
end
section
def oW(p i:Nat):Nat:=p / 2 ^ (8 * i) % 256
theorem vD{p i:Nat}:oW p i<256:=Nat.mod_lt _ (by decide)
theorem w4{p i j:Nat}(h:j<8):(oW p i).testBit j=p.testBit (8 * i+j):=by
 have e:(256:Nat)=2 ^ 8:=rfl;rw[oW,e,Nat.testBit_mod_two_pow,Nat.testBit_div_two_pow,decide_eq_true h,tP,JM]
theorem Qw{m p i:Nat}(hm:m<256)(h:∀j,j<8->m.testBit j=p.testBit (8 * i+j)):m=oW p i:=by
 apply JK;intro j
 by_cases hj:j<8
 ·rw[h j hj,w4 hj]
 ·have h1:2 ^ 8<=2 ^ j:=Nat.pow_le_pow_right (by decide) (by omega)
  have h2:oW p i<256:=vD;rw[NO (by omega),NO (by omega)]
theorem X3{a b:Nat}(ha:a<256)(hb:b<256):a ||| b<256:=JL (n:=8) ha hb
theorem zpU{p q i:Nat}:oW p i ||| oW q i=oW (p ||| q) i :=
 Qw (X3 vD vD) λj hj=>by rw[ud,ud,w4 hj,w4 hj]
theorem X5{k:Nat}(h:k<8):2 ^ k<256:=HP (n:=8) (by decide) h
theorem zn7{p n:Nat}:oW p (n / 8) ||| 2 ^ (n % 8)=oW (p ||| 2 ^ n) (n / 8) :=
 Qw (X3 vD (X5 (Nat.mod_lt _ (by decide)))) λj hj=>by
  rw[ud,ud,w4 hj,E_,E_]
  congr 1
  rw[EI];simp only[decide_eq_true_eq];omega
theorem zix{p n i:Nat}(h:i≠n / 8):oW (p ||| 2 ^ n) i=oW p i :=
 (Qw vD λj hj=>by
  rw[w4 hj,ud,E_];have:¬(n=8 * i+j):=λe=>h (by omega)
  simp[this]).symm
def rE(m p:Nat):bM:=(List.range m).map (oW p)
def dL(m p:Nat):aD:=(rE m p).map λb=>.int .u8 (b:Nat)
theorem zn8{m p:Nat}:(rE m p).length=m:=by simp[rE]
theorem yU{m p:Nat}:(dL m p).length=m:=by simp[dL,zn8]
theorem vJ{m p i:Nat}(h:i<m):(dL m p)[i]?=some (.int .u8 (oW p i:Nat)):=by simp[dL,rE,h]
theorem X6{m:Nat}{l:aD}{p:Nat}(hl:l.length=m)(h:∀i,i<m->l[i]?=some (.int .u8 (oW p i:Nat))):l=dL m p:=by
 apply Fa;intro i
 by_cases hi:i<m
 ·rw[h i hi,vJ hi]
 ·rw[uI (by omega),uI (by rw[yU];omega)]
theorem zn9{m p n:Nat}:(dL m p).set (n / 8) (.int .u8 (oW (p ||| 2 ^ n) (n / 8):Nat))=dL m (p ||| 2 ^ n):=by
 refine X6 (by rw[bD,yU]) λi hi=>?_
 rw[List.getElem?_set']
 by_cases e:n / 8=i
 ·subst e;simp[vJ hi]
 ·simp[e,vJ hi,zix (Ne.symm e)]
theorem zmc{m:Nat}:dL m 0=List.replicate m (.int .u8 0):=by
 refine(X6 (by simp) λi hi=>?_).symm
 simp[oW,hi]
theorem zpV{m p:Nat}:∀b∈rE m p,b<256:=λb hb=>by
 obtain⟨i,_,rfl⟩:=mg.1 hb;exact vD
theorem zoa{m p q:Nat}(hp:p<2 ^ (8 * m))(hq:q<2 ^ (8 * m))(h:rE m p=rE m q):p=q:=by
 apply JK;intro j
 by_cases hj:j<8 * m
 ·have hi:j / 8<m:=by omega
  have e:(rE m p)[j / 8]?=(rE m q)[j / 8]?:=by rw[h]
  simp only[rE,iX,GQ hi,aS,bq] at e;have h1:=w4 (p:=p) (i:=j / 8) (j:=j % 8) (Nat.mod_lt _ (by decide))
  have h2:=w4 (p:=q) (i:=j / 8) (j:=j % 8) (Nat.mod_lt _ (by decide))
  rw[show 8 * (j / 8)+j % 8=j by omega] at h1 h2
  rw[<- h1,<- h2,e]
 ·have hx:=Nat.pow_le_pow_right (n:=2) (by decide) (show 8 * m<=j by omega)
  rw[NO (by omega),NO (by omega)]
theorem Bu:∀{a b:bM},n6 a b=true ↔ a=b
 | [],[]=>by simp[n6]
 | [],_::_=>by simp[n6]
 | _::_,[]=>by simp[n6]
 | x::a,y::b=>by
  simp only[n6,d_,Bu (a:=a),List.cons.injEq,Nat.beq_eq]
theorem zjC{m p q:Nat}(hp:p<2 ^ (8 * m))(hq:q<2 ^ (8 * m)):n6 (rE m p) (rE m q)=(p == q):=by
 rw[EI,Bu,beq_iff_eq];exact⟨zoa hp hq,λh=>by rw[h]⟩
def xQ(w:Nat):bM:=(List.range 8).filter λj=>w.testBit j
def Bv(w:Nat):Nat:=(xQ w).headD 8
theorem CP:∀w:Nat,w<256->w≠0->xQ w=Bv w::xQ (w &&& (w - 1))/\w &&& (w - 1)<w:=by
 have h:(List.range 256).all (λw:Nat=>w == 0 || (xQ w == Bv w::xQ (w &&& (w - 1)) && decide (w &&& (w - 1)<w)))=true:=by decide +kernel
 intro w hw h0;have:=Cs.1 h w (BX.2 hw);simp only[p7,beq_iff_eq,d_,decide_eq_true_eq] at this;rcases this with h|h
 ·exact absurd h h0
 ·exact h
theorem CQ:xQ 0=[]:=by decide
def wk(m p:Nat):bM:=(List.range (8 * m)).filter λj=>p.testBit j
def Om(p:Nat):Nat->bM
 | 0=>[]
 | i+1=>Om p i++(xQ (oW p i)).map (8 * i + ·)
theorem zjD(p:Nat):∀m,Om p m=wk m p
 | 0=>rfl
 | m+1=>by
  have h:List.range (8 * (m+1))=List.range (8 * m)++(List.range 8).map (8 * m + ·):=by
   rw[show 8 * (m+1)=8 * m+8 by omega,List.range_add]
  rw[Om,zjD p m,wk,wk,h,List.filter_append,List.filter_map]
  congr 2
  apply List.filter_congr;intro j hj;have hj:=BX.1 hj;simp only[Function.comp_apply];rw[w4 hj]
variable{P:aQ}{t:aB}{x y:aW}
theorem Qx{n:Nat}(h:n<256):IntKind.u8.wrap (n:Int)=n:=by
 simp only[IntKind.wrap,IntKind.bits,IntKind.signed];simp only[Fe,fR,bw];omega
theorem xJ{n:Nat}(h:n<256):(BitVec.ofInt 8 (n:Int)).toNat=n:=by
 simp[];omega
theorem zjE{a b:Nat}(ha:a<256)(hb:b<256):qL P .or t x y (some (.int .u8 a)) (some (.int .u8 b))=some (.int .u8 ((a ||| b:Nat):Int)):=by
 have h0:((BitVec.ofInt 8 (a:Int) ||| BitVec.ofInt 8 (b:Int)).toNat)=a ||| b:=by
  rw[BitVec.toNat_or,xJ ha,xJ hb]
 have h:((BitVec.ofInt IntKind.u8.bits (a:Int) ||| BitVec.ofInt IntKind.u8.bits (b:Int)).toNat)=a ||| b:=h0
 simp only[qL,ju,w9,jY,aF];rw[h,Qx (X3 ha hb)]
theorem zmd{a b:Nat}(ha:a<256)(hb:b<256):qL P .and t x y (some (.int .u8 a)) (some (.int .u8 b))=some (.int .u8 ((a &&& b:Nat):Int)):=by
 have h0:((BitVec.ofInt 8 (a:Int) &&& BitVec.ofInt 8 (b:Int)).toNat)=a &&& b:=by
  rw[BitVec.toNat_and,xJ ha,xJ hb]
 have h:((BitVec.ofInt IntKind.u8.bits (a:Int) &&& BitVec.ofInt IntKind.u8.bits (b:Int)).toNat)=a &&& b:=h0;simp only[qL,ju,w9,jY,aF];rw[h,Qx (K7 Nat.and_le_left ha)]
theorem zme{w:Nat}(h0:w≠0)(h:w<256):qL P .sub t x y (some (.int .u8 w)) (some (.int .u8 1))=some (.int .u8 ((w - 1:Nat):Int)):=by
 rw[kD]
 congr 2
 simp only[IntKind.wrap,IntKind.bits,IntKind.signed,Fe,fR,bw];omega
theorem zhx{k:Nat}(hk:k<2 ^ 60):qL P .quo t x y (some (.int .i64 k)) (some (.int .i64 8))=some (.int .i64 ((k / 8:Nat):Int)):=by
 have h:(k:Int).tdiv 8=((k / 8:Nat):Int):=by
  rw[Int.tdiv_eq_ediv_of_nonneg (by omega)];omega
 simp only[qL,ju,w9,jY,aF];rw[h,kT (by omega) (by omega)]
 rfl
theorem zmf{k:Nat}:qL P .rem t x y (some (.int .i64 k)) (some (.int .i64 8))=some (.int .i64 ((k % 8:Nat):Int)):=by
 have h:(k:Int).tmod 8=((k % 8:Nat):Int):=by
  rw[Int.tmod_eq_emod_of_nonneg (by omega)];omega
 simp only[qL,ju,w9,jY,aF];rw[h];rfl
theorem zmg{k:Nat}(hk:k<8):qL P .shl t x y (some (.int .u8 1)) (some (.int .i64 k))=some (.int .u8 ((2 ^ k:Nat):Int)):=by
 have h1:¬((k:Int)<0):=by omega
 have h2:min (k:Int).toNat IntKind.u8.bits=k:=by simp[IntKind.bits];omega
 have h3:(1:Int) * 2 ^ k=((2 ^ k:Nat):Int):=by simp
 simp only[qL,ju,w9,La,aF,h1,bw,h2];rw[h3,Qx (X5 hk)]
end
section
variable{cx:Cx}
theorem zkQ{ops:Array Oper}{env:aD}{H:Hp}{df:bP}{s':St}(eZ:J' cx.P cx.uq ops (jM ops) 0 [] ops.toList=true)(hc:cx.rC ops (jM ops) ops.toList ⟨env,H,[],df⟩=some s'):cx.eN ops (jM ops) 0 [] [⟨0,H,[],df⟩] ops.toList ⟨env,H,[],df⟩=some (.normal,s') :=
 XF _ _ _ _ _ _ _ ⟨.nil,λq hq=>by simp at hq,λb=>by simp[yD],⟨rfl,rfl,rfl⟩,λc hc=>by simp at hc,λc hc=>by simp at hc,λq hq=>by simp at hq⟩ eZ hc
def zpl(cx:Cx)(t:aB)(x:aW)(d:Tmp)(K:St->Prop):St->Prop
 | ⟨env,H,lk,df⟩=>∃v cW m z,take env x=some (v,cW)/\z4 cx.P t=some m/\qP cx.P t=some z/\dz z=true/\z.cells.length=m/\dz v=true/\v.laid.length=m/\K ⟨cW.set d (.ptr H.az.length 0),H.push (.cells v.laid t),lk,df⟩
theorem zob{n id:Nat}{Q:Ex->St->Prop}{k:List It}{ops:Array Oper}{env:aD}{H:Hp}{lk:aO}{df:bP}{os:List Oper}{d:Tmp}{t:aB}{x:aW}{tk:cg}(hu:cx.uq mB=true)(hq:xO ops=some (os,d,t,x))(mq:jM os.toArray=tk)
  (N_:kB (Tj tk d) os=true) (hd:d<env.length) (eZ:J' cx.P cx.uq os.toArray tk 0 [] os=true)
  (h:go cx n (λex s=>ex=.normal/\zpl cx t x d (λs'=>go cx n Q k .normal s') s) [.on os.toArray tk os] .normal ⟨env.set d .dW,H,[],df⟩):go cx n Q (.c (.region id ops true)::k) .normal ⟨env,H,lk,df⟩:=by
 subst mq;simp only[go] at h ⊢;obtain⟨⟨bH,H2,AT,AU⟩,h1,_,v,cW,m,z,e1,e2,e3,e4,e5,e6,e7,hK⟩:=h;refine⟨.normal,_,?_,hK⟩;simp only[Cx.code];refine zkz hu hq ?_;have Dz:=zkQ (cx:=cx) (ops:=os.toArray) eZ h1;have sP:Nat.blt d env.length=true:=by
  show Nat.ble (d+1) env.length=true;rw[Nat.ble_eq];exact hd
 unfold Cx.late;simp only[hq,N_,sP,Bool.and_self];rw[show os.toArray.toList=os from rfl] at Dz;rw[Dz];have l1:Nat.beq z.cells.length m=true:=by rw[e5];simp
 have l2:Nat.beq v.laid.length m=true:=by rw[e7];simp
 simp only[e1,e2,e3,e4,e6,l1,Bool.and_self,qp,c_,l2,qn]
end
section
variable{cx:Cx}{takes:cg}
theorem ziy{rs:List Rec}{r1 R:Rec}{c0 c1 nw d c2 e:ew}{k:List ew->Option (Ex×St)}(e1:c1=nw)(hp:R.hp=true)(ho:∀q∈rs,q=r1\/(q.hp=false/\(q.free=true\/bit R.m q.idx=true)))(h1:r1.hp=true)
  (hs:vN (Nat.land R.m (eJ rs)) d.D=true) (hr:cx.ee takes R.o R.env d (Nat.lor d.D (Nat.pow 2 R.idx))=some (R.v,c2)) (L8:bit nw.D r1.idx=true) (oe:bit c2.D r1.idx=false)
  (hq:cx.ee takes r1.o r1.env c2 0=some (r1.v,e)) (hf:ya (Nat.lor c2.D (Nat.pow 2 r1.idx)) [nw,c2,c0,d]=some nw) (he:v9 e nw=true) :
  cx.fN takes rs R c0 c1 [d] k=k [nw,c2,c0,d]:=by
 subst e1;have Hq:cx.fM takes rs (eJ rs) R [c1,c2,c0,d] c1=true:=by
  unfold Cx.fM;refine wc λq hq=>?_;split
  ·rfl
  ·rcases ho q hq with rfl|⟨h2,h3⟩
   ·simp[h1,L8]
   ·rcases h3 with h3|h3<;>simp[h2,h3]
 have XN:cx.fM takes rs (eJ rs) R [c1,c2,c0,d] c2=true:=by
  unfold Cx.fM;refine wc λq CO=>?_;split
  ·rfl
  ·rcases ho q CO with rfl|⟨h2,h3⟩
   ·simp only[h1,oe,hq,hf,V.dh,he,Bool.and_self]
   ·rcases h3 with h3|h3<;>simp[h2,h3]
 unfold Cx.fN;rw[hp];simp only[Cx.iA,hs,hr,V.dh,bh,aZ,kB,Hq,XN]
end
section
variable{P:aQ}{gl:Gl}{d:Nat}{g g':Gh}{w w':aP}{H:Hp}
theorem mG.X7{H':Hp}{G:Gh}(sY:rj g' H'.az w')(hle:Gh.Le 0 g' G)(cU:∀b,b<H'.az.length->∀o v,w'.cell? ⟨g'.bO b,o,none⟩=some v->G.M (g'.bO b) o=some v)
  (cj:∀b c,b<H'.az.length->(c=g'.bO b\/g'.own c=some (.cell b 0))->∀o v,w'.cell? ⟨c,o,none⟩=some v->G.M c o=some v) {sz:Nat} {xs ys:aD} {o:uN}
  (hl:xs.length=ys.length) (hf:(zH xs).length=(zH ys).length) (h1:∀y∈ys,y.cells.length=sz) (h2:∀(j:Nat)(y:V),(zH ys)[j]?=some y->y.one=true)
  (h3:∀(j:Nat)(x y:V),(zH xs)[j]?=some x->(zH ys)[j]?=some y->mG H' x y) {cv:bt} (hr:aR g' (.sl sz xs o) cv):aR G (.sl sz ys .no) cv:=by
 cases hr with
 | sl f e1 e2 e3 e4 e5 e6 =>
  rw[hl];have hx:∀(j:Nat)(y:V),(zH ys)[j]?=some y->∃x,(zH xs)[j]?=some x:=λj y hy=>⟨_,gj (by rw[hf];exact(cZ.1 hy).1)⟩
  refine .sl f h1 (by rw[<- hl];exact e2) (λcH=>e3 λe=>cH (HO (by rw[<- hl,e];rfl))) h2 (λj y hy=>?_) (λj y hy=>?_)
  ·obtain⟨x,hx⟩:=hx j y hy;exact hle.M _ _ _ (e5 j x hx)
  ·obtain⟨x,hx⟩:=hx j y hy;exact(h3 j x y hx hy).L3 sY hle cU cj (e6 j x hx)
theorem zoc(oV:P.follows .mixedOrders=true)(fQ:yB P)(dP:vd P)(Eg:nM P gl){n:Nat}{f:FuncId}{args:aD}{sz:Nat}{xs ys:aD}{o:uN}{H':Hp}
  (hc:zj P gl n f args ⟨[],[]⟩=some (.ret (.br [.sl sz xs o,.bN]),H')) (ht:aI args=0) (hl:xs.length=ys.length) (nk:(zH xs).length=(zH ys).length) (fq:∀y∈ys,y.cells.length=sz) (pO:∀(j:Nat)(y:V),(zH ys)[j]?=some y->y.one=true)
  (hz:∀(j:Nat)(x y:V),(zH xs)[j]?=some x->(zH ys)[j]?=some y->mG H' x y) (dx:aI ys=0) {bx:dM} {l:Loc} (h1:ij P gl g) (h2:rj g H.az w) (h3:eP g H.az.length args bx) :
  Calls P f bx w (fB d H g w l (.ret (.br [.sl sz ys .no,.bN])) H):=by
 refine Calls.mono (yS oV fQ dP Eg n f args ⟨[],[]⟩ _ _ hc g.bare w bx l (h1.le nX) (Xu h2) ⟨h3.len,λj x c hx iT=>(h3.rel j x c hx iT).le nX (cN (zn (zv hx)) (by omega)),by simp[ht],h3.no⟩) λe w' he=>?_
 cases e with
 | returned cv =>
  obtain⟨u,g',e1,e2,e3,e4,_⟩:=he;cases e1;have dX:∀b,b<H'.az.length->w.heap.size<=g'.bO b:=λb hb=>e2.dY b (ec _) hb;have cU:∀b,b<H'.az.length->∀o v,w'.cell? ⟨g'.bO b,o,none⟩=some v->(Gh.uo w.heap.size g w').M (g'.bO b) o=some v:=λb hb o v hv=>by
   simp only[Gh.uo,if_neg (Nat.not_lt.2 (dX b hb))];exact hv
  have cj:∀b c,b<H'.az.length->(c=g'.bO b\/g'.own c=some (.cell b 0))->∀o v,w'.cell? ⟨c,o,none⟩=some v->(Gh.uo w.heap.size g w').M c o=some v:=λb c hb hc o v hv=>by
   have AN:¬c<w.heap.size:=λbR=>by
    rcases hc with e|e
    ·have:=dX b hb;omega
    ·rw[(kS e2.fr bR).2.1] at e;cases e
   simp only[Gh.uo,if_neg AN];exact hv
  refine⟨.br [.sl sz ys .no,.bN],_,rfl,zeY h2 e2.cX e2.fr,?_,trivial,by simp[V.top,aI,dx]⟩
  cases e3 with
  | br k1 k2 =>
   refine .br k1 λj y v hy hv=>?_
   match j,hy with
   | 0,hy=>cases hy;exact mG.X7 e2.cX (Xv e2.cX e2.fr) cU cj hl nk fq pO hz (k2 0 _ v rfl hv)
   | 1,hy=>cases hy;exact(mG.same (H:=H') (v:=.bN) rfl).L3 e2.cX (Xv e2.cX e2.fr) cU cj (k2 1 _ v rfl hv)
   | j+2,hy=>simp at hy
 | panicked chain =>
  obtain⟨u,cv,g',e1,_⟩:=he;cases e1
 | outgrown=>exact he.elim
end
end Go.Vm
