/- Vm: a region whose order is drawn, with loads that are not in order with what changes the heap elsewhere: they are looked at again behind each change. Conditions: none but those named. -/
import Derived.Test.YthohlnmcjkjeiaaGreatDoorVmC
namespace Go.Vm
open Go
section
variable{cx:Cx}{all:Array Oper}{takes:cg}
def y6(cx:Cx)(takes:cg)(c:eD):List (Oper×aC×V)->Prop
 | []=>True
 | p::ps=>cx.fu takes p.1 p.2.1 p.2.2 c=true/\y6 cx takes c ps
theorem zg0{c:eD}{ps:List (Oper×aC×V)}(h:y6 cx takes c ps)(p:Oper×aC×V)(hp:p∈ps):cx.fu takes p.1 p.2.1 p.2.2 c=true:=by
 induction ps with
 | nil=>cases hp
 | cons a ps ih =>
  cases hp with
  | head=>exact h.1
  | tail _ hp=>exact ih h.2 hp
def J8(b:Bool)(p:Oper×aC×V)(ps:List (Oper×aC×V)):List (Oper×aC×V):=bif b then p::ps else ps
def A4(cx:Cx)(all:Array Oper)(takes:cg)(P:St->Prop):List (Oper×aC×V)->List (Bool×Bool)->List Oper->St->Prop
 | _,_,[],s=>P s
 | _,[],_::_,_=>False
 | cY,(ld,hp)::fl,o::os,⟨env,H,lk,df⟩=>match z0 all o env with
  | none=>False
  | some false=>A4 cx all takes P cY fl os ⟨aq env o.dst (.br []),H,lk,df⟩
  | some true=>av cx o env lk=true/\match cx.op takes o env H lk df with
   | some (.val v,⟨cM,H1,eG,eF⟩)=>(hp=true->y6 cx takes ⟨0,H1,eG,eF⟩ cY)/\A4 cx all takes P (J8 ld (o,env,v) cY) fl os ⟨aq cM o.dst v,H1,eG,eF⟩
   | some (.skip,⟨cM,H1,eG,eF⟩)=>(hp=true->y6 cx takes ⟨0,H1,eG,eF⟩ cY)/\A4 cx all takes P cY fl os ⟨aq cM o.dst (.br []),H1,eG,eF⟩
   | _=>False
def Xy(js:bL)(r q:SR):Bool :=
 match bit r.m q.idx with
 | true=>true
 | false=>!(r.hp && q.hp) && (!(q.hp && r.lk) || (q.tk && r.ld)) && (!(r.hp && q.lk) || (r.al && q.ld) || (js.any (Nat.beq q.idx) && q.ld))
def T_(P:aQ)(uq:aB->Bool)(all:Array Oper)(takes:cg)(js:bL):Nat->List SR->List (Bool×Bool)->List Oper->Bool
 | _,_,_,[]=>true
 | _,_,[],_::_=>false
 | i,rs,(ld,hp)::fl,o::os=>match Og rs o.after.toList with
  | none=>false
  | some m =>
   let r:SR:=⟨i,m,m9 takes o,Nat.lor (m9 takes o) (ud all o),q9 P uq takes o,kV P uq o,vK o,Eo takes o,kN takes o⟩
   ((!q9 P uq takes o || hp) && (!(js.any (Nat.beq i)) || ld)) && ((!r.tk || kE (λq=>!q.tk) rs) && kE (T7 r) rs && (kE (Xy js r) rs && T_ P uq all takes js (i+1) (r::rs) fl os))
theorem zg1{js:bL}{P:St->Prop}:∀(os:List Oper)(fl:List (Bool×Bool))(cY:List (Oper×aC×V))(i:Nat)(rs:List Rec)(ts:List SR)(c0:eD)(rest:List eD)(s:St),T9 cx takes i rs ts c0 rest s->T_ cx.P cx.uq all takes js i ts fl os=true->(∀q∈rs,q.hp=false->q.free=false->js.any (Nat.beq q.idx)=true->(q.o,q.env,q.v)∈cY)->A4 cx all takes P cY fl os s->∃s',cx.eU all takes i rs (c0::rest) os s=some (.normal,s')/\P s'
 | [],fl,cY,i,rs,ts,c0,rest,s,_,_,_,hc=>by
  simp only[A4] at hc;exact⟨s,by simp only[Cx.eU],hc⟩
 | _::_,[],cY,i,rs,ts,c0,rest,s,_,_,_,hc=>by
  simp only[A4] at hc
 | o::os,(ld,fhp)::fl,cY,i,rs,ts,c0,rest,⟨env,H,lk,df⟩,hI,fe,hpd,hc=>by
  simp only[T_] at fe;split at fe<;>try (cases fe;done)
  rename_i m hm;simp only[ei] at fe;obtain⟨⟨IN,Qr⟩,⟨mH,IC⟩,Mc,fe⟩:=fe;have sU:∀(hp free:Bool)(v:V),kE (kz ⟨i,o,m,m9 takes o,Nat.lor (m9 takes o) (ud all o),hp,free,env,v⟩) rs=true:=λhp free v =>
   zgY hI.pr (λq t uj hg=>by simp only[T7] at hg;simp only[kz,uj.idx,uj.tm,uj.lm];exact hg) IC
  have key:∀(hp free:Bool)(v:V)(By:List (Oper×aC×V))(H1:Hp)(eG:aN)(eF:bP)(cM:aC),
    (hp=true->q9 cx.P cx.uq takes o=true)->(hp=false->free=false->kV cx.P cx.uq o=true) ->
    (hp=false->H1=H/\eG=lk/\eF=df)->(hp=false->free=false->∀D,cx.fu takes o env v ⟨D,H,lk,df⟩=true) ->
    (hp=true->vK o=true->∃x,H1=H.push x/\eG=lk/\eF=df) ->
    (hp=true->kN takes o=true->∀D,IL ⟨D,H,lk,df⟩ ⟨cM,H1,eG,eF⟩) ->
    (hp=false->free=false->Eo takes o=true->∀c,IL c ⟨env,H,lk,df⟩->cx.fu takes o env v c=true) ->
    (hp=true->∀D,∀p∈cY,cx.fu takes p.1 p.2.1 p.2.2 ⟨D,H1,eG,eF⟩=true) ->
    (∀q∈cY,q∈By)->(hp=false->free=false->js.any (Nat.beq i)=true->(o,env,v)∈By) ->
    A4 cx all takes P By fl os ⟨cM,H1,eG,eF⟩ ->
    ∃s',(match kE (kz ⟨i,o,m,m9 takes o,Nat.lor (m9 takes o) (ud all o),hp,free,env,v⟩) rs,c0::rest with
     | true,c0::cs=>cx.fS takes rs ⟨i,o,m,m9 takes o,Nat.lor (m9 takes o) (ud all o),hp,free,env,v⟩ c0 ⟨Nat.lor c0.D (Nat.pow 2 i),H1,eG,eF⟩ cs λcs =>
      cx.eU all takes (i+1) (⟨i,o,m,m9 takes o,Nat.lor (m9 takes o) (ud all o),hp,free,env,v⟩::rs) cs os ⟨cM,H1,eG,eF⟩
     | _,_=>none)=some (.normal,s')/\P s':=by
   intro hp free v By H1 eG eF cM h1 h2 h3 h4 h5 Xw Xx Pu l8 Qs h6;rw[sU];simp only;have bR:∀q∈rs,q.idx≠i:=λq hq e=>by have:=hI.lt q hq;omega
   have nE:∀b,(∃q∈rs,q.hp=true/\q.idx=b)->bit (Nat.lor c0.D (Nat.pow 2 i)) b=true:=λb hb=>by rw[vb,(hI.cD b).2 hb];rfl
   have Bw:=yT hI.pr Mc;have oI:hp=true->∀q∈rs,q.hp=false->q.free=false->bit m q.idx=true\/(∃c∈rs,c.hp=true/\bit c.m q.idx=true)\/∀D,cx.fu takes q.o q.env q.v ⟨D,H1,eG,eF⟩=true:=λhr q hq mj pI=>by
    obtain⟨t,ht,hg⟩:=Bw q hq;simp only[Xy] at hg;split at hg
    next hb=>exact .inl (by rw[ht.idx];exact hb)
    ·rw[h1 hr,ht.lk mj pI] at hg;simp only[tE,mG,z_,ei,tX] at hg;obtain⟨_,⟨sM,gp⟩|⟨hjs,gp⟩⟩:=hg
     ·rcases hI.IM q hq mj pI with h|h
      ·exact .inr (.inl h)
      ·obtain⟨x,e1,e2,e3⟩:=h5 hr sM;subst e1 e2 e3;rw[ht.ld] at gp;exact .inr (.inr λD=>zeR gp (h D))
     ·exact .inr (.inr λD=>Pu hr D _ (hpd q hq mj pI (by rw[ht.idx];exact hjs)))
   have FE:kN takes o=true->∀q∈rs,kN takes q.o=false:=λht q hq=>by
    rw[ht] at mH;simp only[mG,z_] at mH;obtain⟨t,h7,h8⟩:=yT hI.pr mH q hq;rw[<- h7.tk];simpa using h8
   have iN:(hp=true\/(hp=false/\free=false))->∀q∈rs,q.hp=true->bit m q.idx=true\/(hp=false/\kN takes q.o=true/\Eo takes o=true):=λhr q hq mj=>by
    obtain⟨t,ht,hg⟩:=Bw q hq;simp only[Xy] at hg;split at hg
    next hb=>exact .inl (by rw[ht.idx];exact hb)
    ·rw[ht.hp mj] at hg;simp only[Lc,tE,ei,EK] at hg;obtain⟨⟨g1,g2⟩,_⟩:=hg;rcases hr with hr|⟨hr,hf⟩
     ·rw[h1 hr] at g1;cases g1
     ·rw[h2 hr hf] at g2;simp only[mG,z_,ei] at g2;exact .inr ⟨hr,by rw[<- ht.tk];exact g2.1,g2.2⟩
   have sV:∀c:eD,(∃q∈rs,q.hp=true/\bit m q.idx=true/\bit c.D q.idx=false)->vO (Nat.land m (eP rs)) c.D=false:=λc hc=>by
    obtain⟨q,hq,e1,e2,e3⟩:=hc;cases hs:vO (Nat.land m (eP rs)) c.D with
    | false=>rfl
    | true =>
     have:=rB.1 hs q.idx (by rw[N7,e2,lJ.2 ⟨q,hq,e1,rfl⟩];rfl)
     rw[this] at e3;cases e3
   have Qq:∀c:eD,(∀b,bit c.D b=true->∃q∈rs,q.idx=b)->bit c.D i=false:=λc hc=>by
    cases hb:bit c.D i with
    | false=>rfl
    | true =>
     obtain⟨q,hq,e⟩:=hc i hb;exact absurd e (bR q hq)
   rw[zje (r:=⟨i,o,m,m9 takes o,Nat.lor (m9 takes o) (ud all o),hp,free,env,v⟩) ?_ ?_ nE ?_]
   ·have FF:T9 cx takes (i+1) (⟨i,o,m,m9 takes o,Nat.lor (m9 takes o) (ud all o),hp,free,env,v⟩::rs) (⟨i,m,m9 takes o,Nat.lor (m9 takes o) (ud all o),q9 cx.P cx.uq takes o,kV cx.P cx.uq o,vK o,Eo takes o,kN takes o⟩::ts)
      (bif hp then ⟨Nat.lor c0.D (Nat.pow 2 i),H1,eG,eF⟩ else c0) (bif hp then c0::rest else rest) ⟨cM,H1,eG,eF⟩:=by
     refine⟨.cons ⟨rfl,rfl,rfl,rfl,h1,h2,rfl,rfl⟩ hI.pr,?_,?_,?_,?_,?_,?_⟩
     ·intro q hq;rcases dN.1 hq with rfl|hq
      ·exact HT _
      ·have:=hI.lt q hq;omega
     ·intro b;cases hp with
      | false =>
       simp only[nD];rw[hI.cD];constructor
       ·rintro⟨q,hq,e⟩;exact⟨q,d_ _ hq,e⟩
       ·rintro⟨q,hq,e1,e2⟩;rcases dN.1 hq with rfl|hq
        ·cases e1
        ·exact⟨q,hq,e1,e2⟩
      | true =>
       simp only[mh];rw[vb,tX,hI.cD,yg,decide_eq_true_eq];constructor
       ·rintro(⟨q,hq,e⟩|rfl)
        ·exact⟨q,d_ _ hq,e⟩
        ·exact⟨_,eT ..,rfl,rfl⟩
       ·rintro⟨q,hq,e1,e2⟩;rcases dN.1 hq with rfl|hq
        ·exact .inr e2
        ·exact .inl ⟨q,hq,e1,e2⟩
     ·cases hp with
      | false=>obtain⟨e1,e2,e3⟩:=h3 rfl;subst e1 e2 e3;exact hI.c0
      | true=>exact⟨rfl,rfl,rfl⟩
     ·intro c ey b hb;cases hp with
      | false=>obtain⟨q,hq,e⟩:=hI.rD c ey b hb;exact⟨q,d_ _ hq,e⟩
      | true =>
       rcases dN.1 ey with rfl|ey
       ·obtain⟨q,hq,_,e⟩:=(hI.cD b).1 hb;exact⟨q,d_ _ hq,e⟩
       ·obtain⟨q,hq,e⟩:=hI.rD c ey b hb;exact⟨q,d_ _ hq,e⟩
     ·intro c ey;cases hp with
      | false =>
       obtain⟨e1,e2,e3⟩:=h3 rfl;subst e1 e2 e3;rcases hI.rest c ey with⟨q,hq,e⟩|⟨⟨q,hq,e⟩,hL⟩
       ·exact .inl ⟨q,d_ _ hq,e⟩
       ·exact .inr ⟨⟨q,d_ _ hq,e⟩,hL⟩
      | true =>
       have FG:bit c0.D i=false:=Qq c0 λb hb=>by obtain⟨q,hq,_,e⟩:=(hI.cD b).1 hb;exact⟨q,hq,e⟩
       cases AS:kN takes o with
       | false =>
        rcases dN.1 ey with rfl|ey
        ·exact .inl ⟨_,eT ..,rfl,AS,FG⟩
        ·exact .inl ⟨_,eT ..,rfl,AS,Qq c (hI.rD c ey)⟩
       | true =>
        rcases dN.1 ey with rfl|ey
        ·refine .inr ⟨⟨_,eT ..,rfl,AS,FG⟩,?_⟩;obtain⟨D0,H0,G9,df0⟩:=c;obtain⟨e1,e2,e3⟩:=hI.c0;simp only at e1 e2 e3;subst e1 e2 e3;exact Xw rfl AS D0
        ·rcases hI.rest c ey with⟨q,hq,e⟩|⟨⟨q,hq,e1,e2,_⟩,_⟩
         ·exact .inl ⟨q,d_ _ hq,e⟩
         ·rw[FE AS q hq] at e2;cases e2
     ·intro q hq mj pI;rcases dN.1 hq with rfl|CS
      ·obtain⟨e1,e2,e3⟩:=h3 mj;subst e1 e2 e3;exact .inr (h4 mj pI)
      ·clear hq;cases hp with
       | false =>
        obtain⟨e1,e2,e3⟩:=h3 rfl;subst e1 e2 e3;rcases hI.IM q CS mj pI with⟨c,hc,e⟩|h
        ·exact .inl ⟨c,d_ _ hc,e⟩
        ·exact .inr h
       | true =>
        rcases oI rfl q CS mj pI with h|⟨c,hc,e⟩|h
        ·exact .inl ⟨_,eT ..,rfl,h⟩
        ·exact .inl ⟨c,d_ _ hc,e⟩
        ·exact .inr h
    have:=zg1 os fl By _ _ _ _ _ _ FF fe (λq hq mj pI hj=>by
     rcases dN.1 hq with rfl|hq
     ·exact Qs mj pI hj
     ·exact l8 _ (hpd q hq mj pI hj)) h6
    cases hp<;>exact this
   ·intro hr c ey;refine sV c ?_;rcases hI.rest c ey with⟨q,hq,e1,_,e2⟩|⟨⟨q,hq,e1,_,e2⟩,_⟩
    ·rcases iN (.inl hr) q hq e1 with h|⟨h,_⟩
     ·exact⟨q,hq,e1,h,e2⟩
     ·exact absurd (hr.symm.trans h) (by simp)
    ·rcases iN (.inl hr) q hq e1 with h|⟨h,_⟩
     ·exact⟨q,hq,e1,h,e2⟩
     ·exact absurd (hr.symm.trans h) (by simp)
   ·intro hr hf c ey;rcases hI.rest c ey with⟨q,hq,e1,e3,e2⟩|⟨⟨q,hq,e1,e3,e2⟩,hL⟩
    ·rcases iN (.inr ⟨hr,hf⟩) q hq e1 with h|⟨_,h,_⟩
     ·exact .inl (sV c ⟨q,hq,e1,h,e2⟩)
     ·rw[e3] at h;cases h
    ·rcases iN (.inr ⟨hr,hf⟩) q hq e1 with h|⟨_,_,h⟩
     ·exact .inl (sV c ⟨q,hq,e1,h,e2⟩)
     ·exact .inr (Xx hr hf h c hL)
   ·intro hr q hq mj pI;rcases oI hr q hq mj pI with h|h|h
    ·exact .inl h
    ·exact .inr (.inl h)
    ·exact .inr (.inr (h _))
  simp only[Cx.eU,zeQ hI.pr,hm,qA,qm,jN];simp only[A4] at hc;split at hc<;>try (cases hc;done)
  next hw=>simp only[hw];exact key false true (.br []) cY H lk df _ (λh=>nomatch h) (λ_ h=>nomatch h) (λ_=>⟨rfl,rfl,rfl⟩) (λ_ h=>nomatch h) (λh=>nomatch h) (λh=>nomatch h) (λ_ h=>nomatch h) (λh=>nomatch h) (λ_ h=>h) (λ_ h=>nomatch h) hc
  ·rename_i hw;simp only[hw];obtain⟨tP,hc⟩:=hc;split at hc<;>try (cases hc;done)
   ·rename_i v cM H1 eG eF aD;simp only[aD];obtain⟨LP,hc⟩:=hc;have Xz:q9 cx.P cx.uq takes o=true->fhp=true:=λh=>by rw[h] at IN;simpa using IN
    have hfj:js.any (Nat.beq i)=true->ld=true:=λh=>by rw[h] at Qr;simpa using Qr
    refine key _ _ v _ H1 eG eF _ (λh=>h) (λ_ h=>by simpa using h) (λhf=>?_) (λhf _ D=>?_) (λ_ ha=>?_) (λ_ ht D=>?_) (λ_ _ hl c hL=>zeT hl hL tP aD) (λh D p hp=>zg0 (LP (Xz h)) p hp) (λq hq=>by unfold J8;cases ld<;>simp[hq]) (λ_ _ hj=>by rw[hfj hj];simp[J8]) hc
    ·obtain⟨v',_,e2,_⟩:=yh hf aD;cases e2;exact⟨rfl,rfl,rfl⟩
    ·simp[Cx.fu,Cx.ej,aD,V.dx]
    ·obtain⟨x,e⟩:=zgZ ha aD;cases e;exact⟨x,rfl,rfl,rfl⟩
    ·rcases zjd (D:=D) ht aD with h|h
     ·exact .inl h
     ·exact .inr h
   ·rename_i cM H1 eG eF aD;simp only[aD];have Cj:q9 cx.P cx.uq takes o=true:=by
     cases hb:q9 cx.P cx.uq takes o with
     | true=>rfl
     | false=>obtain⟨v',e1,_⟩:=yh hb aD;cases e1
    rw[Cj];obtain⟨LP,hc⟩:=hc;have Xz:fhp=true:=by rw[Cj] at IN;simpa using IN
    refine key true false (.br []) cY H1 eG eF _ (λ_=>Cj) (λh=>nomatch h) (λh=>nomatch h) (λh=>nomatch h) (λ_ ha=>?_) (λ_ ht=>?_) (λh=>nomatch h) (λ_ D p hp=>zg0 (LP Xz) p hp) (λ_ h=>h) (λh=>nomatch h) hc
    ·obtain⟨dst,op,type,pos,after,guard⟩:=o;unfold vK at ha;split at ha<;>try (cases ha;done)
     rename_i t lK;simp only at lK;subst lK;simp only[Cx.op] at aD;split at aD<;>try (cases aD;done)
     split at aD<;>try (cases aD;done)
     simp[qm,qn] at aD
    ·obtain⟨dst,op,type,pos,after,guard⟩:=o;unfold kN at ht;split at ht<;>try (cases ht;done)
     rename_i t a lK;simp only at lK;subst lK;cases dst with
     | none=>cases ht
     | some d =>
      simp only at ht;rw[xm ht] at aD;unfold vA at aD
      (repeat' split at aD)<;>cases aD
theorem T'{n id:Nat}{Q:Ex->St->Prop}{k:List It}{ops:Array Oper}{env:aC}{H:Hp}{lk:aN}{df:bP}{tk:cg}(js:bL)(fl:List (Bool×Bool))(ht:jM ops=tk)(fe:T_ cx.P cx.uq ops tk js 0 [] fl ops.toList=true)
  (h:A4 cx ops tk (λs=>go cx n Q k .normal s) [] fl ops.toList ⟨env,H,[],df⟩) (hl:cx.uq mJ=false\/xO ops=none:=by first|exact .inl rfl|exact .inr (by kernel_rfl)):go cx n Q (.c (.region id ops true)::k) .normal ⟨env,H,lk,df⟩:=by
 subst ht;obtain⟨s',h1,h2⟩:=zg1 (js:=js) _ _ _ _ _ _ ⟨0,H,[],df⟩ [] _ ⟨.nil,λq hq=>by simp at hq,λb=>by simp[yE],⟨rfl,rfl,rfl⟩,λc hc=>by simp at hc,λc hc=>by simp at hc,λq hq=>by simp at hq⟩ fe (λq hq=>by simp at hq) h
 simp only[go];exact⟨.normal,s',by simp only[Cx.code];exact W_ h1 hl,h2⟩
section
variable{P:St->Prop}{cY:List (Oper×aC×V)}{fl:List (Bool×Bool)}{os:List Oper}{env:aC}{H:Hp}{lk:aN}{df:bP}{s:St}{dst:fJ}{op:Op}{type:aB}{pos:String}{after:Array Edge}{ld hp:Bool}
theorem Al:A4 cx all takes P cY fl [] s ↔ P s:=by simp[A4]
def IP(cx:Cx)(all:Array Oper)(takes:cg)(P:St->Prop)(cY:List (Oper×aC×V))(ld hp:Bool)(fl:List (Bool×Bool))(o:Oper)(env:aC)(os:List Oper):Option (OR×St)->Prop
 | some (.val v,⟨cM,H1,eG,eF⟩)=>(hp=true->y6 cx takes ⟨0,H1,eG,eF⟩ cY)/\A4 cx all takes P (J8 ld (o,env,v) cY) fl os ⟨aq cM o.dst v,H1,eG,eF⟩
 | some (.skip,⟨cM,H1,eG,eF⟩)=>(hp=true->y6 cx takes ⟨0,H1,eG,eF⟩ cY)/\A4 cx all takes P cY fl os ⟨aq cM o.dst (.br []),H1,eG,eF⟩
 | _=>False
theorem sC:A4 cx all takes P cY ((ld,hp)::fl) (⟨dst,op,type,pos,after,none⟩::os) ⟨env,H,lk,df⟩ ↔ (av cx ⟨dst,op,type,pos,after,none⟩ env lk=true/\IP cx all takes P cY ld hp fl ⟨dst,op,type,pos,after,none⟩ env os (cx.op takes ⟨dst,op,type,pos,after,none⟩ env H lk df)):=by
 simp only[A4,z0];cases cx.op takes ⟨dst,op,type,pos,after,none⟩ env H lk df with
 | none=>simp[IP]
 | some r =>
  obtain⟨r,s1⟩:=r;obtain⟨cM,H1,eG,eF⟩:=s1;cases r<;>simp[IP]
theorem Ua{o:Oper}{v:V}{cM:aC}{H1:Hp}{eG:aN}{eF:bP}:IP cx all takes P cY ld false fl o env os (some (.val v,⟨cM,H1,eG,eF⟩)) ↔ A4 cx all takes P (J8 ld (o,env,v) cY) fl os ⟨aq cM o.dst v,H1,eG,eF⟩:=by simp[IP]
theorem Ub{o:Oper}{v:V}{cM:aC}{H1:Hp}{eG:aN}{eF:bP}:IP cx all takes P cY ld true fl o env os (some (.val v,⟨cM,H1,eG,eF⟩)) ↔ y6 cx takes ⟨0,H1,eG,eF⟩ cY/\A4 cx all takes P (J8 ld (o,env,v) cY) fl os ⟨aq cM o.dst v,H1,eG,eF⟩:=by simp[IP]
theorem XA{o:Oper}{cM:aC}{H1:Hp}{eG:aN}{eF:bP}:IP cx all takes P cY ld hp fl o env os (some (.skip,⟨cM,H1,eG,eF⟩)) ↔ (hp=true->y6 cx takes ⟨0,H1,eG,eF⟩ cY)/\A4 cx all takes P cY fl os ⟨aq cM o.dst (.br []),H1,eG,eF⟩:=by simp[IP]
theorem Uc{p:Oper×aC×V}{ps:List (Oper×aC×V)}:J8 false p ps=ps:=rfl
theorem Ud{p:Oper×aC×V}{ps:List (Oper×aC×V)}:J8 true p ps=p::ps:=rfl
theorem xD{c:eD}:y6 cx takes c [] ↔ True:=Iff.rfl
theorem i_{D:Nat}{o:Oper}{v:V}{s1:St}(h:cx.op takes o env H lk df=some (.val v,s1)):cx.fu takes o env v ⟨D,H,lk,df⟩=true:=by simp[Cx.fu,Cx.ej,h,V.dx]
end
def Qt(cx:Cx)(n:Nat)(Q:Ex->St->Prop)(k:List It)(R:St->Prop):Ex->St->Prop
 | .normal,s=>R s
 | ex,s=>go cx n Q k ex s
theorem zlM{n:Nat}{Q:Ex->St->Prop}{k:List It}{c:Code}{s:St}(R:St->Prop)(h:go cx n (Qt cx n Q k R) [.c c] .normal s)(h2:∀s',R s'->go cx n Q k .normal s'):go cx n Q (.c c::k) .normal s:=by
 obtain⟨ex,s',h3,h4⟩:=T6 h;simp only[go];refine⟨ex,s',h3,?_⟩;cases ex<;>first|exact h2 _ h4|exact h4
theorem jC{n:Nat}{Q:Ex->St->Prop}{k:List It}{R:St->Prop}{s:St}:Qt cx n Q k R .normal s ↔ R s:=Iff.rfl
theorem jJ{n:Nat}{Q:Ex->St->Prop}{k:List It}{R:St->Prop}{s:St}{i:Nat}:Qt cx n Q k R (.exit i) s ↔ go cx n Q k (.exit i) s:=Iff.rfl
theorem y7{n:Nat}{Q:Ex->St->Prop}{k:List It}{env:aC}{H:Hp}{lk:aN}{df:bP}(F:aC->Prop)(h:F env)(h2:∀env,F env->go cx n Q k .normal ⟨env,H,lk,df⟩):go cx n Q k .normal ⟨env,H,lk,df⟩:=h2 env h
theorem g_:Nat.beq 4 3=false:=rfl
theorem hO:Nat.beq 5 3=false:=rfl
theorem h_:Nat.beq 5 4=false:=rfl
theorem ia:Nat.beq 2 3=false:=rfl
theorem ig:Nat.beq 2 4=false:=rfl
theorem ij:Nat.beq 2 5=false:=rfl
theorem iq:Nat.beq 1 2=false:=rfl
theorem ir:Nat.beq 0 2=false:=rfl
theorem iu:Nat.beq 1 3=false:=rfl
theorem iw:Nat.beq 1 4=false:=rfl
theorem iy:Nat.beq 1 5=false:=rfl
theorem gJ:Nat.beq 0 1=false:=rfl
theorem mC{n:Nat}{Q:Ex->St->Prop}{k:List It}{s:St}(F:St->Prop)(h:F s)(h2:∀s,F s->go cx n Q k .normal s):go cx n Q k .normal s:=h2 s h
theorem vE{D:Nat}{env:aC}{H:Hp}{lk:aN}{df:bP}{d:Tmp}{t type:aB}{a:aX}{pos:String}{after:Array Edge}{guard:oP}{p v0 v:V}(h1:ak env a=some p)(h2:zl cx.P H cx.gl t p=some v0)(h3:aW v0=v):y6 cx [] ⟨D,H,lk,df⟩ [(⟨some d,.load t a,type,pos,after,guard⟩,env,v)]:=by
 refine⟨?_,trivial⟩;show cx.fu [] ⟨some d,.load t a,type,pos,after,guard⟩ env v ⟨D,H,lk,df⟩=true;have:cx.op [] ⟨some d,.load t a,type,pos,after,guard⟩ env H lk df=some (.val v,⟨env,H,lk,df⟩):=by
  rw[qw,h1,aU,h2,aS,h3,zt]
 exact i_ this
end
section
variable{cx:Cx}{takes:cg}{dst:fJ}{type:aB}{pos:String}{after:Array Edge}{guard:oP}{env:aC}{H:Hp}{lk:aN}{df:bP}
theorem znJ{t e n:Nat}{x y:aX}{z v u:V}(h1:cx.P.underlying t=some (.slice e))(h2:z8 cx.P e=some n)(h3:qP cx.P e=some z)(hn:n≠0/\2 * n<=16777216)(hz:z.cells.length=n)(XB:dD z=true)(hx:ak env x=some v)(hy:ak env y=some u)(hv:dD v=true)(hu:dD u=true)(Ch:v.cells.length=n)(hul:u.cells.length=n) :
  cx.op takes ⟨dst,.buildSlice t 2 #[(0,x),(1,y)],type,pos,after,guard⟩ env H lk df=some (.val (.sl n [v,u] (.yes e)),⟨env,H,lk,df⟩):=by
 have e1:Nat.beq n 0=false:=by
  cases n with
  | zero=>exact absurd rfl hn.1
  | succ n=>rfl
 have e2:Nat.blt 16777216 (2 * n)=false:=by
  cases hb:Nat.blt 16777216 (2 * n) with
  | false=>rfl
  | true=>have:=r8 hb;omega
 simp[Cx.op,qZ,h1,h2,h3,hz,XB,D8,hx,hy,hv,hu,Ch,hul,qm,eW,Nat.blt,List.replicate];rw[if_neg (by omega)]
theorem XC{t e n k:Nat}{lo co:aX}{z:V}{i:TypeInfo}(h1:cx.P.underlying t=some (.slice e))(h2:z8 cx.P e=some n)(h3:qP cx.P e=some z)(hu:cx.uq e=false)(h4:cx.P.info? e=some i)(hn:n≠0)(hz:z.cells.length=n)(XB:dD z=true)(hl:ak env lo=some (.int .i64 (k:Int)))(hc:ak env co=some (.int .i64 (k:Int)))(hr:kA k i.bytes=true)(hk:k≠0) :
  cx.op takes ⟨dst,.makeSlice t lo co,type,pos,after,guard⟩ env H lk df=some (.val (.sr H.au.length 0 k k),⟨env,H.push (.cells (List.replicate k z.cells).flatten e),lk,df⟩):=by
 have e1:Nat.beq n 0=false:=by
  cases n with
  | zero=>exact absurd rfl hn
  | succ n=>rfl
 have e2:¬((k:Int)<0):=by omega
 have e3:¬((k:Int)=0):=by omega
 simp[Cx.op,h1,h2,h3,h4,hu,e1,e2,hz,XB,hl,hc,hr,hk,di,qn]
theorem zij{t u e b off len cap:Nat}{x y:aX}{ys cs:aC}{ty:aB}{o:tG}(h1:cx.P.underlying t=some (.slice e))(h2:z8 cx.P e=some 1)(hx:ak env x=some (.sr b off len cap))(hy:ak env y=some (.sl 1 ys o))(hb:H.get b=some (.cells cs ty))(hl:ys.length=len)(hf:(bX ys).map aW=ys)(hr:off+len<=cs.length)(hm:wz lk b off len (cs.drop off)=true) :
  cx.op takes ⟨dst,.call ⟨.builtin .copy,#[x,y],#[t,u]⟩,type,pos,after,guard⟩ env H lk df=some (.val (.int .i64 (len:Nat)),⟨env,(H.set b (.cells (storeCells cs off ys) ty)).bQ b (.br ys),lk,df⟩):=by
 have e1:ys.take len=ys:=by rw[<- hl,Dh]
 have e2:Nat.ble (off+len) cs.length=true:=K8 hr;have e3:(bX ys).length=len:=by rw[<- hl,<- congrArg List.length hf,gk]
 simp[Cx.op,Cx.sI,h1,h2,hx,hy,kU,hb,hl,e1,hf,hm,di,jc,e3,hr]
end
section
variable{cx:Cx}{all:Array Oper}{takes:cg}
theorem wH{n id:Nat}{Q:Ex->St->Prop}{k:List It}{ops:Array Oper}{env:aC}{H:Hp}{lk:aN}{df:bP}{tk:cg}(ht:jM ops=tk)(h:∃s',cx.eU ops tk 0 [] [⟨0,H,[],df⟩] ops.toList ⟨env,H,[],df⟩=some (.normal,s')/\go cx n Q k .normal s')(hl:cx.uq mJ=false\/xO ops=none:=by first|exact .inl rfl|exact .inr (by kernel_rfl)):go cx n Q (.c (.region id ops true)::k) .normal ⟨env,H,lk,df⟩:=by
 subst ht;obtain⟨s',h1,h2⟩:=h;simp only[go];exact⟨.normal,s',by simp only[Cx.code];exact W_ h1 hl,h2⟩
section
variable{i m:Nat}{rs:List Rec}{c0:eD}{cs cs':List eD}{o:Oper}{os:List Oper}{env cM:aC}{H H1:Hp}{lk eG:aN}{df eF:bP}{v:V}{r:Option (Ex×St)}
def jr(all:Array Oper)(takes:cg)(i:Nat)(o:Oper)(m:Nat)(hp free:Bool)(env:aC)(v:V):Rec:=⟨i,o,m,m9 takes o,Nat.lor (m9 takes o) (ud all o),hp,free,env,v⟩
theorem qy(hm:wA rs o.after.toList=some m)(hg:z0 all o env=some true)(aD:cx.op takes o env H lk df=some (.val v,⟨cM,H1,eG,eF⟩))(h1:q9 cx.P cx.uq takes o=false)(h2:kV cx.P cx.uq o=false)
  (hs:kE (kz (jr all takes i o m false true env v)) rs=true) (k:cx.eU all takes (i+1) (jr all takes i o m false true env v::rs) (c0::cs) os ⟨aq cM o.dst v,H1,eG,eF⟩=r):cx.eU all takes i rs (c0::cs) (o::os) ⟨env,H,lk,df⟩=r:=by
 simp only[jr] at hs k;simp only[Cx.eU,hm,qA,hg,aD,qm,jN,h1,h2,oN,hs];simp only[Cx.fS,Bool.true_or];exact k
theorem kn(hm:wA rs o.after.toList=some m)(hg:z0 all o env=some true)(aD:cx.op takes o env H lk df=some (.val v,⟨cM,H1,eG,eF⟩))(h1:q9 cx.P cx.uq takes o=false)(h2:kV cx.P cx.uq o=true)
  (hs:kE (kz (jr all takes i o m false false env v)) rs=true) (hc:kE (λc=>match vO (Nat.land m (eP rs)) c.D with|true=>cx.fu takes o env v c|false=>true) cs=true)
  (k:cx.eU all takes (i+1) (jr all takes i o m false false env v::rs) (c0::cs) os ⟨aq cM o.dst v,H1,eG,eF⟩=r):cx.eU all takes i rs (c0::cs) (o::os) ⟨env,H,lk,df⟩=r:=by
 simp only[jr] at hs k;simp only[Cx.eU,hm,qA,hg,aD,qm,jN,h1,h2,mG,hs];simp only[Cx.fS,z_];split
 ·exact k
 next h=>exact absurd (hc.symm.trans h) (by decide)
theorem yp(hm:wA rs o.after.toList=some m)(hg:z0 all o env=some true)(aD:cx.op takes o env H lk df=some (.val v,⟨cM,H1,eG,eF⟩))(h1:q9 cx.P cx.uq takes o=true)(h2:kV cx.P cx.uq o=true)
  (hs:kE (kz (jr all takes i o m true false env v)) rs=true) (hc:∀K,cx.fS takes rs (jr all takes i o m true false env v) c0 ⟨Nat.lor c0.D (Nat.pow 2 i),H1,eG,eF⟩ cs K=K cs')
  (k:cx.eU all takes (i+1) (jr all takes i o m true false env v::rs) cs' os ⟨aq cM o.dst v,H1,eG,eF⟩=r):cx.eU all takes i rs (c0::cs) (o::os) ⟨env,H,lk,df⟩=r:=by
 have ey:=λK=>hc K;simp only[jr] at hs k ey;simp only[Cx.eU,hm,qA,hg,aD,qm,jN,h1,h2,mG,hs];rw[ey];exact k
theorem vd(hm:wA rs o.after.toList=some m)(hg:z0 all o env=some true)(aD:cx.op takes o env H lk df=some (.skip,⟨cM,H1,eG,eF⟩))(h1:q9 cx.P cx.uq takes o=true)
  (hs:kE (kz (jr all takes i o m true false env (.br []))) rs=true) (hc:∀K,cx.fS takes rs (jr all takes i o m true false env (.br [])) c0 ⟨Nat.lor c0.D (Nat.pow 2 i),H1,eG,eF⟩ cs K=K cs')
  (k:cx.eU all takes (i+1) (jr all takes i o m true false env (.br [])::rs) cs' os ⟨aq cM o.dst (.br []),H1,eG,eF⟩=r):cx.eU all takes i rs (c0::cs) (o::os) ⟨env,H,lk,df⟩=r:=by
 have ey:=λK=>hc K;simp only[jr] at hs k ey;simp only[Cx.eU,hm,qA,hg,aD,qm,jN,h1,hs];rw[ey];exact k
theorem wI{s:St}:cx.eU all takes i rs cs [] s=some (.normal,s):=by simp only[Cx.eU]
theorem zko{R:Rec}{c1:eD}{k:List eD->Option (Ex×St)}(hp:R.hp=true)(cj:∀c∈cs,vO (Nat.land R.m (eP rs)) c.D=false)
  (eu:cx.fR takes rs (eP rs) R (c1::c0::cs) c1=true):cx.fS takes rs R c0 c1 cs k=k (c1::c0::cs):=by
 have hr:∀l:List eD,(∀c∈l,vO (Nat.land R.m (eP rs)) c.D=false)->cx.iJ takes R.o R.env R.v (Nat.land R.m (eP rs)) (Nat.pow 2 R.idx) l=some []:=by
  intro l
  induction l with
  | nil=>intro _;rfl
  | cons c l ih=>intro h;simp only[Cx.iJ,h c (eT ..)];exact ih λc hc=>h c (d_ _ hc)
 unfold Cx.fS;rw[hp];simp only[hr cs cj,bh,bg,kE,eu]
end
theorem rS:∀(l:List aT),mW l l=true
 | []=>rfl
 | a::l=>by
  have h:gC a a=true:=by
   cases a with
   | cells a t=>simp[gC,dO]
   | map a =>
    have:∀(l:List (V×V)),rN l l=true:=by
     intro l
     induction l with
     | nil=>rfl
     | cons x l ih=>obtain⟨a,b⟩:=x;simp[rN,V.dx,ih]
    simp[gC,this]
   | iter a i =>
    have:∀(l:bL),om l l=true:=by
     intro l
     induction l with
     | nil=>rfl
     | cons x l ih=>simp[om,ih]
    simp[gC,this]
   | ul a b c d=>simp[gC,dO]
  simp[mW,h,rS l]
theorem rT:∀(l:aN),mB l l=true
 | []=>rfl
 | (a,b)::l=>by simp[mB,rT l]
theorem rU:∀(l:bP),nL l l=true
 | []=>rfl
 | (a,b)::l=>by simp[nL,V.dx,dO,rU l]
theorem zdH{D D':Nat}{H:Hp}{lk:aN}{df:bP}:yd ⟨D,H,lk,df⟩ ⟨D',H,lk,df⟩=true:=by
 simp[yd,rT,rU,rS]
theorem zkp{r2 r1 r0 R:Rec}{c0 c1 d c2 e:eD}{k:List eD->Option (Ex×St)}(hp:R.hp=true)(h2:r2.hp=false)(Ue:r2.free=true)(h0:r0.hp=false)(Uf:r0.free=true)(h1:r1.hp=true)
  (hs:vO (Nat.land R.m (eP [r2,r1,r0])) d.D=true) (hr:cx.ej takes R.o R.env d (Nat.lor d.D (Nat.pow 2 R.idx))=some (R.v,c2)) (Me:bit c1.D r1.idx=true) (oq:bit c2.D r1.idx=false)
  (hq:cx.ej takes r1.o r1.env c2 0=some (r1.v,e)) (hf:ye (Nat.lor c2.D (Nat.pow 2 r1.idx)) [c1,c2,c0,d]=some c1) (he:yd e c1=true) :
  cx.fS takes [r2,r1,r0] R c0 c1 [d] k=k [c1,c2,c0,d]:=by
 have Hg:cx.fR takes [r2,r1,r0] (eP [r2,r1,r0]) R [c1,c2,c0,d] c1=true:=by
  unfold Cx.fR;refine wc λq hq=>?_;split
  ·rfl
  ·rcases dN.1 hq with rfl|hq
   ·simp[h2,Ue]
   ·rcases dN.1 hq with rfl|hq
    ·simp[h1,Me]
    ·obtain rfl:q=r0:=by simpa using hq
     simp[h0,Uf]
 have Oj:cx.fR takes [r2,r1,r0] (eP [r2,r1,r0]) R [c1,c2,c0,d] c2=true:=by
  unfold Cx.fR;refine wc λq CS=>?_;split
  ·rfl
  ·rcases dN.1 CS with rfl|CS
   ·simp[h2,Ue]
   ·rcases dN.1 CS with rfl|CS
    ·simp only[h1,oq,hq,hf,V.dx,he,Bool.and_self]
    ·obtain rfl:q=r0:=by simpa using CS
     simp[h0,Uf]
 unfold Cx.fS;rw[hp];simp only[Cx.iJ,hs,hr,V.dx,bh,bg,kE,Hg,Oj]
theorem j9{rs:List Rec}{cs:List eD}{R:Rec}{c0 c1 nF:eD}{k:List eD->Option (Ex×St)}(e:c1=nF)(hp:R.hp=true)(cj:∀c∈cs,vO (Nat.land R.m (eP rs)) c.D=false)
  (eu:cx.fR takes rs (eP rs) R (nF::c0::cs) nF=true):cx.fS takes rs R c0 c1 cs k=k (nF::c0::cs):=by
 subst e;exact zko hp cj eu
theorem zik{r2 r1 r0 R:Rec}{c0 c1 nF d c2 e:eD}{k:List eD->Option (Ex×St)}(e1:c1=nF)(hp:R.hp=true)(h2:r2.hp=false)(Ue:r2.free=true)(h0:r0.hp=false)(Uf:r0.free=true)(h1:r1.hp=true)
  (hs:vO (Nat.land R.m (eP [r2,r1,r0])) d.D=true) (hr:cx.ej takes R.o R.env d (Nat.lor d.D (Nat.pow 2 R.idx))=some (R.v,c2)) (Me:bit nF.D r1.idx=true) (oq:bit c2.D r1.idx=false)
  (hq:cx.ej takes r1.o r1.env c2 0=some (r1.v,e)) (hf:ye (Nat.lor c2.D (Nat.pow 2 r1.idx)) [nF,c2,c0,d]=some nF) (he:yd e nF=true) :
  cx.fS takes [r2,r1,r0] R c0 c1 [d] k=k [nF,c2,c0,d]:=by
 subst e1;exact zkp hp h2 Ue h0 Uf h1 hs hr Me oq hq hf he
end
section
def IQ(f:Nat->Bool):Nat->Nat
 | 0=>0
 | n+1=>IQ f n ||| (if f n=true then 2 ^ n else 0)
theorem XD{f:Nat->Bool}{j:Nat}:∀{n:Nat},(IQ f n).testBit j=(decide (j<n) && f j)
 | 0=>by simp[IQ]
 | n+1=>by
  simp only[IQ,AO,XD (n:=n)]
  by_cases e:n=j
  ·subst e;cases h:f n<;>simp[]
  ·have:(if f n=true then 2 ^ n else 0).testBit j=false:=by
    cases f n<;>simp[e]
   rw[this];have:(j<n) ↔ (j<n+1):=by omega
   simp[this]
theorem zg2{f:Nat->Bool}:∀{n:Nat},IQ f n<2 ^ n
 | 0=>by simp[IQ]
 | n+1=>by
  simp only[IQ];have h1:=zg2 (f:=f) (n:=n);have h2:2 ^ n<2 ^ (n+1):=HO (by omega) (by omega)
  refine JF (by omega) ?_
  split<;>omega
theorem yI{f:Nat->Bool}{n m:Nat}(hm:m<2 ^ n)(h:∀j,j<n->m.testBit j=f j):m=IQ f n:=by
 apply Nat.eq_of_testBit_eq;intro j;rw[XD]
 by_cases hj:j<n
 ·simp[hj,h j hj]
 ·simp only[hj,decide_false,Fe];exact NO (r9 hm (Nat.pow_le_pow_right (by omega) (by omega)))
def kO(p:Nat->Bool)(i:Nat):Nat:=IQ (λj=>p (64 * i+j)) 64
theorem we{p:Nat->Bool}{i:Nat}:kO p i<2 ^ 64:=zg2
theorem wR{p:Nat->Bool}{i j:Nat}(h:j<64):(kO p i).testBit j=p (64 * i+j):=by simp[kO,XD,h]
def jQ(p:Nat->Bool)(n:Nat):Nat->Bool:=λk=>p k || k == n
def jD(p q:Nat->Bool):Nat->Bool:=λk=>p k || q k
theorem zlN{p:Nat->Bool}{n:Nat}:kO p (n / 64) ||| 2 ^ (n % 64)=kO (jQ p n) (n / 64):=by
 refine yI (JF we (HO (by omega) (Nat.mod_lt _ (by omega)))) λj hj=>?_
 rw[AO,wR hj,E_];simp only[jQ]
 congr 1
 rw[Fc];simp only[decide_eq_true_eq,beq_iff_eq];omega
theorem zg3{p:Nat->Bool}{n i:Nat}(h:i≠n / 64):kO (jQ p n) i=kO p i:=by
 refine(yI we λj hj=>?_).symm;rw[wR hj];simp only[jQ];have:¬(64 * i+j=n):=λe=>h (by omega)
 simp[this]
def pv(m:Nat)(p:Nat->Bool):aC:=(List.range m).map λi=>.int .u64 (kO p i:Nat)
theorem jF{m:Nat}{p:Nat->Bool}:(pv m p).length=m:=by simp[pv]
theorem yJ{m:Nat}{p:Nat->Bool}{i:Nat}(h:i<m):(pv m p)[i]?=some (.int .u64 (kO p i:Nat)):=by simp[pv,h]
theorem zpC{m:Nat}{p:Nat->Bool}{n:Nat}:(pv m p).set (n / 64) (.int .u64 (kO (jQ p n) (n / 64):Nat))=pv m (jQ p n):=by
 apply Fa;intro i;rw[List.getElem?_set']
 by_cases hi:i<m
 ·rw[yJ hi,yJ hi]
  by_cases e:n / 64=i
  ·subst e;simp
  ·simp[e,zg3 (Ne.symm e)]
 ·have h1:(pv m p)[i]?=none:=by simp[pv];omega
  have h2:(pv m (jQ p n))[i]?=none:=by simp[pv];omega
  rw[h1,h2];simp
theorem XE{n:Nat}(h:n<2 ^ 64):IntKind.u64.wrap (n:Int)=n:=by
 simp only[IntKind.wrap,IntKind.bits,IntKind.signed];simp only[Fe,f_,bz];omega
theorem kw{n:Int}(h:-9223372036854775808<=n)(h':n<9223372036854775808):IntKind.i64.wrap n=n:=by
 simp only[IntKind.wrap,IntKind.bits,IntKind.signed];simp only[tE,decide_eq_true_eq,ge_iff_le];have e1:(2:Int) ^ 64=18446744073709551616:=by decide
 have e2:(2:Int) ^ (64 - 1)=9223372036854775808:=by decide
 rw[e1,e2];split<;>omega
theorem Ug{n:Nat}(h:n<2 ^ 64):(BitVec.ofInt 64 (n:Int)).toNat=n:=by
 simp[];omega
variable{P:aQ}{t:aB}{x y:aX}
theorem XF{a b:Nat}(ha:a<2 ^ 64)(hb:b<2 ^ 64):qO P .or t x y (some (.int .u64 a)) (some (.int .u64 b))=some (.int .u64 ((a ||| b:Nat):Int)):=by
 have h0:((BitVec.ofInt 64 (a:Int) ||| BitVec.ofInt 64 (b:Int)).toNat)=a ||| b:=by
  rw[BitVec.toNat_or,Ug ha,Ug hb]
 have h:((BitVec.ofInt IntKind.u64.bits (a:Int) ||| BitVec.ofInt IntKind.u64.bits (b:Int)).toNat)=a ||| b:=h0
 simp only[qO,jv,w9,j4,aF];rw[h,XE (JF ha hb)]
theorem zkq{k:Nat}(hk:k<2 ^ 60):qO P .quo t x y (some (.int .i64 k)) (some (.int .i64 64))=some (.int .i64 ((k / 64:Nat):Int)):=by
 have h:(k:Int).tdiv 64=((k / 64:Nat):Int):=by
  rw[Int.tdiv_eq_ediv_of_nonneg (by omega)];omega
 simp only[qO,jv,w9,j4,aF];rw[h,kw (by omega) (by omega)]
 rfl
theorem zkr{k:Nat}:qO P .rem t x y (some (.int .i64 k)) (some (.int .i64 64))=some (.int .i64 ((k % 64:Nat):Int)):=by
 have h:(k:Int).tmod 64=((k % 64:Nat):Int):=by
  rw[Int.tmod_eq_emod_of_nonneg (by omega)];omega
 simp only[qO,jv,w9,j4,aF];rw[h];rfl
theorem zlO{k:Nat}(hk:k<64):qO P .shl t x y (some (.int .u64 1)) (some (.int .i64 k))=some (.int .u64 ((2 ^ k:Nat):Int)):=by
 have h1:¬((k:Int)<0):=by omega
 have h2:min (k:Int).toNat IntKind.u64.bits=k:=by simp[IntKind.bits];omega
 have h3:(1:Int) * 2 ^ k=((2 ^ k:Nat):Int):=by simp
 simp only[qO,jv,w9,Lg,aF,h1,bz,h2];rw[h3,XE (HO (by omega) hk)]
theorem zeU{H:Hp}{b off n:Nat}{v:V}{env:aC}{cs:aC}{ty:aB}{lk:aN}{df:bP}(hb:H.get b=some (.cells cs ty))(h1:dD v=true)(h2:v.laid.length=n)(h3:off+n<=cs.length)(h4:wz lk b off n (cs.drop off)=true) :
  Ql n H lk df (some (.ptr b off)) (some (v,env))=some (.skip,⟨env,(H.set b (.cells (Vm.storeCells cs off v.laid) ty)).bQ b v,lk,df⟩):=by
 simp only[Ql,hb,h1,h2,h4];simp[h3]
theorem jT{H:Hp}{b:Nat}{v:V}(h:v.top<=b+1):H.bQ b v=H:=by simp[Hp.bQ,h]
theorem XG{pre post:aC}{m i:Nat}{xs:aC}{v:V}(h:xs.length=m)(hi:i<m):(pre++xs++post).set (pre.length+i) v=pre++xs.set i v++post:=by
 rw[aY,tW _ _ (by omega),E8,GO _ _ (by omega),aY]
theorem xE{pre post:aC}{m i:Nat}{xs:aC}(h:xs.length=m)(hi:i<m):(pre++xs++post)[pre.length+i]?=xs[i]?:=by
 rw[aY,eM (by omega),E8,fI (by omega)]
theorem zg4{lk:aN}{b:Nat}:∀{n off:Nat}{l:aC},(∀i,i<n->∃c,l[i]?=some c/\locked c=false)->wz lk b off n l=true
 | 0,_,_,_=>by simp[wz]
 | n+1,off,[],h=>by obtain⟨c,hc,_⟩:=h 0 (by omega);simp at hc
 | n+1,off,c::l,h=>by
  obtain⟨d,hd,hl⟩:=h 0 (by omega)
  simp only[K7,bu] at hd;subst hd;simp only[wz,hl,oN,Bool.true_or,tE];exact zg4 λi hi=>by
   have:=h (i+1) (by omega)
   simpa using this
theorem yq{lk:aN}{b n off:Nat}{cs:aC}(h:∀i,i<n->∃c,cs[off+i]?=some c/\locked c=false):wz lk b off n (cs.drop off)=true :=
 zg4 λi hi=>by rw[HR];exact h i hi
end
section
theorem Bz:∀(w:Nat),w≠0->∃k m,w=2 ^ (k+1) * m+2 ^ k:=by
 intro w
 induction w using Nat.strongRecOn with
 | ind w ih =>
  intro h;rcases Nat.mod_two_eq_zero_or_one w with h2|h2
  ·obtain⟨k,m,e⟩:=ih (w / 2) (by omega) (by omega)
   refine⟨k+1,m,?_⟩;have:w=2 * (w / 2):=by omega
   rw[this,e,Nat.mul_add,<- Nat.mul_assoc,<- Nat.pow_succ',<- Nat.pow_succ']
  ·exact⟨0,w / 2,by omega⟩
theorem XH(k:Nat):0<2 ^ k:=Nat.pow_pos (by decide)
theorem Uh{k m j:Nat}:(2 ^ (k+1) * m+2 ^ k).testBit j=if j<k then false else if j=k then true else m.testBit (j - (k+1)):=by
 rw[Nat.testBit_two_pow_mul_add _ (HO (by decide) (by omega)),E_]
 by_cases h1:j<k
 ·rw[if_pos (by omega),if_pos h1];simp;omega
 ·by_cases h2:j=k
  ·subst h2;simp
  ·rw[if_neg (by omega),if_neg h1,if_neg h2]
theorem zg5{k m j:Nat}:(2 ^ (k+1) * m+2 ^ k - 1).testBit j=if j<k then true else if j=k then false else m.testBit (j - (k+1)):=by
 have:=XH k;have h2:2 ^ k<2 ^ (k+1):=HO (by decide) (by omega)
 rw[Nat.add_sub_assoc (by omega),Nat.testBit_two_pow_mul_add _ (by omega),Nat.testBit_two_pow_sub_one]
 by_cases h1:j<k
 ·rw[if_pos (by omega),if_pos h1];simp[h1]
 ·by_cases h2:j=k
  ·subst h2;simp
  ·rw[if_neg (by omega),if_neg h1,if_neg h2]
theorem Qu{k m:Nat}(h:2 ^ (k+1) * m+2 ^ k<2 ^ 64):k<64:=by
 rcases eI k 64 with h1|h1
 ·exact h1
 ·have:=Nat.pow_le_pow_right (n:=2) (by decide) h1
  omega
theorem znK{k m:Nat}(h:2 ^ (k+1) * m+2 ^ k<2 ^ 64):(2 ^ (k+1) * m+2 ^ k) &&& (2 ^ 64 - (2 ^ (k+1) * m+2 ^ k))=2 ^ k:=by
 have hp:=XH k;apply Nat.eq_of_testBit_eq;intro j;have e:2 ^ 64 - (2 ^ (k+1) * m+2 ^ k)=2 ^ 64 - ((2 ^ (k+1) * m+2 ^ k - 1)+1):=by omega
 rw[Nat.testBit_and,e,Nat.testBit_two_pow_sub_succ (by omega),zg5,Uh,E_]
 have:=Qu h
 by_cases h1:j<k
 ·simp[h1];omega
 ·by_cases h2:j=k
  ·subst h2;simp[this]
  ·have h3:decide (k=j)=false:=by simp;omega
   rw[h3];simp only[h1,h2,bz];cases m.testBit (j - (k+1))<;>simp
def wj(w:Nat):bL:=(List.range' 0 64).filter λj=>w.testBit j
theorem zg6{k:Nat}{p q:Nat->Bool}(hk:p k=true)(hq:∀j,q j=(p j && !(j == k))):∀(n s:Nat),s<=k->k<s+n->(∀j,s<=j->j<k->p j=false)->(List.range' s n).filter p=k::(List.range' s n).filter q
 | 0,s,h1,h2,_=>by omega
 | n+1,s,h1,h2,h3=>by
  rw[List.range'_succ]
  by_cases e:s=k
  ·subst e;have XI:q s=false:=by rw[hq];simp
   rw[List.filter_cons_of_pos hk,List.filter_cons_of_neg (by rw[XI];decide)]
   congr 1
   apply List.filter_congr;intro j hj;have:=List.mem_range'_1.1 hj;have b_:(j == s)=false:=by simp;omega
   rw[hq,b_];simp
  ·have hs:p s=false:=h3 s (dB _) (by omega)
   have XI:q s=false:=by rw[hq,hs];rfl
   rw[List.filter_cons_of_neg (by rw[hs];decide),List.filter_cons_of_neg (by rw[XI];decide)]
   exact zg6 hk hq n (s+1) (by omega) (by omega) λj h4 h5=>h3 j (by omega) h5
theorem Ui{k m:Nat}(h:2 ^ (k+1) * m+2 ^ k<2 ^ 64):wj (2 ^ (k+1) * m+2 ^ k)=k::wj ((2 ^ (k+1) * m+2 ^ k) &&& (2 ^ (k+1) * m+2 ^ k - 1)):=by
 refine zg6 (by simp[Uh]) (λj=>?_) 64 0 (by omega) (by have:=Qu h;omega) λj _ hj=>by simp[Uh,hj]
 rw[Nat.testBit_and,Uh,zg5]
 by_cases h1:j<k
 ·simp[h1]
 ·by_cases h2:j=k
  ·subst h2;simp
  ·simp[h1,h2]
theorem sW:wj 0=[]:=by simp[wj]
def Qv:List Int:=[0,1,56,2,57,49,28,3,61,58,42,50,38,29,17,4,62,47,59,36,45,43,51,22,53,39,33,30,24,18,12,5,63,55,48,27,60,41,37,16,46,35,44,21,52,32,23,11,54,26,40,15,34,20,31,10,25,14,19,9,13,8,7,6]
def BB:aC:=Qv.map (V.int .u8)
theorem Mf:∀k:Nat,k<64->nth BB ((2 ^ k * 285870213051353865) % 2 ^ 64 / 2 ^ 58)=some (.int .u8 (k:Int)):=by
 have h:(List.range 64).all (λk:Nat=>match nth BB ((2 ^ k * 285870213051353865) % 2 ^ 64 / 2 ^ 58) with|some (.int .u8 n)=>n == (k:Int)|_=>false)=true:=by decide +kernel
 intro k hk;have:=Cy.1 h k (Cd.2 hk);split at this<;>try (cases this;done)
 rename_i n e;rw[e];have:n=(k:Int):=by simpa using this
 rw[this]
variable{P:aQ}{t:aB}{x y:aX}
theorem zlP{w:Nat}(h0:w≠0)(h:w<2 ^ 64):iI .neg (.int .u64 (w:Int))=some (.int .u64 ((2 ^ 64 - w:Nat):Int)):=by
 simp only[iI]
 congr 2
 simp only[IntKind.wrap,IntKind.bits,IntKind.signed,Fe,f_,bz];omega
theorem Uj{a b:Nat}(ha:a<2 ^ 64)(hb:b<2 ^ 64):qO P .and t x y (some (.int .u64 a)) (some (.int .u64 b))=some (.int .u64 ((a &&& b:Nat):Int)):=by
 have h0:((BitVec.ofInt 64 (a:Int) &&& BitVec.ofInt 64 (b:Int)).toNat)=a &&& b:=by
  rw[BitVec.toNat_and,Ug ha,Ug hb]
 have h:((BitVec.ofInt IntKind.u64.bits (a:Int) &&& BitVec.ofInt IntKind.u64.bits (b:Int)).toNat)=a &&& b:=h0;simp only[qO,jv,w9,j4,aF];rw[h,XE (JE Nat.and_le_left ha)]
theorem zks{a b:Nat}:qO P .mul t x y (some (.int .u64 a)) (some (.int .u64 b))=some (.int .u64 ((a * b % 2 ^ 64:Nat):Int)):=by
 have h:IntKind.u64.wrap ((a:Int) * b)=((a * b % 2 ^ 64:Nat):Int):=by
  simp only[IntKind.wrap,IntKind.bits,IntKind.signed,Fe,f_,bz];rw[<- Int.natCast_mul];omega
 simp only[qO,jv,w9,j4,aF,h]
theorem zkt{a:Nat}:qO P .shr t x y (some (.int .u64 a)) (some (.int .u64 58))=some (.int .u64 ((a / 2 ^ 58:Nat):Int)):=by
 have h2:min (58:Int).toNat IntKind.u64.bits=58:=by decide
 have h3:(a:Int).fdiv (2 ^ 58)=((a / 2 ^ 58:Nat):Int):=by
  rw[Int.fdiv_eq_ediv_of_nonneg _ (show(0:Int)<=2 ^ 58 by decide)]
  omega
 simp only[qO,jv,w9,Lg,aF,show ¬((58:Int)<0) by decide,bz,h2,h3]
theorem zeV{w:Nat}(h0:w≠0)(h:w<2 ^ 64):qO P .sub t x y (some (.int .u64 w)) (some (.int .u64 1))=some (.int .u64 ((w - 1:Nat):Int)):=by
 rw[kj]
 congr 2
 simp only[IntKind.wrap,IntKind.bits,IntKind.signed,Fe,f_,bz];omega
theorem znL{k:Nat}(hk:k<64):∃x ix:Nat,(∀(t:aB)(u v:aX),qO P .mul t u v (some (.int .u64 ((2 ^ k:Nat):Int))) (some (.int .u64 285870213051353865))=some (.int .u64 (x:Int)))/\(∀(t:aB)(u v:aX),qO P .shr t u v (some (.int .u64 (x:Int))) (some (.int .u64 58))=some (.int .u64 (ix:Int)))/\ix<64/\nth BB ix=some (.int .u8 (k:Int)):=by
 refine⟨2 ^ k * 285870213051353865 % 2 ^ 64,2 ^ k * 285870213051353865 % 2 ^ 64 / 2 ^ 58,λt u v=>zks,λt u v=>zkt,?_,Mf k hk⟩;have:2 ^ k * 285870213051353865 % 2 ^ 64<2 ^ 64:=Nat.mod_lt _ (by decide)
 omega
theorem znM{k m:Nat}(h:2 ^ (k+1) * m+2 ^ k<2 ^ 64):∃w w':Nat,w=2 ^ (k+1) * m+2 ^ k/\w≠0/\iI .neg (.int .u64 (w:Int))=some (.int .u64 (w':Int))/\(∀(t:aB)(u v:aX),qO P .and t u v (some (.int .u64 (w:Int))) (some (.int .u64 (w':Int)))=some (.int .u64 ((2 ^ k:Nat):Int))):=by
 have hp:=XH k;refine⟨_,2 ^ 64 - (2 ^ (k+1) * m+2 ^ k),rfl,by omega,zlP (by omega) h,λt u v=>?_⟩
 rw[Uj h (by omega),znK h]
def Uk(p:Nat->Bool)(i:Nat):aC:=(wj (kO p i)).map λj=>.int .i64 ((64 * i+j:Nat):Int)
def xn(p:Nat->Bool):Nat->aC
 | 0=>[]
 | i+1=>xn p i++Uk p i
theorem XJ{w:Nat}:(wj w).length<=64:=by
 have:=List.length_filter_le (λj=>w.testBit j) (List.range' 0 64);simpa[wj] using this
theorem xo{p:Nat->Bool}:∀i,(xn p i).length<=64 * i
 | 0=>by simp[xn]
 | i+1=>by
  have:=xo (p:=p) i;have:=XJ (w:=kO p i);simp only[xn,Uk,aV,gk];omega
def jg(p:Nat->Bool):Nat->bL
 | 0=>[]
 | i+1=>jg p i++(wj (kO p i)).map λj=>64 * i+j
theorem xF{p:Nat->Bool}:∀i,xn p i=(jg p i).map λk=>V.int .i64 ((k:Nat):Int)
 | 0=>rfl
 | i+1=>by simp only[xn,jg,Uk,xF i,List.map_append,List.map_map];rfl
theorem zjg{p:Nat->Bool}:∀i,jg p i=(List.range (64 * i)).filter p
 | 0=>rfl
 | i+1=>by
  have h1:wj (kO p i)=(List.range 64).filter λj=>p (64 * i+j):=by
   rw[wj,List.range_eq_range'];apply List.filter_congr;intro j hj;have:=List.mem_range'_1.1 hj;exact wR (by omega)
  rw[jg,zjg i,h1,Nat.mul_add,JI,List.range_add,List.filter_append,List.filter_map];rfl
theorem iD{p:Nat->Bool}{i k:Nat}:k∈jg p i ↔ k<64 * i/\p k=true:=by
 rw[zjg,List.mem_filter,Cd]
def mN(q:Nat->Bool):bL->List (Nat->Bool)->List (Nat->Bool)
 | [],ns=>ns
 | k::ks,ns=>mN q ks (ns.set k (jD (ns.getD k λ_=>false) q))
theorem wv{q:Nat->Bool}:∀{ks:bL}{ns:List (Nat->Bool)},(mN q ks ns).length=ns.length
 | [],_=>rfl
 | k::ks,ns=>by rw[mN,wv,bG]
theorem zg7{ns:List (Nat->Bool)}{k:Nat}(hk:k<ns.length):∃pre post,pre.length=k * 19/\(ns.map (pv 19)).flatten=pre++pv 19 (ns.getD k λ_=>false)++post/\∀r,((ns.set k r).map (pv 19)).flatten=pre++pv 19 r++post:=by
 induction ns generalizing k with
 | nil=>simp at hk
 | cons p ns ih =>
  cases k with
  | zero=>exact⟨[],(ns.map (pv 19)).flatten,rfl,by simp,λr=>by simp⟩
  | succ k =>
   obtain⟨pre,post,h1,h2,h3⟩:=ih (k:=k) (by simpa using hk)
   refine⟨pv 19 p++pre,post,?_,?_,λr=>?_⟩
   ·rw[aV,jF,h1,HU,JH]
   ·simp only[a_,List.flatten_cons,h2,aY,List.getD_cons_succ]
   ·simp only[bU,a_,List.flatten_cons,h3,aY]
end
section
def UL(H:Hp)(sz:Nat)(e:aB)(c:V)(i:Option Nat)(xs:List aC):Prop :=
 match i with
 | none=>c=.aG/\xs=[]
 | some j=>∃v,c=.dw j v xs.length/\H.get j=some (.ul v sz xs.flatten e)
structure sX(H H':Hp)(S:Nat->Prop):Prop where
 len:H.au.length<=H'.au.length
 get:∀d,d<H.au.length->¬S d->H'.get d=H.get d
theorem sX.refl{H:Hp}{S:Nat->Prop}:sX H H S:=⟨dB _,λ_ _ _=>rfl⟩
theorem sX.mono{A B:Hp}{S T:Nat->Prop}(h:sX A B S)(hs:∀d,d<A.au.length->S d->T d):sX A B T:=⟨h.len,λd hd hn=>h.get d hd λe=>hn (hs d hd e)⟩
theorem sX.some{A B:Hp}{S:Nat->Prop}(h:sX A B S){d:Nat}{x:aT}(hx:A.get d=some x)(hn:¬S d):B.get d=some x:=(h.get d (kL hx) hn).trans hx
theorem UL.frame{A B:Hp}{sz:Nat}{e:aB}{c:V}{i:Option Nat}{xs:List aC}(h:UL A sz e c i xs)(hg:∀j,i=some j->B.get j=A.get j):UL B sz e c i xs:=by
 cases i with
 | none=>exact h
 | some j=>obtain⟨v,h1,h2⟩:=h;exact⟨v,h1,(hg j rfl).trans h2⟩
theorem UL.lt{H:Hp}{sz:Nat}{e:aB}{c:V}{j:Nat}{xs:List aC}(h:UL H sz e c (some j) xs):j<H.au.length:=by
 obtain⟨v,_,h2⟩:=h;exact kL h2
theorem ja{n0 t:Nat}{es:aN}{H:Hp}{d:Nat}(hd:d<n0):(zX n0 es t H).get d=H.get d:=by
 unfold zX;obtain⟨bs,new⟩:=H;simp only;split
 ·simp only[Hp.get,zg,AN,hd,aF]
 ·rfl
theorem vV{n0 t:Nat}{es:aN}{H:Hp}(h:n0<=H.au.length):n0<=(zX n0 es t H).au.length:=by
 unfold zX;obtain⟨bs,new⟩:=H;simp only;split
 ·simp only[uJ];simp only at h;omega
 ·exact h
theorem xG{n0 t b m:Nat}{es:aN}{H:Hp}(h:(b,m)∈H.bC)(hb:b<n0)(hm:n0<m):∀d,(zX n0 es t H).get d=H.get d:=by
 unfold zX;obtain⟨bs,new⟩:=H;intro d;have hc:¬((Nat.ble t n0 && new.all λe=>Nat.ble n0 e.1 || Nat.ble e.2 n0)=true):=by
  intro hx;simp only[ei,Cy] at hx;have:=hx.2 _ h;simp only[tX] at this;rcases this with h1|h1<;>have:=r8 h1<;>omega
 simp only[hc];rfl
theorem dJ{n b:Nat}(h:n * b<=140737488355328)(h':n<=140737488355328):kA n b=true:=by
 simp[kA,Nat.ble_eq,h,h']
def XK(z:V):Bool:=dD z && z.cells.all λc=>!(locked c)
theorem zjh{P:aQ}{e n:Nat}(h:(qP P e).map (λz=>(z.cells.length,XK z))=some (n,true))(hn:n≠0/\n<=16777216):∃z,qP P e=some z/\(n≠0/\n<=16777216/\z.cells.length=n/\dD z=true)/\z.cells.all (λc=>!(locked c))=true:=by
 cases hz:qP P e with
 | none=>rw[hz] at h;cases h
 | some z =>
  rw[hz] at h;simp only[aS,bu,cw,XK,ei] at h;exact⟨z,rfl,⟨hn.1,hn.2,h.1,h.2.1⟩,h.2.2⟩
theorem wk{lk:aN}{b n off:Nat}{cs:aC}(h:cs.all (λc=>!(locked c))=true)(hl:off+n<=cs.length):wz lk b off n (cs.drop off)=true :=
 yq λi hi=>⟨cs[off+i]'(by omega),fQ (by omega),by
  have:=Cy.1 h _ (List.getElem_mem (show off+i<cs.length by omega))
  simpa using this⟩
structure mY(P:aQ)(t e n bytes:Nat):Prop where
 u:P.underlying t=some (.slice e)
 s:z8 P e=some n
 z:(qP P e).map (λz=>(z.cells.length,XK z))=some (n,true)
 n0:n≠0/\n<=16777216
 i:((P.info? e).bind λi=>i.zero.map λz=>(z.cells.size,i.bytes))=some (n,bytes)
 a:qC P t=some false
 st:z8 P t=some 1
theorem mY.Ck{P:aQ}{t e n Cm:Nat}(h:mY P t e n Cm){v:V}(h5:dD v=true)(h6:v.cells.length=n):Qo P t (some v)=some (.sl n [v] (.yes e)):=by
 obtain⟨z,h1,h2,_⟩:=zjh h.z h.n0;exact znG h.u h.s h1 h2 h5 h6
theorem mY.app{P:aQ}{t e n Cm:Nat}(h:mY P t e n Cm){env:aC}{H:Hp}{lk:aN}{df:bP}{ys:aC}{o:tG}{c:V}{i:Option Nat}{xs:List aC}(hy:ys≠[])(hu:UL H n e c i xs)(fW:kA (xs.length+ys.length) Cm=true) :
  Mb P t env H lk df (some (.sl n ys o)) (some c)=match i with
   | none=>some (.val (.dw H.au.length 0 ys.length),⟨env,H.push (.ul 0 n (bX ys) e),lk,df⟩)
   | some j=>match c with
    | .dw _ v _=>some (.val (.dw j (v+1) (xs.length+ys.length)),⟨env,(H.set j (.ul (v+1) n (xs.flatten++bX ys) e)).bQ j (.br ys),lk,df⟩)
    | _=>none:=by
 have hi:=h.i;cases Ag:P.info? e with
 | none=>rw[Ag] at hi;cases hi
 | some ti =>
  rw[Ag] at hi;simp only[aU] at hi;cases hz:ti.zero with
  | none=>rw[hz] at hi;cases hi
  | some z =>
   rw[hz] at hi;simp only[aS,bu,cw] at hi;rw[zjc h.u h.s Ag hz hi.1 h.n0.1,hi.2];cases i with
   | none =>
    obtain⟨rfl,rfl⟩:=hu;cases ys with
    | nil=>exact absurd rfl hy
    | cons y ys=>simp at fW;simp[fW]
   | some j =>
    obtain⟨v,rfl,hj⟩:=hu;simp[hj,fW]
theorem XL{P:aQ}{t:aB}{env:aC}{H:Hp}{lk:aN}{df:bP}{b off:Nat}{cs:aC}{ty:aB}{c:V}(ha:qC P t=some false)(hb:H.get b=some (.cells cs ty))(hn:nth cs off=some c)(hc:c=.aG\/∃j v l,c=.dw j v l) :
  vA P t env H lk df (some (.ptr b off))=some (.val c,⟨env,H,lk,df⟩):=by
 rcases hc with rfl|⟨j,v,l,rfl⟩<;>simp[vA,ha,hb,hn]
theorem wg{H:Hp}{x:aT}:(H.push x).get H.au.length=some x:=by rw[wZ,IK];simp
theorem Ul{bs:List aT}{es:aN}{x:aT}:(Hp.push ⟨bs,es⟩ x).get bs.length=some x:=wg (H:=⟨bs,es⟩)
theorem je{P:aQ}{t:aB}{H:Hp}{gl:Nat->Nat->bY}{b n off:Nat}{cs:aC}{ty:aB}(ha:qC P t=some true)(hs:z8 P t=some n)(hb:H.get b=some (.cells cs ty))(hl:off+n<=cs.length):zl P H gl t (.ptr b off)=some (.agg ((cs.drop off).take n)):=by
 rw[jW,hb,jy,qu,ha,hs,Od,if_pos hl]
theorem zu{P:aQ}{t:aB}{H:Hp}{gl:Nat->Nat->bY}{b off:Nat}{cs:aC}{ty:aB}{v:V}(ha:qC P t=some false)(hb:H.get b=some (.cells cs ty))(hn:nth cs off=some v):zl P H gl t (.ptr b off)=some v:=by
 rw[jW,hb,jy,qu,ha,T1,hn]
theorem zA{P:aQ}{t n:aB}{H:Hp}{lk:aN}{df:bP}{b off:Nat}{v:V}{env:aC}{cs:aC}{ty:aB}(hs:z8 P t=some n)(hb:H.get b=some (.cells cs ty))(h1:dD v=true)(h2:v.laid.length=n)(h3:off+n<=cs.length)(h4:wz lk b off n (cs.drop off)=true) :
  qo P t H lk df (some (v,env)) (some (.ptr b off))=some (.skip,⟨env,(H.set b (.cells (Vm.storeCells cs off v.laid) ty)).bQ b v,lk,df⟩):=by
 simp only[qo,hs,zeU hb h1 h2 h3 h4]
theorem qJ{env:aC}{t j v l:Nat}:qE env t (some (.dw j v l))=some (.dw j v l,env):=rfl
theorem q8{j v l:Nat}:aW (.dw j v l)=.dw j v l:=rfl
theorem zg8{H:Hp}{b:Nat}{v:V}(h:b+1<v.top):(b,v.top)∈(H.bQ b v).bC:=by
 unfold Hp.bQ;rw[if_neg (by omega)]
 simp
theorem Um{P:aQ}{t e n b u len:Nat}{i:Int}(hu:P.underlying t=some (.slice e))(hs:z8 P e=some n)(h:0<=i/\i<len):zp P t (.dw b u len) i=some (.gm b u (i.toNat * n)):=by
 simp[zp,hu,hs,h]
theorem zg9{P:aQ}{t:aB}{H:Hp}{gl:Nat->Nat->bY}{b u k n sz:Nat}{cs:aC}{e:aB}(ha:qC P t=some true)(hs:z8 P t=some n)(hb:H.get b=some (.ul u sz cs e))(hl:k+n<=cs.length):zl P H gl t (.gm b u k)=some (.agg ((cs.drop k).take n)):=by
 have:Nat.beq u u=true:=lu u;simp[zl,hb,qu,ha,hs,Od,hl]
theorem vr{n:Nat}:∀{xs:List aC},(∀y∈xs,y.length=n)->xs.flatten.length=xs.length * n
 | [],_=>by simp
 | x::xs,h=>by
  rw[List.flatten_cons,aV,h x (eT ..),vr λy hy=>h y (d_ _ hy),aZ,HU,JH]
theorem mY.zero{P:aQ}{t e n Cm:Nat}(h:mY P t e n Cm):∃z,qP P e=some z/\dD z=true/\z.cells.length=n/\z.cells.all (λc=>!(locked c))=true:=by
 obtain⟨z,h1,h2,h3⟩:=zjh h.z h.n0;exact⟨z,h1,h2.2.2.2,h2.2.2.1,h3⟩
theorem xp{P:aQ}{H:Hp}{t e b u n:Nat}(hu:P.underlying t=some (.slice e)):qV P H t (.dw b u n)=some (n:Int):=by simp[qV,hu]
theorem zeW{P:aQ}{H:Hp}{t e:Nat}(hu:P.underlying t=some (.slice e)):qV P H t .aG=some 0:=by simp[qV,hu]
theorem jR{a b c:Nat}:aW (.gm a b c)=.gm a b c:=rfl
theorem XM{i:Nat}:∀{xs ys:aC}{k:Nat},(Vm.storeCells ys k xs)[i]?=if k<=i/\i<k+xs.length/\i<ys.length then xs[i - k]? else ys[i]?
 | [],ys,k=>by simp[Vm.storeCells];omega
 | x::xs,ys,k=>by
  simp only[Vm.storeCells,XM (xs:=xs),bG,List.getElem?_set',aZ]
  by_cases h1:i=k
  ·subst h1;have:¬(i+1<=i/\i<i+1+xs.length/\i<ys.length):=by omega
   rw[if_neg this,if_pos rfl]
   by_cases h2:i<ys.length
   ·rw[if_pos (by omega),fQ h2];simp
   ·rw[if_neg (by omega),uF (by omega)];simp
  ·rw[if_neg (Ne.symm h1)]
   by_cases h2:k+1<=i/\i<k+1+xs.length/\i<ys.length
   ·rw[if_pos h2,if_pos (by omega),show i - k=(i - (k+1))+1 by omega,List.getElem?_cons_succ]
   ·rw[if_neg h2,if_neg (by omega)]
theorem w7{xs ys:aC}(h:ys.length=xs.length):Vm.storeCells ys 0 xs=xs:=by
 apply Fa;intro i;rw[XM]
 by_cases hi:i<xs.length
 ·rw[if_pos (by omega)];simp
 ·rw[if_neg (by omega),uF (by rw[h];omega),uF (by omega)]
theorem qD{H:Hp}{b c:Nat}{x:aT}(h:c≠b):(H.set b x).get c=H.get c:=by
 rw[jz];cases H.get c<;>simp[h]
theorem wJ{H:Hp}{b:Nat}{x y:aT}(h:H.get b=some y):(H.set b x).get b=some x:=by
 rw[jz,h];simp
theorem jG{H:Hp}{d:Nat}{x:aT}(h:d<H.au.length):(H.push x).get d=H.get d:=by
 have:H.get d=some (H.au[d]'h):=by simp[Hp.get,zg,h]
 rw[zN this,this]
theorem kl{H:Hp}{b c:Nat}{x:aT}{v:V}(h:c≠b):((H.set b x).bQ b v).get c=H.get c:=by rw[bW,qD h]
theorem gK{H:Hp}{b:Nat}{x y:aT}{v:V}(h:H.get b=some y):((H.set b x).bQ b v).get b=some x:=by rw[bW,wJ h]
theorem Un{H:Hp}{b:Nat}{x:aT}{v:V}:((H.set b x).bQ b v).au.length=H.au.length:=by rw[xl,wu]
theorem za{l:aC}{i j:Nat}{v:V}:nth (l.set i v) j=if i=j then (if i<l.length then some v else none) else nth l j:=by
 rw[zg,zg,tC]
def y8(p q:Nat->Bool)(i:Nat):Nat->Bool:=λn=>p n || (decide (n / 64<i) && q n)
theorem zha{p q:Nat->Bool}{i:Nat}:kO (y8 p q i) i=kO p i:=by
 refine(yI we λj hj=>?_).symm;rw[wR hj];have:¬((64 * i+j) / 64<i):=by omega
 simp[y8,this]
theorem zhb{p q:Nat->Bool}{m i:Nat}:(pv m (y8 p q i)).set i (.int .u64 ((kO p i ||| kO q i:Nat):Int))=pv m (y8 p q (i+1)):=by
 apply Fa;intro k;rw[List.getElem?_set']
 by_cases hk:k<m
 ·rw[yJ hk,yJ hk]
  by_cases e:i=k
  ·subst e;simp only[aF,aS,Function.const,Option.map_eq_map]
   congr 3
   refine yI (JF we we) λj hj=>?_;rw[AO,wR hj,wR hj];have:(64 * i+j) / 64<i+1:=by omega
   simp[y8,this]
  ·rw[if_neg e]
   congr 3
   refine(yI we λj hj=>?_);rw[wR hj];have:((64 * k+j) / 64<i) ↔ ((64 * k+j) / 64<i+1):=by omega
   simp[y8,this]
 ·have h1:(pv m (y8 p q i))[k]?=none:=by simp[pv];omega
  have h2:(pv m (y8 p q (i+1)))[k]?=none:=by simp[pv];omega
  rw[h1,h2];simp
theorem zji{p q:Nat->Bool}{m:Nat}:pv m (y8 p q m)=pv m (jD p q):=by
 apply List.map_congr_left;intro i hi;have hi:=Cd.1 hi
 congr 2
 refine yI we λj hj=>?_;rw[wR hj];have:(64 * i+j) / 64<m:=by omega
 simp[y8,jD,this]
theorem zhc{p q:Nat->Bool}{m:Nat}:pv m (y8 p q 0)=pv m p:=by
 apply List.map_congr_left;intro i hi
 congr 2
 refine yI we λj hj=>?_;rw[wR hj];simp[y8]
theorem jY{α:Type}{l:List α}{d:Nat}{v:α}(h:nth l d=some v):l.set d v=l:=by
 rw[zg] at h;apply Fa;intro t;rw[List.getElem?_set'];split
 next e=>subst e;rw[h];rfl
 ·rfl
theorem XN{P:aQ}{t:aB}{H:Hp}{gl:Nat->Nat->bY}{b u k sz:Nat}{cs:aC}{e:aB}{v:V}(ha:qC P t=some false)(hb:H.get b=some (.ul u sz cs e))(hn:nth cs k=some v):zl P H gl t (.gm b u k)=some v:=by
 have:Nat.beq u u=true:=lu u;simp[zl,hb,qu,ha,T1,hn]
theorem zeX{P:aQ}{t n:aB}{H:Hp}{lk:aN}{df:bP}{b k u sz:Nat}{v:V}{env:aC}{cs:aC}{e:aB}(hs:z8 P t=some n)(hb:H.get b=some (.ul u sz cs e))(hv:aW v=v)(h1:dD v=true)(h2:v.cells.length=n)(h3:k+n<=cs.length) :
  qo P t H lk df (some (v,env)) (some (.gm b u k))=some (.skip,⟨env,(H.set b (.ul u sz (Vm.storeCells cs k v.cells) e)).bQ b v,lk,df⟩):=by
 simp only[qo,hs,hb,hv,h1,h2,h3,and_self,aF]
def zm(n:Nat)(e:aB)(xs:aC):V:=match xs with|[]=>.aG|xs=>.sl n xs (.yes e)
theorem vW{env:aC}{t n:Nat}{e:aB}{xs:aC}(h:nth env t=some (zm n e xs)):take env (.tmp t)=some (zm n e xs,env.set t (aW (zm n e xs))):=by
 rw[zM,h];cases xs with
 | nil =>
  have h':nth env t=some .aG:=h;simp only[zm,jf,dr];rw[jY h']
 | cons x xs=>rfl
theorem jE{P:aQ}{t e n Cm:Nat}(h:mY P t e n Cm){H:Hp}{xs ys:aC}{o:tG}(hy:ys≠[])(fW:kA (xs.length+ys.length) Cm=true):kf P H t (zm n e xs) (.sl n ys o)=some (zm n e (xs++ys)):=by
 have hi:=h.i;cases Ag:P.info? e with
 | none=>rw[Ag] at hi;cases hi
 | some ti =>
  rw[Ag] at hi;simp only[aU] at hi;cases hz:ti.zero with
  | none=>rw[hz] at hi;cases hi
  | some z =>
   rw[hz] at hi;simp only[aS,bu,cw] at hi;have Bj:Nat.beq n 0=false:=by
    have:=h.n0.1;cases n with
    | zero=>exact absurd rfl this
    | succ n=>rfl
   obtain⟨y,ys,rfl⟩:∃y l,ys=y::l:=by
    cases ys with
    | nil=>exact absurd rfl hy
    | cons y l=>exact⟨y,l,rfl⟩
   simp only[kf,h.u,h.s,Ag,hz,hi.1,kU,Option.bind_eq_bind,aU,lu,mG,f_,bz,aF];cases xs with
   | nil =>
    simp only[zm,bg];rw[hi.2,Bj];simp only[List.length_nil,nI,aZ] at fW;simp[fW]
   | cons x xs =>
    simp only[zm,bh];rw[hi.2,Bj];simp only[aZ] at fW;simp[fW]
theorem XO{P:aQ}{t:aB}{x y:aX}{a b:Nat}(h:a * b<2 ^ 60):qO P .mul t x y (some (.int .i64 a)) (some (.int .i64 b))=some (.int .i64 ((a * b:Nat):Int)):=by
 rw[znE,<- Int.natCast_mul,kw (by omega) (by omega)]
theorem xq{P:aQ}{t:aB}{x y:aX}{a b:Nat}(h:a+b<2 ^ 60):qO P .add t x y (some (.int .i64 a)) (some (.int .i64 b))=some (.int .i64 ((a+b:Nat):Int)):=by
 rw[jO,<- Int.natCast_add,kw (by omega) (by omega)]
theorem XP{P:aQ}{t:aB}{x y:aX}{a b:Nat}(h:a<2 ^ 60)(hb:b<=a):qO P .sub t x y (some (.int .i64 a)) (some (.int .i64 b))=some (.int .i64 ((a - b:Nat):Int)):=by
 rw[kj,<- Int.natCast_sub hb,kw (by omega) (by omega)]
theorem Uo{P:aQ}{H:Hp}{t e n:Nat}{xs:aC}(hu:P.underlying t=some (.slice e)):qV P H t (aW (zm n e xs))=some (xs.length:Int):=by
 cases xs with
 | nil=>simp[zm,aW,qV,hu]
 | cons x xs=>simp[zm,aW,qV,hu]
theorem zku{P:aQ}{t e n k:Nat}{xs:aC}{x:V}(hu:P.underlying t=some (.slice e))(hs:z8 P e=some n)(hx:nth xs k=some x):zp P t (aW (zm n e xs)) (k:Int)=some (.vp x.cells):=by
 cases xs with
 | nil=>cases hx
 | cons y xs =>
  have:¬((k:Int)<0):=by omega
  simp[zm,aW,zp,hu,hs,this,hx]
theorem zlQ{P:aQ}{t:aB}{H:Hp}{gl:Nat->Nat->bY}{x:V}{cs:aC}(ha:qC P t=some false):zl P H gl t (.vp (x::cs))=some x:=by
 simp[zl,qu,ha,T1,nth]
theorem qS{n:Nat}{e:aB}{xs:aC}:aW (aW (zm n e xs))=aW (zm n e xs):=by cases xs<;>rfl
def oJ(n:Nat)(xs:aC):V:=match xs with|[]=>.aG|xs=>.sl n xs .lock
def kG(b off:Nat)(xs:aC):aN:=match xs with|[]=>[]|_=>[(b,off)]
theorem Up{P:aQ}{t:aB}{env:aC}{H:Hp}{df:bP}{b off n:Nat}{e:aB}{xs cs:aC}{ty:aB}(ha:qC P t=some false)(hb:H.get b=some (.cells cs ty))(hn:nth cs off=some (zm n e xs)) :
  vA P t env H [] df (some (.ptr b off))=some (.val (zm n e xs),⟨env,H.set b (.cells (cs.set off (oJ n xs)) ty),kG b off xs,df⟩):=by
 cases xs with
 | nil =>
  simp only[vA,ha,hb,hn,zm,oJ,kG];have h1:cs.set off .aG=cs:=jY hn;have h2:H.set b (.cells cs ty)=H:=by
   obtain⟨bs,es⟩:=H;simp only[Hp.set];rw[jY hb]
  rw[h1,h2]
 | cons x xs =>
  simp only[vA,ha,hb,hn,zm,oJ,kG];rw[jT (by simp[V.top])]
theorem Qw{b off n:Nat}{xs cs:aC}(h:off<cs.length):wz (kG b off xs) b off 1 ((cs.set off (oJ n xs)).drop off)=true:=by
 have h2:(cs.set off (oJ n xs)).drop off=oJ n xs::cs.drop (off+1):=by
  rw[E7 (by simpa using h)]
  simp[List.drop_set]
 rw[h2];cases xs<;>simp[wz,oJ,kG,locked]
theorem znN{b off d:Nat}{xs:aC}(h:d≠b):(kG b off xs).all (λp=>!(Nat.beq p.1 d))=true:=by
 cases xs with
 | nil=>rfl
 | cons x xs =>
  have:Nat.beq b d=false:=by
   cases hx:Nat.beq b d with
   | false=>rfl
   | true=>exact absurd (eR hx).symm h
  simp[kG,this]
theorem Qx{n:Nat}{e:aB}{xs:aC}:dD (zm n e xs)=true:=by cases xs<;>rfl
theorem vt{n:Nat}{e:aB}{xs:aC}:(zm n e xs).laid=[zm n e xs]:=by cases xs<;>rfl
theorem zQ{P:aQ}{t:aB}{x y:aX}{k:Nat}(h:k<2 ^ 60):qO P .add t x y (some (.int .i64 k)) (some (.int .i64 1))=some (.int .i64 ((k+1:Nat):Int)):=by
 rw[jO,kw (by omega) (by omega)];simp
def zq5(env:aC)(t n:Nat)(e:aB)(xs:aC):Option (V×aC):=qE env t (some (zm n e xs))
open Classical in
theorem jK{env:aC}{t n:Nat}{e:aB}{xs:aC}:qE env t (some (zm n e xs))=if nth env t=some (zm n e xs) then some (zm n e xs,env.set t (aW (zm n e xs))) else zq5 env t n e xs:=by
 split
 next h=>rw[<- h,<- zM];exact vW h
 ·rfl
theorem jh{env:aC}{t n:Nat}{e:aB}{xs:aC}:qE env t (some (aW (zm n e xs)))=some (aW (zm n e xs),env):=by cases xs<;>rfl
def Uq(want:Bool)(env:aC):Option fJ->Option Bool
 | some (some d)=>IJ want (nth env d)
 | _=>none
theorem qj{l:List Oper}{dst:fJ}{op:Op}{type:aB}{pos:String}{after:Array Edge}{j:Nat}{want:Bool}{env:aC}:z0 l.toArray ⟨dst,op,type,pos,after,some (j,want)⟩ env=Uq want env ((nth l j).map (·.dst)):=by
 have hj:l.toArray[j]?=nth l j:=by rw[zg,List.getElem?_toArray]
 cases hd:nth l j with
 | none =>
  unfold z0;simp only[hj,hd];rfl
 | some o =>
  cases ho:o.dst with
  | none =>
   unfold z0;simp only[hj,hd,aU,ho];simp only[aS,ho,Uq]
  | some d =>
   rw[zkk (d:=d) (by rw[hj,hd];exact ho)]
   simp only[aS,ho,Uq]
theorem jm{want:Bool}{env:aC}{d:Tmp}:Uq want env (some (some d))=IJ want (nth env d):=rfl
theorem cA:IJ true (some (.bool true))=some true:=rfl
theorem cB:IJ true (some (.bool false))=some false:=rfl
theorem cC:IJ false (some (.bool true))=some false:=rfl
theorem cE:IJ false (some (.bool false))=some true:=rfl
theorem wK{a b:Prop}:Hf a b (some true) ↔ a:=Iff.rfl
theorem wL{a b:Prop}:Hf a b (some false) ↔ b:=Iff.rfl
theorem kH{a b:bY}:Xp a b (some (.bool true))=a:=rfl
theorem kI{a b:bY}:Xp a b (some (.bool false))=b:=rfl
theorem zc{B:List aT}{x:aT}{es:aN}:Hp.push ⟨B,es⟩ x=⟨B++[x],es⟩:=rfl
theorem zb{B ls:List aT}{x:aT}{es:aN}:Hp.push ⟨B++ls,es⟩ x=⟨B++(ls++[x]),es⟩:=by simp[Hp.push]
theorem zhd{env:aC}{t b o l c:Nat}:qE env t (some (.sr b o l c))=some (.sr b o l c,env):=rfl
end
end Go.Vm
namespace Go.Vm.Sx
open Go Go.Vm
def vL:V->aC|.sl _ xs _=>xs|_=>[]
section
def c_(x y:Int):Bool:=decide (x<y)
def nA(x y:Int):Bool:=decide (x<=y)
theorem J9{x y:Int}(h:x<y):c_ x y=true:=decide_eq_true h
theorem XQ{x y:Int}(h:y<=x):c_ x y=false:=decide_eq_false (by omega)
theorem FH{x y:Int}:c_ x y=true ↔ x<y:=decide_eq_true_iff
end
section
def lv(sz:Nat)(nl:Bool)(l:aC):V:=if nl && l.isEmpty then .aG else .sl sz l .no
theorem cJ(sz:Nat)(nl:Bool)(l:aC):lv sz nl l=.sl sz l .no\/(l=[]/\lv sz nl l=.aG):=by
 unfold lv;split
 next h=>rw[ei] at h;exact .inr ⟨by simpa using h.2,rfl⟩
 ·exact .inl rfl
theorem Qy{sz:Nat}{nl:Bool}{l:aC}:aW (lv sz nl l)=lv sz nl l:=by
 rcases cJ sz nl l with h|⟨_,h⟩<;>rw[h]<;>rfl
theorem xH{sz:Nat}{nl:Bool}{l:aC}:(lv sz nl l).top=aI l:=by
 rcases cJ sz nl l with h|⟨hl,h⟩<;>rw[h]
 ·rfl
 ·rw[hl];rfl
theorem zqA(sz:Nat)(nl:Bool)(l:aC):vL (lv sz nl l)=l:=by
 rcases cJ sz nl l with h|⟨h0,h⟩<;>rw[h]
 ·simp[vL]
 ·rw[h0];simp[vL]
theorem J_{x:Int}(h1:-9223372036854775808<=x)(h2:x<=9223372036854775807):IntKind.i64.wrap x=x:=by
 simp only[IntKind.wrap,IntKind.bits,IntKind.signed];simp;omega
def wM(ok:Nat->Bool):Nat->Bool
 | 0=>true
 | n+1=>wM ok n && ok n
theorem cI{ok:Nat->Bool}:∀{n:Nat},wM ok n=true ↔ ∀i,i<n->ok i=true
 | 0=>by simp[wM]
 | n+1=>by
  rw[wM,ei,cI];refine⟨λ⟨h1,h2⟩ i hi=>?_,λh=>⟨λi hi=>h i (by omega),h n (by omega)⟩⟩
  rcases eI i n with h|h
  ·exact h1 i h
  ·have:i=n:=by omega
   subst this;exact h2
end
end Go.Vm.Sx
namespace Go.Vm
open Go
theorem aJ{a b:Prop}(x:a)(y:b):a/\b:=⟨x,y⟩
theorem BA:type_of% (aJ @qx (aJ @aH (aJ @jX (aJ @bq (aJ @zh (aJ @bB (aJ @qF (aJ @zx (aJ @zK (aJ @jA (aJ @jq (aJ @qw (aJ @jB (aJ @jp (aJ @wG (aJ @qM (aJ @zV (aJ @zY (aJ @kP (aJ @kX (aJ @ku (aJ @z9 (aJ @zH (aJ @zB (aJ @zU (aJ @kC (aJ @ki (aJ @jP (aJ @ne_eq.{1} (aJ @not_false_eq_true (aJ @az.eq_1 (aJ @az.eq_2 (aJ @qm (aJ @ak.eq_1 (aJ @ak.eq_2 (aJ @ak.eq_3 (aJ @ak.eq_4 (aJ @zM (aJ @qH (aJ @aj.eq_1 (aJ @aj.eq_2 (aJ @aj.eq_3 (aJ @aj.eq_4 (aJ @aj.eq_5 (aJ @aj.eq_6 (aJ @aj.eq_7 (aJ @aj.eq_8 (aJ @aj.eq_9 (aJ @aj.eq_10 (aJ @aj.eq_11 (aJ @aj.eq_12 (aJ @qr (aJ @jn (aJ @qW (aJ @jI (aJ @qJ (aJ @jf (aJ @kq (aJ @jK (aJ @jh (aJ @zt (aJ @qg (aJ @aM (aJ @bx (aJ @aq.eq_1 (aJ @aq.eq_2 (aJ @zS (aJ @qQ (aJ @kQ (aJ @qU (aJ @qk (aJ @q8 (aJ @jR (aJ @wY (aJ @dr (aJ @kZ (aJ @qS (aJ @Option.bind_some.{0,0} (aJ @Option.map_some.{0,0} (aJ @aa.eq_1 (aJ @aa.eq_2 (aJ @aa.eq_3 (aJ @aa.eq_4 (aJ @aa.eq_5 (aJ @aa.eq_6 (aJ @aa.eq_7 (aJ @aa.eq_8 (aJ @zT (aJ @ah.eq_1 (aJ @ah.eq_2 (aJ @ah.eq_3 (aJ @ah.eq_4 (aJ @ah.eq_5 (aJ @aE.eq_1 (aJ @aE.eq_2 (aJ @qL (aJ @aA.eq_1 (aJ @aA.eq_2 (aJ @List.map_cons.{0,0} (aJ @List.map_nil.{0,0} (aJ @true_and (aJ @List.length_append.{0} (aJ @List.length_cons.{0} (aJ @List.length_nil.{0} (aJ @Nat.zero_add (aJ @Nat.add_zero (aJ @Nat.add_assoc (aJ @List.append_assoc.{0} (aJ @List.cons_append.{0} (aJ @List.nil_append.{0} (aJ @qR (aJ @qh (aJ @av.eq_1 (aJ @aF.{1} (aJ @kH (@kI)))))))))))))))))))))))))))))))))))))))))))))))))))))))))))))))))))))))))))))))))))))))))))))))))))))))))))))))))))):=⟨@qx,@aH,@jX,@bq,@zh,@bB,@qF,@zx,@zK,@jA,@jq,@qw,@jB,@jp,@wG,@qM,@zV,@zY,@kP,@kX,@ku,@z9,@zH,@zB,@zU,@kC,@ki,@jP,@ne_eq.{1},@not_false_eq_true,@az.eq_1,@az.eq_2,@qm,@ak.eq_1,@ak.eq_2,@ak.eq_3,@ak.eq_4,@zM,@qH,@aj.eq_1,@aj.eq_2,@aj.eq_3,@aj.eq_4,@aj.eq_5,@aj.eq_6,@aj.eq_7,@aj.eq_8,@aj.eq_9,@aj.eq_10,@aj.eq_11,@aj.eq_12,@qr,@jn,@qW,@jI,@qJ,@jf,@kq,@jK,@jh,@zt,@qg,@aM,@bx,@aq.eq_1,@aq.eq_2,@zS,@qQ,@kQ,@qU,@qk,@q8,@jR,@wY,@dr,@kZ,@qS,@Option.bind_some.{0,0},@Option.map_some.{0,0},@aa.eq_1,@aa.eq_2,@aa.eq_3,@aa.eq_4,@aa.eq_5,@aa.eq_6,@aa.eq_7,@aa.eq_8,@zT,@ah.eq_1,@ah.eq_2,@ah.eq_3,@ah.eq_4,@ah.eq_5,@aE.eq_1,@aE.eq_2,@qL,@aA.eq_1,@aA.eq_2,@List.map_cons.{0,0},@List.map_nil.{0,0},@true_and,@List.length_append.{0},@List.length_cons.{0},@List.length_nil.{0},@Nat.zero_add,@Nat.add_zero,@Nat.add_assoc,@List.append_assoc.{0},@List.cons_append.{0},@List.nil_append.{0},@qR,@qh,@av.eq_1,@aF.{1},@kH,@kI⟩
section
section
variable{cx:Cx}{n:Nat}{Q:Ex->St->Prop}{all:Array Oper}{takes:cg}{os:List Oper}{k:List It}{env:aC}{H:Hp}{lk:aN}{df:bP}{dst:fJ}{op:Op}{type:aB}{pos:String}{after:Array Edge}{g:Nat×Bool}
theorem osT(hw:z0 all ⟨dst,op,type,pos,after,some g⟩ env=some true):go cx n Q (.os all takes (⟨dst,op,type,pos,after,some g⟩::os)::k) .normal ⟨env,H,lk,df⟩ ↔ FD dst (λs=>go cx n Q (.os all takes os::k) .normal s) (go cx n Q k) (cx.op takes ⟨dst,op,type,pos,after,some g⟩ env H lk df):=by
 rw[j5,hw];rfl
theorem osF(hw:z0 all ⟨dst,op,type,pos,after,some g⟩ env=some false):go cx n Q (.os all takes (⟨dst,op,type,pos,after,some g⟩::os)::k) .normal ⟨env,H,lk,df⟩ ↔ go cx n Q (.os all takes os::k) .normal ⟨aq env dst (.br []),H,lk,df⟩:=by
 rw[j5,hw];rfl
theorem onT(hw:z0 all ⟨dst,op,type,pos,after,some g⟩ env=some true):go cx n Q (.on all takes (⟨dst,op,type,pos,after,some g⟩::os)::k) .normal ⟨env,H,lk,df⟩ ↔ (av cx ⟨dst,op,type,pos,after,some g⟩ env lk=true/\FD dst (λs=>go cx n Q (.on all takes os::k) .normal s) (λ_ _=>False) (cx.op takes ⟨dst,op,type,pos,after,some g⟩ env H lk df)):=by
 rw[j8,hw];rfl
theorem onF(hw:z0 all ⟨dst,op,type,pos,after,some g⟩ env=some false):go cx n Q (.on all takes (⟨dst,op,type,pos,after,some g⟩::os)::k) .normal ⟨env,H,lk,df⟩ ↔ go cx n Q (.on all takes os::k) .normal ⟨aq env dst (.br []),H,lk,df⟩:=by
 rw[j8,hw];rfl
end
theorem zjk{w:Bool}{l:aC}:IJ w (some (.br l))=some false:=rfl
theorem BW:type_of% (And.intro @qx (And.intro @aH (And.intro @jX (And.intro @bq (And.intro @zh (And.intro @bB (And.intro @qF (And.intro @zx (And.intro @zK (And.intro @jA (And.intro @jq (And.intro @qw (And.intro @jB (And.intro @jp (And.intro @wG (And.intro @qM (And.intro @zV (And.intro @zY (And.intro @kP (And.intro @kX (And.intro @ku (And.intro @z9 (And.intro @zH (And.intro @zB (And.intro @zU (And.intro @kC (And.intro @ki (And.intro @jP (And.intro @ne_eq.{1} (And.intro @not_false_eq_true (And.intro @az.eq_1 (And.intro @az.eq_2 (And.intro @qm (And.intro @ak.eq_1 (And.intro @ak.eq_2 (And.intro @ak.eq_3 (And.intro @ak.eq_4 (And.intro @zM (And.intro @qH (And.intro @aj.eq_1 (And.intro @aj.eq_2 (And.intro @aj.eq_3 (And.intro @aj.eq_4 (And.intro @aj.eq_5 (And.intro @aj.eq_6 (And.intro @aj.eq_7 (And.intro @aj.eq_8 (And.intro @aj.eq_9 (And.intro @aj.eq_10 (And.intro @aj.eq_11 (And.intro @aj.eq_12 (And.intro @qr (And.intro @jn (And.intro @qW (And.intro @jI (And.intro @qJ (And.intro @jf (And.intro @kq (And.intro @jK (And.intro @jh (And.intro @zt (And.intro @qg (And.intro @aM (And.intro @bx (And.intro @aq.eq_1 (And.intro @aq.eq_2 (And.intro @zS (And.intro @qQ (And.intro @kQ (And.intro @qU (And.intro @qk (And.intro @q8 (And.intro @jR (And.intro @wY (And.intro @dr (And.intro @kZ (And.intro @qS (And.intro @Option.bind_some.{0,0} (And.intro @Option.map_some.{0,0} (And.intro @aa.eq_1 (And.intro @aa.eq_2 (And.intro @aa.eq_3 (And.intro @aa.eq_4 (And.intro @aa.eq_5 (And.intro @aa.eq_6 (And.intro @aa.eq_7 (And.intro @aa.eq_8 (And.intro @zT (And.intro @ah.eq_1 (And.intro @ah.eq_2 (And.intro @ah.eq_3 (And.intro @ah.eq_4 (And.intro @ah.eq_5 (And.intro @aE.eq_1 (And.intro @aE.eq_2 (And.intro @qL (And.intro @aA.eq_1 (And.intro @aA.eq_2 (And.intro @List.map_cons.{0,0} (And.intro @List.map_nil.{0,0} (And.intro @true_and (And.intro @List.length_append.{0} (And.intro @List.length_cons.{0} (And.intro @List.length_nil.{0} (And.intro @Nat.zero_add (And.intro @Nat.add_zero (And.intro @Nat.add_assoc (And.intro @List.append_assoc.{0} (And.intro @List.cons_append.{0} (And.intro @List.nil_append.{0} (And.intro @qR (And.intro @av.eq_1 (And.intro @aF.{1} (And.intro @kH (And.intro @kI (And.intro @zc (And.intro @zb (And.intro @zd (And.intro @ze (And.intro @List.set_cons_zero.{0} (And.intro @List.set_cons_succ.{0} (And.intro @za (And.intro @List.length_set.{0} (And.intro @bz.{1} (And.intro @Bool.false_eq_true (And.intro @osT (And.intro @onT (And.intro @qj (And.intro @jm (And.intro @cA (And.intro @cB (And.intro @cC (And.intro @cE (And.intro @osF (And.intro @onF (And.intro @Bool.not_false (And.intro @Bool.not_true (And.intro @ql (And.intro @zO (And.intro @wi (And.intro @go_ret (And.intro @wo (And.intro @zG (And.intro @zr (And.intro @zjk (And.intro @jC (And.intro @mu (And.intro @bJ (And.intro @aO (And.intro @Nat.beq_refl (And.intro @gJ (And.intro @kY (And.intro @qT (And.intro @w6 (And.intro @Oe (And.intro @T5 (And.intro @wQ (And.intro @Qm (And.intro @decide_true (And.intro @decide_false (And.intro @zja @zjb))))))))))))))))))))))))))))))))))))))))))))))))))))))))))))))))))))))))))))))))))))))))))))))))))))))))))))))))))))))))))))))))))))))))))))))))))))))))))))))))):=(And.intro @qx (And.intro @aH (And.intro @jX (And.intro @bq (And.intro @zh (And.intro @bB (And.intro @qF (And.intro @zx (And.intro @zK (And.intro @jA (And.intro @jq (And.intro @qw (And.intro @jB (And.intro @jp (And.intro @wG (And.intro @qM (And.intro @zV (And.intro @zY (And.intro @kP (And.intro @kX (And.intro @ku (And.intro @z9 (And.intro @zH (And.intro @zB (And.intro @zU (And.intro @kC (And.intro @ki (And.intro @jP (And.intro @ne_eq.{1} (And.intro @not_false_eq_true (And.intro @az.eq_1 (And.intro @az.eq_2 (And.intro @qm (And.intro @ak.eq_1 (And.intro @ak.eq_2 (And.intro @ak.eq_3 (And.intro @ak.eq_4 (And.intro @zM (And.intro @qH (And.intro @aj.eq_1 (And.intro @aj.eq_2 (And.intro @aj.eq_3 (And.intro @aj.eq_4 (And.intro @aj.eq_5 (And.intro @aj.eq_6 (And.intro @aj.eq_7 (And.intro @aj.eq_8 (And.intro @aj.eq_9 (And.intro @aj.eq_10 (And.intro @aj.eq_11 (And.intro @aj.eq_12 (And.intro @qr (And.intro @jn (And.intro @qW (And.intro @jI (And.intro @qJ (And.intro @jf (And.intro @kq (And.intro @jK (And.intro @jh (And.intro @zt (And.intro @qg (And.intro @aM (And.intro @bx (And.intro @aq.eq_1 (And.intro @aq.eq_2 (And.intro @zS (And.intro @qQ (And.intro @kQ (And.intro @qU (And.intro @qk (And.intro @q8 (And.intro @jR (And.intro @wY (And.intro @dr (And.intro @kZ (And.intro @qS (And.intro @Option.bind_some.{0,0} (And.intro @Option.map_some.{0,0} (And.intro @aa.eq_1 (And.intro @aa.eq_2 (And.intro @aa.eq_3 (And.intro @aa.eq_4 (And.intro @aa.eq_5 (And.intro @aa.eq_6 (And.intro @aa.eq_7 (And.intro @aa.eq_8 (And.intro @zT (And.intro @ah.eq_1 (And.intro @ah.eq_2 (And.intro @ah.eq_3 (And.intro @ah.eq_4 (And.intro @ah.eq_5 (And.intro @aE.eq_1 (And.intro @aE.eq_2 (And.intro @qL (And.intro @aA.eq_1 (And.intro @aA.eq_2 (And.intro @List.map_cons.{0,0} (And.intro @List.map_nil.{0,0} (And.intro @true_and (And.intro @List.length_append.{0} (And.intro @List.length_cons.{0} (And.intro @List.length_nil.{0} (And.intro @Nat.zero_add (And.intro @Nat.add_zero (And.intro @Nat.add_assoc (And.intro @List.append_assoc.{0} (And.intro @List.cons_append.{0} (And.intro @List.nil_append.{0} (And.intro @qR (And.intro @av.eq_1 (And.intro @aF.{1} (And.intro @kH (And.intro @kI (And.intro @zc (And.intro @zb (And.intro @zd (And.intro @ze (And.intro @List.set_cons_zero.{0} (And.intro @List.set_cons_succ.{0} (And.intro @za (And.intro @List.length_set.{0} (And.intro @bz.{1} (And.intro @Bool.false_eq_true (And.intro @osT (And.intro @onT (And.intro @qj (And.intro @jm (And.intro @cA (And.intro @cB (And.intro @cC (And.intro @cE (And.intro @osF (And.intro @onF (And.intro @Bool.not_false (And.intro @Bool.not_true (And.intro @ql (And.intro @zO (And.intro @wi (And.intro @go_ret (And.intro @wo (And.intro @zG (And.intro @zr (And.intro @zjk (And.intro @jC (And.intro @mu (And.intro @bJ (And.intro @aO (And.intro @Nat.beq_refl (And.intro @gJ (And.intro @kY (And.intro @qT (And.intro @w6 (And.intro @Oe (And.intro @T5 (And.intro @wQ (And.intro @Qm (And.intro @decide_true (And.intro @decide_false (And.intro @zja @zjb)))))))))))))))))))))))))))))))))))))))))))))))))))))))))))))))))))))))))))))))))))))))))))))))))))))))))))))))))))))))))))))))))))))))))))))))))))))))))))))))))
end
section
def o4(p i:Nat):Nat:=p / 2 ^ (8 * i) % 256
theorem vF{p i:Nat}:o4 p i<256:=Nat.mod_lt _ (by decide)
theorem w4{p i j:Nat}(h:j<8):(o4 p i).testBit j=p.testBit (8 * i+j):=by
 have e:(256:Nat)=2 ^ 8:=rfl;rw[o4,e,Nat.testBit_mod_two_pow,Nat.testBit_div_two_pow,decide_eq_true h,tE,JH]
theorem Qz{m p i:Nat}(hm:m<256)(h:∀j,j<8->m.testBit j=p.testBit (8 * i+j)):m=o4 p i:=by
 apply Nat.eq_of_testBit_eq;intro j
 by_cases hj:j<8
 ·rw[h j hj,w4 hj]
 ·have h1:2 ^ 8<=2 ^ j:=Nat.pow_le_pow_right (by decide) (by omega)
  have h2:o4 p i<256:=vF;rw[NO (by omega),NO (by omega)]
theorem XR{a b:Nat}(ha:a<256)(hb:b<256):a ||| b<256:=JF (n:=8) ha hb
theorem zpE{p q i:Nat}:o4 p i ||| o4 q i=o4 (p ||| q) i :=
 Qz (XR vF vF) λj hj=>by rw[AO,AO,w4 hj,w4 hj]
theorem XS{k:Nat}(h:k<8):2 ^ k<256:=HO (n:=8) (by decide) h
theorem znO{p n:Nat}:o4 p (n / 8) ||| 2 ^ (n % 8)=o4 (p ||| 2 ^ n) (n / 8) :=
 Qz (XR vF (XS (Nat.mod_lt _ (by decide)))) λj hj=>by
  rw[AO,AO,w4 hj,E_,E_]
  congr 1
  rw[Fc];simp only[decide_eq_true_eq];omega
theorem zil{p n i:Nat}(h:i≠n / 8):o4 (p ||| 2 ^ n) i=o4 p i :=
 (Qz vF λj hj=>by
  rw[w4 hj,AO,E_];have:¬(n=8 * i+j):=λe=>h (by omega)
  simp[this]).symm
def rF(m p:Nat):bL:=(List.range m).map (o4 p)
def dR(m p:Nat):aC:=(rF m p).map λb=>.int .u8 (b:Nat)
theorem znP{m p:Nat}:(rF m p).length=m:=by simp[rF]
theorem yV{m p:Nat}:(dR m p).length=m:=by simp[dR,znP]
theorem vM{m p i:Nat}(h:i<m):(dR m p)[i]?=some (.int .u8 (o4 p i:Nat)):=by simp[dR,rF,h]
theorem XT{m:Nat}{l:aC}{p:Nat}(hl:l.length=m)(h:∀i,i<m->l[i]?=some (.int .u8 (o4 p i:Nat))):l=dR m p:=by
 apply Fa;intro i
 by_cases hi:i<m
 ·rw[h i hi,vM hi]
 ·rw[uF (by omega),uF (by rw[yV];omega)]
theorem znQ{m p n:Nat}:(dR m p).set (n / 8) (.int .u8 (o4 (p ||| 2 ^ n) (n / 8):Nat))=dR m (p ||| 2 ^ n):=by
 refine XT (by rw[bG,yV]) λi hi=>?_
 rw[List.getElem?_set']
 by_cases e:n / 8=i
 ·subst e;simp[vM hi]
 ·simp[e,vM hi,zil (Ne.symm e)]
theorem zlS{m:Nat}:dR m 0=List.replicate m (.int .u8 0):=by
 refine(XT (by simp) λi hi=>?_).symm
 simp[o4,hi]
theorem zpF{m p:Nat}:∀b∈rF m p,b<256:=λb hb=>by
 obtain⟨i,_,rfl⟩:=iH.1 hb;exact vF
theorem znR{m p q:Nat}(hp:p<2 ^ (8 * m))(hq:q<2 ^ (8 * m))(h:rF m p=rF m q):p=q:=by
 apply Nat.eq_of_testBit_eq;intro j
 by_cases hj:j<8 * m
 ·have hi:j / 8<m:=by omega
  have e:(rF m p)[j / 8]?=(rF m q)[j / 8]?:=by rw[h]
  simp only[rF,gj,uG hi,aS,bu] at e;have h1:=w4 (p:=p) (i:=j / 8) (j:=j % 8) (Nat.mod_lt _ (by decide))
  have h2:=w4 (p:=q) (i:=j / 8) (j:=j % 8) (Nat.mod_lt _ (by decide))
  rw[show 8 * (j / 8)+j % 8=j by omega] at h1 h2
  rw[<- h1,<- h2,e]
 ·have hx:=Nat.pow_le_pow_right (n:=2) (by decide) (show 8 * m<=j by omega)
  rw[NO (by omega),NO (by omega)]
theorem BC:∀{a b:bL},om a b=true ↔ a=b
 | [],[]=>by simp[om]
 | [],_::_=>by simp[om]
 | _::_,[]=>by simp[om]
 | x::a,y::b=>by
  simp only[om,ei,BC (a:=a),List.cons.injEq,Nat.beq_eq]
theorem zjl{m p q:Nat}(hp:p<2 ^ (8 * m))(hq:q<2 ^ (8 * m)):om (rF m p) (rF m q)=(p == q):=by
 rw[Fc,BC,beq_iff_eq];exact⟨znR hp hq,λh=>by rw[h]⟩
def xQ(w:Nat):bL:=(List.range 8).filter λj=>w.testBit j
def BD(w:Nat):Nat:=(xQ w).headD 8
theorem CT:∀w:Nat,w<256->w≠0->xQ w=BD w::xQ (w &&& (w - 1))/\w &&& (w - 1)<w:=by
 have h:(List.range 256).all (λw:Nat=>w == 0 || (xQ w == BD w::xQ (w &&& (w - 1)) && decide (w &&& (w - 1)<w)))=true:=by decide +kernel
 intro w hw h0;have:=Cy.1 h w (Cd.2 hw);simp only[tX,beq_iff_eq,ei,decide_eq_true_eq] at this;rcases this with h|h
 ·exact absurd h h0
 ·exact h
theorem CU:xQ 0=[]:=by decide
def wl(m p:Nat):bL:=(List.range (8 * m)).filter λj=>p.testBit j
def Ol(p:Nat):Nat->bL
 | 0=>[]
 | i+1=>Ol p i++(xQ (o4 p i)).map (8 * i + ·)
theorem zjm(p:Nat):∀m,Ol p m=wl m p
 | 0=>rfl
 | m+1=>by
  have h:List.range (8 * (m+1))=List.range (8 * m)++(List.range 8).map (8 * m + ·):=by
   rw[show 8 * (m+1)=8 * m+8 by omega,List.range_add]
  rw[Ol,zjm p m,wl,wl,h,List.filter_append,List.filter_map]
  congr 2
  apply List.filter_congr;intro j hj;have hj:=Cd.1 hj;simp only[Function.comp_apply];rw[w4 hj]
variable{P:aQ}{t:aB}{x y:aX}
theorem QA{n:Nat}(h:n<256):IntKind.u8.wrap (n:Int)=n:=by
 simp only[IntKind.wrap,IntKind.bits,IntKind.signed];simp only[Fe,f_,bz];omega
theorem xI{n:Nat}(h:n<256):(BitVec.ofInt 8 (n:Int)).toNat=n:=by
 simp[];omega
theorem zjn{a b:Nat}(ha:a<256)(hb:b<256):qO P .or t x y (some (.int .u8 a)) (some (.int .u8 b))=some (.int .u8 ((a ||| b:Nat):Int)):=by
 have h0:((BitVec.ofInt 8 (a:Int) ||| BitVec.ofInt 8 (b:Int)).toNat)=a ||| b:=by
  rw[BitVec.toNat_or,xI ha,xI hb]
 have h:((BitVec.ofInt IntKind.u8.bits (a:Int) ||| BitVec.ofInt IntKind.u8.bits (b:Int)).toNat)=a ||| b:=h0
 simp only[qO,jv,w9,j4,aF];rw[h,QA (XR ha hb)]
theorem zlT{a b:Nat}(ha:a<256)(hb:b<256):qO P .and t x y (some (.int .u8 a)) (some (.int .u8 b))=some (.int .u8 ((a &&& b:Nat):Int)):=by
 have h0:((BitVec.ofInt 8 (a:Int) &&& BitVec.ofInt 8 (b:Int)).toNat)=a &&& b:=by
  rw[BitVec.toNat_and,xI ha,xI hb]
 have h:((BitVec.ofInt IntKind.u8.bits (a:Int) &&& BitVec.ofInt IntKind.u8.bits (b:Int)).toNat)=a &&& b:=h0;simp only[qO,jv,w9,j4,aF];rw[h,QA (JE Nat.and_le_left ha)]
theorem zlU{w:Nat}(h0:w≠0)(h:w<256):qO P .sub t x y (some (.int .u8 w)) (some (.int .u8 1))=some (.int .u8 ((w - 1:Nat):Int)):=by
 rw[kj]
 congr 2
 simp only[IntKind.wrap,IntKind.bits,IntKind.signed,Fe,f_,bz];omega
theorem zhe{k:Nat}(hk:k<2 ^ 60):qO P .quo t x y (some (.int .i64 k)) (some (.int .i64 8))=some (.int .i64 ((k / 8:Nat):Int)):=by
 have h:(k:Int).tdiv 8=((k / 8:Nat):Int):=by
  rw[Int.tdiv_eq_ediv_of_nonneg (by omega)];omega
 simp only[qO,jv,w9,j4,aF];rw[h,kw (by omega) (by omega)]
 rfl
theorem zlV{k:Nat}:qO P .rem t x y (some (.int .i64 k)) (some (.int .i64 8))=some (.int .i64 ((k % 8:Nat):Int)):=by
 have h:(k:Int).tmod 8=((k % 8:Nat):Int):=by
  rw[Int.tmod_eq_emod_of_nonneg (by omega)];omega
 simp only[qO,jv,w9,j4,aF];rw[h];rfl
theorem zlW{k:Nat}(hk:k<8):qO P .shl t x y (some (.int .u8 1)) (some (.int .i64 k))=some (.int .u8 ((2 ^ k:Nat):Int)):=by
 have h1:¬((k:Int)<0):=by omega
 have h2:min (k:Int).toNat IntKind.u8.bits=k:=by simp[IntKind.bits];omega
 have h3:(1:Int) * 2 ^ k=((2 ^ k:Nat):Int):=by simp
 simp only[qO,jv,w9,Lg,aF,h1,bz,h2];rw[h3,QA (XS hk)]
end
section
variable{cx:Cx}
theorem zkv{ops:Array Oper}{env:aC}{H:Hp}{df:bP}{s':St}(fe:J7 cx.P cx.uq ops (jM ops) 0 [] ops.toList=true)(hc:cx.rE ops (jM ops) ops.toList ⟨env,H,[],df⟩=some s'):cx.eU ops (jM ops) 0 [] [⟨0,H,[],df⟩] ops.toList ⟨env,H,[],df⟩=some (.normal,s') :=
 Xv _ _ _ _ _ _ _ ⟨.nil,λq hq=>by simp at hq,λb=>by simp[yE],⟨rfl,rfl,rfl⟩,λc hc=>by simp at hc,λc hc=>by simp at hc,λq hq=>by simp at hq⟩ fe hc
def zoX(cx:Cx)(t:aB)(x:aX)(d:Tmp)(K:St->Prop):St->Prop
 | ⟨env,H,lk,df⟩=>∃v cZ m z,take env x=some (v,cZ)/\z8 cx.P t=some m/\qP cx.P t=some z/\dD z=true/\z.cells.length=m/\dD v=true/\v.laid.length=m/\K ⟨cZ.set d (.ptr H.au.length 0),H.push (.cells v.laid t),lk,df⟩
theorem znS{n id:Nat}{Q:Ex->St->Prop}{k:List It}{ops:Array Oper}{env:aC}{H:Hp}{lk:aN}{df:bP}{os:List Oper}{d:Tmp}{t:aB}{x:aX}{tk:cg}(hu:cx.uq mJ=true)(hq:xO ops=some (os,d,t,x))(mH:jM os.toArray=tk)
  (N9:kE (Te tk d) os=true) (hd:d<env.length) (fe:J7 cx.P cx.uq os.toArray tk 0 [] os=true)
  (h:go cx n (λex s=>ex=.normal/\zoX cx t x d (λs'=>go cx n Q k .normal s') s) [.on os.toArray tk os] .normal ⟨env.set d .ee,H,[],df⟩):go cx n Q (.c (.region id ops true)::k) .normal ⟨env,H,lk,df⟩:=by
 subst mH;simp only[go] at h ⊢;obtain⟨⟨bI,H2,AX,AY⟩,h1,_,v,cZ,m,z,e1,e2,e3,e4,e5,e6,e7,hK⟩:=h;refine⟨.normal,_,?_,hK⟩;simp only[Cx.code];refine zkf hu hq ?_;have DC:=zkv (cx:=cx) (ops:=os.toArray) fe h1;have tL:Nat.blt d env.length=true:=by
  show Nat.ble (d+1) env.length=true;rw[Nat.ble_eq];exact hd
 unfold Cx.late;simp only[hq,N9,tL,Bool.and_self];rw[show os.toArray.toList=os from rfl] at DC;rw[DC];have l1:Nat.beq z.cells.length m=true:=by rw[e5];simp
 have l2:Nat.beq v.laid.length m=true:=by rw[e7];simp
 simp only[e1,e2,e3,e4,e6,l1,Bool.and_self,qm,di,l2,qn]
end
section
variable{cx:Cx}{takes:cg}
theorem zim{rs:List Rec}{r1 R:Rec}{c0 c1 nF d c2 e:eD}{k:List eD->Option (Ex×St)}(e1:c1=nF)(hp:R.hp=true)(ho:∀q∈rs,q=r1\/(q.hp=false/\(q.free=true\/bit R.m q.idx=true)))(h1:r1.hp=true)
  (hs:vO (Nat.land R.m (eP rs)) d.D=true) (hr:cx.ej takes R.o R.env d (Nat.lor d.D (Nat.pow 2 R.idx))=some (R.v,c2)) (Me:bit nF.D r1.idx=true) (oq:bit c2.D r1.idx=false)
  (hq:cx.ej takes r1.o r1.env c2 0=some (r1.v,e)) (hf:ye (Nat.lor c2.D (Nat.pow 2 r1.idx)) [nF,c2,c0,d]=some nF) (he:yd e nF=true) :
  cx.fS takes rs R c0 c1 [d] k=k [nF,c2,c0,d]:=by
 subst e1;have Hg:cx.fR takes rs (eP rs) R [c1,c2,c0,d] c1=true:=by
  unfold Cx.fR;refine wc λq hq=>?_;split
  ·rfl
  ·rcases ho q hq with rfl|⟨h2,h3⟩
   ·simp[h1,Me]
   ·rcases h3 with h3|h3<;>simp[h2,h3]
 have Oj:cx.fR takes rs (eP rs) R [c1,c2,c0,d] c2=true:=by
  unfold Cx.fR;refine wc λq CS=>?_;split
  ·rfl
  ·rcases ho q CS with rfl|⟨h2,h3⟩
   ·simp only[h1,oq,hq,hf,V.dx,he,Bool.and_self]
   ·rcases h3 with h3|h3<;>simp[h2,h3]
 unfold Cx.fS;rw[hp];simp only[Cx.iJ,hs,hr,V.dx,bh,bg,kE,Hg,Oj]
end
section
variable{P:aQ}{gl:Gl}{d:Nat}{g g':Gh}{w w':aP}{H:Hp}
end
section
open Go.ChangeShapes Go.WideShapes Go.ChangeAt Go.RowKit
mutual
def Am:V->Bool
 | .bool _|.int ..|.str _|.fE|.aG|.iX|.nt|.bT|.obj _|.eN ..=>true
 | .ec _ v=>Am v
 | .agg cs=>sk cs
 | .br cs=>sk cs
 | _=>false
def sk:aC->Bool
 | []=>true
 | v::vs=>Am v && sk vs
end
theorem pU:∀{cs:aC},sk cs=true->∀{j:Nat}{x:V},cs[j]?=some x->Am x=true
 | [],_,j,x,hx=>by simp at hx
 | c::cs,h,0,x,hx=>by
  simp only[sk,ei] at h;simp at hx;subst hx;exact h.1
 | c::cs,h,j+1,x,hx=>by
  simp only[sk,ei] at h;exact pU h.2 (j:=j) (by simpa using hx)
mutual
theorem An:∀(v:V),Am v=true->v.top=0
 | .bool _,_|.int ..,_|.str _,_|.fE,_|.aG,_|.iX,_|.nt,_|.bT,_|.obj _,_|.eN ..,_=>rfl
 | .ec _ v,h=>by simp only[Am] at h;simp only[V.top];exact An v h
 | .agg cs,h=>by simp only[Am] at h;simp only[V.top];exact nT cs h
 | .br cs,h=>by simp only[Am] at h;simp only[V.top];exact nT cs h
theorem nT:∀(cs:aC),sk cs=true->aI cs=0
 | [],_=>rfl
 | c::cs,h=>by
  simp only[sk,ei] at h;simp only[aI,An c h.1,nT cs h.2];rfl
end
theorem aR.Am{g G:Gh}(ho:G.obj=g.obj){v:V}{cv:bw}(h:aR g v cv):Am v=true->aR G v cv:=by
 induction h with
 | bool b=>intro _;exact .bool b
 | int k m=>intro _;exact .int k m
 | str h=>intro _;exact .str h
 | fE=>intro _;exact .fE
 | eN k off=>intro _;exact .eN k off
 | obj k=>intro _;rw[<- ho];exact .obj k
 | aG=>intro _;exact .aG
 | iX=>intro _;exact .iX
 | nt=>intro _;exact .nt
 | bT=>intro _;exact .bT
 | ec _ ih=>intro h;exact .ec (ih (by simpa[Vm.Am] using h))
 | agg h1 h2 _ ih=>intro h;exact .agg h1 h2 λj x v hx hv=>ih j x v hx hv (pU (by simpa[Vm.Am] using h) hx)
 | br h1 _ ih=>intro h;exact .br h1 λj x v hx hv=>ih j x v hx hv (pU (by simpa[Vm.Am] using h) hx)
 | _=>intro h;simp[Vm.Am] at h
variable{P:aQ}{gl:Gl}{d:Nat}{H:Hp}{g g':Gh}{w w':aP}
open Classical in
noncomputable def Gh.FI(g:Gh)(n:Nat)(w:aP):Gh :=
 {g with own:=λ_=>none,M:=λc o=>if ∃b,b<n/\(c=g.bO b\/g.own c=some (.cell b 0)) then w.cell? ⟨c,o,none⟩ else g.M c o }
theorem znT{bs:List aT}(hw:nu g bs w)(n:Nat):nu (g.FI n w) [] w :=
 {mem:=λc o v h=>by
   simp only[Gh.FI] at h;split at h
   ·exact h
   ·exact hw.mem c o v h
  lt:=λb h=>by simp at h,inj:=λb _ h=>by simp at h,apart:=λb h=>by simp at h,eo:=(λc l h=>by cases h),dj:=λb h=>by simp at h,ok:=λb x h=>by simp at h,aI:=λb x h=>by simp at h,laid:=λc hc=>⟨(hw.laid c hc).1,rfl,λb hb=>by simp at hb⟩ }
theorem zlX{bs:List aT}(hw:nu g bs w)(n:Nat):Gh.Le 0 g (g.FI n w):=⟨λc o v h=>by
  simp only[Gh.FI];split
  ·exact hw.mem c o v h
  ·exact h,λb h=>by omega,rfl,λ_ _ _ h=>by omega⟩
theorem znU{dd n:Nat}(hf:Fr dd [] (g.FI n w) w g' w'){c:Nat}(hc:c<w.heap.size):w'.heap[c]?=w.heap[c]?/\g'.own c=none:=by
 have hp:rq dd ([]:List aT).length (g.FI n w) w c:=⟨hc,λb hb=>by simp at hb,.inl rfl⟩
 exact⟨hf.heap c hp,hf.own c hp⟩
theorem zkw{dd n:Nat}(hf:Fr dd [] (g.FI n w) w g' w'):Below w.heap.size w w':=⟨hf.os,hf.tape,hf.output,hf.size,λ_ hc=>(znU hf hc).1⟩
def Ur(H:Hp)(args mq:aC):Prop:=args.length=mq.length/\∀(j:Nat)(x y:V),args[j]?=some x->mq[j]?=some y->nh H x y/\∀sz xs e,y≠.sl sz xs (.yes e)
theorem zlY{args mq:aC}{bp:dF}(hw:nu g H.au w)(hf:Ur H args mq)(ha:dI g H.au.length args bp):dI (g.FI H.au.length w) 0 mq bp where
 len:=hf.1.symm.trans ha.len
 rel:=λj y v hy hv=>by
  have hj:j<args.length:=by rw[hf.1];exact(cP.1 hy).1
  have hx:args[j]?=some args[j]:=fQ hj;refine(hf.2 j _ y hx hy).1.Qg hw (zlX hw _) (λb hb o v hv=>?_) (λb c hb hc o v hv=>?_) (ha.rel j _ v hx hv)
  ·simp only[Gh.FI,if_pos (show ∃b',b'<H.au.length/\(g.bO b=g.bO b'\/g.own (g.bO b)=some (.cell b' 0)) from⟨b,hb,.inl rfl⟩)];exact hv
  ·simp only[Gh.FI,if_pos (show ∃b',b'<H.au.length/\(c=g.bO b'\/g.own c=some (.cell b' 0)) from⟨b,hb,hc⟩)];exact hv
 top:=qq λy hy=>by
  obtain⟨j,hj⟩:=List.getElem?_of_mem hy;have hx:args[j]?=some (args[j]'(by rw[hf.1];exact(cP.1 hj).1)):=fQ _
  rw[(hf.2 j _ y hx hj).1.top];exact dB _
 no:=λy hy sz xs e h=>by
  obtain⟨j,hj⟩:=List.getElem?_of_mem hy;have hx:args[j]?=some (args[j]'(by rw[hf.1];exact(cP.1 hj).1)):=fQ _
  exact(hf.2 j _ y hx hj).2 sz xs e h
theorem zlZ{dd:Nat}{f:FuncId}{args mq:aC}{bp:dF}{v:V}{H':Hp}{l:Loc}(hv:Am v=true)(rm:gF P gl g)(hw:nu g H.au w)(hf:Ur H args mq)(ha:dI g H.au.length args bp)
  (hk:∀g,gF P gl g->nu g [] w->dI g 0 mq bp->Calls P f bp w (ef dd ⟨[],[]⟩ g w l (.ret v) H')) :
  Calls P f bp w (ef d H g w l (.ret v) H):=by
 refine Calls.mono (hk (g.FI H.au.length w) (rm.le (zlX hw _)) (znT hw _) (zlY hw hf ha)) λe w' he=>?_;cases e with
 | returned cv =>
  obtain⟨v',g',e1,e2,e3,_,_⟩:=he;cases e1;refine⟨v,g,rfl,zgT hw (zkw e2.fr),e3.Am (show g.obj=g'.obj from e2.fr.le.obj.symm) hv,?_,by rw[An v hv];exact dU _⟩
  cases v<;>first|trivial|(simp[Vm.Am] at hv)
 | panicked chain =>
  obtain⟨v',cv,g',e1,_⟩:=he;cases e1
 | outgrown=>exact he.elim
end
section
def Gh.fD(n m:Nat)(gR:bL)(g g':Gh)(w':aP):Gh :=
 {M:=λc o=>if c<m then g.M c o else if gR.any (λk=>Nat.beq (g'.bO k) c) then none else w'.cell? ⟨c,o,none⟩,bO:=λb=>if b<n then g.bO b else g'.bO (gR.getD (b - n) 0),obj:=g.obj,own:=λc=>if c<m then g.own c else none,lk:=g.lk,e_:=g.e_ }
inductive BE(gR:bL)(n:Nat):V->V->Prop where
 |same {v:V}:v.top=0->BE gR n v v
 |sr {j k off len cap:Nat}:gR[j]?=some k->BE gR n (.sr k off len cap) (.sr (n+j) off len cap)
 |sl {sz:Nat} {xs ys:aC} {o:tG}:xs.length=ys.length->(zw xs).length=(zw ys).length->(∀y∈ys,y.cells.length=sz)->(∀(j:Nat)(y:V),(zw ys)[j]?=some y->y.one=true)->(∀(j:Nat)(x y:V),(zw xs)[j]?=some x->(zw ys)[j]?=some y->BE gR n x y)->BE gR n (.sl sz xs o) (.sl sz ys .no)
 |agg {xs ys:aC}:xs.length=ys.length->(∀(j:Nat)(y:V),ys[j]?=some y->y.one=true)->(∀(j:Nat)(x y:V),xs[j]?=some x->ys[j]?=some y->BE gR n x y)->BE gR n (.agg xs) (.agg ys)
 |br {xs ys:aC}:xs.length=ys.length->(∀(j:Nat)(x y:V),xs[j]?=some x->ys[j]?=some y->BE gR n x y)->BE gR n (.br xs) (.br ys)
variable{P:aQ}{gl:Gl}{d:Nat}{H:Hp}{g g':Gh}{w w':aP}{gR:bL}
structure FJ(gR:bL)(H':Hp)(pJ:List aT):Prop where
 nodup:gR.Nodup
 len:gR.length=pJ.length
 get:∀(j k:Nat),gR[j]?=some k->∃cs t,H'.au[k]?=some (.cells cs t)/\pJ[j]?=some (.cells cs t)/\sk cs=true
theorem BE.rel{n:Nat}{G:Gh}(hle:Gh.Le 0 g' G)(hb:∀(j k:Nat),gR[j]?=some k->G.bO (n+j)=g'.bO k){v v':V}(h:BE gR n v v'):∀{cv:bw},aR g' v cv->aR G v' cv:=by
 induction h with
 | same h=>intro cv hr;exact hr.le hle (by omega)
 | sr hj =>
  intro cv hr;cases hr with
  | sr nw=>rw[<- hb _ _ hj];exact .sr nw
 | sl hl hf h1 h2 h3 ih =>
  rename_i sz xs ys o;intro cv hr;cases hr with
  | sl f e1 e2 e3 e4 e5 e6 =>
   rw[hl];have hx:∀(j:Nat)(y:V),(zw ys)[j]?=some y->∃x,(zw xs)[j]?=some x:=λj y hy=>⟨_,fQ (by rw[hf];exact(cP.1 hy).1)⟩
   refine .sl f h1 (by rw[<- hl];exact e2) (λb_=>e3 λe=>b_ (HM (by rw[<- hl,e];rfl))) h2 (λj y hy=>?_) (λj y hy=>?_)
   ·obtain⟨x,hx⟩:=hx j y hy;exact hle.M _ _ _ (e5 j x hx)
   ·obtain⟨x,hx⟩:=hx j y hy;exact ih j x y hx hy (e6 j x hx)
 | agg hl h1 h2 ih =>
  rename_i xs ys;intro cv hr;cases hr with
  | agg e1 e2 e3 =>
   refine .agg (by rw[<- hl,e1]) (λj y hy=>h1 j y hy) λj y v hy hv=>?_
   have FC:xs[j]?=some (xs[j]'(by rw[hl];exact(cP.1 hy).1)):=fQ _
   exact ih j _ y FC hy (e3 j _ v FC hv)
 | br hl h2 ih =>
  rename_i xs ys;intro cv hr;cases hr with
  | br e1 e3 =>
   refine .br (by rw[<- hl,e1]) λj y v hy hv=>?_
   have FC:xs[j]?=some (xs[j]'(by rw[hl];exact(cP.1 hy).1)):=fQ _
   exact ih j _ y FC hy (e3 j _ v FC hv)
theorem kD{n m:Nat}{j k:Nat}(h:gR[j]?=some k):(Gh.fD n m gR g g' w').bO (n+j)=g'.bO k:=by
 simp only[Gh.fD];rw[if_neg (by omega),E8,K5,h];rfl
theorem zl0{n dd:Nat}{H':Hp}{pJ:List aT}(hs:FJ gR H' pJ)(tT:nu g' H'.au w')(hf:Fr dd [] g.bare w g' w'):Gh.Le 0 g' (Gh.fD n w.heap.size gR g g' w'):=by
 refine⟨λc o v h=>?_,λb h=>by omega,hf.le.obj.symm,λ_ _ _ h=>by omega⟩
 simp only[Gh.fD];split
 next hc=>rw[<- (jS hf hc).2.2 o];exact h
 ·split
  next hc=>obtain⟨k,hk,e⟩:=List.any_eq_true.1 hc;obtain⟨j,hj⟩:=List.getElem?_of_mem hk;obtain⟨cs,t,h1,_⟩:=hs.get j k hj;rw[<- eR e,tT.apart k (cP.1 h1).1] at h;cases h
  ·exact tT.mem c o v h
theorem zhf{dd:Nat}{H':Hp}{pJ:List aT}(hs:FJ gR H' pJ)(hw:nu g H.au w)(hA:iS dd ⟨[],[]⟩ g.bare w H' g' w') :
  iS d H g w ⟨H.au++pJ,H.bC⟩ (Gh.fD H.au.length w.heap.size gR g g' w') w':=by
 have hf:=hA.fr;have hle:∀j k,gR[j]?=some k->k<H'.au.length/\w.heap.size<=g'.bO k:=λj k h=>by
  obtain⟨cs,t,h1,_⟩:=hs.get j k h;have hk:=(cP.1 h1).1;exact⟨hk,hA.dV k (dU _) hk⟩
 have hlen:(⟨H.au++pJ,H.bC⟩:Hp).au.length=H.au.length+pJ.length:=by simp
 have Mg:∀b,H.au.length<=b->b<H.au.length+pJ.length->∃j k,b=H.au.length+j/\gR[j]?=some k:=λb h1 h2=>by
  have h3:b - H.au.length<gR.length:=by rw[hs.len];omega
  exact⟨b - H.au.length,_,by omega,fQ h3⟩
 have J':gV d none none H.au.length g w (Gh.fD H.au.length w.heap.size gR g g' w') w':=by
  refine⟨⟨λc o v h=>?_,λb hb=>by simp only[Gh.fD];rw[if_pos hb],rfl,λ_ _ _ _ h=>h⟩,λc hc _ _=>(jS hf hc).1,λc hc _=>by simp[Gh.fD,hc],λc hc _ o=>by simp[Gh.fD,hc],hf.size,λ_ _ _=>rfl,λ_ h=>(by cases h),λ_ h=>(by cases h),λ_ _ _ _=>rfl,hf.os,hf.tape,hf.output⟩
  have:=xC (hw.mem c o v h);simp[Gh.fD,this,h]
 have hold:∀b,b<H.au.length->(Gh.fD H.au.length w.heap.size gR g g' w').bO b=g.bO b:=λb hb=>by simp only[Gh.fD];rw[if_pos hb]
 have mZ:∀b,b<H.au.length+pJ.length->b<H.au.length\/∃j k,b=H.au.length+j/\gR[j]?=some k:=λb hb=>by
  rcases eI b H.au.length with h|h
  ·exact .inl h
  ·exact .inr (Mg b h hb)
 have cQ:∀b,b<H.au.length->(H.au++pJ)[b]?=H.au[b]?:=λb hb=>fI hb;have FK:∀j,(H.au++pJ)[H.au.length+j]?=pJ[j]?:=λj=>by rw[eM (by omega),E8]
 refine { de:=?_,fr:=?_,len:=by rw[hlen];omega,dV:=λb h1 h2=>?_,bC:=λb x hx=>?_,CI:=λ_ h=>h,lV:=λb off h=>vJ cQ h }
 ·refine { mem:=λc o v h=>?_,lt:=λb h=>?_,inj:=λb b' h h' e=>?_,apart:=λb h o=>?_,eo:=λc l h=>?_,dj:=λb h=>?_,ok:=λb x hx=>?_,aI:=λb x hx=>?_,laid:=λc hc=>?_ }
  ·simp only[Gh.fD] at h;split at h
   next hc=>have h0:=hw.mem c o v h;simp only[World.cell?,(jS hf hc).1] at h0 ⊢;exact h0
   ·split at h
    ·cases h
    ·exact h
  ·rw[hlen] at h;rcases mZ b h with h|⟨j,k,rfl,hj⟩
   ·rw[hold b h];exact r9 (hw.lt b h) hf.size
   ·rw[kD hj];exact hA.de.lt k (hle j k hj).1
  ·rw[hlen] at h h';rcases mZ b h with h|⟨j,k,rfl,hj⟩<;>rcases mZ b' h' with h'|⟨j',k',rfl,pN⟩
   ·rw[hold b h,hold b' h'] at e;exact hw.inj b b' h h' e
   ·rw[hold b h,kD pN] at e;have:=hw.lt b h;have:=(hle j' k' pN).2;omega
   ·rw[hold b' h',kD hj] at e;have:=hw.lt b' h';have:=(hle j k hj).2;omega
   ·rw[kD hj,kD pN] at e;have e2:=hA.de.inj k k' (hle j k hj).1 (hle j' k' pN).1 e;subst e2;have:=(List.getElem?_inj (cP.1 hj).1 hs.nodup).1 (hj.trans pN.symm);rw[this]
  ·rw[hlen] at h;rcases mZ b h with h|⟨j,k,rfl,hj⟩
   ·rw[hold b h];simp only[Gh.fD,hw.lt b h,aF];exact hw.apart b h o
   ·rw[kD hj];have:=(hle j k hj).2;simp only[Gh.fD];rw[if_neg (by omega),if_pos (show gR.any (λk'=>Nat.beq (g'.bO k') (g'.bO k))=true from List.any_eq_true.2 ⟨k,m8 hj,lu _⟩)]
  ·simp only[Gh.fD] at h;split at h
   ·exact r9 (hw.eo c l h) hf.size
   ·cases h
  ·rw[hlen] at h;rcases mZ b h with h|⟨j,k,rfl,hj⟩
   ·rw[hold b h];simp only[Gh.fD,hw.lt b h,aF];exact hw.dj b h
   ·rw[kD hj];have:=(hle j k hj).2;simp only[Gh.fD];rw[if_neg (by omega)]
  ·have hb:=(cP.1 hx).1;rw[hlen] at hb ⊢;rcases mZ b hb with h|⟨j,k,rfl,hj⟩
   ·rw[cQ b h] at hx
    exact fU.same (d:=d) (n':=H.au.length+pJ.length) J' (by simp) h (hw.lt b h) (hw.dj b h) (λ_ h=>by cases h) (λb2 h1 h2=>by
     obtain⟨j,k,rfl,hj⟩:=Mg b2 h1 h2
     rw[kD hj];exact(hle j k hj).2) (hw.aI b x hx) (hw.ok b x hx)
   ·rw[FK] at hx;obtain⟨cs,t,h1,h2,h3⟩:=hs.get j k hj;rw[h2] at hx;cases hx;obtain⟨arr,k1,k2,k3⟩:=hA.de.ok k _ h1;refine⟨arr,by rw[kD hj];exact k1,k2,λi x v hx hv=>?_⟩
    obtain⟨m1,m2,_,_⟩:=k3 i x v hx hv;have eH:=pU h3 hx;refine⟨m1,m2.Am (show(Gh.fD H.au.length w.heap.size gR g g' w').obj=g'.obj from hf.le.obj.symm) eH,?_,?_⟩
    ·cases x<;>first|trivial|(simp[Vm.Am] at eH)
    ·cases x<;>first|trivial|(simp[Vm.Am] at eH)
  ·have hb:=(cP.1 hx).1;rw[hlen] at hb ⊢;rcases mZ b hb with h|⟨j,k,rfl,hj⟩
   ·rw[cQ b h] at hx;exact cU (hw.aI b x hx) (by omega)
   ·rw[FK] at hx;obtain⟨cs,t,h1,h2,h3⟩:=hs.get j k hj;rw[h2] at hx;cases hx;simp only[aT.top,nT cs h3];exact dU _
  ·obtain⟨⟨cs,t,h1⟩,h2,h3⟩:=hw.laid c hc;have bR:=(sH.1 h1).1;refine⟨⟨cs,t,by rw[(jS hf bR).1];exact h1⟩,by simp only[Gh.fD,bR,aF];exact h2,λb hb e=>?_⟩
   rw[hlen] at hb;rcases mZ b hb with h|⟨j,k,rfl,hj⟩
   ·rw[hold b h] at e;exact h3 b h e
   ·rw[kD hj] at e;have:=(hle j k hj).2;omega
 ·exact⟨J'.le,λc hc=>(jS hf hc.1).1,λc hc=>by simp[Gh.fD,hc.1],λc hc o=>by simp[Gh.fD,hc.1],hf.size,λ_ _ _=>rfl,hf.os,hf.tape,hf.output⟩
 ·rw[hlen] at h2;obtain⟨j,k,rfl,hj⟩:=Mg b h1 h2;rw[kD hj];exact(hle j k hj).2
 ·have hb:=(cP.1 hx).1;rw[hlen] at hb;rcases mZ b hb with h|⟨j,k,rfl,hj⟩
  ·rw[cQ b h] at hx;exact .inr (.inr ⟨x,hx,dB _⟩)
  ·rw[FK] at hx;obtain⟨cs,t,h1,h2,h3⟩:=hs.get j k hj;rw[h2] at hx;cases hx;exact .inl (by simp only[aT.top,nT cs h3];exact dU _)
theorem XU(oZ:P.follows .mixedOrders=true)(fX:yC P)(dW:va P)(Ek:mX P gl){n:Nat}{f:FuncId}{args:aC}{v v':V}{H':Hp}{pJ:List aT}
  (hc:zk P gl n f args ⟨[],[]⟩=some (.ret v,H')) (ht:aI args=0) (hs:FJ gR H' pJ) (hv:BE gR H.au.length v v') (eH:∀sz xs e,v'≠.sl sz xs (.yes e)) (dy:v'.top<=H.au.length+pJ.length) {bp:dF} {l:Loc} (h1:gF P gl g) (h2:nu g H.au w) (h3:dI g H.au.length args bp) :
  Calls P f bp w (ef d H g w l (.ret v') ⟨H.au++pJ,H.bC⟩):=by
 refine Calls.mono (yS oZ fX dW Ek n f args ⟨[],[]⟩ _ _ hc g.bare w bp l (h1.le oh) (Xl h2) ⟨h3.len,λj x c hx lf=>(h3.rel j x c hx lf).le oh (cU (zn (zv hx)) (by omega)),by simp[ht],h3.no⟩) λe w' he=>?_
 cases e with
 | returned cv =>
  obtain⟨u,g',e1,e2,e3,e4,_⟩:=he;cases e1;refine⟨v',_,rfl,zhf hs h2 e2,hv.rel (zl0 hs e2.de e2.fr) (λj k h=>kD h) e3,?_,by simpa using dy⟩
  unfold cN;split
  next sz xs e=>exact absurd rfl (eH sz xs e)
  ·trivial
 | panicked chain =>
  obtain⟨u,cv,g',e1,_⟩:=he;cases e1
 | outgrown=>exact he.elim
end
end Go.Vm
