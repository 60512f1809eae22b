/- Vm: a region whose order is drawn, with loads that are not in order with what changes the heap elsewhere: they are looked at again behind each change. Conditions: none but those named. -/
import Derived.Test.YthohlnmcjkjeiaaGreatDoorVmC
namespace Go.Vm
open Go
section
variable{cx:Cx}{all:Array Oper}{takes:cw}
def xa(cx:Cx)(takes:cw)(c:ez):List (Oper×aG×V)->Prop
 | []=>True
 | p::ps=>cx.eZ takes p.1 p.2.1 p.2.2 c=true/\xa cx takes c ps
theorem zgO{c:ez}{ps:List (Oper×aG×V)}(h:xa cx takes c ps)(p:Oper×aG×V)(hp:p∈ps):cx.eZ takes p.1 p.2.1 p.2.2 c=true:=by
 induction ps with
 | nil=>cases hp
 | cons a ps ih =>
  cases hp with
  | head=>exact h.1
  | tail _ hp=>exact ih h.2 hp
def Ju(b:Bool)(p:Oper×aG×V)(ps:List (Oper×aG×V)):List (Oper×aG×V):=bif b then p::ps else ps
def Ax(cx:Cx)(all:Array Oper)(takes:cw)(P:St->Prop):List (Oper×aG×V)->List (Bool×Bool)->List Oper->St->Prop
 | _,_,[],s=>P s
 | _,[],_::_,_=>False
 | dg,(ld,hp)::fl,o::os,⟨env,H,lk,df⟩=>match zZ all o env with
  | none=>False
  | some false=>Ax cx all takes P dg fl os ⟨aq env o.dst (.bx []),H,lk,df⟩
  | some true=>au cx o env lk=true/\match cx.op takes o env H lk df with
   | some (.val v,⟨cR,H1,eE,eD⟩)=>(hp=true->xa cx takes ⟨0,H1,eE,eD⟩ dg)/\Ax cx all takes P (Ju ld (o,env,v) dg) fl os ⟨aq cR o.dst v,H1,eE,eD⟩
   | some (.skip,⟨cR,H1,eE,eD⟩)=>(hp=true->xa cx takes ⟨0,H1,eE,eD⟩ dg)/\Ax cx all takes P dg fl os ⟨aq cR o.dst (.bx []),H1,eE,eD⟩
   | _=>False
def WA(js:bO)(r q:SR):Bool :=
 match bit r.m q.idx with
 | true=>true
 | false=>!(r.hp && q.hp) && (!(q.hp && r.lk) || (q.tk && r.ld)) && (!(r.hp && q.lk) || (r.al && q.ld) || (js.any (Nat.beq q.idx) && q.ld))
def Tc(P:aY)(uq:aD->Bool)(all:Array Oper)(takes:cw)(js:bO):Nat->List SR->List (Bool×Bool)->List Oper->Bool
 | _,_,_,[]=>true
 | _,_,[],_::_=>false
 | i,rs,(ld,hp)::fl,o::os=>match Nr rs o.after.toList with
  | none=>false
  | some m =>
   let r:SR:=⟨i,m,m7 takes o,Nat.lor (m7 takes o) (tC all o),jg P uq takes o,kW P uq o,vN o,DP takes o,kL takes o⟩
   ((!jg P uq takes o || hp) && (!(js.any (Nat.beq i)) || ld)) && ((!r.tk || kA (λq=>!q.tk) rs) && kA (S_ r) rs && (kA (WA js r) rs && Tc P uq all takes js (i+1) (r::rs) fl os))
theorem zgP{js:bO}{P:St->Prop}:∀(os:List Oper)(fl:List (Bool×Bool))(dg:List (Oper×aG×V))(i:Nat)(rs:List Rec)(ts:List SR)(c0:ez)(rest:List ez)(s:St),Tb cx takes i rs ts c0 rest s->Tc cx.P cx.uq all takes js i ts fl os=true->(∀q∈rs,q.hp=false->q.free=false->js.any (Nat.beq q.idx)=true->(q.o,q.env,q.v)∈dg)->Ax cx all takes P dg fl os s->∃s',cx.eO all takes i rs (c0::rest) os s=some (.normal,s')/\P s'
 | [],fl,dg,i,rs,ts,c0,rest,s,_,_,_,hc=>by
  simp only[Ax] at hc;exact⟨s,by simp only[Cx.eO],hc⟩
 | _::_,[],dg,i,rs,ts,c0,rest,s,_,_,_,hc=>by
  simp only[Ax] at hc
 | o::os,(ld,fhp)::fl,dg,i,rs,ts,c0,rest,⟨env,H,lk,df⟩,hI,fe,hpd,hc=>by
  simp only[Tc] at fe;split at fe<;>try (cases fe;done)
  rename_i m hm;simp only[eF] at fe;obtain⟨⟨HW,Pp⟩,⟨mq,HN⟩,Ln,fe⟩:=fe;have sK:∀(hp free:Bool)(v:V),kA (kq ⟨i,o,m,m7 takes o,Nat.lor (m7 takes o) (tC all o),hp,free,env,v⟩) rs=true:=λhp free v =>
   zgM hI.pr (λq t tJ hg=>by simp only[S_] at hg;simp only[kq,tJ.idx,tJ.tm,tJ.lm];exact hg) HN
  have key:∀(hp free:Bool)(v:V)(A3:List (Oper×aG×V))(H1:Hp)(eE:aP)(eD:bS)(cR:aG),
    (hp=true->jg cx.P cx.uq takes o=true)->(hp=false->free=false->kW cx.P cx.uq o=true) ->
    (hp=false->H1=H/\eE=lk/\eD=df)->(hp=false->free=false->∀D,cx.eZ takes o env v ⟨D,H,lk,df⟩=true) ->
    (hp=true->vN o=true->∃x,H1=H.push x/\eE=lk/\eD=df) ->
    (hp=true->kL takes o=true->∀D,HU ⟨D,H,lk,df⟩ ⟨cR,H1,eE,eD⟩) ->
    (hp=false->free=false->DP takes o=true->∀c,HU c ⟨env,H,lk,df⟩->cx.eZ takes o env v c=true) ->
    (hp=true->∀D,∀p∈dg,cx.eZ takes p.1 p.2.1 p.2.2 ⟨D,H1,eE,eD⟩=true) ->
    (∀q∈dg,q∈A3)->(hp=false->free=false->js.any (Nat.beq i)=true->(o,env,v)∈A3) ->
    Ax cx all takes P A3 fl os ⟨cR,H1,eE,eD⟩ ->
    ∃s',(match kA (kq ⟨i,o,m,m7 takes o,Nat.lor (m7 takes o) (tC all o),hp,free,env,v⟩) rs,c0::rest with
     | true,c0::cs=>cx.fH takes rs ⟨i,o,m,m7 takes o,Nat.lor (m7 takes o) (tC all o),hp,free,env,v⟩ c0 ⟨Nat.lor c0.D (Nat.pow 2 i),H1,eE,eD⟩ cs λcs =>
      cx.eO all takes (i+1) (⟨i,o,m,m7 takes o,Nat.lor (m7 takes o) (tC all o),hp,free,env,v⟩::rs) cs os ⟨cR,H1,eE,eD⟩
     | _,_=>none)=some (.normal,s')/\P s':=by
   intro hp free v A3 H1 eE eD cR h1 h2 h3 h4 h5 Wy Wz Oz lP Pq h6;rw[sK];simp only;have bW:∀q∈rs,q.idx≠i:=λq hq e=>by have:=hI.lt q hq;omega
   have nB:∀b,(∃q∈rs,q.hp=true/\q.idx=b)->bit (Nat.lor c0.D (Nat.pow 2 i)) b=true:=λb hb=>by rw[wZ,(hI.cD b).2 hb];rfl
   have A0:=yX hI.pr Ln;have oN:hp=true->∀q∈rs,q.hp=false->q.free=false->bit m q.idx=true\/(∃c∈rs,c.hp=true/\bit c.m q.idx=true)\/∀D,cx.eZ takes q.o q.env q.v ⟨D,H1,eE,eD⟩=true:=λhr q hq l6 pF=>by
    obtain⟨t,ht,hg⟩:=A0 q hq;simp only[WA] at hg;split at hg
    next hb=>exact .inl (by rw[ht.idx];exact hb)
    ·rw[h1 hr,ht.lk l6 pF] at hg;simp only[sw,mw,Bw,eF,tf] at hg;obtain⟨_,⟨sF,gy⟩|⟨Td,gy⟩⟩:=hg
     ·rcases hI.HV q hq l6 pF with h|h
      ·exact .inr (.inl h)
      ·obtain⟨x,e1,e2,e3⟩:=h5 hr sF;subst e1 e2 e3;rw[ht.ld] at gy;exact .inr (.inr λD=>zeI gy (h D))
     ·exact .inr (.inr λD=>Oz hr D _ (hpd q hq l6 pF (by rw[ht.idx];exact Td)))
   have E5:kL takes o=true->∀q∈rs,kL takes q.o=false:=λht q hq=>by
    rw[ht] at mq;simp only[mw,Bw] at mq;obtain⟨t,h7,h8⟩:=yX hI.pr mq q hq;rw[<- h7.tk];simpa using h8
   have iH:(hp=true\/(hp=false/\free=false))->∀q∈rs,q.hp=true->bit m q.idx=true\/(hp=false/\kL takes q.o=true/\DP takes o=true):=λhr q hq l6=>by
    obtain⟨t,ht,hg⟩:=A0 q hq;simp only[WA] at hg;split at hg
    next hb=>exact .inl (by rw[ht.idx];exact hb)
    ·rw[ht.hp l6] at hg;simp only[Bool.and_true,sw,eF,Gb] at hg;obtain⟨⟨g1,g2⟩,_⟩:=hg;rcases hr with hr|⟨hr,hf⟩
     ·rw[h1 hr] at g1;cases g1
     ·rw[h2 hr hf] at g2;simp only[mw,Bw,eF] at g2;exact .inr ⟨hr,by rw[<- ht.tk];exact g2.1,g2.2⟩
   have sL:∀c:ez,(∃q∈rs,q.hp=true/\bit m q.idx=true/\bit c.D q.idx=false)->vU (Nat.land m (eL rs)) c.D=false:=λc hc=>by
    obtain⟨q,hq,e1,e2,e3⟩:=hc;cases hs:vU (Nat.land m (eL rs)) c.D with
    | false=>rfl
    | true =>
     have:=ri.1 hs q.idx (by rw[Nj,e2,lu.2 ⟨q,hq,e1,rfl⟩];rfl)
     rw[this] at e3;cases e3
   have Po:∀c:ez,(∀b,bit c.D b=true->∃q∈rs,q.idx=b)->bit c.D i=false:=λc hc=>by
    cases hb:bit c.D i with
    | false=>rfl
    | true =>
     obtain⟨q,hq,e⟩:=hc i hb;exact absurd e (bW q hq)
   rw[zjb (r:=⟨i,o,m,m7 takes o,Nat.lor (m7 takes o) (tC all o),hp,free,env,v⟩) ?_ ?_ nB ?_]
   ·have E6:Tb cx takes (i+1) (⟨i,o,m,m7 takes o,Nat.lor (m7 takes o) (tC all o),hp,free,env,v⟩::rs) (⟨i,m,m7 takes o,Nat.lor (m7 takes o) (tC all o),jg cx.P cx.uq takes o,kW cx.P cx.uq o,vN o,DP takes o,kL takes o⟩::ts)
      (bif hp then ⟨Nat.lor c0.D (Nat.pow 2 i),H1,eE,eD⟩ else c0) (bif hp then c0::rest else rest) ⟨cR,H1,eE,eD⟩:=by
     refine⟨.cons ⟨rfl,rfl,rfl,rfl,h1,h2,rfl,rfl⟩ hI.pr,?_,?_,?_,?_,?_,?_⟩
     ·intro q hq;rcases dM.1 hq with rfl|hq
      ·exact Ko _
      ·have:=hI.lt q hq;omega
     ·intro b;cases hp with
      | false =>
       simp only[rB];rw[hI.cD];constructor
       ·rintro⟨q,hq,e⟩;exact⟨q,eo _ hq,e⟩
       ·rintro⟨q,hq,e1,e2⟩;rcases dM.1 hq with rfl|hq
        ·cases e1
        ·exact⟨q,hq,e1,e2⟩
      | true =>
       simp only[oo];rw[wZ,tf,hI.cD,yj,decide_eq_true_eq];constructor
       ·rintro(⟨q,hq,e⟩|rfl)
        ·exact⟨q,eo _ hq,e⟩
        ·exact⟨_,fy ..,rfl,rfl⟩
       ·rintro⟨q,hq,e1,e2⟩;rcases dM.1 hq with rfl|hq
        ·exact .inr e2
        ·exact .inl ⟨q,hq,e1,e2⟩
     ·cases hp with
      | false=>obtain⟨e1,e2,e3⟩:=h3 rfl;subst e1 e2 e3;exact hI.c0
      | true=>exact⟨rfl,rfl,rfl⟩
     ·intro c eA b hb;cases hp with
      | false=>obtain⟨q,hq,e⟩:=hI.rD c eA b hb;exact⟨q,eo _ hq,e⟩
      | true =>
       rcases dM.1 eA with rfl|eA
       ·obtain⟨q,hq,_,e⟩:=(hI.cD b).1 hb;exact⟨q,eo _ hq,e⟩
       ·obtain⟨q,hq,e⟩:=hI.rD c eA b hb;exact⟨q,eo _ hq,e⟩
     ·intro c eA;cases hp with
      | false =>
       obtain⟨e1,e2,e3⟩:=h3 rfl;subst e1 e2 e3;rcases hI.rest c eA with⟨q,hq,e⟩|⟨⟨q,hq,e⟩,hL⟩
       ·exact .inl ⟨q,eo _ hq,e⟩
       ·exact .inr ⟨⟨q,eo _ hq,e⟩,hL⟩
      | true =>
       have E7:bit c0.D i=false:=Po c0 λb hb=>by obtain⟨q,hq,_,e⟩:=(hI.cD b).1 hb;exact⟨q,hq,e⟩
       cases Ao:kL takes o with
       | false =>
        rcases dM.1 eA with rfl|eA
        ·exact .inl ⟨_,fy ..,rfl,Ao,E7⟩
        ·exact .inl ⟨_,fy ..,rfl,Ao,Po c (hI.rD c eA)⟩
       | true =>
        rcases dM.1 eA with rfl|eA
        ·refine .inr ⟨⟨_,fy ..,rfl,Ao,E7⟩,?_⟩;obtain⟨D0,H0,Gy,df0⟩:=c;obtain⟨e1,e2,e3⟩:=hI.c0;simp only at e1 e2 e3;subst e1 e2 e3;exact Wy rfl Ao D0
        ·rcases hI.rest c eA with⟨q,hq,e⟩|⟨⟨q,hq,e1,e2,_⟩,_⟩
         ·exact .inl ⟨q,eo _ hq,e⟩
         ·rw[E5 Ao q hq] at e2;cases e2
     ·intro q hq l6 pF;rcases dM.1 hq with rfl|Ch
      ·obtain⟨e1,e2,e3⟩:=h3 l6;subst e1 e2 e3;exact .inr (h4 l6 pF)
      ·clear hq;cases hp with
       | false =>
        obtain⟨e1,e2,e3⟩:=h3 rfl;subst e1 e2 e3;rcases hI.HV q Ch l6 pF with⟨c,hc,e⟩|h
        ·exact .inl ⟨c,eo _ hc,e⟩
        ·exact .inr h
       | true =>
        rcases oN rfl q Ch l6 pF with h|⟨c,hc,e⟩|h
        ·exact .inl ⟨_,fy ..,rfl,h⟩
        ·exact .inl ⟨c,eo _ hc,e⟩
        ·exact .inr h
    have:=zgP os fl A3 _ _ _ _ _ _ E6 fe (λq hq l6 pF hj=>by
     rcases dM.1 hq with rfl|hq
     ·exact Pq l6 pF hj
     ·exact lP _ (hpd q hq l6 pF hj)) h6
    cases hp<;>exact this
   ·intro hr c eA;refine sL c ?_;rcases hI.rest c eA with⟨q,hq,e1,_,e2⟩|⟨⟨q,hq,e1,_,e2⟩,_⟩
    ·rcases iH (.inl hr) q hq e1 with h|⟨h,_⟩
     ·exact⟨q,hq,e1,h,e2⟩
     ·exact absurd (hr.symm.trans h) (by simp)
    ·rcases iH (.inl hr) q hq e1 with h|⟨h,_⟩
     ·exact⟨q,hq,e1,h,e2⟩
     ·exact absurd (hr.symm.trans h) (by simp)
   ·intro hr hf c eA;rcases hI.rest c eA with⟨q,hq,e1,e3,e2⟩|⟨⟨q,hq,e1,e3,e2⟩,hL⟩
    ·rcases iH (.inr ⟨hr,hf⟩) q hq e1 with h|⟨_,h,_⟩
     ·exact .inl (sL c ⟨q,hq,e1,h,e2⟩)
     ·rw[e3] at h;cases h
    ·rcases iH (.inr ⟨hr,hf⟩) q hq e1 with h|⟨_,_,h⟩
     ·exact .inl (sL c ⟨q,hq,e1,h,e2⟩)
     ·exact .inr (Wz hr hf h c hL)
   ·intro hr q hq l6 pF;rcases oN hr q hq l6 pF with h|h|h
    ·exact .inl h
    ·exact .inr (.inl h)
    ·exact .inr (.inr (h _))
  simp only[Cx.eO,zeH hI.pr,hm,qw,ql,jR];simp only[Ax] at hc;split at hc<;>try (cases hc;done)
  next hw=>simp only[hw];exact key false true (.bx []) dg H lk df _ (λh=>nomatch h) (λ_ h=>nomatch h) (λ_=>⟨rfl,rfl,rfl⟩) (λ_ h=>nomatch h) (λh=>nomatch h) (λh=>nomatch h) (λ_ h=>nomatch h) (λh=>nomatch h) (λ_ h=>h) (λ_ h=>nomatch h) hc
  ·rename_i hw;simp only[hw];obtain⟨pZ,hc⟩:=hc;split at hc<;>try (cases hc;done)
   ·rename_i v cR H1 eE eD aE;simp only[aE];obtain⟨KZ,hc⟩:=hc;have WB:jg cx.P cx.uq takes o=true->fhp=true:=λh=>by rw[h] at HW;simpa using HW
    have hfj:js.any (Nat.beq i)=true->ld=true:=λh=>by rw[h] at Pp;simpa using Pp
    refine key _ _ v _ H1 eE eD _ (λh=>h) (λ_ h=>by simpa using h) (λhf=>?_) (λhf _ D=>?_) (λ_ ha=>?_) (λ_ ht D=>?_) (λ_ _ hl c hL=>zeK hl hL pZ aE) (λh D p hp=>zgO (KZ (WB h)) p hp) (λq hq=>by unfold Ju;cases ld<;>simp[hq]) (λ_ _ hj=>by rw[hfj hj];simp[Ju]) hc
    ·obtain⟨v',_,e2,_⟩:=yk hf aE;cases e2;exact⟨rfl,rfl,rfl⟩
    ·simp[Cx.eZ,Cx.d_,aE,V.dx]
    ·obtain⟨x,e⟩:=zgN ha aE;cases e;exact⟨x,rfl,rfl,rfl⟩
    ·rcases zja (D:=D) ht aE with h|h
     ·exact .inl h
     ·exact .inr h
   ·rename_i cR H1 eE eD aE;simp only[aE];have BE:jg cx.P cx.uq takes o=true:=by
     cases hb:jg cx.P cx.uq takes o with
     | true=>rfl
     | false=>obtain⟨v',e1,_⟩:=yk hb aE;cases e1
    rw[BE];obtain⟨KZ,hc⟩:=hc;have WB:fhp=true:=by rw[BE] at HW;simpa using HW
    refine key true false (.bx []) dg H1 eE eD _ (λ_=>BE) (λh=>nomatch h) (λh=>nomatch h) (λh=>nomatch h) (λ_ ha=>?_) (λ_ ht=>?_) (λh=>nomatch h) (λ_ D p hp=>zgO (KZ WB) p hp) (λ_ h=>h) (λh=>nomatch h) hc
    ·obtain⟨dst,op,type,pos,after,guard⟩:=o;unfold vN at ha;split at ha<;>try (cases ha;done)
     rename_i t lz;simp only at lz;subst lz;simp only[Cx.op] at aE;split at aE<;>try (cases aE;done)
     split at aE<;>try (cases aE;done)
     simp[ql,qm] at aE
    ·obtain⟨dst,op,type,pos,after,guard⟩:=o;unfold kL at ht;split at ht<;>try (cases ht;done)
     rename_i t a lz;simp only at lz;subst lz;cases dst with
     | none=>cases ht
     | some d =>
      simp only at ht;rw[xo ht] at aE;unfold v4 at aE
      (repeat' split at aE)<;>cases aE
theorem Te{n id:Nat}{Q:Ex->St->Prop}{k:List It}{ops:Array Oper}{env:aG}{H:Hp}{lk:aP}{df:bS}{tk:cw}(js:bO)(fl:List (Bool×Bool))(ht:jQ ops=tk)(fe:Tc cx.P cx.uq ops tk js 0 [] fl ops.toList=true)
  (h:Ax cx ops tk (λs=>go cx n Q k .normal s) [] fl ops.toList ⟨env,H,[],df⟩) (hl:cx.uq mC=false\/xN ops=none:=by first|exact .inl rfl|exact .inr (by kernel_rfl)):go cx n Q (.c (.region id ops true)::k) .normal ⟨env,H,lk,df⟩:=by
 subst ht;obtain⟨s',h1,h2⟩:=zgP (js:=js) _ _ _ _ _ _ ⟨0,H,[],df⟩ [] _ ⟨.nil,λq hq=>by simp at hq,λb=>by simp[yG],⟨rfl,rfl,rfl⟩,λc hc=>by simp at hc,λc hc=>by simp at hc,λq hq=>by simp at hq⟩ fe (λq hq=>by simp at hq) h
 simp only[go];exact⟨.normal,s',by simp only[Cx.code];exact Wd h1 hl,h2⟩
section
variable{P:St->Prop}{dg:List (Oper×aG×V)}{fl:List (Bool×Bool)}{os:List Oper}{env:aG}{H:Hp}{lk:aP}{df:bS}{s:St}{dst:fz}{op:Op}{type:aD}{pos:String}{after:Array Edge}{ld hp:Bool}
theorem u0:Ax cx all takes P dg fl [] s ↔ P s:=by simp[Ax]
def HX(cx:Cx)(all:Array Oper)(takes:cw)(P:St->Prop)(dg:List (Oper×aG×V))(ld hp:Bool)(fl:List (Bool×Bool))(o:Oper)(env:aG)(os:List Oper):Option (OR×St)->Prop
 | some (.val v,⟨cR,H1,eE,eD⟩)=>(hp=true->xa cx takes ⟨0,H1,eE,eD⟩ dg)/\Ax cx all takes P (Ju ld (o,env,v) dg) fl os ⟨aq cR o.dst v,H1,eE,eD⟩
 | some (.skip,⟨cR,H1,eE,eD⟩)=>(hp=true->xa cx takes ⟨0,H1,eE,eD⟩ dg)/\Ax cx all takes P dg fl os ⟨aq cR o.dst (.bx []),H1,eE,eD⟩
 | _=>False
theorem sk:Ax cx all takes P dg ((ld,hp)::fl) (⟨dst,op,type,pos,after,none⟩::os) ⟨env,H,lk,df⟩ ↔ (au cx ⟨dst,op,type,pos,after,none⟩ env lk=true/\HX cx all takes P dg ld hp fl ⟨dst,op,type,pos,after,none⟩ env os (cx.op takes ⟨dst,op,type,pos,after,none⟩ env H lk df)):=by
 simp only[Ax,zZ];cases cx.op takes ⟨dst,op,type,pos,after,none⟩ env H lk df with
 | none=>simp[HX]
 | some r =>
  obtain⟨r,s1⟩:=r;obtain⟨cR,H1,eE,eD⟩:=s1;cases r<;>simp[HX]
theorem Tf{o:Oper}{v:V}{cR:aG}{H1:Hp}{eE:aP}{eD:bS}:HX cx all takes P dg ld false fl o env os (some (.val v,⟨cR,H1,eE,eD⟩)) ↔ Ax cx all takes P (Ju ld (o,env,v) dg) fl os ⟨aq cR o.dst v,H1,eE,eD⟩:=by simp[HX]
theorem Tg{o:Oper}{v:V}{cR:aG}{H1:Hp}{eE:aP}{eD:bS}:HX cx all takes P dg ld true fl o env os (some (.val v,⟨cR,H1,eE,eD⟩)) ↔ xa cx takes ⟨0,H1,eE,eD⟩ dg/\Ax cx all takes P (Ju ld (o,env,v) dg) fl os ⟨aq cR o.dst v,H1,eE,eD⟩:=by simp[HX]
theorem WC{o:Oper}{cR:aG}{H1:Hp}{eE:aP}{eD:bS}:HX cx all takes P dg ld hp fl o env os (some (.skip,⟨cR,H1,eE,eD⟩)) ↔ (hp=true->xa cx takes ⟨0,H1,eE,eD⟩ dg)/\Ax cx all takes P dg fl os ⟨aq cR o.dst (.bx []),H1,eE,eD⟩:=by simp[HX]
theorem Th{p:Oper×aG×V}{ps:List (Oper×aG×V)}:Ju false p ps=ps:=rfl
theorem Ti{p:Oper×aG×V}{ps:List (Oper×aG×V)}:Ju true p ps=p::ps:=rfl
theorem xD{c:ez}:xa cx takes c [] ↔ True:=Iff.rfl
theorem iS{D:Nat}{o:Oper}{v:V}{s1:St}(h:cx.op takes o env H lk df=some (.val v,s1)):cx.eZ takes o env v ⟨D,H,lk,df⟩=true:=by simp[Cx.eZ,Cx.d_,h,V.dx]
end
def Pr(cx:Cx)(n:Nat)(Q:Ex->St->Prop)(k:List It)(R:St->Prop):Ex->St->Prop
 | .normal,s=>R s
 | ex,s=>go cx n Q k ex s
theorem zlH{n:Nat}{Q:Ex->St->Prop}{k:List It}{c:Code}{s:St}(R:St->Prop)(h:go cx n (Pr cx n Q k R) [.c c] .normal s)(h2:∀s',R s'->go cx n Q k .normal s'):go cx n Q (.c c::k) .normal s:=by
 obtain⟨ex,s',h3,h4⟩:=S9 h;simp only[go];refine⟨ex,s',h3,?_⟩;cases ex<;>first|exact h2 _ h4|exact h4
theorem jF{n:Nat}{Q:Ex->St->Prop}{k:List It}{R:St->Prop}{s:St}:Pr cx n Q k R .normal s ↔ R s:=Iff.rfl
theorem jL{n:Nat}{Q:Ex->St->Prop}{k:List It}{R:St->Prop}{s:St}{i:Nat}:Pr cx n Q k R (.exit i) s ↔ go cx n Q k (.exit i) s:=Iff.rfl
theorem xb{n:Nat}{Q:Ex->St->Prop}{k:List It}{env:aG}{H:Hp}{lk:aP}{df:bS}(F:aG->Prop)(h:F env)(h2:∀env,F env->go cx n Q k .normal ⟨env,H,lk,df⟩):go cx n Q k .normal ⟨env,H,lk,df⟩:=h2 env h
theorem gT:Nat.beq 4 3=false:=rfl
theorem gU:Nat.beq 5 3=false:=rfl
theorem gV:Nat.beq 5 4=false:=rfl
theorem gW:Nat.beq 2 3=false:=rfl
theorem gX:Nat.beq 2 4=false:=rfl
theorem gZ:Nat.beq 2 5=false:=rfl
theorem g_:Nat.beq 1 2=false:=rfl
theorem h_:Nat.beq 0 2=false:=rfl
theorem ia:Nat.beq 1 3=false:=rfl
theorem ig:Nat.beq 1 4=false:=rfl
theorem ij:Nat.beq 1 5=false:=rfl
theorem gz:Nat.beq 0 1=false:=rfl
theorem mj{n:Nat}{Q:Ex->St->Prop}{k:List It}{s:St}(F:St->Prop)(h:F s)(h2:∀s,F s->go cx n Q k .normal s):go cx n Q k .normal s:=h2 s h
theorem vG{D:Nat}{env:aG}{H:Hp}{lk:aP}{df:bS}{d:Tmp}{t type:aD}{a:a_}{pos:String}{after:Array Edge}{guard:oq}{p v0 v:V}(h1:ak env a=some p)(h2:zk cx.P H cx.gl t p=some v0)(h3:bg v0=v):xa cx [] ⟨D,H,lk,df⟩ [(⟨some d,.load t a,type,pos,after,guard⟩,env,v)]:=by
 refine⟨?_,trivial⟩;show cx.eZ [] ⟨some d,.load t a,type,pos,after,guard⟩ env v ⟨D,H,lk,df⟩=true;have:cx.op [] ⟨some d,.load t a,type,pos,after,guard⟩ env H lk df=some (.val v,⟨env,H,lk,df⟩):=by
  rw[qr,h1,aV,h2,aW,h3,zq]
 exact iS this
end
section
variable{cx:Cx}{takes:cw}{dst:fz}{type:aD}{pos:String}{after:Array Edge}{guard:oq}{env:aG}{H:Hp}{lk:aP}{df:bS}
theorem znF{t e n:Nat}{x y:a_}{z v u:V}(h1:cx.P.underlying t=some (.slice e))(h2:z4 cx.P e=some n)(h3:qL cx.P e=some z)(hn:n≠0/\2 * n<=16777216)(hz:z.cells.length=n)(WE:dD z=true)(hx:ak env x=some v)(hy:ak env y=some u)(hv:dD v=true)(hu:dD u=true)(BC:v.cells.length=n)(hul:u.cells.length=n) :
  cx.op takes ⟨dst,.buildSlice t 2 #[(0,x),(1,y)],type,pos,after,guard⟩ env H lk df=some (.val (.sl n [v,u] (.yes e)),⟨env,H,lk,df⟩):=by
 have e1:Nat.beq n 0=false:=by
  cases n with
  | zero=>exact absurd rfl hn.1
  | succ n=>rfl
 have e2:Nat.blt 16777216 (2 * n)=false:=by
  cases hb:Nat.blt 16777216 (2 * n) with
  | false=>rfl
  | true=>have:=rA hb;omega
 simp[Cx.op,jc,h1,h2,h3,hz,WE,CR,hx,hy,hv,hu,BC,hul,ql,eP,Nat.blt,List.replicate];rw[if_neg (by omega)]
theorem WG{t e n k:Nat}{lo co:a_}{z:V}{i:TypeInfo}(h1:cx.P.underlying t=some (.slice e))(h2:z4 cx.P e=some n)(h3:qL cx.P e=some z)(hu:cx.uq e=false)(h4:cx.P.info? e=some i)(hn:n≠0)(hz:z.cells.length=n)(WE:dD z=true)(hl:ak env lo=some (.int .i64 (k:Int)))(hc:ak env co=some (.int .i64 (k:Int)))(hr:ku k i.bytes=true)(hk:k≠0) :
  cx.op takes ⟨dst,.makeSlice t lo co,type,pos,after,guard⟩ env H lk df=some (.val (.sr H.az.length 0 k k),⟨env,H.push (.cells (List.replicate k z.cells).flatten e),lk,df⟩):=by
 have e1:Nat.beq n 0=false:=by
  cases n with
  | zero=>exact absurd rfl hn
  | succ n=>rfl
 have e2:¬((k:Int)<0):=by omega
 have e3:¬((k:Int)=0):=by omega
 simp[Cx.op,h1,h2,h3,h4,hu,e1,e2,hz,WE,hl,hc,hr,hk,dj,qm]
theorem zh7{t u e b off len cap:Nat}{x y:a_}{ys cs:aG}{ty:aD}{o:uj}(h1:cx.P.underlying t=some (.slice e))(h2:z4 cx.P e=some 1)(hx:ak env x=some (.sr b off len cap))(hy:ak env y=some (.sl 1 ys o))(hb:H.get b=some (.cells cs ty))(hl:ys.length=len)(hf:(cg ys).map bg=ys)(hr:off+len<=cs.length)(hm:wr lk b off len (cs.drop off)=true) :
  cx.op takes ⟨dst,.call ⟨.builtin .copy,#[x,y],#[t,u]⟩,type,pos,after,guard⟩ env H lk df=some (.val (.int .i64 (len:Nat)),⟨env,(H.set b (.cells (storeCells cs off ys) ty)).bU b (.bx ys),lk,df⟩):=by
 have e1:ys.take len=ys:=by rw[<- hl,Gc]
 have e2:Nat.ble (off+len) cs.length=true:=G1 hr;have e3:(cg ys).length=len:=by rw[<- hl,<- congrArg List.length hf,iK]
 simp[Cx.op,Cx.sx,h1,h2,hx,hy,wu,hb,hl,e1,hf,hm,dj,ji,e3,hr]
end
section
variable{cx:Cx}{all:Array Oper}{takes:cw}
theorem vo{n id:Nat}{Q:Ex->St->Prop}{k:List It}{ops:Array Oper}{env:aG}{H:Hp}{lk:aP}{df:bS}{tk:cw}(ht:jQ ops=tk)(h:∃s',cx.eO ops tk 0 [] [⟨0,H,[],df⟩] ops.toList ⟨env,H,[],df⟩=some (.normal,s')/\go cx n Q k .normal s')(hl:cx.uq mC=false\/xN ops=none:=by first|exact .inl rfl|exact .inr (by kernel_rfl)):go cx n Q (.c (.region id ops true)::k) .normal ⟨env,H,lk,df⟩:=by
 subst ht;obtain⟨s',h1,h2⟩:=h;simp only[go];exact⟨.normal,s',by simp only[Cx.code];exact Wd h1 hl,h2⟩
section
variable{i m:Nat}{rs:List Rec}{c0:ez}{cs cs':List ez}{o:Oper}{os:List Oper}{env cR:aG}{H H1:Hp}{lk eE:aP}{df eD:bS}{v:V}{r:Option (Ex×St)}
def jy(all:Array Oper)(takes:cw)(i:Nat)(o:Oper)(m:Nat)(hp free:Bool)(env:aG)(v:V):Rec:=⟨i,o,m,m7 takes o,Nat.lor (m7 takes o) (tC all o),hp,free,env,v⟩
theorem qu(hm:wv rs o.after.toList=some m)(hg:zZ all o env=some true)(aE:cx.op takes o env H lk df=some (.val v,⟨cR,H1,eE,eD⟩))(h1:jg cx.P cx.uq takes o=false)(h2:kW cx.P cx.uq o=false)
  (hs:kA (kq (jy all takes i o m false true env v)) rs=true) (k:cx.eO all takes (i+1) (jy all takes i o m false true env v::rs) (c0::cs) os ⟨aq cR o.dst v,H1,eE,eD⟩=r):cx.eO all takes i rs (c0::cs) (o::os) ⟨env,H,lk,df⟩=r:=by
 simp only[jy] at hs k;simp only[Cx.eO,hm,qw,hg,aE,ql,jR,h1,h2,oS,hs];simp only[Cx.fH,Bool.true_or];exact k
theorem ki(hm:wv rs o.after.toList=some m)(hg:zZ all o env=some true)(aE:cx.op takes o env H lk df=some (.val v,⟨cR,H1,eE,eD⟩))(h1:jg cx.P cx.uq takes o=false)(h2:kW cx.P cx.uq o=true)
  (hs:kA (kq (jy all takes i o m false false env v)) rs=true) (hc:kA (λc=>match vU (Nat.land m (eL rs)) c.D with|true=>cx.eZ takes o env v c|false=>true) cs=true)
  (k:cx.eO all takes (i+1) (jy all takes i o m false false env v::rs) (c0::cs) os ⟨aq cR o.dst v,H1,eE,eD⟩=r):cx.eO all takes i rs (c0::cs) (o::os) ⟨env,H,lk,df⟩=r:=by
 simp only[jy] at hs k;simp only[Cx.eO,hm,qw,hg,aE,ql,jR,h1,h2,mw,hs];simp only[Cx.fH,Bw];split
 ·exact k
 next h=>exact absurd (hc.symm.trans h) (by decide)
theorem yw(hm:wv rs o.after.toList=some m)(hg:zZ all o env=some true)(aE:cx.op takes o env H lk df=some (.val v,⟨cR,H1,eE,eD⟩))(h1:jg cx.P cx.uq takes o=true)(h2:kW cx.P cx.uq o=true)
  (hs:kA (kq (jy all takes i o m true false env v)) rs=true) (hc:∀K,cx.fH takes rs (jy all takes i o m true false env v) c0 ⟨Nat.lor c0.D (Nat.pow 2 i),H1,eE,eD⟩ cs K=K cs')
  (k:cx.eO all takes (i+1) (jy all takes i o m true false env v::rs) cs' os ⟨aq cR o.dst v,H1,eE,eD⟩=r):cx.eO all takes i rs (c0::cs) (o::os) ⟨env,H,lk,df⟩=r:=by
 have eA:=λK=>hc K;simp only[jy] at hs k eA;simp only[Cx.eO,hm,qw,hg,aE,ql,jR,h1,h2,mw,hs];rw[eA];exact k
theorem w4(hm:wv rs o.after.toList=some m)(hg:zZ all o env=some true)(aE:cx.op takes o env H lk df=some (.skip,⟨cR,H1,eE,eD⟩))(h1:jg cx.P cx.uq takes o=true)
  (hs:kA (kq (jy all takes i o m true false env (.bx []))) rs=true) (hc:∀K,cx.fH takes rs (jy all takes i o m true false env (.bx [])) c0 ⟨Nat.lor c0.D (Nat.pow 2 i),H1,eE,eD⟩ cs K=K cs')
  (k:cx.eO all takes (i+1) (jy all takes i o m true false env (.bx [])::rs) cs' os ⟨aq cR o.dst (.bx []),H1,eE,eD⟩=r):cx.eO all takes i rs (c0::cs) (o::os) ⟨env,H,lk,df⟩=r:=by
 have eA:=λK=>hc K;simp only[jy] at hs k eA;simp only[Cx.eO,hm,qw,hg,aE,ql,jR,h1,hs];rw[eA];exact k
theorem vq{s:St}:cx.eO all takes i rs cs [] s=some (.normal,s):=by simp only[Cx.eO]
theorem zkn{R:Rec}{c1:ez}{k:List ez->Option (Ex×St)}(hp:R.hp=true)(cL:∀c∈cs,vU (Nat.land R.m (eL rs)) c.D=false)
  (dY:cx.fG takes rs (eL rs) R (c1::c0::cs) c1=true):cx.fH takes rs R c0 c1 cs k=k (c1::c0::cs):=by
 have hr:∀l:List ez,(∀c∈l,vU (Nat.land R.m (eL rs)) c.D=false)->cx.iC takes R.o R.env R.v (Nat.land R.m (eL rs)) (Nat.pow 2 R.idx) l=some []:=by
  intro l
  induction l with
  | nil=>intro _;rfl
  | cons c l ih=>intro h;simp only[Cx.iC,h c (fy ..)];exact ih λc hc=>h c (eo _ hc)
 unfold Cx.fH;rw[hp];simp only[hr cs cL,br,bt,kA,dY]
end
theorem rO:∀(l:List bq),mW l l=true
 | []=>rfl
 | a::l=>by
  have h:gq a a=true:=by
   cases a with
   | cells a t=>simp[gq,dK]
   | map a =>
    have:∀(l:List (V×V)),rE l l=true:=by
     intro l
     induction l with
     | nil=>rfl
     | cons x l ih=>obtain⟨a,b⟩:=x;simp[rE,V.dx,ih]
    simp[gq,this]
   | iter a i =>
    have:∀(l:bO),ot l l=true:=by
     intro l
     induction l with
     | nil=>rfl
     | cons x l ih=>simp[ot,ih]
    simp[gq,this]
   | ul a b c d=>simp[gq,dK]
  simp[mW,h,rO l]
theorem rP:∀(l:aP),mg l l=true
 | []=>rfl
 | (a,b)::l=>by simp[mg,rP l]
theorem rQ:∀(l:bS),nH l l=true
 | []=>rfl
 | (a,b)::l=>by simp[nH,V.dx,dK,rQ l]
theorem zdv{D D':Nat}{H:Hp}{lk:aP}{df:bS}:yg ⟨D,H,lk,df⟩ ⟨D',H,lk,df⟩=true:=by
 simp[yg,rP,rQ,rO]
theorem zko{r2 r1 r0 R:Rec}{c0 c1 d c2 e:ez}{k:List ez->Option (Ex×St)}(hp:R.hp=true)(h2:r2.hp=false)(Tj:r2.free=true)(h0:r0.hp=false)(Tk:r0.free=true)(h1:r1.hp=true)
  (hs:vU (Nat.land R.m (eL [r2,r1,r0])) d.D=true) (hr:cx.d_ takes R.o R.env d (Nat.lor d.D (Nat.pow 2 R.idx))=some (R.v,c2)) (C9:bit c1.D r1.idx=true) (mX:bit c2.D r1.idx=false)
  (hq:cx.d_ takes r1.o r1.env c2 0=some (r1.v,e)) (hf:yh (Nat.lor c2.D (Nat.pow 2 r1.idx)) [c1,c2,c0,d]=some c1) (he:yg e c1=true) :
  cx.fH takes [r2,r1,r0] R c0 c1 [d] k=k [c1,c2,c0,d]:=by
 have GD:cx.fG takes [r2,r1,r0] (eL [r2,r1,r0]) R [c1,c2,c0,d] c1=true:=by
  unfold Cx.fG;refine wc λq hq=>?_;split
  ·rfl
  ·rcases dM.1 hq with rfl|hq
   ·simp[h2,Tj]
   ·rcases dM.1 hq with rfl|hq
    ·simp[h1,C9]
    ·obtain rfl:q=r0:=by simpa using hq
     simp[h0,Tk]
 have WH:cx.fG takes [r2,r1,r0] (eL [r2,r1,r0]) R [c1,c2,c0,d] c2=true:=by
  unfold Cx.fG;refine wc λq Ch=>?_;split
  ·rfl
  ·rcases dM.1 Ch with rfl|Ch
   ·simp[h2,Tj]
   ·rcases dM.1 Ch with rfl|Ch
    ·simp only[h1,mX,hq,hf,V.dx,he,Bool.and_self]
    ·obtain rfl:q=r0:=by simpa using Ch
     simp[h0,Tk]
 unfold Cx.fH;rw[hp];simp only[Cx.iC,hs,hr,V.dx,br,bt,kA,GD,WH]
theorem j8{rs:List Rec}{cs:List ez}{R:Rec}{c0 c1 nC:ez}{k:List ez->Option (Ex×St)}(e:c1=nC)(hp:R.hp=true)(cL:∀c∈cs,vU (Nat.land R.m (eL rs)) c.D=false)
  (dY:cx.fG takes rs (eL rs) R (nC::c0::cs) nC=true):cx.fH takes rs R c0 c1 cs k=k (nC::c0::cs):=by
 subst e;exact zkn hp cL dY
theorem zh8{r2 r1 r0 R:Rec}{c0 c1 nC d c2 e:ez}{k:List ez->Option (Ex×St)}(e1:c1=nC)(hp:R.hp=true)(h2:r2.hp=false)(Tj:r2.free=true)(h0:r0.hp=false)(Tk:r0.free=true)(h1:r1.hp=true)
  (hs:vU (Nat.land R.m (eL [r2,r1,r0])) d.D=true) (hr:cx.d_ takes R.o R.env d (Nat.lor d.D (Nat.pow 2 R.idx))=some (R.v,c2)) (C9:bit nC.D r1.idx=true) (mX:bit c2.D r1.idx=false)
  (hq:cx.d_ takes r1.o r1.env c2 0=some (r1.v,e)) (hf:yh (Nat.lor c2.D (Nat.pow 2 r1.idx)) [nC,c2,c0,d]=some nC) (he:yg e nC=true) :
  cx.fH takes [r2,r1,r0] R c0 c1 [d] k=k [nC,c2,c0,d]:=by
 subst e1;exact zko hp h2 Tj h0 Tk h1 hs hr C9 mX hq hf he
end
section
def HY(f:Nat->Bool):Nat->Nat
 | 0=>0
 | n+1=>HY f n ||| (if f n=true then 2 ^ n else 0)
theorem WJ{f:Nat->Bool}{j:Nat}:∀{n:Nat},(HY f n).testBit j=(decide (j<n) && f j)
 | 0=>by simp[HY]
 | n+1=>by
  simp only[HY,BR,WJ (n:=n)]
  by_cases e:n=j
  ·subst e;cases h:f n<;>simp[]
  ·have:(if f n=true then 2 ^ n else 0).testBit j=false:=by
    cases f n<;>simp[e]
   rw[this];have:(j<n) ↔ (j<n+1):=by omega
   simp[this]
theorem zgQ{f:Nat->Bool}:∀{n:Nat},HY f n<2 ^ n
 | 0=>by simp[HY]
 | n+1=>by
  simp only[HY];have h1:=zgQ (f:=f) (n:=n);have h2:2 ^ n<2 ^ (n+1):=G2 (by omega) (by omega)
  refine I2 (by omega) ?_
  split<;>omega
theorem yJ{f:Nat->Bool}{n m:Nat}(hm:m<2 ^ n)(h:∀j,j<n->m.testBit j=f j):m=HY f n:=by
 apply Nat.eq_of_testBit_eq;intro j;rw[WJ]
 by_cases hj:j<n
 ·simp[hj,h j hj]
 ·simp only[hj,decide_false,Ec];exact Nat.testBit_lt_two_pow (uO hm (Nat.pow_le_pow_right (by omega) (by omega)))
def kN(p:Nat->Bool)(i:Nat):Nat:=HY (λj=>p (64 * i+j)) 64
theorem wd{p:Nat->Bool}{i:Nat}:kN p i<2 ^ 64:=zgQ
theorem wL{p:Nat->Bool}{i j:Nat}(h:j<64):(kN p i).testBit j=p (64 * i+j):=by simp[kN,WJ,h]
def jT(p:Nat->Bool)(n:Nat):Nat->Bool:=λk=>p k || k == n
def jG(p q:Nat->Bool):Nat->Bool:=λk=>p k || q k
theorem zlI{p:Nat->Bool}{n:Nat}:kN p (n / 64) ||| 2 ^ (n % 64)=kN (jT p n) (n / 64):=by
 refine yJ (I2 wd (G2 (by omega) (Nat.mod_lt _ (by omega)))) λj hj=>?_
 rw[BR,wL hj,Ga];simp only[jT]
 congr 1
 rw[EK];simp only[decide_eq_true_eq,beq_iff_eq];omega
theorem zgR{p:Nat->Bool}{n i:Nat}(h:i≠n / 64):kN (jT p n) i=kN p i:=by
 refine(yJ wd λj hj=>?_).symm;rw[wL hj];simp only[jT];have:¬(64 * i+j=n):=λe=>h (by omega)
 simp[this]
def pv(m:Nat)(p:Nat->Bool):aG:=(List.range m).map λi=>.int .u64 (kN p i:Nat)
theorem jH{m:Nat}{p:Nat->Bool}:(pv m p).length=m:=by simp[pv]
theorem yK{m:Nat}{p:Nat->Bool}{i:Nat}(h:i<m):(pv m p)[i]?=some (.int .u64 (kN p i:Nat)):=by simp[pv,h]
theorem zpc{m:Nat}{p:Nat->Bool}{n:Nat}:(pv m p).set (n / 64) (.int .u64 (kN (jT p n) (n / 64):Nat))=pv m (jT p n):=by
 apply EI;intro i;rw[List.getElem?_set']
 by_cases hi:i<m
 ·rw[yK hi,yK hi]
  by_cases e:n / 64=i
  ·subst e;simp
  ·simp[e,zgR (Ne.symm e)]
 ·have h1:(pv m p)[i]?=none:=by simp[pv];omega
  have h2:(pv m (jT p n))[i]?=none:=by simp[pv];omega
  rw[h1,h2];simp
theorem WK{n:Nat}(h:n<2 ^ 64):IntKind.u64.wrap (n:Int)=n:=by
 simp only[IntKind.wrap,IntKind.bits,IntKind.signed];simp only[Ec,gh,bD];omega
theorem kU{n:Int}(h:-9223372036854775808<=n)(h':n<9223372036854775808):IntKind.i64.wrap n=n:=by
 simp only[IntKind.wrap,IntKind.bits,IntKind.signed];simp only[sw,decide_eq_true_eq,ge_iff_le];have e1:(2:Int) ^ 64=18446744073709551616:=by decide
 have e2:(2:Int) ^ (64 - 1)=9223372036854775808:=by decide
 rw[e1,e2];split<;>omega
theorem Tm{n:Nat}(h:n<2 ^ 64):(BitVec.ofInt 64 (n:Int)).toNat=n:=by
 simp[];omega
variable{P:aY}{t:aD}{x y:a_}
theorem WL{a b:Nat}(ha:a<2 ^ 64)(hb:b<2 ^ 64):q0 P .or t x y (some (.int .u64 a)) (some (.int .u64 b))=some (.int .u64 ((a ||| b:Nat):Int)):=by
 have h0:((BitVec.ofInt 64 (a:Int) ||| BitVec.ofInt 64 (b:Int)).toNat)=a ||| b:=by
  rw[BitVec.toNat_or,Tm ha,Tm hb]
 have h:((BitVec.ofInt IntKind.u64.bits (a:Int) ||| BitVec.ofInt IntKind.u64.bits (b:Int)).toNat)=a ||| b:=h0
 simp only[q0,jz,wX,j3,aI];rw[h,WK (I2 ha hb)]
theorem zkp{k:Nat}(hk:k<2 ^ 60):q0 P .quo t x y (some (.int .i64 k)) (some (.int .i64 64))=some (.int .i64 ((k / 64:Nat):Int)):=by
 have h:(k:Int).tdiv 64=((k / 64:Nat):Int):=by
  rw[Int.tdiv_eq_ediv_of_nonneg (by omega)];omega
 simp only[q0,jz,wX,j3,aI];rw[h,kU (by omega) (by omega)]
 rfl
theorem zkq{k:Nat}:q0 P .rem t x y (some (.int .i64 k)) (some (.int .i64 64))=some (.int .i64 ((k % 64:Nat):Int)):=by
 have h:(k:Int).tmod 64=((k % 64:Nat):Int):=by
  rw[Int.tmod_eq_emod_of_nonneg (by omega)];omega
 simp only[q0,jz,wX,j3,aI];rw[h];rfl
theorem zlJ{k:Nat}(hk:k<64):q0 P .shl t x y (some (.int .u64 1)) (some (.int .i64 k))=some (.int .u64 ((2 ^ k:Nat):Int)):=by
 have h1:¬((k:Int)<0):=by omega
 have h2:min (k:Int).toNat IntKind.u64.bits=k:=by simp[IntKind.bits];omega
 have h3:(1:Int) * 2 ^ k=((2 ^ k:Nat):Int):=by simp
 simp only[q0,jz,wX,Kt,aI,h1,bD,h2];rw[h3,WK (G2 (by omega) hk)]
theorem zeL{H:Hp}{b off n:Nat}{v:V}{env:aG}{cs:aG}{ty:aD}{lk:aP}{df:bS}(hb:H.get b=some (.cells cs ty))(h1:dD v=true)(h2:v.laid.length=n)(h3:off+n<=cs.length)(h4:wr lk b off n (cs.drop off)=true) :
  Pj n H lk df (some (.ptr b off)) (some (v,env))=some (.skip,⟨env,(H.set b (.cells (Vm.storeCells cs off v.laid) ty)).bU b v,lk,df⟩):=by
 simp only[Pj,hb,h1,h2,h4];simp[h3]
theorem jV{H:Hp}{b:Nat}{v:V}(h:v.top<=b+1):H.bU b v=H:=by simp[Hp.bU,h]
theorem WM{pre post:aG}{m i:Nat}{xs:aG}{v:V}(h:xs.length=m)(hi:i<m):(pre++xs++post).set (pre.length+i) v=pre++xs.set i v++post:=by
 rw[bp,uN _ _ (by omega),MZ,F_ _ _ (by omega),bp]
theorem xE{pre post:aG}{m i:Nat}{xs:aG}(h:xs.length=m)(hi:i<m):(pre++xs++post)[pre.length+i]?=xs[i]?:=by
 rw[bp,fM (by omega),MZ,gF (by omega)]
theorem zgS{lk:aP}{b:Nat}:∀{n off:Nat}{l:aG},(∀i,i<n->∃c,l[i]?=some c/\locked c=false)->wr lk b off n l=true
 | 0,_,_,_=>by simp[wr]
 | n+1,off,[],h=>by obtain⟨c,hc,_⟩:=h 0 (by omega);simp at hc
 | n+1,off,c::l,h=>by
  obtain⟨d,hd,hl⟩:=h 0 (by omega)
  simp only[List.getElem?_cons_zero,bz] at hd;subst hd;simp only[wr,hl,oS,Bool.true_or,sw];exact zgS λi hi=>by
   have:=h (i+1) (by omega)
   simpa using this
theorem yx{lk:aP}{b n off:Nat}{cs:aG}(h:∀i,i<n->∃c,cs[off+i]?=some c/\locked c=false):wr lk b off n (cs.drop off)=true :=
 zgS λi hi=>by rw[G4];exact h i hi
end
section
theorem A4:∀(w:Nat),w≠0->∃k m,w=2 ^ (k+1) * m+2 ^ k:=by
 intro w
 induction w using Nat.strongRecOn with
 | ind w ih =>
  intro h;rcases Nat.mod_two_eq_zero_or_one w with h2|h2
  ·obtain⟨k,m,e⟩:=ih (w / 2) (by omega) (by omega)
   refine⟨k+1,m,?_⟩;have:w=2 * (w / 2):=by omega
   rw[this,e,Nat.mul_add,<- Nat.mul_assoc,<- Nat.pow_succ',<- Nat.pow_succ']
  ·exact⟨0,w / 2,by omega⟩
theorem WN(k:Nat):0<2 ^ k:=Nat.pow_pos (by decide)
theorem Tn{k m j:Nat}:(2 ^ (k+1) * m+2 ^ k).testBit j=if j<k then false else if j=k then true else m.testBit (j - (k+1)):=by
 rw[Nat.testBit_two_pow_mul_add _ (G2 (by decide) (by omega)),Ga]
 by_cases h1:j<k
 ·rw[if_pos (by omega),if_pos h1];simp;omega
 ·by_cases h2:j=k
  ·subst h2;simp
  ·rw[if_neg (by omega),if_neg h1,if_neg h2]
theorem zgT{k m j:Nat}:(2 ^ (k+1) * m+2 ^ k - 1).testBit j=if j<k then true else if j=k then false else m.testBit (j - (k+1)):=by
 have:=WN k;have h2:2 ^ k<2 ^ (k+1):=G2 (by decide) (by omega)
 rw[Nat.add_sub_assoc (by omega),Nat.testBit_two_pow_mul_add _ (by omega),Nat.testBit_two_pow_sub_one]
 by_cases h1:j<k
 ·rw[if_pos (by omega),if_pos h1];simp[h1]
 ·by_cases h2:j=k
  ·subst h2;simp
  ·rw[if_neg (by omega),if_neg h1,if_neg h2]
theorem Pt{k m:Nat}(h:2 ^ (k+1) * m+2 ^ k<2 ^ 64):k<64:=by
 rcases eY k 64 with h1|h1
 ·exact h1
 ·have:=Nat.pow_le_pow_right (n:=2) (by decide) h1
  omega
theorem znG{k m:Nat}(h:2 ^ (k+1) * m+2 ^ k<2 ^ 64):(2 ^ (k+1) * m+2 ^ k) &&& (2 ^ 64 - (2 ^ (k+1) * m+2 ^ k))=2 ^ k:=by
 have hp:=WN k;apply Nat.eq_of_testBit_eq;intro j;have e:2 ^ 64 - (2 ^ (k+1) * m+2 ^ k)=2 ^ 64 - ((2 ^ (k+1) * m+2 ^ k - 1)+1):=by omega
 rw[Nat.testBit_and,e,Nat.testBit_two_pow_sub_succ (by omega),zgT,Tn,Ga]
 have:=Pt h
 by_cases h1:j<k
 ·simp[h1];omega
 ·by_cases h2:j=k
  ·subst h2;simp[this]
  ·have h3:decide (k=j)=false:=by simp;omega
   rw[h3];simp only[h1,h2,bD];cases m.testBit (j - (k+1))<;>simp
def wh(w:Nat):bO:=(List.range' 0 64).filter λj=>w.testBit j
theorem zgU{k:Nat}{p q:Nat->Bool}(hk:p k=true)(hq:∀j,q j=(p j && !(j == k))):∀(n s:Nat),s<=k->k<s+n->(∀j,s<=j->j<k->p j=false)->(List.range' s n).filter p=k::(List.range' s n).filter q
 | 0,s,h1,h2,_=>by omega
 | n+1,s,h1,h2,h3=>by
  rw[List.range'_succ]
  by_cases e:s=k
  ·subst e;have WO:q s=false:=by rw[hq];simp
   rw[List.filter_cons_of_pos hk,List.filter_cons_of_neg (by rw[WO];decide)]
   congr 1
   apply List.filter_congr;intro j hj;have:=List.mem_range'_1.1 hj;have cK:(j == s)=false:=by simp;omega
   rw[hq,cK];simp
  ·have hs:p s=false:=h3 s (dB _) (by omega)
   have WO:q s=false:=by rw[hq,hs];rfl
   rw[List.filter_cons_of_neg (by rw[hs];decide),List.filter_cons_of_neg (by rw[WO];decide)]
   exact zgU hk hq n (s+1) (by omega) (by omega) λj h4 h5=>h3 j (by omega) h5
theorem To{k m:Nat}(h:2 ^ (k+1) * m+2 ^ k<2 ^ 64):wh (2 ^ (k+1) * m+2 ^ k)=k::wh ((2 ^ (k+1) * m+2 ^ k) &&& (2 ^ (k+1) * m+2 ^ k - 1)):=by
 refine zgU (by simp[Tn]) (λj=>?_) 64 0 (by omega) (by have:=Pt h;omega) λj _ hj=>by simp[Tn,hj]
 rw[Nat.testBit_and,Tn,zgT]
 by_cases h1:j<k
 ·simp[h1]
 ·by_cases h2:j=k
  ·subst h2;simp
  ·simp[h1,h2]
theorem sM:wh 0=[]:=by simp[wh]
def Pu:List Int:=[0,1,56,2,57,49,28,3,61,58,42,50,38,29,17,4,62,47,59,36,45,43,51,22,53,39,33,30,24,18,12,5,63,55,48,27,60,41,37,16,46,35,44,21,52,32,23,11,54,26,40,15,34,20,31,10,25,14,19,9,13,8,7,6]
def A5:aG:=Pu.map (V.int .u8)
theorem Lo:∀k:Nat,k<64->nth A5 ((2 ^ k * 285870213051353865) % 2 ^ 64 / 2 ^ 58)=some (.int .u8 (k:Int)):=by
 have h:(List.range 64).all (λk:Nat=>match nth A5 ((2 ^ k * 285870213051353865) % 2 ^ 64 / 2 ^ 58) with|some (.int .u8 n)=>n == (k:Int)|_=>false)=true:=by decide +kernel
 intro k hk;have:=Dr.1 h k (Gd.2 hk);split at this<;>try (cases this;done)
 rename_i n e;rw[e];have:n=(k:Int):=by simpa using this
 rw[this]
variable{P:aY}{t:aD}{x y:a_}
theorem zlK{w:Nat}(h0:w≠0)(h:w<2 ^ 64):i_ .neg (.int .u64 (w:Int))=some (.int .u64 ((2 ^ 64 - w:Nat):Int)):=by
 simp only[i_]
 congr 2
 simp only[IntKind.wrap,IntKind.bits,IntKind.signed,Ec,gh,bD];omega
theorem Tp{a b:Nat}(ha:a<2 ^ 64)(hb:b<2 ^ 64):q0 P .and t x y (some (.int .u64 a)) (some (.int .u64 b))=some (.int .u64 ((a &&& b:Nat):Int)):=by
 have h0:((BitVec.ofInt 64 (a:Int) &&& BitVec.ofInt 64 (b:Int)).toNat)=a &&& b:=by
  rw[BitVec.toNat_and,Tm ha,Tm hb]
 have h:((BitVec.ofInt IntKind.u64.bits (a:Int) &&& BitVec.ofInt IntKind.u64.bits (b:Int)).toNat)=a &&& b:=h0;simp only[q0,jz,wX,j3,aI];rw[h,WK (Kl Nat.and_le_left ha)]
theorem zkr{a b:Nat}:q0 P .mul t x y (some (.int .u64 a)) (some (.int .u64 b))=some (.int .u64 ((a * b % 2 ^ 64:Nat):Int)):=by
 have h:IntKind.u64.wrap ((a:Int) * b)=((a * b % 2 ^ 64:Nat):Int):=by
  simp only[IntKind.wrap,IntKind.bits,IntKind.signed,Ec,gh,bD];rw[<- Int.natCast_mul];omega
 simp only[q0,jz,wX,j3,aI,h]
theorem zks{a:Nat}:q0 P .shr t x y (some (.int .u64 a)) (some (.int .u64 58))=some (.int .u64 ((a / 2 ^ 58:Nat):Int)):=by
 have h2:min (58:Int).toNat IntKind.u64.bits=58:=by decide
 have h3:(a:Int).fdiv (2 ^ 58)=((a / 2 ^ 58:Nat):Int):=by
  rw[Int.fdiv_eq_ediv_of_nonneg _ (show(0:Int)<=2 ^ 58 by decide)]
  omega
 simp only[q0,jz,wX,Kt,aI,show ¬((58:Int)<0) by decide,bD,h2,h3]
theorem zeM{w:Nat}(h0:w≠0)(h:w<2 ^ 64):q0 P .sub t x y (some (.int .u64 w)) (some (.int .u64 1))=some (.int .u64 ((w - 1:Nat):Int)):=by
 rw[kC]
 congr 2
 simp only[IntKind.wrap,IntKind.bits,IntKind.signed,Ec,gh,bD];omega
theorem znH{k:Nat}(hk:k<64):∃x ix:Nat,(∀(t:aD)(u v:a_),q0 P .mul t u v (some (.int .u64 ((2 ^ k:Nat):Int))) (some (.int .u64 285870213051353865))=some (.int .u64 (x:Int)))/\(∀(t:aD)(u v:a_),q0 P .shr t u v (some (.int .u64 (x:Int))) (some (.int .u64 58))=some (.int .u64 (ix:Int)))/\ix<64/\nth A5 ix=some (.int .u8 (k:Int)):=by
 refine⟨2 ^ k * 285870213051353865 % 2 ^ 64,2 ^ k * 285870213051353865 % 2 ^ 64 / 2 ^ 58,λt u v=>zkr,λt u v=>zks,?_,Lo k hk⟩;have:2 ^ k * 285870213051353865 % 2 ^ 64<2 ^ 64:=Nat.mod_lt _ (by decide)
 omega
theorem znI{k m:Nat}(h:2 ^ (k+1) * m+2 ^ k<2 ^ 64):∃w w':Nat,w=2 ^ (k+1) * m+2 ^ k/\w≠0/\i_ .neg (.int .u64 (w:Int))=some (.int .u64 (w':Int))/\(∀(t:aD)(u v:a_),q0 P .and t u v (some (.int .u64 (w:Int))) (some (.int .u64 (w':Int)))=some (.int .u64 ((2 ^ k:Nat):Int))):=by
 have hp:=WN k;refine⟨_,2 ^ 64 - (2 ^ (k+1) * m+2 ^ k),rfl,by omega,zlK (by omega) h,λt u v=>?_⟩
 rw[Tp h (by omega),znG h]
def Tq(p:Nat->Bool)(i:Nat):aG:=(wh (kN p i)).map λj=>.int .i64 ((64 * i+j:Nat):Int)
def xp(p:Nat->Bool):Nat->aG
 | 0=>[]
 | i+1=>xp p i++Tq p i
theorem WQ{w:Nat}:(wh w).length<=64:=by
 have:=List.length_filter_le (λj=>w.testBit j) (List.range' 0 64);simpa[wh] using this
theorem xq{p:Nat->Bool}:∀i,(xp p i).length<=64 * i
 | 0=>by simp[xp]
 | i+1=>by
  have:=xq (p:=p) i;have:=WQ (w:=kN p i);simp only[xp,Tq,aZ,iK];omega
def jl(p:Nat->Bool):Nat->bO
 | 0=>[]
 | i+1=>jl p i++(wh (kN p i)).map λj=>64 * i+j
theorem xF{p:Nat->Bool}:∀i,xp p i=(jl p i).map λk=>V.int .i64 ((k:Nat):Int)
 | 0=>rfl
 | i+1=>by simp only[xp,jl,Tq,xF i,List.map_append,List.map_map];rfl
theorem zjd{p:Nat->Bool}:∀i,jl p i=(List.range (64 * i)).filter p
 | 0=>rfl
 | i+1=>by
  have h1:wh (kN p i)=(List.range 64).filter λj=>p (64 * i+j):=by
   rw[wh,List.range_eq_range'];apply List.filter_congr;intro j hj;have:=List.mem_range'_1.1 hj;exact wL (by omega)
  rw[jl,zjd i,h1,Nat.mul_add,I5,List.range_add,List.filter_append,List.filter_map];rfl
theorem iz{p:Nat->Bool}{i k:Nat}:k∈jl p i ↔ k<64 * i/\p k=true:=by
 rw[zjd,List.mem_filter,Gd]
def mL(q:Nat->Bool):bO->List (Nat->Bool)->List (Nat->Bool)
 | [],ns=>ns
 | k::ks,ns=>mL q ks (ns.set k (jG (ns.getD k λ_=>false) q))
theorem wm{q:Nat->Bool}:∀{ks:bO}{ns:List (Nat->Bool)},(mL q ks ns).length=ns.length
 | [],_=>rfl
 | k::ks,ns=>by rw[mL,wm,bI]
theorem zgV{ns:List (Nat->Bool)}{k:Nat}(hk:k<ns.length):∃pre post,pre.length=k * 19/\(ns.map (pv 19)).flatten=pre++pv 19 (ns.getD k λ_=>false)++post/\∀r,((ns.set k r).map (pv 19)).flatten=pre++pv 19 r++post:=by
 induction ns generalizing k with
 | nil=>simp at hk
 | cons p ns ih =>
  cases k with
  | zero=>exact⟨[],(ns.map (pv 19)).flatten,rfl,by simp,λr=>by simp⟩
  | succ k =>
   obtain⟨pre,post,h1,h2,h3⟩:=ih (k:=k) (by simpa using hk)
   refine⟨pv 19 p++pre,post,?_,?_,λr=>?_⟩
   ·rw[aZ,jH,h1,Nat.succ_mul,I4]
   ·simp only[bk,List.flatten_cons,h2,bp,List.getD_cons_succ]
   ·simp only[bY,bk,List.flatten_cons,h3,bp]
end
section
def UL(H:Hp)(sz:Nat)(e:aD)(c:V)(i:Option Nat)(xs:List aG):Prop :=
 match i with
 | none=>c=.aH/\xs=[]
 | some j=>∃v,c=.dF j v xs.length/\H.get j=some (.ul v sz xs.flatten e)
structure sO(H H':Hp)(S:Nat->Prop):Prop where
 len:H.az.length<=H'.az.length
 get:∀d,d<H.az.length->¬S d->H'.get d=H.get d
theorem sO.refl{H:Hp}{S:Nat->Prop}:sO H H S:=⟨dB _,λ_ _ _=>rfl⟩
theorem sO.mono{A B:Hp}{S T:Nat->Prop}(h:sO A B S)(hs:∀d,d<A.az.length->S d->T d):sO A B T:=⟨h.len,λd hd hn=>h.get d hd λe=>hn (hs d hd e)⟩
theorem sO.some{A B:Hp}{S:Nat->Prop}(h:sO A B S){d:Nat}{x:bq}(hx:A.get d=some x)(hn:¬S d):B.get d=some x:=(h.get d (kK hx) hn).trans hx
theorem UL.frame{A B:Hp}{sz:Nat}{e:aD}{c:V}{i:Option Nat}{xs:List aG}(h:UL A sz e c i xs)(hg:∀j,i=some j->B.get j=A.get j):UL B sz e c i xs:=by
 cases i with
 | none=>exact h
 | some j=>obtain⟨v,h1,h2⟩:=h;exact⟨v,h1,(hg j rfl).trans h2⟩
theorem UL.lt{H:Hp}{sz:Nat}{e:aD}{c:V}{j:Nat}{xs:List aG}(h:UL H sz e c (some j) xs):j<H.az.length:=by
 obtain⟨v,_,h2⟩:=h;exact kK h2
theorem jh{n0 t:Nat}{es:aP}{H:Hp}{d:Nat}(hd:d<n0):(zX n0 es t H).get d=H.get d:=by
 unfold zX;obtain⟨bs,new⟩:=H;simp only;split
 ·simp only[Hp.get,zg,Ak,hd,aI]
 ·rfl
theorem v5{n0 t:Nat}{es:aP}{H:Hp}(h:n0<=H.az.length):n0<=(zX n0 es t H).az.length:=by
 unfold zX;obtain⟨bs,new⟩:=H;simp only;split
 ·simp only[uQ];simp only at h;omega
 ·exact h
theorem xG{n0 t b m:Nat}{es:aP}{H:Hp}(h:(b,m)∈H.bJ)(hb:b<n0)(hm:n0<m):∀d,(zX n0 es t H).get d=H.get d:=by
 unfold zX;obtain⟨bs,new⟩:=H;intro d;have hc:¬((Nat.ble t n0 && new.all λe=>Nat.ble n0 e.1 || Nat.ble e.2 n0)=true):=by
  intro hx;simp only[eF,Dr] at hx;have:=hx.2 _ h;simp only[tf] at this;rcases this with h1|h1<;>have:=rA h1<;>omega
 simp only[hc];rfl
theorem j9{n b:Nat}(h:n * b<=140737488355328)(h':n<=140737488355328):ku n b=true:=by
 simp[ku,Nat.ble_eq,h,h']
def WT(z:V):Bool:=dD z && z.cells.all λc=>!(locked c)
theorem zje{P:aY}{e n:Nat}(h:(qL P e).map (λz=>(z.cells.length,WT z))=some (n,true))(hn:n≠0/\n<=16777216):∃z,qL P e=some z/\(n≠0/\n<=16777216/\z.cells.length=n/\dD z=true)/\z.cells.all (λc=>!(locked c))=true:=by
 cases hz:qL P e with
 | none=>rw[hz] at h;cases h
 | some z =>
  rw[hz] at h;simp only[aW,bz,cq,WT,eF] at h;exact⟨z,rfl,⟨hn.1,hn.2,h.1,h.2.1⟩,h.2.2⟩
theorem wi{lk:aP}{b n off:Nat}{cs:aG}(h:cs.all (λc=>!(locked c))=true)(hl:off+n<=cs.length):wr lk b off n (cs.drop off)=true :=
 yx λi hi=>⟨cs[off+i]'(by omega),gG (by omega),by
  have:=Dr.1 h _ (List.getElem_mem (show off+i<cs.length by omega))
  simpa using this⟩
structure mY(P:aY)(t e n bytes:Nat):Prop where
 u:P.underlying t=some (.slice e)
 s:z4 P e=some n
 z:(qL P e).map (λz=>(z.cells.length,WT z))=some (n,true)
 n0:n≠0/\n<=16777216
 i:((P.info? e).bind λi=>i.zero.map λz=>(z.cells.size,i.bytes))=some (n,bytes)
 a:qG P t=some false
 st:z4 P t=some 1
theorem mY.BH{P:aY}{t e n Em:Nat}(h:mY P t e n Em){v:V}(h5:dD v=true)(h6:v.cells.length=n):Nt P t (some v)=some (.sl n [v] (.yes e)):=by
 obtain⟨z,h1,h2,_⟩:=zje h.z h.n0;exact znC h.u h.s h1 h2 h5 h6
theorem mY.app{P:aY}{t e n Em:Nat}(h:mY P t e n Em){env:aG}{H:Hp}{lk:aP}{df:bS}{ys:aG}{o:uj}{c:V}{i:Option Nat}{xs:List aG}(hy:ys≠[])(hu:UL H n e c i xs)(fJ:ku (xs.length+ys.length) Em=true) :
  Pm P t env H lk df (some (.sl n ys o)) (some c)=match i with
   | none=>some (.val (.dF H.az.length 0 ys.length),⟨env,H.push (.ul 0 n (cg ys) e),lk,df⟩)
   | some j=>match c with
    | .dF _ v _=>some (.val (.dF j (v+1) (xs.length+ys.length)),⟨env,(H.set j (.ul (v+1) n (xs.flatten++cg ys) e)).bU j (.bx ys),lk,df⟩)
    | _=>none:=by
 have hi:=h.i;cases uX:P.info? e with
 | none=>rw[uX] at hi;cases hi
 | some ti =>
  rw[uX] at hi;simp only[aV] at hi;cases hz:ti.zero with
  | none=>rw[hz] at hi;cases hi
  | some z =>
   rw[hz] at hi;simp only[aW,bz,cq] at hi;rw[znA h.u h.s uX hz hi.1 h.n0.1,hi.2];cases i with
   | none =>
    obtain⟨rfl,rfl⟩:=hu;cases ys with
    | nil=>exact absurd rfl hy
    | cons y ys=>simp at fJ;simp[fJ]
   | some j =>
    obtain⟨v,rfl,hj⟩:=hu;simp[hj,fJ]
theorem WU{P:aY}{t:aD}{env:aG}{H:Hp}{lk:aP}{df:bS}{b off:Nat}{cs:aG}{ty:aD}{c:V}(ha:qG P t=some false)(hb:H.get b=some (.cells cs ty))(hn:nth cs off=some c)(hc:c=.aH\/∃j v l,c=.dF j v l) :
  v4 P t env H lk df (some (.ptr b off))=some (.val c,⟨env,H,lk,df⟩):=by
 rcases hc with rfl|⟨j,v,l,rfl⟩<;>simp[v4,ha,hb,hn]
theorem we{H:Hp}{x:bq}:(H.push x).get H.az.length=some x:=by rw[wT,HT];simp
theorem Tr{bs:List bq}{es:aP}{x:bq}:(Hp.push ⟨bs,es⟩ x).get bs.length=some x:=we (H:=⟨bs,es⟩)
theorem jp{P:aY}{t:aD}{H:Hp}{gl:Nat->Nat->cj}{b n off:Nat}{cs:aG}{ty:aD}(ha:qG P t=some true)(hs:z4 P t=some n)(hb:H.get b=some (.cells cs ty))(hl:off+n<=cs.length):zk P H gl t (.ptr b off)=some (.agg ((cs.drop off).take n)):=by
 rw[jX,hb,jB,qy,ha,hs,S6,if_pos hl]
theorem zr{P:aY}{t:aD}{H:Hp}{gl:Nat->Nat->cj}{b off:Nat}{cs:aG}{ty:aD}{v:V}(ha:qG P t=some false)(hb:H.get b=some (.cells cs ty))(hn:nth cs off=some v):zk P H gl t (.ptr b off)=some v:=by
 rw[jX,hb,jB,qy,ha,S5,hn]
theorem zA{P:aY}{t n:aD}{H:Hp}{lk:aP}{df:bS}{b off:Nat}{v:V}{env:aG}{cs:aG}{ty:aD}(hs:z4 P t=some n)(hb:H.get b=some (.cells cs ty))(h1:dD v=true)(h2:v.laid.length=n)(h3:off+n<=cs.length)(h4:wr lk b off n (cs.drop off)=true) :
  qp P t H lk df (some (v,env)) (some (.ptr b off))=some (.skip,⟨env,(H.set b (.cells (Vm.storeCells cs off v.laid) ty)).bU b v,lk,df⟩):=by
 simp only[qp,hs,zeL hb h1 h2 h3 h4]
theorem qJ{env:aG}{t j v l:Nat}:jd env t (some (.dF j v l))=some (.dF j v l,env):=rfl
theorem jf{j v l:Nat}:bg (.dF j v l)=.dF j v l:=rfl
theorem zgW{H:Hp}{b:Nat}{v:V}(h:b+1<v.top):(b,v.top)∈(H.bU b v).bJ:=by
 unfold Hp.bU;rw[if_neg (by omega)]
 simp
theorem Ts{P:aY}{t e n b u len:Nat}{i:Int}(hu:P.underlying t=some (.slice e))(hs:z4 P e=some n)(h:0<=i/\i<len):zt P t (.dF b u len) i=some (.gk b u (i.toNat * n)):=by
 simp[zt,hu,hs,h]
theorem zgX{P:aY}{t:aD}{H:Hp}{gl:Nat->Nat->cj}{b u k n sz:Nat}{cs:aG}{e:aD}(ha:qG P t=some true)(hs:z4 P t=some n)(hb:H.get b=some (.ul u sz cs e))(hl:k+n<=cs.length):zk P H gl t (.gk b u k)=some (.agg ((cs.drop k).take n)):=by
 have:Nat.beq u u=true:=iV u;simp[zk,hb,qy,ha,hs,S6,hl]
theorem vr{n:Nat}:∀{xs:List aG},(∀y∈xs,y.length=n)->xs.flatten.length=xs.length * n
 | [],_=>by simp
 | x::xs,h=>by
  rw[List.flatten_cons,aZ,h x (fy ..),vr λy hy=>h y (eo _ hy),bh,Nat.succ_mul,I4]
theorem mY.zero{P:aY}{t e n Em:Nat}(h:mY P t e n Em):∃z,qL P e=some z/\dD z=true/\z.cells.length=n/\z.cells.all (λc=>!(locked c))=true:=by
 obtain⟨z,h1,h2,h3⟩:=zje h.z h.n0;exact⟨z,h1,h2.2.2.2,h2.2.2.1,h3⟩
theorem xr{P:aY}{H:Hp}{t e b u n:Nat}(hu:P.underlying t=some (.slice e)):qW P H t (.dF b u n)=some (n:Int):=by simp[qW,hu]
theorem zeN{P:aY}{H:Hp}{t e:Nat}(hu:P.underlying t=some (.slice e)):qW P H t .aH=some 0:=by simp[qW,hu]
theorem jU{a b c:Nat}:bg (.gk a b c)=.gk a b c:=rfl
theorem WV{i:Nat}:∀{xs ys:aG}{k:Nat},(Vm.storeCells ys k xs)[i]?=if k<=i/\i<k+xs.length/\i<ys.length then xs[i - k]? else ys[i]?
 | [],ys,k=>by simp[Vm.storeCells];omega
 | x::xs,ys,k=>by
  simp only[Vm.storeCells,WV (xs:=xs),bI,List.getElem?_set',bh]
  by_cases h1:i=k
  ·subst h1;have:¬(i+1<=i/\i<i+1+xs.length/\i<ys.length):=by omega
   rw[if_neg this,if_pos rfl]
   by_cases h2:i<ys.length
   ·rw[if_pos (by omega),gG h2];simp
   ·rw[if_neg (by omega),uf (by omega)];simp
  ·rw[if_neg (Ne.symm h1)]
   by_cases h2:k+1<=i/\i<k+1+xs.length/\i<ys.length
   ·rw[if_pos h2,if_pos (by omega),show i - k=(i - (k+1))+1 by omega,List.getElem?_cons_succ]
   ·rw[if_neg h2,if_neg (by omega)]
theorem wM{xs ys:aG}(h:ys.length=xs.length):Vm.storeCells ys 0 xs=xs:=by
 apply EI;intro i;rw[WV]
 by_cases hi:i<xs.length
 ·rw[if_pos (by omega)];simp
 ·rw[if_neg (by omega),uf (by rw[h];omega),uf (by omega)]
theorem qD{H:Hp}{b c:Nat}{x:bq}(h:c≠b):(H.set b x).get c=H.get c:=by
 rw[jC];cases H.get c<;>simp[h]
theorem wA{H:Hp}{b:Nat}{x y:bq}(h:H.get b=some y):(H.set b x).get b=some x:=by
 rw[jC,h];simp
theorem jI{H:Hp}{d:Nat}{x:bq}(h:d<H.az.length):(H.push x).get d=H.get d:=by
 have:H.get d=some (H.az[d]'h):=by simp[Hp.get,zg,h]
 rw[zM this,this]
theorem kg{H:Hp}{b c:Nat}{x:bq}{v:V}(h:c≠b):((H.set b x).bU b v).get c=H.get c:=by rw[bZ,qD h]
theorem gC{H:Hp}{b:Nat}{x y:bq}{v:V}(h:H.get b=some y):((H.set b x).bU b v).get b=some x:=by rw[bZ,wA h]
theorem Tt{H:Hp}{b:Nat}{x:bq}{v:V}:((H.set b x).bU b v).az.length=H.az.length:=by rw[xn,wl]
theorem za{l:aG}{i j:Nat}{v:V}:nth (l.set i v) j=if i=j then (if i<l.length then some v else none) else nth l j:=by
 rw[zg,zg,tc]
def xc(p q:Nat->Bool)(i:Nat):Nat->Bool:=λn=>p n || (decide (n / 64<i) && q n)
theorem zgY{p q:Nat->Bool}{i:Nat}:kN (xc p q i) i=kN p i:=by
 refine(yJ wd λj hj=>?_).symm;rw[wL hj];have:¬((64 * i+j) / 64<i):=by omega
 simp[xc,this]
theorem zgZ{p q:Nat->Bool}{m i:Nat}:(pv m (xc p q i)).set i (.int .u64 ((kN p i ||| kN q i:Nat):Int))=pv m (xc p q (i+1)):=by
 apply EI;intro k;rw[List.getElem?_set']
 by_cases hk:k<m
 ·rw[yK hk,yK hk]
  by_cases e:i=k
  ·subst e;simp only[aI,aW,Function.const,Option.map_eq_map]
   congr 3
   refine yJ (I2 wd wd) λj hj=>?_;rw[BR,wL hj,wL hj];have:(64 * i+j) / 64<i+1:=by omega
   simp[xc,this]
  ·rw[if_neg e]
   congr 3
   refine(yJ wd λj hj=>?_);rw[wL hj];have:((64 * k+j) / 64<i) ↔ ((64 * k+j) / 64<i+1):=by omega
   simp[xc,this]
 ·have h1:(pv m (xc p q i))[k]?=none:=by simp[pv];omega
  have h2:(pv m (xc p q (i+1)))[k]?=none:=by simp[pv];omega
  rw[h1,h2];simp
theorem zjf{p q:Nat->Bool}{m:Nat}:pv m (xc p q m)=pv m (jG p q):=by
 apply List.map_congr_left;intro i hi;have hi:=Gd.1 hi
 congr 2
 refine yJ wd λj hj=>?_;rw[wL hj];have:(64 * i+j) / 64<m:=by omega
 simp[xc,jG,this]
theorem zg0{p q:Nat->Bool}{m:Nat}:pv m (xc p q 0)=pv m p:=by
 apply List.map_congr_left;intro i hi
 congr 2
 refine yJ wd λj hj=>?_;rw[wL hj];simp[xc]
theorem jZ{α:Type}{l:List α}{d:Nat}{v:α}(h:nth l d=some v):l.set d v=l:=by
 rw[zg] at h;apply EI;intro t;rw[List.getElem?_set'];split
 next e=>subst e;rw[h];rfl
 ·rfl
theorem zeO{P:aY}{t:aD}{H:Hp}{gl:Nat->Nat->cj}{b u k sz:Nat}{cs:aG}{e:aD}{v:V}(ha:qG P t=some false)(hb:H.get b=some (.ul u sz cs e))(hn:nth cs k=some v):zk P H gl t (.gk b u k)=some v:=by
 have:Nat.beq u u=true:=iV u;simp[zk,hb,qy,ha,S5,hn]
theorem zkt{P:aY}{t n:aD}{H:Hp}{lk:aP}{df:bS}{b k u sz:Nat}{v:V}{env:aG}{cs:aG}{e:aD}(hs:z4 P t=some n)(hb:H.get b=some (.ul u sz cs e))(hv:bg v=v)(h1:dD v=true)(h2:v.cells.length=n)(h3:k+n<=cs.length) :
  qp P t H lk df (some (v,env)) (some (.gk b u k))=some (.skip,⟨env,(H.set b (.ul u sz (Vm.storeCells cs k v.cells) e)).bU b v,lk,df⟩):=by
 simp only[qp,hs,hb,hv,h1,h2,h3,and_self,aI]
def zm(n:Nat)(e:aD)(xs:aG):V:=match xs with|[]=>.aH|xs=>.sl n xs (.yes e)
theorem v6{env:aG}{t n:Nat}{e:aD}{xs:aG}(h:nth env t=some (zm n e xs)):take env (.tmp t)=some (zm n e xs,env.set t (bg (zm n e xs))):=by
 rw[zL,h];cases xs with
 | nil =>
  have h':nth env t=some .aH:=h;simp only[zm,jk,dr];rw[jZ h']
 | cons x xs=>rfl
theorem jM{P:aY}{t e n Em:Nat}(h:mY P t e n Em){H:Hp}{xs ys:aG}{o:uj}(hy:ys≠[])(fJ:ku (xs.length+ys.length) Em=true):kb P H t (zm n e xs) (.sl n ys o)=some (zm n e (xs++ys)):=by
 have hi:=h.i;cases uX:P.info? e with
 | none=>rw[uX] at hi;cases hi
 | some ti =>
  rw[uX] at hi;simp only[aV] at hi;cases hz:ti.zero with
  | none=>rw[hz] at hi;cases hi
  | some z =>
   rw[hz] at hi;simp only[aW,bz,cq] at hi;have AM:Nat.beq n 0=false:=by
    have:=h.n0.1;cases n with
    | zero=>exact absurd rfl this
    | succ n=>rfl
   obtain⟨y,ys,rfl⟩:∃y l,ys=y::l:=by
    cases ys with
    | nil=>exact absurd rfl hy
    | cons y l=>exact⟨y,l,rfl⟩
   simp only[kb,h.u,h.s,uX,hz,hi.1,wu,Option.bind_eq_bind,aV,iV,mw,gh,bD,aI];cases xs with
   | nil =>
    simp only[zm,bt];rw[hi.2,AM];simp only[List.length_nil,oh,bh] at fJ;simp[fJ]
   | cons x xs =>
    simp only[zm,br];rw[hi.2,AM];simp only[bh] at fJ;simp[fJ]
theorem WW{P:aY}{t:aD}{x y:a_}{a b:Nat}(h:a * b<2 ^ 60):q0 P .mul t x y (some (.int .i64 a)) (some (.int .i64 b))=some (.int .i64 ((a * b:Nat):Int)):=by
 rw[znz,<- Int.natCast_mul,kU (by omega) (by omega)]
theorem xu{P:aY}{t:aD}{x y:a_}{a b:Nat}(h:a+b<2 ^ 60):q0 P .add t x y (some (.int .i64 a)) (some (.int .i64 b))=some (.int .i64 ((a+b:Nat):Int)):=by
 rw[wa,<- Int.natCast_add,kU (by omega) (by omega)]
theorem WX{P:aY}{t:aD}{x y:a_}{a b:Nat}(h:a<2 ^ 60)(hb:b<=a):q0 P .sub t x y (some (.int .i64 a)) (some (.int .i64 b))=some (.int .i64 ((a - b:Nat):Int)):=by
 rw[kC,<- Int.natCast_sub hb,kU (by omega) (by omega)]
theorem Tu{P:aY}{H:Hp}{t e n:Nat}{xs:aG}(hu:P.underlying t=some (.slice e)):qW P H t (bg (zm n e xs))=some (xs.length:Int):=by
 cases xs with
 | nil=>simp[zm,bg,qW,hu]
 | cons x xs=>simp[zm,bg,qW,hu]
theorem zku{P:aY}{t e n k:Nat}{xs:aG}{x:V}(hu:P.underlying t=some (.slice e))(hs:z4 P e=some n)(hx:nth xs k=some x):zt P t (bg (zm n e xs)) (k:Int)=some (.vp x.cells):=by
 cases xs with
 | nil=>cases hx
 | cons y xs =>
  have:¬((k:Int)<0):=by omega
  simp[zm,bg,zt,hu,hs,this,hx]
theorem zlL{P:aY}{t:aD}{H:Hp}{gl:Nat->Nat->cj}{x:V}{cs:aG}(ha:qG P t=some false):zk P H gl t (.vp (x::cs))=some x:=by
 simp[zk,qy,ha,S5,nth]
theorem qU{n:Nat}{e:aD}{xs:aG}:bg (bg (zm n e xs))=bg (zm n e xs):=by cases xs<;>rfl
def oO(n:Nat)(xs:aG):V:=match xs with|[]=>.aH|xs=>.sl n xs .lock
def kD(b off:Nat)(xs:aG):aP:=match xs with|[]=>[]|_=>[(b,off)]
theorem Tw{P:aY}{t:aD}{env:aG}{H:Hp}{df:bS}{b off n:Nat}{e:aD}{xs cs:aG}{ty:aD}(ha:qG P t=some false)(hb:H.get b=some (.cells cs ty))(hn:nth cs off=some (zm n e xs)) :
  v4 P t env H [] df (some (.ptr b off))=some (.val (zm n e xs),⟨env,H.set b (.cells (cs.set off (oO n xs)) ty),kD b off xs,df⟩):=by
 cases xs with
 | nil =>
  simp only[v4,ha,hb,hn,zm,oO,kD];have h1:cs.set off .aH=cs:=jZ hn;have h2:H.set b (.cells cs ty)=H:=by
   obtain⟨bs,es⟩:=H;simp only[Hp.set];rw[jZ hb]
  rw[h1,h2]
 | cons x xs =>
  simp only[v4,ha,hb,hn,zm,oO,kD];rw[jV (by simp[V.top])]
theorem Pv{b off n:Nat}{xs cs:aG}(h:off<cs.length):wr (kD b off xs) b off 1 ((cs.set off (oO n xs)).drop off)=true:=by
 have h2:(cs.set off (oO n xs)).drop off=oO n xs::cs.drop (off+1):=by
  rw[F8 (by simpa using h)]
  simp[List.drop_set]
 rw[h2];cases xs<;>simp[wr,oO,kD,locked]
theorem znJ{b off d:Nat}{xs:aG}(h:d≠b):(kD b off xs).all (λp=>!(Nat.beq p.1 d))=true:=by
 cases xs with
 | nil=>rfl
 | cons x xs =>
  have:Nat.beq b d=false:=by
   cases hx:Nat.beq b d with
   | false=>rfl
   | true=>exact absurd (fo hx).symm h
  simp[kD,this]
theorem Pw{n:Nat}{e:aD}{xs:aG}:dD (zm n e xs)=true:=by cases xs<;>rfl
theorem vt{n:Nat}{e:aD}{xs:aG}:(zm n e xs).laid=[zm n e xs]:=by cases xs<;>rfl
theorem qn{P:aY}{t:aD}{x y:a_}{k:Nat}(h:k<2 ^ 60):q0 P .add t x y (some (.int .i64 k)) (some (.int .i64 1))=some (.int .i64 ((k+1:Nat):Int)):=by
 rw[wa,kU (by omega) (by omega)];simp
def zqx(env:aG)(t n:Nat)(e:aD)(xs:aG):Option (V×aG):=jd env t (some (zm n e xs))
open Classical in
theorem jN{env:aG}{t n:Nat}{e:aD}{xs:aG}:jd env t (some (zm n e xs))=if nth env t=some (zm n e xs) then some (zm n e xs,env.set t (bg (zm n e xs))) else zqx env t n e xs:=by
 split
 next h=>rw[<- h,<- zL];exact v6 h
 ·rfl
theorem jm{env:aG}{t n:Nat}{e:aD}{xs:aG}:jd env t (some (bg (zm n e xs)))=some (bg (zm n e xs),env):=by cases xs<;>rfl
def Tx(want:Bool)(env:aG):Option fz->Option Bool
 | some (some d)=>HS want (nth env d)
 | _=>none
theorem qd{l:List Oper}{dst:fz}{op:Op}{type:aD}{pos:String}{after:Array Edge}{j:Nat}{want:Bool}{env:aG}:zZ l.toArray ⟨dst,op,type,pos,after,some (j,want)⟩ env=Tx want env ((nth l j).map (·.dst)):=by
 have hj:l.toArray[j]?=nth l j:=by rw[zg,List.getElem?_toArray]
 cases hd:nth l j with
 | none =>
  unfold zZ;simp only[hj,hd];rfl
 | some o =>
  cases ho:o.dst with
  | none =>
   unfold zZ;simp only[hj,hd,aV,ho];simp only[aW,ho,Tx]
  | some d =>
   rw[zki (d:=d) (by rw[hj,hd];exact ho)]
   simp only[aW,ho,Tx]
theorem jr{want:Bool}{env:aG}{d:Tmp}:Tx want env (some (some d))=HS want (nth env d):=rfl
theorem cE:HS true (some (.bool true))=some true:=rfl
theorem cG:HS true (some (.bool false))=some false:=rfl
theorem cH:HS false (some (.bool true))=some false:=rfl
theorem cI:HS false (some (.bool false))=some true:=rfl
theorem wB{a b:Prop}:GC a b (some true) ↔ a:=Iff.rfl
theorem wC{a b:Prop}:GC a b (some false) ↔ b:=Iff.rfl
theorem kE{a b:cj}:Wq a b (some (.bool true))=a:=rfl
theorem kF{a b:cj}:Wq a b (some (.bool false))=b:=rfl
theorem zc{B:List bq}{x:bq}{es:aP}:Hp.push ⟨B,es⟩ x=⟨B++[x],es⟩:=rfl
theorem zb{B ls:List bq}{x:bq}{es:aP}:Hp.push ⟨B++ls,es⟩ x=⟨B++(ls++[x]),es⟩:=by simp[Hp.push]
theorem zg1{env:aG}{t b o l c:Nat}:jd env t (some (.sr b o l c))=some (.sr b o l c,env):=rfl
end
end Go.Vm
namespace Go.Vm.Sx
open Go Go.Vm
def vL:V->aG|.sl _ xs _=>xs|_=>[]
section
def dV(x y:Int):Bool:=decide (x<y)
def nQ(x y:Int):Bool:=decide (x<=y)
theorem Px{x y:Int}(h:x<y):dV x y=true:=decide_eq_true h
theorem WY{x y:Int}(h:y<=x):dV x y=false:=decide_eq_false (by omega)
theorem Py{x y:Int}:dV x y=true ↔ x<y:=decide_eq_true_iff
end
section
def lv(sz:Nat)(nl:Bool)(l:aG):V:=if nl && l.isEmpty then .aH else .sl sz l .no
theorem cO(sz:Nat)(nl:Bool)(l:aG):lv sz nl l=.sl sz l .no\/(l=[]/\lv sz nl l=.aH):=by
 unfold lv;split
 next h=>rw[eF] at h;exact .inr ⟨by simpa using h.2,rfl⟩
 ·exact .inl rfl
theorem Ty{sz:Nat}{nl:Bool}{l:aG}:bg (lv sz nl l)=lv sz nl l:=by
 rcases cO sz nl l with h|⟨_,h⟩<;>rw[h]<;>rfl
theorem Jv{sz:Nat}{nl:Bool}{l:aG}:(lv sz nl l).top=aL l:=by
 rcases cO sz nl l with h|⟨hl,h⟩<;>rw[h]
 ·rfl
 ·rw[hl];rfl
theorem zpU(sz:Nat)(nl:Bool)(l:aG):vL (lv sz nl l)=l:=by
 rcases cO sz nl l with h|⟨h0,h⟩<;>rw[h]
 ·simp[vL]
 ·rw[h0];simp[vL]
theorem Jw{x:Int}(h1:-9223372036854775808<=x)(h2:x<=9223372036854775807):IntKind.i64.wrap x=x:=by
 simp only[IntKind.wrap,IntKind.bits,IntKind.signed];simp;omega
def wN(ok:Nat->Bool):Nat->Bool
 | 0=>true
 | n+1=>wN ok n && ok n
theorem cU{ok:Nat->Bool}:∀{n:Nat},wN ok n=true ↔ ∀i,i<n->ok i=true
 | 0=>by simp[wN]
 | n+1=>by
  rw[wN,eF,cU];refine⟨λ⟨h1,h2⟩ i hi=>?_,λh=>⟨λi hi=>h i (by omega),h n (by omega)⟩⟩
  rcases eY i n with h|h
  ·exact h1 i h
  ·have:i=n:=by omega
   subst this;exact h2
end
end Go.Vm.Sx
namespace Go.Vm
open Go
theorem aJ{a b:Prop}(x:a)(y:b):a/\b:=⟨x,y⟩
theorem BA:type_of% (aJ @qt (aJ @aK (aJ @jY (aJ @bu (aJ @zi (aJ @bH (aJ @qE (aJ @zx (aJ @zJ (aJ @jD (aJ @jx (aJ @qr (aJ @jE (aJ @jv (aJ @wz (aJ @qQ (aJ @zV (aJ @zW (aJ @kO (aJ @kY (aJ @ko (aJ @z6 (aJ @zG (aJ @zB (aJ @zU (aJ @kx (aJ @kf (aJ @jS (aJ @ne_eq.{1} (aJ @not_false_eq_true (aJ @av.eq_1 (aJ @av.eq_2 (aJ @ql (aJ @ak.eq_1 (aJ @ak.eq_2 (aJ @ak.eq_3 (aJ @ak.eq_4 (aJ @zL (aJ @qI (aJ @aj.eq_1 (aJ @aj.eq_2 (aJ @aj.eq_3 (aJ @aj.eq_4 (aJ @aj.eq_5 (aJ @aj.eq_6 (aJ @aj.eq_7 (aJ @aj.eq_8 (aJ @aj.eq_9 (aJ @aj.eq_10 (aJ @aj.eq_11 (aJ @aj.eq_12 (aJ @qo (aJ @jt (aJ @qZ (aJ @jK (aJ @qJ (aJ @jk (aJ @kn (aJ @jN (aJ @jm (aJ @zq (aJ @z8 (aJ @aN (aJ @bB (aJ @aq.eq_1 (aJ @aq.eq_2 (aJ @zS (aJ @qR (aJ @kP (aJ @je (aJ @qj (aJ @jf (aJ @jU (aJ @wR (aJ @dr (aJ @wb (aJ @qU (aJ @Option.bind_some.{0,0} (aJ @Option.map_some.{0,0} (aJ @aa.eq_1 (aJ @aa.eq_2 (aJ @aa.eq_3 (aJ @aa.eq_4 (aJ @aa.eq_5 (aJ @aa.eq_6 (aJ @aa.eq_7 (aJ @aa.eq_8 (aJ @zT (aJ @ah.eq_1 (aJ @ah.eq_2 (aJ @ah.eq_3 (aJ @ah.eq_4 (aJ @ah.eq_5 (aJ @aF.eq_1 (aJ @aF.eq_2 (aJ @qP (aJ @aC.eq_1 (aJ @aC.eq_2 (aJ @List.map_cons.{0,0} (aJ @List.map_nil.{0,0} (aJ @true_and (aJ @List.length_append.{0} (aJ @List.length_cons.{0} (aJ @List.length_nil.{0} (aJ @Nat.zero_add (aJ @Nat.add_zero (aJ @Nat.add_assoc (aJ @List.append_assoc.{0} (aJ @List.cons_append.{0} (aJ @List.nil_append.{0} (aJ @qT (aJ @qK (aJ @au.eq_1 (aJ @aI.{1} (aJ @kE (@kF)))))))))))))))))))))))))))))))))))))))))))))))))))))))))))))))))))))))))))))))))))))))))))))))))))))))))))))))))))):=⟨@qt,@aK,@jY,@bu,@zi,@bH,@qE,@zx,@zJ,@jD,@jx,@qr,@jE,@jv,@wz,@qQ,@zV,@zW,@kO,@kY,@ko,@z6,@zG,@zB,@zU,@kx,@kf,@jS,@ne_eq.{1},@not_false_eq_true,@av.eq_1,@av.eq_2,@ql,@ak.eq_1,@ak.eq_2,@ak.eq_3,@ak.eq_4,@zL,@qI,@aj.eq_1,@aj.eq_2,@aj.eq_3,@aj.eq_4,@aj.eq_5,@aj.eq_6,@aj.eq_7,@aj.eq_8,@aj.eq_9,@aj.eq_10,@aj.eq_11,@aj.eq_12,@qo,@jt,@qZ,@jK,@qJ,@jk,@kn,@jN,@jm,@zq,@z8,@aN,@bB,@aq.eq_1,@aq.eq_2,@zS,@qR,@kP,@je,@qj,@jf,@jU,@wR,@dr,@wb,@qU,@Option.bind_some.{0,0},@Option.map_some.{0,0},@aa.eq_1,@aa.eq_2,@aa.eq_3,@aa.eq_4,@aa.eq_5,@aa.eq_6,@aa.eq_7,@aa.eq_8,@zT,@ah.eq_1,@ah.eq_2,@ah.eq_3,@ah.eq_4,@ah.eq_5,@aF.eq_1,@aF.eq_2,@qP,@aC.eq_1,@aC.eq_2,@List.map_cons.{0,0},@List.map_nil.{0,0},@true_and,@List.length_append.{0},@List.length_cons.{0},@List.length_nil.{0},@Nat.zero_add,@Nat.add_zero,@Nat.add_assoc,@List.append_assoc.{0},@List.cons_append.{0},@List.nil_append.{0},@qT,@qK,@au.eq_1,@aI.{1},@kE,@kF⟩
section
section
variable{cx:Cx}{n:Nat}{Q:Ex->St->Prop}{all:Array Oper}{takes:cw}{os:List Oper}{k:List It}{env:aG}{H:Hp}{lk:aP}{df:bS}{dst:fz}{op:Op}{type:aD}{pos:String}{after:Array Edge}{g:Nat×Bool}
theorem osT(hw:zZ all ⟨dst,op,type,pos,after,some g⟩ env=some true):go cx n Q (.os all takes (⟨dst,op,type,pos,after,some g⟩::os)::k) .normal ⟨env,H,lk,df⟩ ↔ E4 dst (λs=>go cx n Q (.os all takes os::k) .normal s) (go cx n Q k) (cx.op takes ⟨dst,op,type,pos,after,some g⟩ env H lk df):=by
 rw[j4,hw];rfl
theorem osF(hw:zZ all ⟨dst,op,type,pos,after,some g⟩ env=some false):go cx n Q (.os all takes (⟨dst,op,type,pos,after,some g⟩::os)::k) .normal ⟨env,H,lk,df⟩ ↔ go cx n Q (.os all takes os::k) .normal ⟨aq env dst (.bx []),H,lk,df⟩:=by
 rw[j4,hw];rfl
theorem onT(hw:zZ all ⟨dst,op,type,pos,after,some g⟩ env=some true):go cx n Q (.on all takes (⟨dst,op,type,pos,after,some g⟩::os)::k) .normal ⟨env,H,lk,df⟩ ↔ (au cx ⟨dst,op,type,pos,after,some g⟩ env lk=true/\E4 dst (λs=>go cx n Q (.on all takes os::k) .normal s) (λ_ _=>False) (cx.op takes ⟨dst,op,type,pos,after,some g⟩ env H lk df)):=by
 rw[j5,hw];rfl
theorem onF(hw:zZ all ⟨dst,op,type,pos,after,some g⟩ env=some false):go cx n Q (.on all takes (⟨dst,op,type,pos,after,some g⟩::os)::k) .normal ⟨env,H,lk,df⟩ ↔ go cx n Q (.on all takes os::k) .normal ⟨aq env dst (.bx []),H,lk,df⟩:=by
 rw[j5,hw];rfl
end
theorem zjh{w:Bool}{l:aG}:HS w (some (.bx l))=some false:=rfl
theorem BW:type_of% (And.intro @qt (And.intro @aK (And.intro @jY (And.intro @bu (And.intro @zi (And.intro @bH (And.intro @qE (And.intro @zx (And.intro @zJ (And.intro @jD (And.intro @jx (And.intro @qr (And.intro @jE (And.intro @jv (And.intro @wz (And.intro @qQ (And.intro @zV (And.intro @zW (And.intro @kO (And.intro @kY (And.intro @ko (And.intro @z6 (And.intro @zG (And.intro @zB (And.intro @zU (And.intro @kx (And.intro @kf (And.intro @jS (And.intro @ne_eq.{1} (And.intro @not_false_eq_true (And.intro @av.eq_1 (And.intro @av.eq_2 (And.intro @ql (And.intro @ak.eq_1 (And.intro @ak.eq_2 (And.intro @ak.eq_3 (And.intro @ak.eq_4 (And.intro @zL (And.intro @qI (And.intro @aj.eq_1 (And.intro @aj.eq_2 (And.intro @aj.eq_3 (And.intro @aj.eq_4 (And.intro @aj.eq_5 (And.intro @aj.eq_6 (And.intro @aj.eq_7 (And.intro @aj.eq_8 (And.intro @aj.eq_9 (And.intro @aj.eq_10 (And.intro @aj.eq_11 (And.intro @aj.eq_12 (And.intro @qo (And.intro @jt (And.intro @qZ (And.intro @jK (And.intro @qJ (And.intro @jk (And.intro @kn (And.intro @jN (And.intro @jm (And.intro @zq (And.intro @z8 (And.intro @aN (And.intro @bB (And.intro @aq.eq_1 (And.intro @aq.eq_2 (And.intro @zS (And.intro @qR (And.intro @kP (And.intro @je (And.intro @qj (And.intro @jf (And.intro @jU (And.intro @wR (And.intro @dr (And.intro @wb (And.intro @qU (And.intro @Option.bind_some.{0,0} (And.intro @Option.map_some.{0,0} (And.intro @aa.eq_1 (And.intro @aa.eq_2 (And.intro @aa.eq_3 (And.intro @aa.eq_4 (And.intro @aa.eq_5 (And.intro @aa.eq_6 (And.intro @aa.eq_7 (And.intro @aa.eq_8 (And.intro @zT (And.intro @ah.eq_1 (And.intro @ah.eq_2 (And.intro @ah.eq_3 (And.intro @ah.eq_4 (And.intro @ah.eq_5 (And.intro @aF.eq_1 (And.intro @aF.eq_2 (And.intro @qP (And.intro @aC.eq_1 (And.intro @aC.eq_2 (And.intro @List.map_cons.{0,0} (And.intro @List.map_nil.{0,0} (And.intro @true_and (And.intro @List.length_append.{0} (And.intro @List.length_cons.{0} (And.intro @List.length_nil.{0} (And.intro @Nat.zero_add (And.intro @Nat.add_zero (And.intro @Nat.add_assoc (And.intro @List.append_assoc.{0} (And.intro @List.cons_append.{0} (And.intro @List.nil_append.{0} (And.intro @qT (And.intro @au.eq_1 (And.intro @aI.{1} (And.intro @kE (And.intro @kF (And.intro @zc (And.intro @zb (And.intro @zd (And.intro @ze (And.intro @List.set_cons_zero.{0} (And.intro @List.set_cons_succ.{0} (And.intro @za (And.intro @List.length_set.{0} (And.intro @bD.{1} (And.intro @Bool.false_eq_true (And.intro @osT (And.intro @onT (And.intro @qd (And.intro @jr (And.intro @cE (And.intro @cG (And.intro @cH (And.intro @cI (And.intro @osF (And.intro @onF (And.intro @Bool.not_false (And.intro @Bool.not_true (And.intro @qk (And.intro @zN (And.intro @wg (And.intro @go_ret (And.intro @wj (And.intro @zD (And.intro @zp (And.intro @zjh (And.intro @jF (And.intro @l8 (And.intro @bN (And.intro @aO (And.intro @Nat.beq_refl (And.intro @gz (And.intro @kZ (And.intro @qV (And.intro @wW (And.intro @No (And.intro @S8 (And.intro @wJ (And.intro @Pk (And.intro @decide_true (And.intro @decide_false (And.intro @zi8 @zi9))))))))))))))))))))))))))))))))))))))))))))))))))))))))))))))))))))))))))))))))))))))))))))))))))))))))))))))))))))))))))))))))))))))))))))))))))))))))))))))))):=(And.intro @qt (And.intro @aK (And.intro @jY (And.intro @bu (And.intro @zi (And.intro @bH (And.intro @qE (And.intro @zx (And.intro @zJ (And.intro @jD (And.intro @jx (And.intro @qr (And.intro @jE (And.intro @jv (And.intro @wz (And.intro @qQ (And.intro @zV (And.intro @zW (And.intro @kO (And.intro @kY (And.intro @ko (And.intro @z6 (And.intro @zG (And.intro @zB (And.intro @zU (And.intro @kx (And.intro @kf (And.intro @jS (And.intro @ne_eq.{1} (And.intro @not_false_eq_true (And.intro @av.eq_1 (And.intro @av.eq_2 (And.intro @ql (And.intro @ak.eq_1 (And.intro @ak.eq_2 (And.intro @ak.eq_3 (And.intro @ak.eq_4 (And.intro @zL (And.intro @qI (And.intro @aj.eq_1 (And.intro @aj.eq_2 (And.intro @aj.eq_3 (And.intro @aj.eq_4 (And.intro @aj.eq_5 (And.intro @aj.eq_6 (And.intro @aj.eq_7 (And.intro @aj.eq_8 (And.intro @aj.eq_9 (And.intro @aj.eq_10 (And.intro @aj.eq_11 (And.intro @aj.eq_12 (And.intro @qo (And.intro @jt (And.intro @qZ (And.intro @jK (And.intro @qJ (And.intro @jk (And.intro @kn (And.intro @jN (And.intro @jm (And.intro @zq (And.intro @z8 (And.intro @aN (And.intro @bB (And.intro @aq.eq_1 (And.intro @aq.eq_2 (And.intro @zS (And.intro @qR (And.intro @kP (And.intro @je (And.intro @qj (And.intro @jf (And.intro @jU (And.intro @wR (And.intro @dr (And.intro @wb (And.intro @qU (And.intro @Option.bind_some.{0,0} (And.intro @Option.map_some.{0,0} (And.intro @aa.eq_1 (And.intro @aa.eq_2 (And.intro @aa.eq_3 (And.intro @aa.eq_4 (And.intro @aa.eq_5 (And.intro @aa.eq_6 (And.intro @aa.eq_7 (And.intro @aa.eq_8 (And.intro @zT (And.intro @ah.eq_1 (And.intro @ah.eq_2 (And.intro @ah.eq_3 (And.intro @ah.eq_4 (And.intro @ah.eq_5 (And.intro @aF.eq_1 (And.intro @aF.eq_2 (And.intro @qP (And.intro @aC.eq_1 (And.intro @aC.eq_2 (And.intro @List.map_cons.{0,0} (And.intro @List.map_nil.{0,0} (And.intro @true_and (And.intro @List.length_append.{0} (And.intro @List.length_cons.{0} (And.intro @List.length_nil.{0} (And.intro @Nat.zero_add (And.intro @Nat.add_zero (And.intro @Nat.add_assoc (And.intro @List.append_assoc.{0} (And.intro @List.cons_append.{0} (And.intro @List.nil_append.{0} (And.intro @qT (And.intro @au.eq_1 (And.intro @aI.{1} (And.intro @kE (And.intro @kF (And.intro @zc (And.intro @zb (And.intro @zd (And.intro @ze (And.intro @List.set_cons_zero.{0} (And.intro @List.set_cons_succ.{0} (And.intro @za (And.intro @List.length_set.{0} (And.intro @bD.{1} (And.intro @Bool.false_eq_true (And.intro @osT (And.intro @onT (And.intro @qd (And.intro @jr (And.intro @cE (And.intro @cG (And.intro @cH (And.intro @cI (And.intro @osF (And.intro @onF (And.intro @Bool.not_false (And.intro @Bool.not_true (And.intro @qk (And.intro @zN (And.intro @wg (And.intro @go_ret (And.intro @wj (And.intro @zD (And.intro @zp (And.intro @zjh (And.intro @jF (And.intro @l8 (And.intro @bN (And.intro @aO (And.intro @Nat.beq_refl (And.intro @gz (And.intro @kZ (And.intro @qV (And.intro @wW (And.intro @No (And.intro @S8 (And.intro @wJ (And.intro @Pk (And.intro @decide_true (And.intro @decide_false (And.intro @zi8 @zi9)))))))))))))))))))))))))))))))))))))))))))))))))))))))))))))))))))))))))))))))))))))))))))))))))))))))))))))))))))))))))))))))))))))))))))))))))))))))))))))))))
end
section
def o6(p i:Nat):Nat:=p / 2 ^ (8 * i) % 256
theorem vH{p i:Nat}:o6 p i<256:=Nat.mod_lt _ (by decide)
theorem wU{p i j:Nat}(h:j<8):(o6 p i).testBit j=p.testBit (8 * i+j):=by
 have e:(256:Nat)=2 ^ 8:=rfl;rw[o6,e,Nat.testBit_mod_two_pow,Nat.testBit_div_two_pow,decide_eq_true h,sw,I4]
theorem Pz{m p i:Nat}(hm:m<256)(h:∀j,j<8->m.testBit j=p.testBit (8 * i+j)):m=o6 p i:=by
 apply Nat.eq_of_testBit_eq;intro j
 by_cases hj:j<8
 ·rw[h j hj,wU hj]
 ·have h1:2 ^ 8<=2 ^ j:=Nat.pow_le_pow_right (by decide) (by omega)
  have h2:o6 p i<256:=vH;rw[Nat.testBit_lt_two_pow (by omega),Nat.testBit_lt_two_pow (by omega)]
theorem WZ{a b:Nat}(ha:a<256)(hb:b<256):a ||| b<256:=I2 (n:=8) ha hb
theorem zpe{p q i:Nat}:o6 p i ||| o6 q i=o6 (p ||| q) i :=
 Pz (WZ vH vH) λj hj=>by rw[BR,BR,wU hj,wU hj]
theorem W0{k:Nat}(h:k<8):2 ^ k<256:=G2 (n:=8) (by decide) h
theorem znK{p n:Nat}:o6 p (n / 8) ||| 2 ^ (n % 8)=o6 (p ||| 2 ^ n) (n / 8) :=
 Pz (WZ vH (W0 (Nat.mod_lt _ (by decide)))) λj hj=>by
  rw[BR,BR,wU hj,Ga,Ga]
  congr 1
  rw[EK];simp only[decide_eq_true_eq];omega
theorem zh9{p n i:Nat}(h:i≠n / 8):o6 (p ||| 2 ^ n) i=o6 p i :=
 (Pz vH λj hj=>by
  rw[wU hj,BR,Ga];have:¬(n=8 * i+j):=λe=>h (by omega)
  simp[this]).symm
def rm(m p:Nat):bO:=(List.range m).map (o6 p)
def dL(m p:Nat):aG:=(rm m p).map λb=>.int .u8 (b:Nat)
theorem znL{m p:Nat}:(rm m p).length=m:=by simp[rm]
theorem yY{m p:Nat}:(dL m p).length=m:=by simp[dL,znL]
theorem vO{m p i:Nat}(h:i<m):(dL m p)[i]?=some (.int .u8 (o6 p i:Nat)):=by simp[dL,rm,h]
theorem W1{m:Nat}{l:aG}{p:Nat}(hl:l.length=m)(h:∀i,i<m->l[i]?=some (.int .u8 (o6 p i:Nat))):l=dL m p:=by
 apply EI;intro i
 by_cases hi:i<m
 ·rw[h i hi,vO hi]
 ·rw[uf (by omega),uf (by rw[yY];omega)]
theorem znM{m p n:Nat}:(dL m p).set (n / 8) (.int .u8 (o6 (p ||| 2 ^ n) (n / 8):Nat))=dL m (p ||| 2 ^ n):=by
 refine W1 (by rw[bI,yY]) λi hi=>?_
 rw[List.getElem?_set']
 by_cases e:n / 8=i
 ·subst e;simp[vO hi]
 ·simp[e,vO hi,zh9 (Ne.symm e)]
theorem zlN{m:Nat}:dL m 0=List.replicate m (.int .u8 0):=by
 refine(W1 (by simp) λi hi=>?_).symm
 simp[o6,hi]
theorem zpf{m p:Nat}:∀b∈rm m p,b<256:=λb hb=>by
 obtain⟨i,_,rfl⟩:=mU.1 hb;exact vH
theorem znN{m p q:Nat}(hp:p<2 ^ (8 * m))(hq:q<2 ^ (8 * m))(h:rm m p=rm m q):p=q:=by
 apply Nat.eq_of_testBit_eq;intro j
 by_cases hj:j<8 * m
 ·have hi:j / 8<m:=by omega
  have e:(rm m p)[j / 8]?=(rm m q)[j / 8]?:=by rw[h]
  simp only[rm,mu,Kj hi,aW,bz] at e;have h1:=wU (p:=p) (i:=j / 8) (j:=j % 8) (Nat.mod_lt _ (by decide))
  have h2:=wU (p:=q) (i:=j / 8) (j:=j % 8) (Nat.mod_lt _ (by decide))
  rw[show 8 * (j / 8)+j % 8=j by omega] at h1 h2
  rw[<- h1,<- h2,e]
 ·have hx:=Nat.pow_le_pow_right (n:=2) (by decide) (show 8 * m<=j by omega)
  rw[Nat.testBit_lt_two_pow (by omega),Nat.testBit_lt_two_pow (by omega)]
theorem A6:∀{a b:bO},ot a b=true ↔ a=b
 | [],[]=>by simp[ot]
 | [],_::_=>by simp[ot]
 | _::_,[]=>by simp[ot]
 | x::a,y::b=>by
  simp only[ot,eF,A6 (a:=a),List.cons.injEq,Nat.beq_eq]
theorem zji{m p q:Nat}(hp:p<2 ^ (8 * m))(hq:q<2 ^ (8 * m)):ot (rm m p) (rm m q)=(p == q):=by
 rw[EK,A6,beq_iff_eq];exact⟨znN hp hq,λh=>by rw[h]⟩
def xO(w:Nat):bO:=(List.range 8).filter λj=>w.testBit j
def A7(w:Nat):Nat:=(xO w).headD 8
theorem Ci:∀w:Nat,w<256->w≠0->xO w=A7 w::xO (w &&& (w - 1))/\w &&& (w - 1)<w:=by
 have h:(List.range 256).all (λw:Nat=>w == 0 || (xO w == A7 w::xO (w &&& (w - 1)) && decide (w &&& (w - 1)<w)))=true:=by decide +kernel
 intro w hw h0;have:=Dr.1 h w (Gd.2 hw);simp only[tf,beq_iff_eq,eF,decide_eq_true_eq] at this;rcases this with h|h
 ·exact absurd h h0
 ·exact h
theorem Cj:xO 0=[]:=by decide
def wD(m p:Nat):bO:=(List.range (8 * m)).filter λj=>p.testBit j
def Nv(p:Nat):Nat->bO
 | 0=>[]
 | i+1=>Nv p i++(xO (o6 p i)).map (8 * i + ·)
theorem zjj(p:Nat):∀m,Nv p m=wD m p
 | 0=>rfl
 | m+1=>by
  have h:List.range (8 * (m+1))=List.range (8 * m)++(List.range 8).map (8 * m + ·):=by
   rw[show 8 * (m+1)=8 * m+8 by omega,List.range_add]
  rw[Nv,zjj p m,wD,wD,h,List.filter_append,List.filter_map]
  congr 2
  apply List.filter_congr;intro j hj;have hj:=Gd.1 hj;simp only[Function.comp_apply];rw[wU hj]
variable{P:aY}{t:aD}{x y:a_}
theorem PA{n:Nat}(h:n<256):IntKind.u8.wrap (n:Int)=n:=by
 simp only[IntKind.wrap,IntKind.bits,IntKind.signed];simp only[Ec,gh,bD];omega
theorem xH{n:Nat}(h:n<256):(BitVec.ofInt 8 (n:Int)).toNat=n:=by
 simp[];omega
theorem zjk{a b:Nat}(ha:a<256)(hb:b<256):q0 P .or t x y (some (.int .u8 a)) (some (.int .u8 b))=some (.int .u8 ((a ||| b:Nat):Int)):=by
 have h0:((BitVec.ofInt 8 (a:Int) ||| BitVec.ofInt 8 (b:Int)).toNat)=a ||| b:=by
  rw[BitVec.toNat_or,xH ha,xH hb]
 have h:((BitVec.ofInt IntKind.u8.bits (a:Int) ||| BitVec.ofInt IntKind.u8.bits (b:Int)).toNat)=a ||| b:=h0
 simp only[q0,jz,wX,j3,aI];rw[h,PA (WZ ha hb)]
theorem zlO{a b:Nat}(ha:a<256)(hb:b<256):q0 P .and t x y (some (.int .u8 a)) (some (.int .u8 b))=some (.int .u8 ((a &&& b:Nat):Int)):=by
 have h0:((BitVec.ofInt 8 (a:Int) &&& BitVec.ofInt 8 (b:Int)).toNat)=a &&& b:=by
  rw[BitVec.toNat_and,xH ha,xH hb]
 have h:((BitVec.ofInt IntKind.u8.bits (a:Int) &&& BitVec.ofInt IntKind.u8.bits (b:Int)).toNat)=a &&& b:=h0;simp only[q0,jz,wX,j3,aI];rw[h,PA (Kl Nat.and_le_left ha)]
theorem zlP{w:Nat}(h0:w≠0)(h:w<256):q0 P .sub t x y (some (.int .u8 w)) (some (.int .u8 1))=some (.int .u8 ((w - 1:Nat):Int)):=by
 rw[kC]
 congr 2
 simp only[IntKind.wrap,IntKind.bits,IntKind.signed,Ec,gh,bD];omega
theorem zg3{k:Nat}(hk:k<2 ^ 60):q0 P .quo t x y (some (.int .i64 k)) (some (.int .i64 8))=some (.int .i64 ((k / 8:Nat):Int)):=by
 have h:(k:Int).tdiv 8=((k / 8:Nat):Int):=by
  rw[Int.tdiv_eq_ediv_of_nonneg (by omega)];omega
 simp only[q0,jz,wX,j3,aI];rw[h,kU (by omega) (by omega)]
 rfl
theorem zlQ{k:Nat}:q0 P .rem t x y (some (.int .i64 k)) (some (.int .i64 8))=some (.int .i64 ((k % 8:Nat):Int)):=by
 have h:(k:Int).tmod 8=((k % 8:Nat):Int):=by
  rw[Int.tmod_eq_emod_of_nonneg (by omega)];omega
 simp only[q0,jz,wX,j3,aI];rw[h];rfl
theorem zlR{k:Nat}(hk:k<8):q0 P .shl t x y (some (.int .u8 1)) (some (.int .i64 k))=some (.int .u8 ((2 ^ k:Nat):Int)):=by
 have h1:¬((k:Int)<0):=by omega
 have h2:min (k:Int).toNat IntKind.u8.bits=k:=by simp[IntKind.bits];omega
 have h3:(1:Int) * 2 ^ k=((2 ^ k:Nat):Int):=by simp
 simp only[q0,jz,wX,Kt,aI,h1,bD,h2];rw[h3,PA (W0 hk)]
end
section
variable{cx:Cx}
theorem zkv{ops:Array Oper}{env:aG}{H:Hp}{df:bS}{s':St}(fe:Jt cx.P cx.uq ops (jQ ops) 0 [] ops.toList=true)(hc:cx.rj ops (jQ ops) ops.toList ⟨env,H,[],df⟩=some s'):cx.eO ops (jQ ops) 0 [] [⟨0,H,[],df⟩] ops.toList ⟨env,H,[],df⟩=some (.normal,s') :=
 Wx _ _ _ _ _ _ _ ⟨.nil,λq hq=>by simp at hq,λb=>by simp[yG],⟨rfl,rfl,rfl⟩,λc hc=>by simp at hc,λc hc=>by simp at hc,λq hq=>by simp at hq⟩ fe hc
def zoG(cx:Cx)(t:aD)(x:a_)(d:Tmp)(K:St->Prop):St->Prop
 | ⟨env,H,lk,df⟩=>∃v dh m z,take env x=some (v,dh)/\z4 cx.P t=some m/\qL cx.P t=some z/\dD z=true/\z.cells.length=m/\dD v=true/\v.laid.length=m/\K ⟨dh.set d (.ptr H.az.length 0),H.push (.cells v.laid t),lk,df⟩
theorem znO{n id:Nat}{Q:Ex->St->Prop}{k:List It}{ops:Array Oper}{env:aG}{H:Hp}{lk:aP}{df:bS}{os:List Oper}{d:Tmp}{t:aD}{x:a_}{tk:cw}(hu:cx.uq mC=true)(hq:xN ops=some (os,d,t,x))(mq:jQ os.toArray=tk)
  (Nl:kA (Sj tk d) os=true) (hd:d<env.length) (fe:Jt cx.P cx.uq os.toArray tk 0 [] os=true)
  (h:go cx n (λex s=>ex=.normal/\zoG cx t x d (λs'=>go cx n Q k .normal s') s) [.on os.toArray tk os] .normal ⟨env.set d .eC,H,[],df⟩):go cx n Q (.c (.region id ops true)::k) .normal ⟨env,H,lk,df⟩:=by
 subst mq;simp only[go] at h ⊢;obtain⟨⟨bM,H2,Aq,Ar⟩,h1,_,v,dh,m,z,e1,e2,e3,e4,e5,e6,e7,hK⟩:=h;refine⟨.normal,_,?_,hK⟩;simp only[Cx.code];refine zkd hu hq ?_;have C_:=zkv (cx:=cx) (ops:=os.toArray) fe h1;have sD:Nat.blt d env.length=true:=by
  show Nat.ble (d+1) env.length=true;rw[Nat.ble_eq];exact hd
 unfold Cx.late;simp only[hq,Nl,sD,Bool.and_self];rw[show os.toArray.toList=os from rfl] at C_;rw[C_];have l1:Nat.beq z.cells.length m=true:=by rw[e5];simp
 have l2:Nat.beq v.laid.length m=true:=by rw[e7];simp
 simp only[e1,e2,e3,e4,e6,l1,Bool.and_self,ql,dj,l2,qm]
end
section
variable{cx:Cx}{takes:cw}
theorem zia{rs:List Rec}{r1 R:Rec}{c0 c1 nC d c2 e:ez}{k:List ez->Option (Ex×St)}(e1:c1=nC)(hp:R.hp=true)(ho:∀q∈rs,q=r1\/(q.hp=false/\(q.free=true\/bit R.m q.idx=true)))(h1:r1.hp=true)
  (hs:vU (Nat.land R.m (eL rs)) d.D=true) (hr:cx.d_ takes R.o R.env d (Nat.lor d.D (Nat.pow 2 R.idx))=some (R.v,c2)) (C9:bit nC.D r1.idx=true) (mX:bit c2.D r1.idx=false)
  (hq:cx.d_ takes r1.o r1.env c2 0=some (r1.v,e)) (hf:yh (Nat.lor c2.D (Nat.pow 2 r1.idx)) [nC,c2,c0,d]=some nC) (he:yg e nC=true) :
  cx.fH takes rs R c0 c1 [d] k=k [nC,c2,c0,d]:=by
 subst e1;have GD:cx.fG takes rs (eL rs) R [c1,c2,c0,d] c1=true:=by
  unfold Cx.fG;refine wc λq hq=>?_;split
  ·rfl
  ·rcases ho q hq with rfl|⟨h2,h3⟩
   ·simp[h1,C9]
   ·rcases h3 with h3|h3<;>simp[h2,h3]
 have WH:cx.fG takes rs (eL rs) R [c1,c2,c0,d] c2=true:=by
  unfold Cx.fG;refine wc λq Ch=>?_;split
  ·rfl
  ·rcases ho q Ch with rfl|⟨h2,h3⟩
   ·simp only[h1,mX,hq,hf,V.dx,he,Bool.and_self]
   ·rcases h3 with h3|h3<;>simp[h2,h3]
 unfold Cx.fH;rw[hp];simp only[Cx.iC,hs,hr,V.dx,br,bt,kA,GD,WH]
end
section
variable{P:aY}{gl:Gl}{d:Nat}{g g':Gh}{w w':aQ}{H:Hp}
theorem mG.W4{H':Hp}{G:Gh}(El:p7 g' H'.az w')(hle:Gh.Le 0 g' G)(dy:∀b,b<H'.az.length->∀o v,w'.cell? ⟨g'.bT b,o,none⟩=some v->G.M (g'.bT b) o=some v)
  (cC:∀b c,b<H'.az.length->(c=g'.bT b\/g'.own c=some (.cell b 0))->∀o v,w'.cell? ⟨c,o,none⟩=some v->G.M c o=some v) {sz:Nat} {xs ys:aG} {o:uj}
  (hl:xs.length=ys.length) (hf:(zK xs).length=(zK ys).length) (h1:∀y∈ys,y.cells.length=sz) (h2:∀(j:Nat)(y:V),(zK ys)[j]?=some y->y.one=true)
  (h3:∀(j:Nat)(x y:V),(zK xs)[j]?=some x->(zK ys)[j]?=some y->mG H' x y) {cv:bC} (hr:aX g' (.sl sz xs o) cv):aX G (.sl sz ys .no) cv:=by
 cases hr with
 | sl f e1 e2 e3 e4 e5 e6 =>
  rw[hl];have hx:∀(j:Nat)(y:V),(zK ys)[j]?=some y->∃x,(zK xs)[j]?=some x:=λj y hy=>⟨_,gG (by rw[hf];exact(dA.1 hy).1)⟩
  refine .sl f h1 (by rw[<- hl];exact e2) (λcK=>e3 λe=>cK (G0 (by rw[<- hl,e];rfl))) h2 (λj y hy=>?_) (λj y hy=>?_)
  ·obtain⟨x,hx⟩:=hx j y hy;exact hle.M _ _ _ (e5 j x hx)
  ·obtain⟨x,hx⟩:=hx j y hy;exact(h3 j x y hx hy).Li El hle dy cC (e6 j x hx)
theorem znP(o5:P.follows .mixedOrders=true)(fN:yE P)(dQ:wY P)(DK:nt P gl){n:Nat}{f:FuncId}{args:aG}{sz:Nat}{xs ys:aG}{o:uj}{H':Hp}
  (hc:zj P gl n f args ⟨[],[]⟩=some (.ret (.bx [.sl sz xs o,.bP]),H')) (ht:aL args=0) (hl:xs.length=ys.length) (nZ:(zK xs).length=(zK ys).length) (fD:∀y∈ys,y.cells.length=sz) (sE:∀(j:Nat)(y:V),(zK ys)[j]?=some y->y.one=true)
  (hz:∀(j:Nat)(x y:V),(zK xs)[j]?=some x->(zK ys)[j]?=some y->mG H' x y) (dH:aL ys=0) {bG:dR} {l:Loc} (h1:iu P gl g) (h2:p7 g H.az w) (h3:eS g H.az.length args bG) :
  Calls P f bG w (fA d H g w l (.ret (.bx [.sl sz ys .no,.bP])) H):=by
 refine Calls.mono (yW o5 fN dQ DK n f args ⟨[],[]⟩ _ _ hc g.bare w bG l (h1.le od) (Wl h2) ⟨h3.len,λj x c hx iW=>(h3.rel j x c hx iW).le od (cZ (zn (zw hx)) (by omega)),by simp[ht],h3.no⟩) λe w' he=>?_
 cases e with
 | returned cv =>
  obtain⟨u,g',e1,e2,e3,e4,_⟩:=he;cases e1;have dY:∀b,b<H'.az.length->w.heap.size<=g'.bT b:=λb hb=>e2.dZ b (dP _) hb;have dy:∀b,b<H'.az.length->∀o v,w'.cell? ⟨g'.bT b,o,none⟩=some v->(Gh.tL w.heap.size g w').M (g'.bT b) o=some v:=λb hb o v hv=>by
   simp only[Gh.tL,if_neg (Nat.not_lt.2 (dY b hb))];exact hv
  have cC:∀b c,b<H'.az.length->(c=g'.bT b\/g'.own c=some (.cell b 0))->∀o v,w'.cell? ⟨c,o,none⟩=some v->(Gh.tL w.heap.size g w').M c o=some v:=λb c hb hc o v hv=>by
   have uR:¬c<w.heap.size:=λbW=>by
    rcases hc with e|e
    ·have:=dY b hb;omega
    ·rw[(kT e2.fr bW).2.1] at e;cases e
   simp only[Gh.tL,if_neg uR];exact hv
  refine⟨.bx [.sl sz ys .no,.bP],_,rfl,zeE h2 e2.di e2.fr,?_,trivial,by simp[V.top,aL,dH]⟩
  cases e3 with
  | bx k1 k2 =>
   refine .bx k1 λj y v hy hv=>?_
   match j,hy with
   | 0,hy=>cases hy;exact mG.W4 e2.di (Wn e2.di e2.fr) dy cC hl nZ fD sE hz (k2 0 _ v rfl hv)
   | 1,hy=>cases hy;exact(mG.same (H:=H') (v:=.bP) rfl).Li e2.di (Wn e2.di e2.fr) dy cC (k2 1 _ v rfl hv)
   | j+2,hy=>simp at hy
 | panicked chain =>
  obtain⟨u,cv,g',e1,_⟩:=he;cases e1
 | outgrown=>exact he.elim
end
end Go.Vm
