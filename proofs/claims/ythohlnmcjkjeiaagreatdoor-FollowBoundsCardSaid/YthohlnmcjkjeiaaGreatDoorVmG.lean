/- Vm: a region whose order is drawn, run in the order of the text. Conditions: none but those named. -/
import Derived.Test.YthohlnmcjkjeiaaGreatDoorVmF
set_option linter.defProp false
namespace Go.Vm
open Go
section
variable{cx:Cx}{all:Array Oper}{takes:bP}
def JE(c:eT)(s:St):Prop :=
 (c.H=s.H/\c.lk=s.lk/\c.df=s.defers)\/∃b off cs ty sz xs e,c.H.get b=some (.cells cs ty)/\nth cs off=some (.sl sz xs (.yes e))/\s.H=(c.H.set b (.cells (cs.set off (.sl sz xs .lock)) ty)).bI b .ef/\s.lk=(b,off)::c.lk/\s.defers=c.df
def zl1{o:Oper}(h:wh takes o=true){env:aA}{H:Hp}{lk:bk}{df:bH}{v:V}{D:Nat}{s1:St}(aF:cx.op takes o env H lk df=some (.val v,s1)):JE ⟨D,H,lk,df⟩ s1:=by
 obtain⟨dst,op,type,pos,after,guard⟩:=o;unfold wh at h;split at h<;>try (cases h;done)
 rename_i t a lK;simp only at lK;subst lK;cases dst with
 | none=>cases h
 | some d =>
  simp only at h;rw[VP h] at aF;unfold BY at aF;split at aF<;>try (cases aF;done)
  split at aF<;>try (cases aF;done)
  split at aF<;>try (cases aF;done)
  rename_i cs ty hb;split at aF<;>try (cases aF;done)
  next sz xs e hn=>cases aF;exact .inr ⟨_,_,cs,ty,sz,xs,e,hb,hn,rfl,rfl,rfl⟩
  ·cases aF;exact .inl ⟨rfl,rfl,rfl⟩
  ·cases aF;exact .inl ⟨rfl,rfl,rfl⟩
def zne{P:aM}{c:eT}{s:St}(h:JE c s){t:aq}{p:V}{v:Int}(hl:kU P s.H t p=some v):kU P c.H t p=some v:=by
 rcases h with⟨h,_⟩|⟨b,off,cs,ty,sz,xs,e,hb,hn,hs,_⟩
 ·rw[h];exact hl
 ·unfold kU at hl ⊢;split at hl<;>try (simp only[*];done)
  rename_i m hu;split at hl<;>try (cases hl;done)
  rename_i es hm;rw[hs,bX,kq] at hm;split at hm<;>try (cases hm;done)
  rename_i y hy;split at hm
  ·cases hm
  ·cases hm;simp only[hy];exact hl
def zkW{P:aM}{gl:Nat->Nat->cP}{c:eT}{s:St}(h:JE c s){t:aq}{p u:V}(hk:ka P t=some false\/∀b off,p=.ptr b off->s.lk.all (λq=>!(Nat.beq q.1 b))=true)(hl:qJ P s.H gl t p=some u):∃u',qJ P c.H gl t p=some u'/\aT u'=aT u:=by
 rcases h with⟨h,_⟩|⟨b,off,cs,ty,sz,xs,e,hb,hn,hs,nk,_⟩
 ·rw[h];exact⟨u,hl,rfl⟩
 ·cases p<;>(try (exact⟨u,hl,rfl⟩))
  ·rename_i b' off';simp only[qJ,hs,bX,kq] at hl ⊢
   by_cases L7:b'=b
   ·subst L7;rcases hk with hk|hk
    ·simp only[hb,aU,Option.bind_eq_bind,bC,wk,hk] at hl ⊢;rw[zV,List.getElem?_set'] at hl
     by_cases ho:off=off'
     ·subst ho;rw[zV] at hn;simp only[aU,hn,bG,Function.const,Option.map_eq_map] at hl;cases hl;exact⟨.sl sz xs (.yes e),by simp[zV,hn],rfl⟩
     ·rw[if_neg ho] at hl;exact⟨u,by rw[zV];exact hl,rfl⟩
    ·have:=hk b' off' rfl;rw[nk] at this;simp at this
   ·cases hg:c.H.get b' with
    | none=>simp[hg] at hl
    | some y=>simp only[hg,if_neg L7] at hl;exact⟨u,by simpa[hg] using hl,rfl⟩
  ·rename_i b' u' k;simp only[qJ,hs,bX,kq] at hl ⊢
   by_cases L7:b'=b
   ·subst L7;simp[hb] at hl
   ·cases hg:c.H.get b' with
    | none=>simp[hg] at hl
    | some y=>simp only[hg,if_neg L7] at hl;exact⟨u,by simpa[hg] using hl,rfl⟩
def zg6{o:Oper}(lR:ET takes o=true){env:aA}{v:V}{c:eT}{s s1:St}(hL:JE c s)(hk:qj cx o env s.lk=true)(aF:cx.op takes o env s.H s.lk s.defers=some (.val v,s1)):cx.gj takes o env v c=true:=by
 obtain⟨dst,op,type,pos,after,guard⟩:=o;unfold ET at lR;split at lR<;>try (cases lR;done)
 ·rename_i t a lK;simp only at lK;subst lK;cases dst with
  | none=>simp at lR
  | some d =>
   have ht:takes.any (Nat.beq d)=false:=by simpa using lR
   simp only[Cx.gj,Cx.dO,Rb ht] at aF ⊢;cases hp:aB env a with
   | none=>simp[hp,gM] at aF
   | some p =>
    cases hl:qJ cx.P s.H cx.gl t p with
    | none=>simp[hp,hl,gM] at aF
    | some u =>
     obtain⟨u',h1,h2⟩:=zkW hL (by
      simp only[qj] at hk;split at hk
      next h=>exact .inl h
      ·refine .inr λb off e=>?_;rw[hp,e] at hk
       exact hk) hl
     simp only[hp,hl,gM,bC,bG,aR,bS,OR.val.injEq] at aF;simp only[bC,h1,bG,gM,h2,aF.1,V.dj]
 ·rename_i x0 t0 lK;simp only at lK;subst lK;have hh:∀H' oh Cs,cx.op takes ⟨dst,.call ⟨.builtin .len,#[x0],#[t0]⟩,type,pos,after,guard⟩ env H' oh Cs=gM env H' oh Cs (((aB env x0).bind (kU cx.P H' t0)).map (.int .i64)):=λH' oh Cs=>qc;rw[show(⟨[x0]⟩:ot)=#[x0] from rfl,show(⟨[t0]⟩:Array aq)=#[t0] from rfl,hh] at aF;simp only[Cx.gj,Cx.dO]
  rw[show(⟨[x0]⟩:ot)=#[x0] from rfl,show(⟨[t0]⟩:Array aq)=#[t0] from rfl,hh];cases hp:aB env x0 with
  | none=>simp[hp,gM] at aF
  | some p =>
   cases hl:kU cx.P s.H t0 p with
   | none=>simp[hp,hl,gM] at aF
   | some u =>
    simp only[hp,hl,gM,bC,bG,aR,bS,OR.val.injEq] at aF;simp only[bC,zne hL hl,bG,gM,aF.1,V.dj]
structure VR(cx:Cx)(takes:bP)(i:Nat)(rs:List Rec)(ts:List SR)(c0:eT)(rest:List eT)(s:St):Prop where
 pr:tI cx takes rs ts
 lt:∀q∈rs,q.idx<i
 cD:∀b,bit c0.D b=true ↔ ∃q∈rs,q.hp=true/\q.idx=b
 c0:c0.H=s.H/\c0.lk=s.lk/\c0.df=s.defers
 rD:∀c∈rest,∀b,bit c.D b=true->∃q∈rs,q.idx=b
 rest:∀c∈rest,(∃q∈rs,q.hp=true/\wh takes q.o=false/\bit c.D q.idx=false)\/((∃q∈rs,q.hp=true/\wh takes q.o=true/\bit c.D q.idx=false)/\JE c s)
 nB:∀q∈rs,q.hp=false->q.free=false->(∃c∈rs,c.hp=true/\bit c.m q.idx=true)\/(∀D,cx.gj takes q.o q.env q.v ⟨D,s.H,s.lk,s.defers⟩=true)
def zl2{rs:List Rec}{c0 c1:eT}{rest:List eT}{r:Rec}{k:List eT->Option (Ex×St)}
  (dS:r.hp=true->∀c∈rest,kW (Nat.land r.m (cE rs)) c.D=false)
  (uB:r.hp=false->r.free=false->∀c∈rest,kW (Nat.land r.m (cE rs)) c.D=false\/cx.gj takes r.o r.env r.v c=true)
  (o6:∀b,(∃q∈rs,q.hp=true/\q.idx=b)->bit c1.D b=true)
  (oG:r.hp=true->∀q∈rs,q.hp=false->q.free=false->bit r.m q.idx=true\/(∃c∈rs,c.hp=true/\bit c.m q.idx=true)\/cx.gj takes q.o q.env q.v c1=true) :
  cx.fS takes rs r c0 c1 rest k=k (bif r.hp then c1::c0::rest else c0::rest):=by
 unfold Cx.fS;cases hh:r.hp with
 | false =>
  have:(r.free || kH (λc=>match kW (Nat.land r.m (cE rs)) c.D with|true=>cx.gj takes r.o r.env r.v c|false=>true) rest)=true:=by
   cases hf:r.free with
   | true=>rfl
   | false =>
    simp only[eI];exact Sn λc hc=>by
     rcases uB hh hf c hc with h|h
     ·simp only[h]
     ·split
      ·exact h
      ·rfl
  show(match r.free || kH (λc=>match kW (Nat.land r.m (cE rs)) c.D with|true=>cx.gj takes r.o r.env r.v c|false=>true) rest with|true=>k (c0::rest)|false=>none)=k (c0::rest)
  rw[this]
 | true =>
  simp only[uT];have cX:∀l:List eT,(∀c∈l,kW (Nat.land r.m (cE rs)) c.D=false)->cx.g_ takes r.o r.env r.v (Nat.land r.m (cE rs)) (Nat.pow 2 r.idx) l=some []:=by
   intro l
   induction l with
   | nil=>intro _;rfl
   | cons c l ih=>intro h;simp only[Cx.g_,h c (eS ..)];exact ih λc hc=>h c (dB _ hc)
  rw[cX rest (dS hh)];have gm:cx.nK takes rs (cE rs) r (c1::c0::rest) c1=true:=by
   unfold Cx.nK;refine Sn λq hq=>?_;split
   ·rfl
   ·cases gq:q.hp with
    | true =>
     simp only;rw[o6 q.idx ⟨q,hq,gq,rfl⟩]
    | false =>
     simp only;cases o7:q.free with
     | true=>rfl
     | false =>
      rcases oG hh q hq gq o7 with h|⟨c,hc,h1,h2⟩|h
      ·simp[h]
      ·have:ku c1.D q rs=true:=by
        have hx:∀l:List Rec,c∈l->ku c1.D q l=true:=by
         intro l
         induction l with
         | nil=>intro h;simp at h
         | cons d l ih =>
          intro h;simp only[ku,mT,cR];rcases dh.1 h with rfl|h
          ·exact .inl ⟨⟨h1,o6 _ ⟨c,hc,h1,rfl⟩⟩,h2⟩
          ·exact .inr (ih h)
        exact hx rs hc
       simp[this]
      ·simp[h]
  have Sr:cx.nK takes rs (cE rs) r ([c1]++c0::rest) c1=true:=gm;simp only[kH,Sr];rfl
def zjD{o:Oper}(h:yu o=true){env:aA}{H:Hp}{lk:bk}{df:bH}{v:V}{s1:St}(aF:cx.op takes o env H lk df=some (.val v,s1)):∃x,s1=⟨env,H.push x,lk,df⟩:=by
 obtain⟨dst,op,type,pos,after,guard⟩:=o;unfold yu at h;split at h<;>try (cases h;done)
 rename_i t lK;simp only at lK;subst lK;simp only[Cx.op] at aF;split at aF<;>try (cases aF;done)
 split at aF<;>try (cases aF;done)
 simp only[qd,jv,aR,bS] at aF;exact⟨_,aF.2.symm⟩
def zjE{s':St}:∀(os:List Oper)(i:Nat)(rs:List Rec)(ts:List SR)(c0:eT)(rest:List eT)(s:St),VR cx takes i rs ts c0 rest s->Pp cx.P cx.uq all takes i ts os=true->cx.sL all takes os s=some s'->cx.gk all takes i rs (c0::rest) os s=some (.normal,s')
 | [],i,rs,ts,c0,rest,s,_,_,hc=>by
  simp only[Cx.sL,aR] at hc;simp only[Cx.gk,hc]
 | o::os,i,rs,ts,c0,rest,⟨env,H,lk,df⟩,hI,eM,hc=>by
  simp only[Pp] at eM;split at eM<;>try (cases eM;done)
  rename_i m hm;simp only[cR] at eM;obtain⟨⟨iu,EG⟩,M9,eM⟩:=eM;have tB:∀(hp free:Bool)(v:V),kH (kx ⟨i,o,m,lC takes o,Nat.lor (lC takes o) (r9 all o),hp,free,env,v⟩) rs=true:=λhp free v =>
   zjC hI.pr (λq t BH hg=>by simp only[VO] at hg;simp only[kx,BH.idx,BH.tm,BH.lm];exact hg) EG
  have key:∀(hp free:Bool)(v:V)(H1:Hp)(eA:bk)(eZ:bH)(de:aA),
    (hp=true->jT cx.P cx.uq takes o=true)->(hp=false->free=false->wM cx.P cx.uq o=true) ->
    (hp=false->H1=H/\eA=lk/\eZ=df)->(hp=false->free=false->∀D,cx.gj takes o env v ⟨D,H,lk,df⟩=true) ->
    (hp=true->yu o=true->∃x,H1=H.push x/\eA=lk/\eZ=df) ->
    (hp=true->wh takes o=true->∀D,JE ⟨D,H,lk,df⟩ ⟨de,H1,eA,eZ⟩) ->
    (hp=false->free=false->ET takes o=true->∀c,JE c ⟨env,H,lk,df⟩->cx.gj takes o env v c=true) ->
    cx.sL all takes os ⟨de,H1,eA,eZ⟩=some s' ->
    (match kH (kx ⟨i,o,m,lC takes o,Nat.lor (lC takes o) (r9 all o),hp,free,env,v⟩) rs,c0::rest with
     | true,c0::cs=>cx.fS takes rs ⟨i,o,m,lC takes o,Nat.lor (lC takes o) (r9 all o),hp,free,env,v⟩ c0 ⟨Nat.lor c0.D (Nat.pow 2 i),H1,eA,eZ⟩ cs λcs =>
      cx.gk all takes (i+1) (⟨i,o,m,lC takes o,Nat.lor (lC takes o) (r9 all o),hp,free,env,v⟩::rs) cs os ⟨de,H1,eA,eZ⟩
     | _,_=>none)=some (.normal,s'):=by
   intro hp free v H1 eA eZ de h1 h2 h3 h4 h5 h5a h5b h6;rw[tB];simp only;have bD:∀q∈rs,q.idx≠i:=λq hq e=>by have:=hI.lt q hq;omega
   have o6:∀b,(∃q∈rs,q.hp=true/\q.idx=b)->bit (Nat.lor c0.D (Nat.pow 2 i)) b=true:=λb hb=>by rw[ki,(hI.cD b).2 hb];rfl
   have BZ:=xW hI.pr M9;have oG:hp=true->∀q∈rs,q.hp=false->q.free=false->bit m q.idx=true\/(∃c∈rs,c.hp=true/\bit c.m q.idx=true)\/∀D,cx.gj takes q.o q.env q.v ⟨D,H1,eA,eZ⟩=true:=λhr q hq gq o7=>by
    obtain⟨t,ht,hg⟩:=BZ q hq;simp only[zr1] at hg;split at hg
    next hb=>exact .inl (by rw[ht.idx];exact hb)
    ·rw[h1 hr,ht.lk gq o7] at hg;simp only[eH,eU,eI,cR] at hg;obtain⟨_,F6,lR⟩:=hg;rcases hI.nB q hq gq o7 with h|h
     ·exact .inr (.inl h)
     ·obtain⟨x,e1,e2,e3⟩:=h5 hr F6;subst e1 e2 e3;rw[ht.ld] at lR;exact .inr (.inr λD=>zg4 lR (h D))
   have GU:wh takes o=true->∀q∈rs,wh takes q.o=false:=λht q hq=>by
    rw[ht] at iu;simp only[eU,eI] at iu;obtain⟨t,h7,h8⟩:=xW hI.pr iu q hq;rw[<- h7.tk];simpa using h8
   have ng:(hp=true\/(hp=false/\free=false))->∀q∈rs,q.hp=true->bit m q.idx=true\/(hp=false/\wh takes q.o=true/\ET takes o=true):=λhr q hq gq=>by
    obtain⟨t,ht,hg⟩:=BZ q hq;simp only[zr1] at hg;split at hg
    next hb=>exact .inl (by rw[ht.idx];exact hb)
    ·rw[ht.hp gq] at hg;simp only[fR,eH,cR,sR] at hg;obtain⟨⟨g1,g2⟩,_⟩:=hg;rcases hr with hr|⟨hr,hf⟩
     ·rw[h1 hr] at g1;cases g1
     ·rw[h2 hr hf] at g2;simp only[eU,eI,cR] at g2;exact .inr ⟨hr,by rw[<- ht.tk];exact g2.1,g2.2⟩
   have tL:∀c:eT,(∃q∈rs,q.hp=true/\bit m q.idx=true/\bit c.D q.idx=false)->kW (Nat.land m (cE rs)) c.D=false:=λc hc=>by
    obtain⟨q,hq,e1,e2,e3⟩:=hc;cases hs:kW (Nat.land m (cE rs)) c.D with
    | false=>rfl
    | true =>
     have:=cA.1 hs q.idx (by rw[kj,e2,eO.2 ⟨q,hq,e1,rfl⟩];rfl)
     rw[this] at e3;cases e3
   have MU:∀c:eT,(∀b,bit c.D b=true->∃q∈rs,q.idx=b)->bit c.D i=false:=λc hc=>by
    cases hb:bit c.D i with
    | false=>rfl
    | true =>
     obtain⟨q,hq,e⟩:=hc i hb;exact absurd e (bD q hq)
   rw[zl2 (r:=⟨i,o,m,lC takes o,Nat.lor (lC takes o) (r9 all o),hp,free,env,v⟩) ?_ ?_ o6 ?_]
   ·have GV:VR cx takes (i+1) (⟨i,o,m,lC takes o,Nat.lor (lC takes o) (r9 all o),hp,free,env,v⟩::rs) (⟨i,m,lC takes o,Nat.lor (lC takes o) (r9 all o),jT cx.P cx.uq takes o,wM cx.P cx.uq o,yu o,ET takes o,wh takes o⟩::ts)
      (bif hp then ⟨Nat.lor c0.D (Nat.pow 2 i),H1,eA,eZ⟩ else c0) (bif hp then c0::rest else rest) ⟨de,H1,eA,eZ⟩:=by
     refine⟨.cons ⟨rfl,rfl,rfl,rfl,h1,h2,rfl,rfl⟩ hI.pr,?_,?_,?_,?_,?_,?_⟩
     ·intro q hq;rcases dh.1 hq with rfl|hq
      ·exact Nat.lt_succ_self _
      ·have:=hI.lt q hq;omega
     ·intro b;cases hp with
      | false =>
       simp only[cond_false];rw[hI.cD];constructor
       ·rintro⟨q,hq,e⟩;exact⟨q,dB _ hq,e⟩
       ·rintro⟨q,hq,e1,e2⟩;rcases dh.1 hq with rfl|hq
        ·cases e1
        ·exact⟨q,hq,e1,e2⟩
      | true =>
       simp only[uT];rw[ki,mT,hI.cD,kC,decide_eq_true_eq];constructor
       ·rintro(⟨q,hq,e⟩|rfl)
        ·exact⟨q,dB _ hq,e⟩
        ·exact⟨_,eS ..,rfl,rfl⟩
       ·rintro⟨q,hq,e1,e2⟩;rcases dh.1 hq with rfl|hq
        ·exact .inr e2
        ·exact .inl ⟨q,hq,e1,e2⟩
     ·cases hp with
      | false=>obtain⟨e1,e2,e3⟩:=h3 rfl;subst e1 e2 e3;exact hI.c0
      | true=>exact⟨rfl,rfl,rfl⟩
     ·intro c eY b hb;cases hp with
      | false=>obtain⟨q,hq,e⟩:=hI.rD c eY b hb;exact⟨q,dB _ hq,e⟩
      | true =>
       rcases dh.1 eY with rfl|eY
       ·obtain⟨q,hq,_,e⟩:=(hI.cD b).1 hb;exact⟨q,dB _ hq,e⟩
       ·obtain⟨q,hq,e⟩:=hI.rD c eY b hb;exact⟨q,dB _ hq,e⟩
     ·intro c eY;cases hp with
      | false =>
       obtain⟨e1,e2,e3⟩:=h3 rfl;subst e1 e2 e3;rcases hI.rest c eY with⟨q,hq,e⟩|⟨⟨q,hq,e⟩,hL⟩
       ·exact .inl ⟨q,dB _ hq,e⟩
       ·exact .inr ⟨⟨q,dB _ hq,e⟩,hL⟩
      | true =>
       have GX:bit c0.D i=false:=MU c0 λb hb=>by obtain⟨q,hq,_,e⟩:=(hI.cD b).1 hb;exact⟨q,hq,e⟩
       cases BD:wh takes o with
       | false =>
        rcases dh.1 eY with rfl|eY
        ·exact .inl ⟨_,eS ..,rfl,BD,GX⟩
        ·exact .inl ⟨_,eS ..,rfl,BD,MU c (hI.rD c eY)⟩
       | true =>
        rcases dh.1 eY with rfl|eY
        ·refine .inr ⟨⟨_,eS ..,rfl,BD,GX⟩,?_⟩;obtain⟨D0,H0,lk0,df0⟩:=c;obtain⟨e1,e2,e3⟩:=hI.c0;simp only at e1 e2 e3;subst e1 e2 e3;exact h5a rfl BD D0
        ·rcases hI.rest c eY with⟨q,hq,e⟩|⟨⟨q,hq,e1,e2,_⟩,_⟩
         ·exact .inl ⟨q,dB _ hq,e⟩
         ·rw[GU BD q hq] at e2;cases e2
     ·intro q hq gq o7;rcases dh.1 hq with rfl|rF
      ·obtain⟨e1,e2,e3⟩:=h3 gq;subst e1 e2 e3;exact .inr (h4 gq o7)
      ·clear hq;cases hp with
       | false =>
        obtain⟨e1,e2,e3⟩:=h3 rfl;subst e1 e2 e3;rcases hI.nB q rF gq o7 with⟨c,hc,e⟩|h
        ·exact .inl ⟨c,dB _ hc,e⟩
        ·exact .inr h
       | true =>
        rcases oG rfl q rF gq o7 with h|⟨c,hc,e⟩|h
        ·exact .inl ⟨_,eS ..,rfl,h⟩
        ·exact .inl ⟨c,dB _ hc,e⟩
        ·exact .inr h
    have:=zjE os _ _ _ _ _ _ GV eM h6;cases hp<;>exact this
   ·intro hr c eY;refine tL c ?_;rcases hI.rest c eY with⟨q,hq,e1,_,e2⟩|⟨⟨q,hq,e1,_,e2⟩,_⟩
    ·rcases ng (.inl hr) q hq e1 with h|⟨h,_⟩
     ·exact⟨q,hq,e1,h,e2⟩
     ·exact absurd (hr.symm.trans h) (by simp)
    ·rcases ng (.inl hr) q hq e1 with h|⟨h,_⟩
     ·exact⟨q,hq,e1,h,e2⟩
     ·exact absurd (hr.symm.trans h) (by simp)
   ·intro hr hf c eY;rcases hI.rest c eY with⟨q,hq,e1,e3,e2⟩|⟨⟨q,hq,e1,e3,e2⟩,hL⟩
    ·rcases ng (.inr ⟨hr,hf⟩) q hq e1 with h|⟨_,h,_⟩
     ·exact .inl (tL c ⟨q,hq,e1,h,e2⟩)
     ·rw[e3] at h;cases h
    ·rcases ng (.inr ⟨hr,hf⟩) q hq e1 with h|⟨_,_,h⟩
     ·exact .inl (tL c ⟨q,hq,e1,h,e2⟩)
     ·exact .inr (h5b hr hf h c hL)
   ·intro hr q hq gq o7;rcases oG hr q hq gq o7 with h|h|h
    ·exact .inl h
    ·exact .inr (.inl h)
    ·exact .inr (.inr (h _))
  simp only[Cx.gk,zg3 hI.pr,hm,jr,qd,jX];simp only[Cx.sL] at hc;split at hc<;>try (cases hc;done)
  next hw=>simp only[hw];exact key false true (.bz []) H lk df _ (λh=>nomatch h) (λ_ h=>nomatch h) (λ_=>⟨rfl,rfl,rfl⟩) (λ_ h=>nomatch h) (λh=>nomatch h) (λh=>nomatch h) (λ_ h=>nomatch h) hc
  ·rename_i hw;simp only[hw];split at hc<;>try (cases hc;done)
   rename_i DB;split at hc<;>try (cases hc;done)
   ·rename_i v de H1 eA eZ aF;simp only[aF];refine key _ _ v H1 eA eZ _ (λh=>h) (λ_ h=>by simpa using h) (λhf=>?_) (λhf _ D=>?_) (λ_ ha=>?_) (λ_ ht D=>?_) (λ_ _ hl c hL=>zg6 hl hL DB aF) hc
    ·obtain⟨v',_,e2,_⟩:=vT hf aF;cases e2;exact⟨rfl,rfl,rfl⟩
    ·simp[Cx.gj,Cx.dO,aF,V.dj]
    ·obtain⟨x,e⟩:=zjD ha aF;cases e;exact⟨x,rfl,rfl,rfl⟩
    ·rcases zl1 (D:=D) ht aF with h|h
     ·exact .inl h
     ·exact .inr h
   ·rename_i de H1 eA eZ aF;simp only[aF];have uD:jT cx.P cx.uq takes o=true:=by
     cases hb:jT cx.P cx.uq takes o with
     | true=>rfl
     | false=>obtain⟨v',e1,_⟩:=vT hb aF;cases e1
    rw[uD];refine key true false (.bz []) H1 eA eZ _ (λ_=>uD) (λh=>nomatch h) (λh=>nomatch h) (λh=>nomatch h) (λ_ ha=>?_) (λ_ ht=>?_) (λh=>nomatch h) hc
    ·obtain⟨dst,op,type,pos,after,guard⟩:=o;unfold yu at ha;split at ha<;>try (cases ha;done)
     rename_i t lK;simp only at lK;subst lK;simp only[Cx.op] at aF;split at aF<;>try (cases aF;done)
     split at aF<;>try (cases aF;done)
     simp[qd,jv] at aF
    ·obtain⟨dst,op,type,pos,after,guard⟩:=o;unfold wh at ht;split at ht<;>try (cases ht;done)
     rename_i t a lK;simp only at lK;subst lK;cases dst with
     | none=>cases ht
     | some d =>
      simp only at ht;rw[VP ht] at aF;unfold BY at aF;split at aF<;>try (cases aF;done)
      split at aF<;>try (cases aF;done)
      split at aF<;>try (cases aF;done)
      split at aF<;>cases aF
def zoY{ops:Array Oper}{env:aA}{H:Hp}{lk:bk}{df:bH}{s':St}(eM:Pp cx.P cx.uq ops (kX ops) 0 [] ops.toList=true)(hc:cx.sL ops (kX ops) ops.toList ⟨env,H,[],df⟩=some s'):cx.draw ops ⟨env,H,lk,df⟩=some (.normal,s'):=by
 unfold Cx.draw;exact zjE _ _ _ _ _ _ _ ⟨.nil,λq hq=>by simp at hq,λb=>by simp[vR],⟨rfl,rfl,rfl⟩,λc hc=>by simp at hc,λc hc=>by simp at hc,λq hq=>by simp at hq⟩ eM hc
def zqE{n id:Nat}{Q:Ex->St->Prop}{k:List It}{ops:Array Oper}{env:aA}{H:Hp}{lk:bk}{df:bH}(eM:Pp cx.P cx.uq ops (kX ops) 0 [] ops.toList=true)
  (h:go cx n Q (.on ops (kX ops) ops.toList::k) .normal ⟨env,H,[],df⟩):go cx n Q (.c (.region id ops true)::k) .normal ⟨env,H,lk,df⟩:=by
 simp only[go] at h ⊢;obtain⟨s',h1,h2⟩:=h;exact⟨.normal,s',by simp only[Cx.code];exact zoY eM h1,h2⟩
def wt{n id:Nat}{Q:Ex->St->Prop}{k:List It}{ops:Array Oper}{env:aA}{H:Hp}{lk:bk}{df:bH}{tk:bP}(ht:kX ops=tk)(eM:Pp cx.P cx.uq ops tk 0 [] ops.toList=true)
  (h:go cx n Q (.on ops tk ops.toList::k) .normal ⟨env,H,[],df⟩):go cx n Q (.c (.region id ops true)::k) .normal ⟨env,H,lk,df⟩:=by
 subst ht;exact zqE eM h
def Pr{n id:Nat}{Q:Ex->St->Prop}{k:List It}{ops:Array Oper}{env:aA}{H:Hp}{lk:bk}{df:bH}{tk:bP}(ht:kX ops=tk)
  (h:go cx n Q (.os ops tk ops.toList::k) .normal ⟨env,H,[],df⟩):go cx n Q (.c (.region id ops false)::k) .normal ⟨env,H,lk,df⟩:=by
 subst ht;exact ES.2 h
def qx{n id:Nat}{Q:Ex->St->Prop}{k:List It}{ops:Array Oper}{env:aA}{H:Hp}{lk:bk}{df:bH}(h:go cx n Q (.os ops [] ops.toList::k) .normal ⟨env,H,[],df⟩)(ht:kX ops=[]:=by kernel_rfl):go cx n Q (.c (.region id ops false)::k) .normal ⟨env,H,lk,df⟩:=Pr ht h
end
section
variable{cx:Cx}{all:Array Oper}{takes:bP}
def x9(cx:Cx)(takes:bP)(c:eT):List (Oper×aA×V)->Prop
 | []=>True
 | p::ps=>cx.gj takes p.1 p.2.1 p.2.2 c=true/\x9 cx takes c ps
def zjF{c:eT}{ps:List (Oper×aA×V)}(h:x9 cx takes c ps)(p:Oper×aA×V)(hp:p∈ps):cx.gj takes p.1 p.2.1 p.2.2 c=true:=by
 induction ps with
 | nil=>cases hp
 | cons a ps ih =>
  cases hp with
  | head=>exact h.1
  | tail _ hp=>exact ih h.2 hp
def La(b:Bool)(p:Oper×aA×V)(ps:List (Oper×aA×V)):List (Oper×aA×V):=bif b then p::ps else ps
def Bk(cx:Cx)(all:Array Oper)(takes:bP)(P:St->Prop):List (Oper×aA×V)->List (Bool×Bool)->List Oper->St->Prop
 | _,_,[],s=>P s
 | _,[],_::_,_=>False
 | cQ,(ld,hp)::fl,o::os,⟨env,H,lk,df⟩=>match q8 all o env with
  | none=>False
  | some false=>Bk cx all takes P cQ fl os ⟨qb env o.dst (.bz []),H,lk,df⟩
  | some true=>qj cx o env lk=true/\match cx.op takes o env H lk df with
   | some (.val v,⟨de,H1,eA,eZ⟩)=>(hp=true->x9 cx takes ⟨0,H1,eA,eZ⟩ cQ)/\Bk cx all takes P (La ld (o,env,v) cQ) fl os ⟨qb de o.dst v,H1,eA,eZ⟩
   | some (.skip,⟨de,H1,eA,eZ⟩)=>(hp=true->x9 cx takes ⟨0,H1,eA,eZ⟩ cQ)/\Bk cx all takes P cQ fl os ⟨qb de o.dst (.bz []),H1,eA,eZ⟩
   | _=>False
def zr2(js:bR)(r q:SR):Bool :=
 match bit r.m q.idx with
 | true=>true
 | false=>!(r.hp && q.hp) && (!(q.hp && r.lk) || (q.tk && r.ld)) && (!(r.hp && q.lk) || (r.al && q.ld) || (js.any (Nat.beq q.idx) && q.ld))
def VS(P:aM)(uq:aq->Bool)(all:Array Oper)(takes:bP)(js:bR):Nat->List SR->List (Bool×Bool)->List Oper->Bool
 | _,_,_,[]=>true
 | _,_,[],_::_=>false
 | i,rs,(ld,hp)::fl,o::os=>match Po rs o.after.toList with
  | none=>false
  | some m =>
   let r:SR:=⟨i,m,lC takes o,Nat.lor (lC takes o) (r9 all o),jT P uq takes o,wM P uq o,yu o,ET takes o,wh takes o⟩
   ((!jT P uq takes o || hp) && (!(js.any (Nat.beq i)) || ld)) && ((!r.tk || kH (λq=>!q.tk) rs) && kH (VO r) rs && (kH (zr2 js r) rs && VS P uq all takes js (i+1) (r::rs) fl os))
def zjG{js:bR}{P:St->Prop}:∀(os:List Oper)(fl:List (Bool×Bool))(cQ:List (Oper×aA×V))(i:Nat)(rs:List Rec)(ts:List SR)(c0:eT)(rest:List eT)(s:St),VR cx takes i rs ts c0 rest s->VS cx.P cx.uq all takes js i ts fl os=true->(∀q∈rs,q.hp=false->q.free=false->js.any (Nat.beq q.idx)=true->(q.o,q.env,q.v)∈cQ)->Bk cx all takes P cQ fl os s->∃s',cx.gk all takes i rs (c0::rest) os s=some (.normal,s')/\P s'
 | [],fl,cQ,i,rs,ts,c0,rest,s,_,_,_,hc=>by
  simp only[Bk] at hc;exact⟨s,by simp only[Cx.gk],hc⟩
 | _::_,[],cQ,i,rs,ts,c0,rest,s,_,_,_,hc=>by
  simp only[Bk] at hc
 | o::os,(ld,fhp)::fl,cQ,i,rs,ts,c0,rest,⟨env,H,lk,df⟩,hI,eM,tH,hc=>by
  simp only[VS] at eM;split at eM<;>try (cases eM;done)
  rename_i m hm;simp only[cR] at eM;obtain⟨⟨JF,Ss⟩,⟨iu,EG⟩,M9,eM⟩:=eM;have tB:∀(hp free:Bool)(v:V),kH (kx ⟨i,o,m,lC takes o,Nat.lor (lC takes o) (r9 all o),hp,free,env,v⟩) rs=true:=λhp free v =>
   zjC hI.pr (λq t BH hg=>by simp only[VO] at hg;simp only[kx,BH.idx,BH.tm,BH.lm];exact hg) EG
  have key:∀(hp free:Bool)(v:V)(B0:List (Oper×aA×V))(H1:Hp)(eA:bk)(eZ:bH)(de:aA),
    (hp=true->jT cx.P cx.uq takes o=true)->(hp=false->free=false->wM cx.P cx.uq o=true) ->
    (hp=false->H1=H/\eA=lk/\eZ=df)->(hp=false->free=false->∀D,cx.gj takes o env v ⟨D,H,lk,df⟩=true) ->
    (hp=true->yu o=true->∃x,H1=H.push x/\eA=lk/\eZ=df) ->
    (hp=true->wh takes o=true->∀D,JE ⟨D,H,lk,df⟩ ⟨de,H1,eA,eZ⟩) ->
    (hp=false->free=false->ET takes o=true->∀c,JE c ⟨env,H,lk,df⟩->cx.gj takes o env v c=true) ->
    (hp=true->∀D,∀p∈cQ,cx.gj takes p.1 p.2.1 p.2.2 ⟨D,H1,eA,eZ⟩=true) ->
    (∀q∈cQ,q∈B0)->(hp=false->free=false->js.any (Nat.beq i)=true->(o,env,v)∈B0) ->
    Bk cx all takes P B0 fl os ⟨de,H1,eA,eZ⟩ ->
    ∃s',(match kH (kx ⟨i,o,m,lC takes o,Nat.lor (lC takes o) (r9 all o),hp,free,env,v⟩) rs,c0::rest with
     | true,c0::cs=>cx.fS takes rs ⟨i,o,m,lC takes o,Nat.lor (lC takes o) (r9 all o),hp,free,env,v⟩ c0 ⟨Nat.lor c0.D (Nat.pow 2 i),H1,eA,eZ⟩ cs λcs =>
      cx.gk all takes (i+1) (⟨i,o,m,lC takes o,Nat.lor (lC takes o) (r9 all o),hp,free,env,v⟩::rs) cs os ⟨de,H1,eA,eZ⟩
     | _,_=>none)=some (.normal,s')/\P s':=by
   intro hp free v B0 H1 eA eZ de h1 h2 h3 h4 h5 h5a h5b Qi dS Su h6;rw[tB];simp only;have bD:∀q∈rs,q.idx≠i:=λq hq e=>by have:=hI.lt q hq;omega
   have o6:∀b,(∃q∈rs,q.hp=true/\q.idx=b)->bit (Nat.lor c0.D (Nat.pow 2 i)) b=true:=λb hb=>by rw[ki,(hI.cD b).2 hb];rfl
   have BZ:=xW hI.pr M9;have oG:hp=true->∀q∈rs,q.hp=false->q.free=false->bit m q.idx=true\/(∃c∈rs,c.hp=true/\bit c.m q.idx=true)\/∀D,cx.gj takes q.o q.env q.v ⟨D,H1,eA,eZ⟩=true:=λhr q hq gq o7=>by
    obtain⟨t,ht,hg⟩:=BZ q hq;simp only[zr2] at hg;split at hg
    next hb=>exact .inl (by rw[ht.idx];exact hb)
    ·rw[h1 hr,ht.lk gq o7] at hg;simp only[eH,eU,eI,cR,mT] at hg;obtain⟨_,⟨F6,lR⟩|⟨MZ,lR⟩⟩:=hg
     ·rcases hI.nB q hq gq o7 with h|h
      ·exact .inr (.inl h)
      ·obtain⟨x,e1,e2,e3⟩:=h5 hr F6;subst e1 e2 e3;rw[ht.ld] at lR;exact .inr (.inr λD=>zg4 lR (h D))
     ·exact .inr (.inr λD=>Qi hr D _ (tH q hq gq o7 (by rw[ht.idx];exact MZ)))
   have GU:wh takes o=true->∀q∈rs,wh takes q.o=false:=λht q hq=>by
    rw[ht] at iu;simp only[eU,eI] at iu;obtain⟨t,h7,h8⟩:=xW hI.pr iu q hq;rw[<- h7.tk];simpa using h8
   have ng:(hp=true\/(hp=false/\free=false))->∀q∈rs,q.hp=true->bit m q.idx=true\/(hp=false/\wh takes q.o=true/\ET takes o=true):=λhr q hq gq=>by
    obtain⟨t,ht,hg⟩:=BZ q hq;simp only[zr2] at hg;split at hg
    next hb=>exact .inl (by rw[ht.idx];exact hb)
    ·rw[ht.hp gq] at hg;simp only[fR,eH,cR,sR] at hg;obtain⟨⟨g1,g2⟩,_⟩:=hg;rcases hr with hr|⟨hr,hf⟩
     ·rw[h1 hr] at g1;cases g1
     ·rw[h2 hr hf] at g2;simp only[eU,eI,cR] at g2;exact .inr ⟨hr,by rw[<- ht.tk];exact g2.1,g2.2⟩
   have tL:∀c:eT,(∃q∈rs,q.hp=true/\bit m q.idx=true/\bit c.D q.idx=false)->kW (Nat.land m (cE rs)) c.D=false:=λc hc=>by
    obtain⟨q,hq,e1,e2,e3⟩:=hc;cases hs:kW (Nat.land m (cE rs)) c.D with
    | false=>rfl
    | true =>
     have:=cA.1 hs q.idx (by rw[kj,e2,eO.2 ⟨q,hq,e1,rfl⟩];rfl)
     rw[this] at e3;cases e3
   have MU:∀c:eT,(∀b,bit c.D b=true->∃q∈rs,q.idx=b)->bit c.D i=false:=λc hc=>by
    cases hb:bit c.D i with
    | false=>rfl
    | true =>
     obtain⟨q,hq,e⟩:=hc i hb;exact absurd e (bD q hq)
   rw[zl2 (r:=⟨i,o,m,lC takes o,Nat.lor (lC takes o) (r9 all o),hp,free,env,v⟩) ?_ ?_ o6 ?_]
   ·have GV:VR cx takes (i+1) (⟨i,o,m,lC takes o,Nat.lor (lC takes o) (r9 all o),hp,free,env,v⟩::rs) (⟨i,m,lC takes o,Nat.lor (lC takes o) (r9 all o),jT cx.P cx.uq takes o,wM cx.P cx.uq o,yu o,ET takes o,wh takes o⟩::ts)
      (bif hp then ⟨Nat.lor c0.D (Nat.pow 2 i),H1,eA,eZ⟩ else c0) (bif hp then c0::rest else rest) ⟨de,H1,eA,eZ⟩:=by
     refine⟨.cons ⟨rfl,rfl,rfl,rfl,h1,h2,rfl,rfl⟩ hI.pr,?_,?_,?_,?_,?_,?_⟩
     ·intro q hq;rcases dh.1 hq with rfl|hq
      ·exact Nat.lt_succ_self _
      ·have:=hI.lt q hq;omega
     ·intro b;cases hp with
      | false =>
       simp only[cond_false];rw[hI.cD];constructor
       ·rintro⟨q,hq,e⟩;exact⟨q,dB _ hq,e⟩
       ·rintro⟨q,hq,e1,e2⟩;rcases dh.1 hq with rfl|hq
        ·cases e1
        ·exact⟨q,hq,e1,e2⟩
      | true =>
       simp only[uT];rw[ki,mT,hI.cD,kC,decide_eq_true_eq];constructor
       ·rintro(⟨q,hq,e⟩|rfl)
        ·exact⟨q,dB _ hq,e⟩
        ·exact⟨_,eS ..,rfl,rfl⟩
       ·rintro⟨q,hq,e1,e2⟩;rcases dh.1 hq with rfl|hq
        ·exact .inr e2
        ·exact .inl ⟨q,hq,e1,e2⟩
     ·cases hp with
      | false=>obtain⟨e1,e2,e3⟩:=h3 rfl;subst e1 e2 e3;exact hI.c0
      | true=>exact⟨rfl,rfl,rfl⟩
     ·intro c eY b hb;cases hp with
      | false=>obtain⟨q,hq,e⟩:=hI.rD c eY b hb;exact⟨q,dB _ hq,e⟩
      | true =>
       rcases dh.1 eY with rfl|eY
       ·obtain⟨q,hq,_,e⟩:=(hI.cD b).1 hb;exact⟨q,dB _ hq,e⟩
       ·obtain⟨q,hq,e⟩:=hI.rD c eY b hb;exact⟨q,dB _ hq,e⟩
     ·intro c eY;cases hp with
      | false =>
       obtain⟨e1,e2,e3⟩:=h3 rfl;subst e1 e2 e3;rcases hI.rest c eY with⟨q,hq,e⟩|⟨⟨q,hq,e⟩,hL⟩
       ·exact .inl ⟨q,dB _ hq,e⟩
       ·exact .inr ⟨⟨q,dB _ hq,e⟩,hL⟩
      | true =>
       have GX:bit c0.D i=false:=MU c0 λb hb=>by obtain⟨q,hq,_,e⟩:=(hI.cD b).1 hb;exact⟨q,hq,e⟩
       cases BD:wh takes o with
       | false =>
        rcases dh.1 eY with rfl|eY
        ·exact .inl ⟨_,eS ..,rfl,BD,GX⟩
        ·exact .inl ⟨_,eS ..,rfl,BD,MU c (hI.rD c eY)⟩
       | true =>
        rcases dh.1 eY with rfl|eY
        ·refine .inr ⟨⟨_,eS ..,rfl,BD,GX⟩,?_⟩;obtain⟨D0,H0,lk0,df0⟩:=c;obtain⟨e1,e2,e3⟩:=hI.c0;simp only at e1 e2 e3;subst e1 e2 e3;exact h5a rfl BD D0
        ·rcases hI.rest c eY with⟨q,hq,e⟩|⟨⟨q,hq,e1,e2,_⟩,_⟩
         ·exact .inl ⟨q,dB _ hq,e⟩
         ·rw[GU BD q hq] at e2;cases e2
     ·intro q hq gq o7;rcases dh.1 hq with rfl|rF
      ·obtain⟨e1,e2,e3⟩:=h3 gq;subst e1 e2 e3;exact .inr (h4 gq o7)
      ·clear hq;cases hp with
       | false =>
        obtain⟨e1,e2,e3⟩:=h3 rfl;subst e1 e2 e3;rcases hI.nB q rF gq o7 with⟨c,hc,e⟩|h
        ·exact .inl ⟨c,dB _ hc,e⟩
        ·exact .inr h
       | true =>
        rcases oG rfl q rF gq o7 with h|⟨c,hc,e⟩|h
        ·exact .inl ⟨_,eS ..,rfl,h⟩
        ·exact .inl ⟨c,dB _ hc,e⟩
        ·exact .inr h
    have:=zjG os fl B0 _ _ _ _ _ _ GV eM (λq hq gq o7 hj=>by
     rcases dh.1 hq with rfl|hq
     ·exact Su gq o7 hj
     ·exact dS _ (tH q hq gq o7 hj)) h6
    cases hp<;>exact this
   ·intro hr c eY;refine tL c ?_;rcases hI.rest c eY with⟨q,hq,e1,_,e2⟩|⟨⟨q,hq,e1,_,e2⟩,_⟩
    ·rcases ng (.inl hr) q hq e1 with h|⟨h,_⟩
     ·exact⟨q,hq,e1,h,e2⟩
     ·exact absurd (hr.symm.trans h) (by simp)
    ·rcases ng (.inl hr) q hq e1 with h|⟨h,_⟩
     ·exact⟨q,hq,e1,h,e2⟩
     ·exact absurd (hr.symm.trans h) (by simp)
   ·intro hr hf c eY;rcases hI.rest c eY with⟨q,hq,e1,e3,e2⟩|⟨⟨q,hq,e1,e3,e2⟩,hL⟩
    ·rcases ng (.inr ⟨hr,hf⟩) q hq e1 with h|⟨_,h,_⟩
     ·exact .inl (tL c ⟨q,hq,e1,h,e2⟩)
     ·rw[e3] at h;cases h
    ·rcases ng (.inr ⟨hr,hf⟩) q hq e1 with h|⟨_,_,h⟩
     ·exact .inl (tL c ⟨q,hq,e1,h,e2⟩)
     ·exact .inr (h5b hr hf h c hL)
   ·intro hr q hq gq o7;rcases oG hr q hq gq o7 with h|h|h
    ·exact .inl h
    ·exact .inr (.inl h)
    ·exact .inr (.inr (h _))
  simp only[Cx.gk,zg3 hI.pr,hm,jr,qd,jX];simp only[Bk] at hc;split at hc<;>try (cases hc;done)
  next hw=>simp only[hw];exact key false true (.bz []) cQ H lk df _ (λh=>nomatch h) (λ_ h=>nomatch h) (λ_=>⟨rfl,rfl,rfl⟩) (λ_ h=>nomatch h) (λh=>nomatch h) (λh=>nomatch h) (λ_ h=>nomatch h) (λh=>nomatch h) (λ_ h=>h) (λ_ h=>nomatch h) hc
  ·rename_i hw;simp only[hw];obtain⟨DB,hc⟩:=hc;split at hc<;>try (cases hc;done)
   ·rename_i v de H1 eA eZ aF;simp only[aF];obtain⟨mP,hc⟩:=hc;have hfh:jT cx.P cx.uq takes o=true->fhp=true:=λh=>by rw[h] at JF;simpa using JF
    have hfj:js.any (Nat.beq i)=true->ld=true:=λh=>by rw[h] at Ss;simpa using Ss
    refine key _ _ v _ H1 eA eZ _ (λh=>h) (λ_ h=>by simpa using h) (λhf=>?_) (λhf _ D=>?_) (λ_ ha=>?_) (λ_ ht D=>?_) (λ_ _ hl c hL=>zg6 hl hL DB aF) (λh D p hp=>zjF (mP (hfh h)) p hp) (λq hq=>by unfold La;cases ld<;>simp[hq]) (λ_ _ hj=>by rw[hfj hj];simp[La]) hc
    ·obtain⟨v',_,e2,_⟩:=vT hf aF;cases e2;exact⟨rfl,rfl,rfl⟩
    ·simp[Cx.gj,Cx.dO,aF,V.dj]
    ·obtain⟨x,e⟩:=zjD ha aF;cases e;exact⟨x,rfl,rfl,rfl⟩
    ·rcases zl1 (D:=D) ht aF with h|h
     ·exact .inl h
     ·exact .inr h
   ·rename_i de H1 eA eZ aF;simp only[aF];have uD:jT cx.P cx.uq takes o=true:=by
     cases hb:jT cx.P cx.uq takes o with
     | true=>rfl
     | false=>obtain⟨v',e1,_⟩:=vT hb aF;cases e1
    rw[uD];obtain⟨mP,hc⟩:=hc;have hfh:fhp=true:=by rw[uD] at JF;simpa using JF
    refine key true false (.bz []) cQ H1 eA eZ _ (λ_=>uD) (λh=>nomatch h) (λh=>nomatch h) (λh=>nomatch h) (λ_ ha=>?_) (λ_ ht=>?_) (λh=>nomatch h) (λ_ D p hp=>zjF (mP hfh) p hp) (λ_ h=>h) (λh=>nomatch h) hc
    ·obtain⟨dst,op,type,pos,after,guard⟩:=o;unfold yu at ha;split at ha<;>try (cases ha;done)
     rename_i t lK;simp only at lK;subst lK;simp only[Cx.op] at aF;split at aF<;>try (cases aF;done)
     split at aF<;>try (cases aF;done)
     simp[qd,jv] at aF
    ·obtain⟨dst,op,type,pos,after,guard⟩:=o;unfold wh at ht;split at ht<;>try (cases ht;done)
     rename_i t a lK;simp only at lK;subst lK;cases dst with
     | none=>cases ht
     | some d =>
      simp only at ht;rw[VP ht] at aF;unfold BY at aF;split at aF<;>try (cases aF;done)
      split at aF<;>try (cases aF;done)
      split at aF<;>try (cases aF;done)
      split at aF<;>cases aF
def VT{n id:Nat}{Q:Ex->St->Prop}{k:List It}{ops:Array Oper}{env:aA}{H:Hp}{lk:bk}{df:bH}{tk:bP}(js:bR)(fl:List (Bool×Bool))(ht:kX ops=tk)(eM:VS cx.P cx.uq ops tk js 0 [] fl ops.toList=true)
  (h:Bk cx ops tk (λs=>go cx n Q k .normal s) [] fl ops.toList ⟨env,H,[],df⟩):go cx n Q (.c (.region id ops true)::k) .normal ⟨env,H,lk,df⟩:=by
 subst ht;obtain⟨s',h1,h2⟩:=zjG (js:=js) _ _ _ _ _ _ ⟨0,H,[],df⟩ [] _ ⟨.nil,λq hq=>by simp at hq,λb=>by simp[vR],⟨rfl,rfl,rfl⟩,λc hc=>by simp at hc,λc hc=>by simp at hc,λq hq=>by simp at hq⟩ eM (λq hq=>by simp at hq) h
 simp only[go];exact⟨.normal,s',by simp only[Cx.code,Cx.draw];exact h1,h2⟩
section
variable{P:St->Prop}{cQ:List (Oper×aA×V)}{fl:List (Bool×Bool)}{os:List Oper}{env:aA}{H:Hp}{lk:bk}{df:bH}{s:St}{dst:fQ}{op:Op}{type:aq}{pos:String}{after:Array Edge}{ld hp:Bool}
def AL:Bk cx all takes P cQ fl [] s ↔ P s:=by simp[Bk]
def JG(cx:Cx)(all:Array Oper)(takes:bP)(P:St->Prop)(cQ:List (Oper×aA×V))(ld hp:Bool)(fl:List (Bool×Bool))(o:Oper)(env:aA)(os:List Oper):Option (OR×St)->Prop
 | some (.val v,⟨de,H1,eA,eZ⟩)=>(hp=true->x9 cx takes ⟨0,H1,eA,eZ⟩ cQ)/\Bk cx all takes P (La ld (o,env,v) cQ) fl os ⟨qb de o.dst v,H1,eA,eZ⟩
 | some (.skip,⟨de,H1,eA,eZ⟩)=>(hp=true->x9 cx takes ⟨0,H1,eA,eZ⟩ cQ)/\Bk cx all takes P cQ fl os ⟨qb de o.dst (.bz []),H1,eA,eZ⟩
 | _=>False
def s4:Bk cx all takes P cQ ((ld,hp)::fl) (⟨dst,op,type,pos,after,none⟩::os) ⟨env,H,lk,df⟩ ↔ (qj cx ⟨dst,op,type,pos,after,none⟩ env lk=true/\JG cx all takes P cQ ld hp fl ⟨dst,op,type,pos,after,none⟩ env os (cx.op takes ⟨dst,op,type,pos,after,none⟩ env H lk df)):=by
 simp only[Bk,q8];cases cx.op takes ⟨dst,op,type,pos,after,none⟩ env H lk df with
 | none=>simp[JG]
 | some r =>
  obtain⟨r,s1⟩:=r;obtain⟨de,H1,eA,eZ⟩:=s1;cases r<;>simp[JG]
def VU{o:Oper}{v:V}{de:aA}{H1:Hp}{eA:bk}{eZ:bH}:JG cx all takes P cQ ld false fl o env os (some (.val v,⟨de,H1,eA,eZ⟩)) ↔ Bk cx all takes P (La ld (o,env,v) cQ) fl os ⟨qb de o.dst v,H1,eA,eZ⟩:=by simp[JG]
def VV{o:Oper}{v:V}{de:aA}{H1:Hp}{eA:bk}{eZ:bH}:JG cx all takes P cQ ld true fl o env os (some (.val v,⟨de,H1,eA,eZ⟩)) ↔ x9 cx takes ⟨0,H1,eA,eZ⟩ cQ/\Bk cx all takes P (La ld (o,env,v) cQ) fl os ⟨qb de o.dst v,H1,eA,eZ⟩:=by simp[JG]
def zfT{o:Oper}{de:aA}{H1:Hp}{eA:bk}{eZ:bH}:JG cx all takes P cQ ld hp fl o env os (some (.skip,⟨de,H1,eA,eZ⟩)) ↔ (hp=true->x9 cx takes ⟨0,H1,eA,eZ⟩ cQ)/\Bk cx all takes P cQ fl os ⟨qb de o.dst (.bz []),H1,eA,eZ⟩:=by simp[JG]
def VW{p:Oper×aA×V}{ps:List (Oper×aA×V)}:La false p ps=ps:=rfl
def VX{p:Oper×aA×V}{ps:List (Oper×aA×V)}:La true p ps=p::ps:=rfl
def VY{c:eT}:x9 cx takes c [] ↔ True:=Iff.rfl
def AM{D:Nat}{o:Oper}{v:V}{s1:St}(h:cx.op takes o env H lk df=some (.val v,s1)):cx.gj takes o env v ⟨D,H,lk,df⟩=true:=by simp[Cx.gj,Cx.dO,h,V.dj]
end
def zsG(cx:Cx)(n:Nat)(Q:Ex->St->Prop)(k:List It)(R:St->Prop):Ex->St->Prop
 | .normal,s=>R s
 | ex,s=>go cx n Q k ex s
def yh{n:Nat}{Q:Ex->St->Prop}{k:List It}{R:St->Prop}{s:St}:zsG cx n Q k R .normal s ↔ R s:=Iff.rfl
def yi{n:Nat}{Q:Ex->St->Prop}{k:List It}{R:St->Prop}{s:St}{i:Nat}:zsG cx n Q k R (.exit i) s ↔ go cx n Q k (.exit i) s:=Iff.rfl
def Iq{n:Nat}{Q:Ex->St->Prop}{k:List It}{env:aA}{H:Hp}{lk:bk}{df:bH}(F:aA->Prop)(h:F env)(h2:∀env,F env->go cx n Q k .normal ⟨env,H,lk,df⟩):go cx n Q k .normal ⟨env,H,lk,df⟩:=h2 env h
def rH:Nat.beq 4 3=false:=rfl
def rI:Nat.beq 5 3=false:=rfl
def rJ:Nat.beq 5 4=false:=rfl
def rK:Nat.beq 2 3=false:=rfl
def rL:Nat.beq 2 4=false:=rfl
def rM:Nat.beq 2 5=false:=rfl
def rN:Nat.beq 1 2=false:=rfl
def rO:Nat.beq 0 2=false:=rfl
def rP:Nat.beq 1 3=false:=rfl
def rQ:Nat.beq 1 4=false:=rfl
def rR:Nat.beq 1 5=false:=rfl
def rS:Nat.beq 0 1=false:=rfl
def Pt{n:Nat}{Q:Ex->St->Prop}{k:List It}{s:St}(F:St->Prop)(h:F s)(h2:∀s,F s->go cx n Q k .normal s):go cx n Q k .normal s:=h2 s h
def yj{D:Nat}{env:aA}{H:Hp}{lk:bk}{df:bH}{d:Tmp}{t type:aq}{a:aO}{pos:String}{after:Array Edge}{guard:oq}{p v0 v:V}(h1:aB env a=some p)(h2:qJ cx.P H cx.gl t p=some v0)(h3:aT v0=v):x9 cx [] ⟨D,H,lk,df⟩ [(⟨some d,.load t a,type,pos,after,guard⟩,env,v)]:=by
 refine⟨?_,trivial⟩;show cx.gj [] ⟨some d,.load t a,type,pos,after,guard⟩ env v ⟨D,H,lk,df⟩=true;have:cx.op [] ⟨some d,.load t a,type,pos,after,guard⟩ env H lk df=some (.val v,⟨env,H,lk,df⟩):=by
  rw[zI,h1,bC,h2,bG,h3,zk]
 exact AM this
end
section
variable{cx:Cx}{takes:bP}{dst:fQ}{type:aq}{pos:String}{after:Array Edge}{guard:oq}{env:aA}{H:Hp}{lk:bk}{df:bH}
def zqG{t e n:Nat}{x y:aO}{z v u:V}(h1:cx.P.underlying t=some (.slice e))(h2:jh cx.P e=some n)(h3:kf cx.P e=some z)(hn:n≠0/\2 * n<=16777216)(hz:z.cells.length=n)(hz':fH z=true)(hx:aB env x=some v)(hy:aB env y=some u)(hv:fH v=true)(hu:fH u=true)(DD:v.cells.length=n)(hul:u.cells.length=n) :
  cx.op takes ⟨dst,.buildSlice t 2 #[(0,x),(1,y)],type,pos,after,guard⟩ env H lk df=some (.val (.sl n [v,u] (.yes e)),⟨env,H,lk,df⟩):=by
 have e1:Nat.beq n 0=false:=by
  cases n with
  | zero=>exact absurd rfl hn.1
  | succ n=>rfl
 have e2:Nat.blt 16777216 (2 * n)=false:=by
  cases hb:Nat.blt 16777216 (2 * n) with
  | false=>rfl
  | true=>have:=sE hb;omega
 simp[Cx.op,jA,h1,h2,h3,hz,hz',CE,hx,hy,hv,hu,DD,hul,qd,fB,Nat.blt,List.replicate];rw[if_neg (by omega)]
def zqH{t e n k:Nat}{lo co:aO}{z:V}{i:TypeInfo}(h1:cx.P.underlying t=some (.slice e))(h2:jh cx.P e=some n)(h3:kf cx.P e=some z)(hu:cx.uq e=false)(h4:cx.P.info? e=some i)(hn:n≠0)(hz:z.cells.length=n)(hz':fH z=true)(hl:aB env lo=some (.int .i64 (k:Int)))(hc:aB env co=some (.int .i64 (k:Int)))(hr:kr k i.bytes=true)(hk:k≠0) :
  cx.op takes ⟨dst,.makeSlice t lo co,type,pos,after,guard⟩ env H lk df=some (.val (.sr H.aj.length 0 k k),⟨env,H.push (.cells (List.replicate k z.cells).flatten e),lk,df⟩):=by
 have e1:Nat.beq n 0=false:=by
  cases n with
  | zero=>exact absurd rfl hn
  | succ n=>rfl
 have e2:¬((k:Int)<0):=by omega
 have e3:¬((k:Int)=0):=by omega
 simp[Cx.op,h1,h2,h3,h4,hu,e1,e2,hz,hz',hl,hc,hr,hk,ep,jv]
def zkX{t u e b off len cap:Nat}{x y:aO}{ys cs:aA}{ty:aq}{o:Own}(h1:cx.P.underlying t=some (.slice e))(h2:jh cx.P e=some 1)(hx:aB env x=some (.sr b off len cap))(hy:aB env y=some (.sl 1 ys o))(hb:H.get b=some (.cells cs ty))(hl:ys.length=len)(hf:(dz ys).map aT=ys)(hr:off+len<=cs.length)(hm:wQ lk b off len (cs.drop off)=true) :
  cx.op takes ⟨dst,.call ⟨.builtin .copy,#[x,y],#[t,u]⟩,type,pos,after,guard⟩ env H lk df=some (.val (.int .i64 (len:Nat)),⟨env,(H.set b (.cells (storeCells cs off ys) ty)).bI b (.bz ys),lk,df⟩):=by
 have e1:ys.take len=ys:=by rw[<- hl,List.take_length]
 have e2:Nat.ble (off+len) cs.length=true:=Kj hr;have e3:(dz ys).length=len:=by rw[<- hl,<- congrArg List.length hf,eF]
 simp[Cx.op,Cx.s9,h1,h2,hx,hy,vq,hb,hl,e1,hf,hm,ep,jU,e3,hr]
end
section
variable{cx:Cx}{all:Array Oper}{takes:bP}
def zjH{n id:Nat}{Q:Ex->St->Prop}{k:List It}{ops:Array Oper}{env:aA}{H:Hp}{lk:bk}{df:bH}{tk:bP}(ht:kX ops=tk)(h:∃s',cx.gk ops tk 0 [] [⟨0,H,[],df⟩] ops.toList ⟨env,H,[],df⟩=some (.normal,s')/\go cx n Q k .normal s'):go cx n Q (.c (.region id ops true)::k) .normal ⟨env,H,lk,df⟩:=by
 subst ht;obtain⟨s',h1,h2⟩:=h;simp only[go];exact⟨.normal,s',by simp only[Cx.code,Cx.draw];exact h1,h2⟩
section
variable{i m:Nat}{rs:List Rec}{c0:eT}{cs cs':List eT}{o:Oper}{os:List Oper}{env de:aA}{H H1:Hp}{lk eA:bk}{df eZ:bH}{v:V}{r:Option (Ex×St)}
def yS(all:Array Oper)(takes:bP)(i:Nat)(o:Oper)(m:Nat)(hp free:Bool)(env:aA)(v:V):Rec:=⟨i,o,m,lC takes o,Nat.lor (lC takes o) (r9 all o),hp,free,env,v⟩
def yk(hm:wd rs o.after.toList=some m)(hg:q8 all o env=some true)(aF:cx.op takes o env H lk df=some (.val v,⟨de,H1,eA,eZ⟩))(h1:jT cx.P cx.uq takes o=false)(h2:wM cx.P cx.uq o=false)
  (hs:kH (kx (yS all takes i o m false true env v)) rs=true) (k:cx.gk all takes (i+1) (yS all takes i o m false true env v::rs) (c0::cs) os ⟨qb de o.dst v,H1,eA,eZ⟩=r):cx.gk all takes i rs (c0::cs) (o::os) ⟨env,H,lk,df⟩=r:=by
 simp only[yS] at hs k;simp only[Cx.gk,hm,jr,hg,aF,qd,jX,h1,h2,fz,hs];simp only[Cx.fS,fO];exact k
def VZ(hm:wd rs o.after.toList=some m)(hg:q8 all o env=some true)(aF:cx.op takes o env H lk df=some (.val v,⟨de,H1,eA,eZ⟩))(h1:jT cx.P cx.uq takes o=false)(h2:wM cx.P cx.uq o=true)
  (hs:kH (kx (yS all takes i o m false false env v)) rs=true) (hc:kH (λc=>match kW (Nat.land m (cE rs)) c.D with|true=>cx.gj takes o env v c|false=>true) cs=true)
  (k:cx.gk all takes (i+1) (yS all takes i o m false false env v::rs) (c0::cs) os ⟨qb de o.dst v,H1,eA,eZ⟩=r):cx.gk all takes i rs (c0::cs) (o::os) ⟨env,H,lk,df⟩=r:=by
 simp only[yS] at hs k;simp only[Cx.gk,hm,jr,hg,aF,qd,jX,h1,h2,eU,hs];simp only[Cx.fS,eI];split
 ·exact k
 next h=>exact absurd (hc.symm.trans h) (by decide)
def zdW(hm:wd rs o.after.toList=some m)(hg:q8 all o env=some true)(aF:cx.op takes o env H lk df=some (.val v,⟨de,H1,eA,eZ⟩))(h1:jT cx.P cx.uq takes o=true)(h2:wM cx.P cx.uq o=true)
  (hs:kH (kx (yS all takes i o m true false env v)) rs=true) (hc:∀K,cx.fS takes rs (yS all takes i o m true false env v) c0 ⟨Nat.lor c0.D (Nat.pow 2 i),H1,eA,eZ⟩ cs K=K cs')
  (k:cx.gk all takes (i+1) (yS all takes i o m true false env v::rs) cs' os ⟨qb de o.dst v,H1,eA,eZ⟩=r):cx.gk all takes i rs (c0::cs) (o::os) ⟨env,H,lk,df⟩=r:=by
 have eY:=λK=>hc K;simp only[yS] at hs k eY;simp only[Cx.gk,hm,jr,hg,aF,qd,jX,h1,h2,eU,hs];rw[eY];exact k
def zkY(hm:wd rs o.after.toList=some m)(hg:q8 all o env=some true)(aF:cx.op takes o env H lk df=some (.skip,⟨de,H1,eA,eZ⟩))(h1:jT cx.P cx.uq takes o=true)
  (hs:kH (kx (yS all takes i o m true false env (.bz []))) rs=true) (hc:∀K,cx.fS takes rs (yS all takes i o m true false env (.bz [])) c0 ⟨Nat.lor c0.D (Nat.pow 2 i),H1,eA,eZ⟩ cs K=K cs')
  (k:cx.gk all takes (i+1) (yS all takes i o m true false env (.bz [])::rs) cs' os ⟨qb de o.dst (.bz []),H1,eA,eZ⟩=r):cx.gk all takes i rs (c0::cs) (o::os) ⟨env,H,lk,df⟩=r:=by
 have eY:=λK=>hc K;simp only[yS] at hs k eY;simp only[Cx.gk,hm,jr,hg,aF,qd,jX,h1,hs];rw[eY];exact k
def zjI{s:St}:cx.gk all takes i rs cs [] s=some (.normal,s):=by simp only[Cx.gk]
def znf{R:Rec}{c1:eT}{k:List eT->Option (Ex×St)}(hp:R.hp=true)(cX:∀c∈cs,kW (Nat.land R.m (cE rs)) c.D=false)
  (gm:cx.nK takes rs (cE rs) R (c1::c0::cs) c1=true):cx.fS takes rs R c0 c1 cs k=k (c1::c0::cs):=by
 have hr:∀l:List eT,(∀c∈l,kW (Nat.land R.m (cE rs)) c.D=false)->cx.g_ takes R.o R.env R.v (Nat.land R.m (cE rs)) (Nat.pow 2 R.idx) l=some []:=by
  intro l
  induction l with
  | nil=>intro _;rfl
  | cons c l ih=>intro h;simp only[Cx.g_,h c (eS ..)];exact ih λc hc=>h c (dB _ hc)
 unfold Cx.fS;rw[hp];simp only[hr cs cX,cF,cq,kH,gm]
end
def iR:∀(l:List br),lF l l=true
 | []=>rfl
 | a::l=>by
  have h:fA a a=true:=by
   cases a with
   | cells a t=>simp[fA,dQ]
   | map a =>
    have:∀(l:List (V×V)),o_ l l=true:=by
     intro l
     induction l with
     | nil=>rfl
     | cons x l ih=>obtain⟨a,b⟩:=x;simp[o_,V.dj,ih]
    simp[fA,this]
   | iter a i =>
    have:∀(l:bR),rZ l l=true:=by
     intro l
     induction l with
     | nil=>rfl
     | cons x l ih=>simp[rZ,ih]
    simp[fA,this]
   | ul a b c d=>simp[fA,dQ]
  simp[lF,h,iR l]
def iS:∀(l:bk),iV l l=true
 | []=>rfl
 | (a,b)::l=>by simp[iV,iS l]
def iT:∀(l:bH),mb l l=true
 | []=>rfl
 | (a,b)::l=>by simp[mb,V.dj,dQ,iT l]
def m_{D D':Nat}{H:Hp}{lk:bk}{df:bH}:yU ⟨D,H,lk,df⟩ ⟨D',H,lk,df⟩=true:=by
 simp[yU,iS,iT,iR]
def zng{r2 r1 r0 R:Rec}{c0 c1 d c2 e:eT}{k:List eT->Option (Ex×St)}(hp:R.hp=true)(h2:r2.hp=false)(V0:r2.free=true)(h0:r0.hp=false)(V1:r0.free=true)(h1:r1.hp=true)
  (hs:kW (Nat.land R.m (cE [r2,r1,r0])) d.D=true) (hr:cx.dO takes R.o R.env d (Nat.lor d.D (Nat.pow 2 R.idx))=some (R.v,c2)) (QO:bit c1.D r1.idx=true) (pH:bit c2.D r1.idx=false)
  (hq:cx.dO takes r1.o r1.env c2 0=some (r1.v,e)) (hf:yV (Nat.lor c2.D (Nat.pow 2 r1.idx)) [c1,c2,c0,d]=some c1) (he:yU e c1=true) :
  cx.fS takes [r2,r1,r0] R c0 c1 [d] k=k [c1,c2,c0,d]:=by
 have KV:cx.nK takes [r2,r1,r0] (cE [r2,r1,r0]) R [c1,c2,c0,d] c1=true:=by
  unfold Cx.nK;refine Sn λq hq=>?_;split
  ·rfl
  ·rcases dh.1 hq with rfl|hq
   ·simp[h2,V0]
   ·rcases dh.1 hq with rfl|hq
    ·simp[h1,QO]
    ·obtain rfl:q=r0:=by simpa using hq
     simp[h0,V1]
 have ZP:cx.nK takes [r2,r1,r0] (cE [r2,r1,r0]) R [c1,c2,c0,d] c2=true:=by
  unfold Cx.nK;refine Sn λq rF=>?_;split
  ·rfl
  ·rcases dh.1 rF with rfl|rF
   ·simp[h2,V0]
   ·rcases dh.1 rF with rfl|rF
    ·simp only[h1,pH,hq,hf,V.dj,he,fo]
    ·obtain rfl:q=r0:=by simpa using rF
     simp[h0,V1]
 unfold Cx.fS;rw[hp];simp only[Cx.g_,hs,hr,V.dj,cF,cq,kH,KV,ZP]
def zcs{rs:List Rec}{cs:List eT}{R:Rec}{c0 c1 uc:eT}{k:List eT->Option (Ex×St)}(e:c1=uc)(hp:R.hp=true)(cX:∀c∈cs,kW (Nat.land R.m (cE rs)) c.D=false)
  (gm:cx.nK takes rs (cE rs) R (uc::c0::cs) uc=true):cx.fS takes rs R c0 c1 cs k=k (uc::c0::cs):=by
 subst e;exact znf hp cX gm
def zkZ{r2 r1 r0 R:Rec}{c0 c1 uc d c2 e:eT}{k:List eT->Option (Ex×St)}(e1:c1=uc)(hp:R.hp=true)(h2:r2.hp=false)(V0:r2.free=true)(h0:r0.hp=false)(V1:r0.free=true)(h1:r1.hp=true)
  (hs:kW (Nat.land R.m (cE [r2,r1,r0])) d.D=true) (hr:cx.dO takes R.o R.env d (Nat.lor d.D (Nat.pow 2 R.idx))=some (R.v,c2)) (QO:bit uc.D r1.idx=true) (pH:bit c2.D r1.idx=false)
  (hq:cx.dO takes r1.o r1.env c2 0=some (r1.v,e)) (hf:yV (Nat.lor c2.D (Nat.pow 2 r1.idx)) [uc,c2,c0,d]=some uc) (he:yU e uc=true) :
  cx.fS takes [r2,r1,r0] R c0 c1 [d] k=k [uc,c2,c0,d]:=by
 subst e1;exact zng hp h2 V0 h0 V1 h1 hs hr QO pH hq hf he
end
section
def JH(f:Nat->Bool):Nat->Nat
 | 0=>0
 | n+1=>JH f n ||| (if f n=true then 2 ^ n else 0)
def zct{f:Nat->Bool}{j:Nat}:∀{n:Nat},(JH f n).testBit j=(decide (j<n) && f j)
 | 0=>by simp[JH]
 | n+1=>by
  simp only[JH,Nat.testBit_or,zct (n:=n)]
  by_cases e:n=j
  ·subst e;cases h:f n<;>simp[]
  ·have:(if f n=true then 2 ^ n else 0).testBit j=false:=by
    cases f n<;>simp[e]
   rw[this];have:(j<n) ↔ (j<n+1):=by omega
   simp[this]
def zjJ{f:Nat->Bool}:∀{n:Nat},JH f n<2 ^ n
 | 0=>by simp[JH]
 | n+1=>by
  simp only[JH];have h1:=zjJ (f:=f) (n:=n);have h2:2 ^ n<2 ^ (n+1):=N1 (by omega) (by omega)
  refine Nat.or_lt_two_pow (by omega) ?_
  split<;>omega
def xx{f:Nat->Bool}{n m:Nat}(hm:m<2 ^ n)(h:∀j,j<n->m.testBit j=f j):m=JH f n:=by
 apply Nat.eq_of_testBit_eq;intro j;rw[zct]
 by_cases hj:j<n
 ·simp[hj,h j hj]
 ·simp only[hj,decide_false,fm];exact Nat.testBit_lt_two_pow (oY hm (Nat.pow_le_pow_right (by omega) (by omega)))
def wi(p:Nat->Bool)(i:Nat):Nat:=JH (λj=>p (64 * i+j)) 64
def wz{p:Nat->Bool}{i:Nat}:wi p i<2 ^ 64:=zjJ
def vb{p:Nat->Bool}{i j:Nat}(h:j<64):(wi p i).testBit j=p (64 * i+j):=by simp[wi,zct,h]
def jz(p:Nat->Bool)(n:Nat):Nat->Bool:=λk=>p k || k == n
def jn(p q:Nat->Bool):Nat->Bool:=λk=>p k || q k
def zoZ{p:Nat->Bool}{n:Nat}:wi p (n / 64) ||| 2 ^ (n % 64)=wi (jz p n) (n / 64):=by
 refine xx (Nat.or_lt_two_pow wz (N1 (by omega) (Nat.mod_lt _ (by omega)))) λj hj=>?_
 rw[Nat.testBit_or,vb hj,N2];simp only[jz]
 congr 1
 rw[HT];simp only[decide_eq_true_eq,beq_iff_eq];omega
def zjK{p:Nat->Bool}{n i:Nat}(h:i≠n / 64):wi (jz p n) i=wi p i:=by
 refine(xx wz λj hj=>?_).symm;rw[vb hj];simp only[jz];have:¬(64 * i+j=n):=λe=>h (by omega)
 simp[this]
def pv(m:Nat)(p:Nat->Bool):aA:=(List.range m).map λi=>.int .u64 (wi p i:Nat)
def kw{m:Nat}{p:Nat->Bool}:(pv m p).length=m:=by simp[pv]
def xy{m:Nat}{p:Nat->Bool}{i:Nat}(h:i<m):(pv m p)[i]?=some (.int .u64 (wi p i:Nat)):=by simp[pv,h]
def zr3{m:Nat}{p:Nat->Bool}{n:Nat}:(pv m p).set (n / 64) (.int .u64 (wi (jz p n) (n / 64):Nat))=pv m (jz p n):=by
 apply Dt;intro i;rw[List.getElem?_set']
 by_cases hi:i<m
 ·rw[xy hi,xy hi]
  by_cases e:n / 64=i
  ·subst e;simp
  ·simp[e,zjK (Ne.symm e)]
 ·have h1:(pv m p)[i]?=none:=by simp[pv];omega
  have h2:(pv m (jz p n))[i]?=none:=by simp[pv];omega
  rw[h1,h2];simp
def zfU{n:Nat}(h:n<2 ^ 64):IntKind.u64.wrap (n:Int)=n:=by
 simp only[IntKind.wrap,IntKind.bits,IntKind.signed];simp only[fm,dF,bZ];omega
def yF{n:Int}(h:-9223372036854775808<=n)(h':n<9223372036854775808):IntKind.i64.wrap n=n:=by
 simp only[IntKind.wrap,IntKind.bits,IntKind.signed];simp only[eH,decide_eq_true_eq,ge_iff_le];have e1:(2:Int) ^ 64=18446744073709551616:=by decide
 have e2:(2:Int) ^ (64 - 1)=9223372036854775808:=by decide
 rw[e1,e2];split<;>omega
def V2{n:Nat}(h:n<2 ^ 64):(BitVec.ofInt 64 (n:Int)).toNat=n:=by
 simp[];omega
variable{P:aM}{t:aq}{x y:aO}
def zfV{a b:Nat}(ha:a<2 ^ 64)(hb:b<2 ^ 64):jY P .or t x y (some (.int .u64 a)) (some (.int .u64 b))=some (.int .u64 ((a ||| b:Nat):Int)):=by
 have h0:((BitVec.ofInt 64 (a:Int) ||| BitVec.ofInt 64 (b:Int)).toNat)=a ||| b:=by
  rw[BitVec.toNat_or,V2 ha,V2 hb]
 have h:((BitVec.ofInt IntKind.u64.bits (a:Int) ||| BitVec.ofInt IntKind.u64.bits (b:Int)).toNat)=a ||| b:=h0
 simp only[jY,kb,wT,wl,aU];rw[h,zfU (Nat.or_lt_two_pow ha hb)]
def znh{k:Nat}(hk:k<2 ^ 60):jY P .quo t x y (some (.int .i64 k)) (some (.int .i64 64))=some (.int .i64 ((k / 64:Nat):Int)):=by
 have h:(k:Int).tdiv 64=((k / 64:Nat):Int):=by
  rw[Int.tdiv_eq_ediv_of_nonneg (by omega)];omega
 simp only[jY,kb,wT,wl,aU];rw[h,yF (by omega) (by omega)]
 rfl
def zni{k:Nat}:jY P .rem t x y (some (.int .i64 k)) (some (.int .i64 64))=some (.int .i64 ((k % 64:Nat):Int)):=by
 have h:(k:Int).tmod 64=((k % 64:Nat):Int):=by
  rw[Int.tmod_eq_emod_of_nonneg (by omega)];omega
 simp only[jY,kb,wT,wl,aU];rw[h];rfl
def zo0{k:Nat}(hk:k<64):jY P .shl t x y (some (.int .u64 1)) (some (.int .i64 k))=some (.int .u64 ((2 ^ k:Nat):Int)):=by
 have h1:¬((k:Int)<0):=by omega
 have h2:min (k:Int).toNat IntKind.u64.bits=k:=by simp[IntKind.bits];omega
 have h3:(1:Int) * 2 ^ k=((2 ^ k:Nat):Int):=by simp
 simp only[jY,kb,wT,N4,aU,h1,bZ,h2];rw[h3,zfU (N1 (by omega) hk)]
def zg7{H:Hp}{b off n:Nat}{v:V}{env:aA}{cs:aA}{ty:aq}{lk:bk}{df:bH}(hb:H.get b=some (.cells cs ty))(h1:fH v=true)(h2:v.laid.length=n)(h3:off+n<=cs.length)(h4:wQ lk b off n (cs.drop off)=true) :
  OE n H lk df (some (.ptr b off)) (some (v,env))=some (.skip,⟨env,(H.set b (.cells (Vm.storeCells cs off v.laid) ty)).bI b v,lk,df⟩):=by
 simp only[OE,hb,h1,h2,h4];simp[h3]
def vY{H:Hp}{b:Nat}{v:V}(h:v.top<=b+1):H.bI b v=H:=by simp[Hp.bI,h]
def zh8{pre post:aA}{m i:Nat}{xs:aA}{v:V}(h:xs.length=m)(hi:i<m):(pre++xs++post).set (pre.length+i) v=pre++xs.set i v++post:=by
 rw[b_,List.set_append_right _ _ (by omega),P2,List.set_append_left _ _ (by omega),b_]
def M_{pre post:aA}{m i:Nat}{xs:aA}(h:xs.length=m)(hi:i<m):(pre++xs++post)[pre.length+i]?=xs[i]?:=by
 rw[b_,oe (by omega),P2,mz (by omega)]
def zjL{lk:bk}{b:Nat}:∀{n off:Nat}{l:aA},(∀i,i<n->∃c,l[i]?=some c/\locked c=false)->wQ lk b off n l=true
 | 0,_,_,_=>by simp[wQ]
 | n+1,off,[],h=>by obtain⟨c,hc,_⟩:=h 0 (by omega);simp at hc
 | n+1,off,c::l,h=>by
  obtain⟨d,hd,hl⟩:=h 0 (by omega)
  simp only[Ba,aR] at hd;subst hd;simp only[wQ,hl,fz,fO,eH];exact zjL λi hi=>by
   have:=h (i+1) (by omega)
   simpa using this
def zdX{lk:bk}{b n off:Nat}{cs:aA}(h:∀i,i<n->∃c,cs[off+i]?=some c/\locked c=false):wQ lk b off n (cs.drop off)=true :=
 zjL λi hi=>by rw[FP];exact h i hi
end
section
def B1:∀(w:Nat),w≠0->∃k m,w=2 ^ (k+1) * m+2 ^ k:=by
 intro w
 induction w using Nat.strongRecOn with
 | ind w ih =>
  intro h;rcases Nat.mod_two_eq_zero_or_one w with h2|h2
  ·obtain⟨k,m,e⟩:=ih (w / 2) (by omega) (by omega)
   refine⟨k+1,m,?_⟩;have:w=2 * (w / 2):=by omega
   rw[this,e,Nat.mul_add,<- Nat.mul_assoc,<- Nat.pow_succ',<- Nat.pow_succ']
  ·exact⟨0,w / 2,by omega⟩
def zh9(k:Nat):0<2 ^ k:=Nat.pow_pos (by decide)
def V3{k m j:Nat}:(2 ^ (k+1) * m+2 ^ k).testBit j=if j<k then false else if j=k then true else m.testBit (j - (k+1)):=by
 rw[Nat.testBit_two_pow_mul_add _ (N1 (by decide) (by omega)),N2]
 by_cases h1:j<k
 ·rw[if_pos (by omega),if_pos h1];simp;omega
 ·by_cases h2:j=k
  ·subst h2;simp
  ·rw[if_neg (by omega),if_neg h1,if_neg h2]
def zjM{k m j:Nat}:(2 ^ (k+1) * m+2 ^ k - 1).testBit j=if j<k then true else if j=k then false else m.testBit (j - (k+1)):=by
 have:=zh9 k;have h2:2 ^ k<2 ^ (k+1):=N1 (by decide) (by omega)
 rw[Nat.add_sub_assoc (by omega),Nat.testBit_two_pow_mul_add _ (by omega),Nat.testBit_two_pow_sub_one]
 by_cases h1:j<k
 ·rw[if_pos (by omega),if_pos h1];simp[h1]
 ·by_cases h2:j=k
  ·subst h2;simp
  ·rw[if_neg (by omega),if_neg h1,if_neg h2]
def Sv{k m:Nat}(h:2 ^ (k+1) * m+2 ^ k<2 ^ 64):k<64:=by
 rcases lP k 64 with h1|h1
 ·exact h1
 ·have:=Nat.pow_le_pow_right (n:=2) (by decide) h1
  omega
def zqI{k m:Nat}(h:2 ^ (k+1) * m+2 ^ k<2 ^ 64):(2 ^ (k+1) * m+2 ^ k) &&& (2 ^ 64 - (2 ^ (k+1) * m+2 ^ k))=2 ^ k:=by
 have hp:=zh9 k;apply Nat.eq_of_testBit_eq;intro j;have e:2 ^ 64 - (2 ^ (k+1) * m+2 ^ k)=2 ^ 64 - ((2 ^ (k+1) * m+2 ^ k - 1)+1):=by omega
 rw[Nat.testBit_and,e,Nat.testBit_two_pow_sub_succ (by omega),zjM,V3,N2]
 have:=Sv h
 by_cases h1:j<k
 ·simp[h1];omega
 ·by_cases h2:j=k
  ·subst h2;simp[this]
  ·have h3:decide (k=j)=false:=by simp;omega
   rw[h3];simp only[h1,h2,bZ];cases m.testBit (j - (k+1))<;>simp
def wK(w:Nat):bR:=(List.range' 0 64).filter λj=>w.testBit j
def zjN{k:Nat}{p q:Nat->Bool}(hk:p k=true)(hq:∀j,q j=(p j && !(j == k))):∀(n s:Nat),s<=k->k<s+n->(∀j,s<=j->j<k->p j=false)->(List.range' s n).filter p=k::(List.range' s n).filter q
 | 0,s,h1,h2,_=>by omega
 | n+1,s,h1,h2,h3=>by
  rw[List.range'_succ]
  by_cases e:s=k
  ·subst e;have hqs:q s=false:=by rw[hq];simp
   rw[List.filter_cons_of_pos hk,List.filter_cons_of_neg (by rw[hqs];decide)]
   congr 1
   apply List.filter_congr;intro j hj;have:=List.mem_range'_1.1 hj;have cG:(j == s)=false:=by simp;omega
   rw[hq,cG];simp
  ·have hs:p s=false:=h3 s (ek _) (by omega)
   have hqs:q s=false:=by rw[hq,hs];rfl
   rw[List.filter_cons_of_neg (by rw[hs];decide),List.filter_cons_of_neg (by rw[hqs];decide)]
   exact zjN hk hq n (s+1) (by omega) (by omega) λj h4 h5=>h3 j (by omega) h5
def V4{k m:Nat}(h:2 ^ (k+1) * m+2 ^ k<2 ^ 64):wK (2 ^ (k+1) * m+2 ^ k)=k::wK ((2 ^ (k+1) * m+2 ^ k) &&& (2 ^ (k+1) * m+2 ^ k - 1)):=by
 refine zjN (by simp[V3]) (λj=>?_) 64 0 (by omega) (by have:=Sv h;omega) λj _ hj=>by simp[V3,hj]
 rw[Nat.testBit_and,V3,zjM]
 by_cases h1:j<k
 ·simp[h1]
 ·by_cases h2:j=k
  ·subst h2;simp
  ·simp[h1,h2]
def tM:wK 0=[]:=by simp[wK]
def Sw:List Int:=[0,1,56,2,57,49,28,3,61,58,42,50,38,29,17,4,62,47,59,36,45,43,51,22,53,39,33,30,24,18,12,5,63,55,48,27,60,41,37,16,46,35,44,21,52,32,23,11,54,26,40,15,34,20,31,10,25,14,19,9,13,8,7,6]
def AN:aA:=Sw.map (V.int .u8)
def Na:∀k:Nat,k<64->nth AN ((2 ^ k * 285870213051353865) % 2 ^ 64 / 2 ^ 58)=some (.int .u8 (k:Int)):=by
 have h:(List.range 64).all (λk:Nat=>match nth AN ((2 ^ k * 285870213051353865) % 2 ^ 64 / 2 ^ 58) with|some (.int .u8 n)=>n == (k:Int)|_=>false)=true:=by decide +kernel
 intro k hk;have:=Fc.1 h k (FQ.2 hk);split at this<;>try (cases this;done)
 rename_i n e;rw[e];have:n=(k:Int):=by simpa using this
 rw[this]
variable{P:aM}{t:aq}{x y:aO}
def zo1{w:Nat}(h0:w≠0)(h:w<2 ^ 64):FU .neg (.int .u64 (w:Int))=some (.int .u64 ((2 ^ 64 - w:Nat):Int)):=by
 simp only[FU]
 congr 2
 simp only[IntKind.wrap,IntKind.bits,IntKind.signed,fm,dF,bZ];omega
def zdY{a b:Nat}(ha:a<2 ^ 64)(hb:b<2 ^ 64):jY P .and t x y (some (.int .u64 a)) (some (.int .u64 b))=some (.int .u64 ((a &&& b:Nat):Int)):=by
 have h0:((BitVec.ofInt 64 (a:Int) &&& BitVec.ofInt 64 (b:Int)).toNat)=a &&& b:=by
  rw[BitVec.toNat_and,V2 ha,V2 hb]
 have h:((BitVec.ofInt IntKind.u64.bits (a:Int) &&& BitVec.ofInt IntKind.u64.bits (b:Int)).toNat)=a &&& b:=h0;simp only[jY,kb,wT,wl,aU];rw[h,zfU (Nat.lt_of_le_of_lt Nat.and_le_left ha)]
def znj{a b:Nat}:jY P .mul t x y (some (.int .u64 a)) (some (.int .u64 b))=some (.int .u64 ((a * b % 2 ^ 64:Nat):Int)):=by
 have h:IntKind.u64.wrap ((a:Int) * b)=((a * b % 2 ^ 64:Nat):Int):=by
  simp only[IntKind.wrap,IntKind.bits,IntKind.signed,fm,dF,bZ];rw[<- Int.natCast_mul];omega
 simp only[jY,kb,wT,wl,aU,h]
def znk{a:Nat}:jY P .shr t x y (some (.int .u64 a)) (some (.int .u64 58))=some (.int .u64 ((a / 2 ^ 58:Nat):Int)):=by
 have h2:min (58:Int).toNat IntKind.u64.bits=58:=by decide
 have h3:(a:Int).fdiv (2 ^ 58)=((a / 2 ^ 58:Nat):Int):=by
  rw[Int.fdiv_eq_ediv_of_nonneg _ (show(0:Int)<=2 ^ 58 by decide)]
  omega
 simp only[jY,kb,wT,N4,aU,show ¬((58:Int)<0) by decide,bZ,h2,h3]
def zg8{w:Nat}(h0:w≠0)(h:w<2 ^ 64):jY P .sub t x y (some (.int .u64 w)) (some (.int .u64 1))=some (.int .u64 ((w - 1:Nat):Int)):=by
 rw[UU]
 congr 2
 simp only[IntKind.wrap,IntKind.bits,IntKind.signed,fm,dF,bZ];omega
def zqJ{k:Nat}(hk:k<64):∃x ix:Nat,(∀(t:aq)(u v:aO),jY P .mul t u v (some (.int .u64 ((2 ^ k:Nat):Int))) (some (.int .u64 285870213051353865))=some (.int .u64 (x:Int)))/\(∀(t:aq)(u v:aO),jY P .shr t u v (some (.int .u64 (x:Int))) (some (.int .u64 58))=some (.int .u64 (ix:Int)))/\ix<64/\nth AN ix=some (.int .u8 (k:Int)):=by
 refine⟨2 ^ k * 285870213051353865 % 2 ^ 64,2 ^ k * 285870213051353865 % 2 ^ 64 / 2 ^ 58,λt u v=>znj,λt u v=>znk,?_,Na k hk⟩;have:2 ^ k * 285870213051353865 % 2 ^ 64<2 ^ 64:=Nat.mod_lt _ (by decide)
 omega
def zqK{k m:Nat}(h:2 ^ (k+1) * m+2 ^ k<2 ^ 64):∃w w':Nat,w=2 ^ (k+1) * m+2 ^ k/\w≠0/\FU .neg (.int .u64 (w:Int))=some (.int .u64 (w':Int))/\(∀(t:aq)(u v:aO),jY P .and t u v (some (.int .u64 (w:Int))) (some (.int .u64 (w':Int)))=some (.int .u64 ((2 ^ k:Nat):Int))):=by
 have hp:=zh9 k;refine⟨_,2 ^ 64 - (2 ^ (k+1) * m+2 ^ k),rfl,by omega,zo1 (by omega) h,λt u v=>?_⟩
 rw[zdY h (by omega),zqI h]
def V5(p:Nat->Bool)(i:Nat):aA:=(wK (wi p i)).map λj=>.int .i64 ((64 * i+j:Nat):Int)
def Ad(p:Nat->Bool):Nat->aA
 | 0=>[]
 | i+1=>Ad p i++V5 p i
def zdZ{w:Nat}:(wK w).length<=64:=by
 have:=List.length_filter_le (λj=>w.testBit j) (List.range' 0 64);simpa[wK] using this
def Pu{p:Nat->Bool}:∀i,(Ad p i).length<=64 * i
 | 0=>by simp[Ad]
 | i+1=>by
  have:=Pu (p:=p) i;have:=zdZ (w:=wi p i);simp only[Ad,V5,bY,eF];omega
def jo(p:Nat->Bool):Nat->bR
 | 0=>[]
 | i+1=>jo p i++(wK (wi p i)).map λj=>64 * i+j
def Nb{p:Nat->Bool}:∀i,Ad p i=(jo p i).map λk=>V.int .i64 ((k:Nat):Int)
 | 0=>rfl
 | i+1=>by simp only[Ad,jo,V5,Nb i,List.map_append,List.map_map];rfl
def Pv{p:Nat->Bool}:∀i,jo p i=(List.range (64 * i)).filter p
 | 0=>rfl
 | i+1=>by
  have h1:wK (wi p i)=(List.range 64).filter λj=>p (64 * i+j):=by
   rw[wK,IG];apply List.filter_congr;intro j hj;have:=List.mem_range'_1.1 hj;exact vb (by omega)
  rw[jo,Pv i,h1,Nat.mul_add,LL,List.range_add,List.filter_append,List.filter_map];rfl
def iU{p:Nat->Bool}{i k:Nat}:k∈jo p i ↔ k<64 * i/\p k=true:=by
 rw[Pv,List.mem_filter,FQ]
def iF(q:Nat->Bool):bR->List (Nat->Bool)->List (Nat->Bool)
 | [],ns=>ns
 | k::ks,ns=>iF q ks (ns.set k (jn (ns.getD k λ_=>false) q))
def wb{q:Nat->Bool}:∀{ks:bR}{ns:List (Nat->Bool)},(iF q ks ns).length=ns.length
 | [],_=>rfl
 | k::ks,ns=>by rw[iF,wb,ee]
def zjO{ns:List (Nat->Bool)}{k:Nat}(hk:k<ns.length):∃pre post,pre.length=k * 19/\(ns.map (pv 19)).flatten=pre++pv 19 (ns.getD k λ_=>false)++post/\∀r,((ns.set k r).map (pv 19)).flatten=pre++pv 19 r++post:=by
 induction ns generalizing k with
 | nil=>simp at hk
 | cons p ns ih =>
  cases k with
  | zero=>exact⟨[],(ns.map (pv 19)).flatten,rfl,by simp,λr=>by simp⟩
  | succ k =>
   obtain⟨pre,post,h1,h2,h3⟩:=ih (k:=k) (by simpa using hk)
   refine⟨pv 19 p++pre,post,?_,?_,λr=>?_⟩
   ·rw[bY,kw,h1,Nat.succ_mul,Nat.add_comm]
   ·simp only[bW,List.flatten_cons,h2,b_,List.getD_cons_succ]
   ·simp only[dM,bW,List.flatten_cons,h3,b_]
end
section
def UL(H:Hp)(sz:Nat)(e:aq)(c:V)(i:Option Nat)(xs:List aA):Prop :=
 match i with
 | none=>c=.aJ/\xs=[]
 | some j=>∃v,c=.eo j v xs.length/\H.get j=some (.ul v sz xs.flatten e)
structure rT(H H':Hp)(S:Nat->Prop):Prop where
 len:H.aj.length<=H'.aj.length
 get:∀d,d<H.aj.length->¬S d->H'.get d=H.get d
def rT.refl{H:Hp}{S:Nat->Prop}:rT H H S:=⟨ek _,λ_ _ _=>rfl⟩
def rT.trans{A B C:Hp}{S T:Nat->Prop}(h:rT A B S)(k:rT B C T):rT A C (λd=>S d\/T d) :=
 ⟨cZ h.len k.len,λd hd hn=>(k.get d (oY hd h.len) λe=>hn (.inr e)).trans (h.get d hd λe=>hn (.inl e))⟩
def rT.mono{A B:Hp}{S T:Nat->Prop}(h:rT A B S)(hs:∀d,d<A.aj.length->S d->T d):rT A B T:=⟨h.len,λd hd hn=>h.get d hd λe=>hn (hs d hd e)⟩
def rT.some{A B:Hp}{S:Nat->Prop}(h:rT A B S){d:Nat}{x:br}(hx:A.get d=some x)(hn:¬S d):B.get d=some x:=(h.get d (wg hx) hn).trans hx
def UL.frame{A B:Hp}{sz:Nat}{e:aq}{c:V}{i:Option Nat}{xs:List aA}(h:UL A sz e c i xs)(hg:∀j,i=some j->B.get j=A.get j):UL B sz e c i xs:=by
 cases i with
 | none=>exact h
 | some j=>obtain⟨v,h1,h2⟩:=h;exact⟨v,h1,(hg j rfl).trans h2⟩
def UL.lt{H:Hp}{sz:Nat}{e:aq}{c:V}{j:Nat}{xs:List aA}(h:UL H sz e c (some j) xs):j<H.aj.length:=by
 obtain⟨v,_,h2⟩:=h;exact wg h2
def jR{n0 t:Nat}{es:bk}{H:Hp}{d:Nat}(hd:d<n0):(jl n0 es t H).get d=H.get d:=by
 unfold jl;obtain⟨bs,new⟩:=H;simp only;split
 ·simp only[Hp.get,zV,um,hd,aU]
 ·rfl
def yG{n0 t:Nat}{es:bk}{H:Hp}(h:n0<=H.aj.length):n0<=(jl n0 es t H).aj.length:=by
 unfold jl;obtain⟨bs,new⟩:=H;simp only;split
 ·simp only[Bb];simp only at h;omega
 ·exact h
def zaP{n0 t b m:Nat}{es:bk}{H:Hp}(h:(b,m)∈H.aW)(hb:b<n0)(hm:n0<m):∀d,(jl n0 es t H).get d=H.get d:=by
 unfold jl;obtain⟨bs,new⟩:=H;intro d;have hc:¬((Nat.ble t n0 && new.all λe=>Nat.ble n0 e.1 || Nat.ble e.2 n0)=true):=by
  intro hx;simp only[cR,Fc] at hx;have:=hx.2 _ h;simp only[mT] at this;rcases this with h1|h1<;>have:=sE h1<;>omega
 simp only[hc];rfl
def eP{n b:Nat}(h:n * b<=140737488355328)(h':n<=140737488355328):kr n b=true:=by
 simp[kr,Nat.ble_eq,h,h']
def zr4(z:V):Bool:=fH z && z.cells.all λc=>!(locked c)
def zl4{P:aM}{e n:Nat}(h:(kf P e).map (λz=>(z.cells.length,zr4 z))=some (n,true))(hn:n≠0/\n<=16777216):∃z,kf P e=some z/\(n≠0/\n<=16777216/\z.cells.length=n/\fH z=true)/\z.cells.all (λc=>!(locked c))=true:=by
 cases hz:kf P e with
 | none=>rw[hz] at h;cases h
 | some z =>
  rw[hz] at h;simp only[bG,aR,bS,zr4,cR] at h;exact⟨z,rfl,⟨hn.1,hn.2,h.1,h.2.1⟩,h.2.2⟩
def vZ{lk:bk}{b n off:Nat}{cs:aA}(h:cs.all (λc=>!(locked c))=true)(hl:off+n<=cs.length):wQ lk b off n (cs.drop off)=true :=
 zdX λi hi=>⟨cs[off+i]'(by omega),mq (by omega),by
  have:=Fc.1 h _ (List.getElem_mem (show off+i<cs.length by omega))
  simpa using this⟩
structure rU(P:aM)(t e n bytes:Nat):Prop where
 u:P.underlying t=some (.slice e)
 s:jh P e=some n
 z:(kf P e).map (λz=>(z.cells.length,zr4 z))=some (n,true)
 n0:n≠0/\n<=16777216
 i:((P.info? e).bind λi=>i.zero.map λz=>(z.cells.size,i.bytes))=some (n,bytes)
 a:ka P t=some false
 st:jh P t=some 1
def rU.JI{P:aM}{t e n JJ:Nat}(h:rU P t e n JJ){v:V}(h5:fH v=true)(h6:v.cells.length=n):Sq P t (some v)=some (.sl n [v] (.yes e)):=by
 obtain⟨z,h1,h2,_⟩:=zl4 h.z h.n0;exact zqD h.u h.s h1 h2 h5 h6
def rU.app{P:aM}{t e n JJ:Nat}(h:rU P t e n JJ){env:aA}{H:Hp}{lk:bk}{df:bH}{ys:aA}{o:Own}{c:V}{i:Option Nat}{xs:List aA}(hy:ys≠[])(hu:UL H n e c i xs)(gH:kr (xs.length+ys.length) JJ=true) :
  So P t env H lk df (some (.sl n ys o)) (some c)=match i with
   | none=>some (.val (.eo H.aj.length 0 ys.length),⟨env,H.push (.ul 0 n (dz ys) e),lk,df⟩)
   | some j=>match c with
    | .eo _ v _=>some (.val (.eo j (v+1) (xs.length+ys.length)),⟨env,(H.set j (.ul (v+1) n (xs.flatten++dz ys) e)).bI j (.bz ys),lk,df⟩)
    | _=>none:=by
 have hi:=h.i;cases Gf:P.info? e with
 | none=>rw[Gf] at hi;cases hi
 | some ti =>
  rw[Gf] at hi;simp only[bC] at hi;cases hz:ti.zero with
  | none=>rw[hz] at hi;cases hi
  | some z =>
   rw[hz] at hi;simp only[bG,aR,bS] at hi;rw[zqB h.u h.s Gf hz hi.1 h.n0.1,hi.2];cases i with
   | none =>
    obtain⟨rfl,rfl⟩:=hu;cases ys with
    | nil=>exact absurd rfl hy
    | cons y ys=>simp at gH;simp[gH]
   | some j =>
    obtain⟨v,rfl,hj⟩:=hu;simp[hj,gH]
def zia{P:aM}{t:aq}{env:aA}{H:Hp}{lk:bk}{df:bH}{b off:Nat}{cs:aA}{ty:aq}{c:V}(ha:ka P t=some false)(hb:H.get b=some (.cells cs ty))(hn:nth cs off=some c)(hc:c=.aJ\/∃j v l,c=.eo j v l) :
  BY P t env H lk df (some (.ptr b off))=some (.val c,⟨env,H,lk,df⟩):=by
 rcases hc with rfl|⟨j,v,l,rfl⟩<;>simp[BY,ha,hb,hn]
def wA{H:Hp}{x:br}:(H.push x).get H.aj.length=some x:=by rw[fX,JD];simp
def V6{bs:List br}{es:bk}{x:br}:(Hp.push ⟨bs,es⟩ x).get bs.length=some x:=wA (H:=⟨bs,es⟩)
def wc{P:aM}{t:aq}{H:Hp}{gl:Nat->Nat->cP}{b n off:Nat}{cs:aA}{ty:aq}(ha:ka P t=some true)(hs:jh P t=some n)(hb:H.get b=some (.cells cs ty))(hl:off+n<=cs.length):qJ P H gl t (.ptr b off)=some (.agg ((cs.drop off).take n)):=by
 rw[Re,hb,xn,wX,ha,hs,Rd,if_pos hl]
def jy{P:aM}{t:aq}{H:Hp}{gl:Nat->Nat->cP}{b off:Nat}{cs:aA}{ty:aq}{v:V}(ha:ka P t=some false)(hb:H.get b=some (.cells cs ty))(hn:nth cs off=some v):qJ P H gl t (.ptr b off)=some v:=by
 rw[Re,hb,xn,wX,ha,OJ,hn]
def jt{P:aM}{t n:aq}{H:Hp}{lk:bk}{df:bH}{b off:Nat}{v:V}{env:aA}{cs:aA}{ty:aq}(hs:jh P t=some n)(hb:H.get b=some (.cells cs ty))(h1:fH v=true)(h2:v.laid.length=n)(h3:off+n<=cs.length)(h4:wQ lk b off n (cs.drop off)=true) :
  kI P t H lk df (some (v,env)) (some (.ptr b off))=some (.skip,⟨env,(H.set b (.cells (Vm.storeCells cs off v.laid) ty)).bI b v,lk,df⟩):=by
 simp only[kI,hs,zg7 hb h1 h2 h3 h4]
def zv{env:aA}{t j v l:Nat}:vA env t (some (.eo j v l))=some (.eo j v l,env):=rfl
def zT{j v l:Nat}:aT (.eo j v l)=.eo j v l:=rfl
def zjP{H:Hp}{b:Nat}{v:V}(h:b+1<v.top):(b,v.top)∈(H.bI b v).aW:=by
 unfold Hp.bI;rw[if_neg (by omega)]
 simp
def V7{P:aM}{t e n b u len:Nat}{i:Int}(hu:P.underlying t=some (.slice e))(hs:jh P e=some n)(h:0<=i/\i<len):q7 P t (.eo b u len) i=some (.gY b u (i.toNat * n)):=by
 simp[q7,hu,hs,h]
def zjQ{P:aM}{t:aq}{H:Hp}{gl:Nat->Nat->cP}{b u k n sz:Nat}{cs:aA}{e:aq}(ha:ka P t=some true)(hs:jh P t=some n)(hb:H.get b=some (.ul u sz cs e))(hl:k+n<=cs.length):qJ P H gl t (.gY b u k)=some (.agg ((cs.drop k).take n)):=by
 have:Nat.beq u u=true:=dW u;simp[qJ,hb,wX,ha,hs,Rd,hl]
def v4{n:Nat}:∀{xs:List aA},(∀y∈xs,y.length=n)->xs.flatten.length=xs.length * n
 | [],_=>by simp
 | x::xs,h=>by
  rw[List.flatten_cons,bY,h x (eS ..),v4 λy hy=>h y (dB _ hy),bq,Nat.succ_mul,Nat.add_comm]
def rU.zero{P:aM}{t e n JJ:Nat}(h:rU P t e n JJ):∃z,kf P e=some z/\fH z=true/\z.cells.length=n/\z.cells.all (λc=>!(locked c))=true:=by
 obtain⟨z,h1,h2,h3⟩:=zl4 h.z h.n0;exact⟨z,h1,h2.2.2.2,h2.2.2.1,h3⟩
def Pw{P:aM}{H:Hp}{t e b u n:Nat}(hu:P.underlying t=some (.slice e)):kU P H t (.eo b u n)=some (n:Int):=by simp[kU,hu]
def zg9{P:aM}{H:Hp}{t e:Nat}(hu:P.underlying t=some (.slice e)):kU P H t .aJ=some 0:=by simp[kU,hu]
def zY{a b c:Nat}:aT (.gY a b c)=.gY a b c:=rfl
def zib{i:Nat}:∀{xs ys:aA}{k:Nat},(Vm.storeCells ys k xs)[i]?=if k<=i/\i<k+xs.length/\i<ys.length then xs[i - k]? else ys[i]?
 | [],ys,k=>by simp[Vm.storeCells];omega
 | x::xs,ys,k=>by
  simp only[Vm.storeCells,zib (xs:=xs),ee,List.getElem?_set',bq]
  by_cases h1:i=k
  ·subst h1;have:¬(i+1<=i/\i<i+1+xs.length/\i<ys.length):=by omega
   rw[if_neg this,if_pos rfl]
   by_cases h2:i<ys.length
   ·rw[if_pos (by omega),mq h2];simp
   ·rw[if_neg (by omega),uj (by omega)];simp
  ·rw[if_neg (Ne.symm h1)]
   by_cases h2:k+1<=i/\i<k+1+xs.length/\i<ys.length
   ·rw[if_pos h2,if_pos (by omega),show i - k=(i - (k+1))+1 by omega,Dr]
   ·rw[if_neg h2,if_neg (by omega)]
def yY{xs ys:aA}(h:ys.length=xs.length):Vm.storeCells ys 0 xs=xs:=by
 apply Dt;intro i;rw[zib]
 by_cases hi:i<xs.length
 ·rw[if_pos (by omega)];simp
 ·rw[if_neg (by omega),uj (by rw[h];omega),uj (by omega)]
def ju{H:Hp}{b c:Nat}{x:br}(h:c≠b):(H.set b x).get c=H.get c:=by
 rw[kq];cases H.get c<;>simp[h]
def w8{H:Hp}{b:Nat}{x y:br}(h:H.get b=some y):(H.set b x).get b=some x:=by
 rw[kq,h];simp
def kz{H:Hp}{d:Nat}{x:br}(h:d<H.aj.length):(H.push x).get d=H.get d:=by
 have:H.get d=some (H.aj[d]'h):=by simp[Hp.get,zV,h]
 rw[q6 this,this]
def kM{H:Hp}{b c:Nat}{x:br}{v:V}(h:c≠b):((H.set b x).bI b v).get c=H.get c:=by rw[bX,ju h]
def V8{H:Hp}{b:Nat}{x y:br}{v:V}(h:H.get b=some y):((H.set b x).bI b v).get b=some x:=by rw[bX,w8 h]
def V9{H:Hp}{b:Nat}{x:br}{v:V}:((H.set b x).bI b v).aj.length=H.aj.length:=by rw[Pn,wO]
def zb{l:aA}{i j:Nat}{v:V}:nth (l.set i v) j=if i=j then (if i<l.length then some v else none) else nth l j:=by
 rw[zV,zV,s7]
def uK(p q:Nat->Bool)(i:Nat):Nat->Bool:=λn=>p n || (decide (n / 64<i) && q n)
def zjR{p q:Nat->Bool}{i:Nat}:wi (uK p q i) i=wi p i:=by
 refine(xx wz λj hj=>?_).symm;rw[vb hj];have:¬((64 * i+j) / 64<i):=by omega
 simp[uK,this]
def zjS{p q:Nat->Bool}{m i:Nat}:(pv m (uK p q i)).set i (.int .u64 ((wi p i ||| wi q i:Nat):Int))=pv m (uK p q (i+1)):=by
 apply Dt;intro k;rw[List.getElem?_set']
 by_cases hk:k<m
 ·rw[xy hk,xy hk]
  by_cases e:i=k
  ·subst e;simp only[aU,bG,Function.const,Option.map_eq_map]
   congr 3
   refine xx (Nat.or_lt_two_pow wz wz) λj hj=>?_;rw[Nat.testBit_or,vb hj,vb hj];have:(64 * i+j) / 64<i+1:=by omega
   simp[uK,this]
  ·rw[if_neg e]
   congr 3
   refine(xx wz λj hj=>?_);rw[vb hj];have:((64 * k+j) / 64<i) ↔ ((64 * k+j) / 64<i+1):=by omega
   simp[uK,this]
 ·have h1:(pv m (uK p q i))[k]?=none:=by simp[pv];omega
  have h2:(pv m (uK p q (i+1)))[k]?=none:=by simp[pv];omega
  rw[h1,h2];simp
def zl5{p q:Nat->Bool}{m:Nat}:pv m (uK p q m)=pv m (jn p q):=by
 apply List.map_congr_left;intro i hi;have hi:=FQ.1 hi
 congr 2
 refine xx wz λj hj=>?_;rw[vb hj];have:(64 * i+j) / 64<m:=by omega
 simp[uK,jn,this]
def zjT{p q:Nat->Bool}{m:Nat}:pv m (uK p q 0)=pv m p:=by
 apply List.map_congr_left;intro i hi
 congr 2
 refine xx wz λj hj=>?_;rw[vb hj];simp[uK]
def y8{α:Type}{l:List α}{d:Nat}{v:α}(h:nth l d=some v):l.set d v=l:=by
 rw[zV] at h;apply Dt;intro t;rw[List.getElem?_set'];split
 next e=>subst e;rw[h];rfl
 ·rfl
def zha{P:aM}{t:aq}{H:Hp}{gl:Nat->Nat->cP}{b u k sz:Nat}{cs:aA}{e:aq}{v:V}(ha:ka P t=some false)(hb:H.get b=some (.ul u sz cs e))(hn:nth cs k=some v):qJ P H gl t (.gY b u k)=some v:=by
 have:Nat.beq u u=true:=dW u;simp[qJ,hb,wX,ha,OJ,hn]
def znl{P:aM}{t n:aq}{H:Hp}{lk:bk}{df:bH}{b k u sz:Nat}{v:V}{env:aA}{cs:aA}{e:aq}(hs:jh P t=some n)(hb:H.get b=some (.ul u sz cs e))(hv:aT v=v)(h1:fH v=true)(h2:v.cells.length=n)(h3:k+n<=cs.length) :
  kI P t H lk df (some (v,env)) (some (.gY b u k))=some (.skip,⟨env,(H.set b (.ul u sz (Vm.storeCells cs k v.cells) e)).bI b v,lk,df⟩):=by
 simp only[kI,hs,hb,hv,h1,h2,h3,and_self,aU]
def qu(n:Nat)(e:aq)(xs:aA):V:=match xs with|[]=>.aJ|xs=>.sl n xs (.yes e)
def xz{env:aA}{t n:Nat}{e:aq}{xs:aA}(h:nth env t=some (qu n e xs)):take env (.tmp t)=some (qu n e xs,env.set t (aT (qu n e xs))):=by
 rw[zu,h];cases xs with
 | nil =>
  have h':nth env t=some .aJ:=h;simp only[qu,zm,ai];rw[y8 h']
 | cons x xs=>rfl
def vu{P:aM}{t e n JJ:Nat}(h:rU P t e n JJ){H:Hp}{xs ys:aA}{o:Own}(hy:ys≠[])(gH:kr (xs.length+ys.length) JJ=true):kG P H t (qu n e xs) (.sl n ys o)=some (qu n e (xs++ys)):=by
 have hi:=h.i;cases Gf:P.info? e with
 | none=>rw[Gf] at hi;cases hi
 | some ti =>
  rw[Gf] at hi;simp only[bC] at hi;cases hz:ti.zero with
  | none=>rw[hz] at hi;cases hi
  | some z =>
   rw[hz] at hi;simp only[bG,aR,bS] at hi;have Bf:Nat.beq n 0=false:=by
    have:=h.n0.1;cases n with
    | zero=>exact absurd rfl this
    | succ n=>rfl
   obtain⟨y,ys,rfl⟩:∃y l,ys=y::l:=by
    cases ys with
    | nil=>exact absurd rfl hy
    | cons y l=>exact⟨y,l,rfl⟩
   simp only[kG,h.u,h.s,Gf,hz,hi.1,vq,Option.bind_eq_bind,bC,dW,eU,dF,bZ,aU];cases xs with
   | nil =>
    simp only[qu,cq];rw[hi.2,Bf];simp only[List.length_nil,cK,bq] at gH;simp[gH]
   | cons x xs =>
    simp only[qu,cF];rw[hi.2,Bf];simp only[bq] at gH;simp[gH]
def zjU{P:aM}{t:aq}{x y:aO}{a b:Nat}(h:a * b<2 ^ 60):jY P .mul t x y (some (.int .i64 a)) (some (.int .i64 b))=some (.int .i64 ((a * b:Nat):Int)):=by
 rw[zqe,<- Int.natCast_mul,yF (by omega) (by omega)]
def V_{P:aM}{t:aq}{x y:aO}{a b:Nat}(h:a+b<2 ^ 60):jY P .add t x y (some (.int .i64 a)) (some (.int .i64 b))=some (.int .i64 ((a+b:Nat):Int)):=by
 rw[zly,<- Int.natCast_add,yF (by omega) (by omega)]
def zo2{P:aM}{t:aq}{x y:aO}{a b:Nat}(h:a<2 ^ 60)(hb:b<=a):jY P .sub t x y (some (.int .i64 a)) (some (.int .i64 b))=some (.int .i64 ((a - b:Nat):Int)):=by
 rw[UU,<- Int.natCast_sub hb,yF (by omega) (by omega)]
def zjV{P:aM}{H:Hp}{t e n:Nat}{xs:aA}(hu:P.underlying t=some (.slice e)):kU P H t (aT (qu n e xs))=some (xs.length:Int):=by
 cases xs with
 | nil=>simp[qu,aT,kU,hu]
 | cons x xs=>simp[qu,aT,kU,hu]
def znm{P:aM}{t e n k:Nat}{xs:aA}{x:V}(hu:P.underlying t=some (.slice e))(hs:jh P e=some n)(hx:nth xs k=some x):q7 P t (aT (qu n e xs)) (k:Int)=some (.vp x.cells):=by
 cases xs with
 | nil=>cases hx
 | cons y xs =>
  have:¬((k:Int)<0):=by omega
  simp[qu,aT,q7,hu,hs,this,hx]
def zo3{P:aM}{t:aq}{H:Hp}{gl:Nat->Nat->cP}{x:V}{cs:aA}(ha:ka P t=some false):qJ P H gl t (.vp (x::cs))=some x:=by
 simp[qJ,wX,ha,OJ,nth]
def zN{n:Nat}{e:aq}{xs:aA}:aT (aT (qu n e xs))=aT (qu n e xs):=by cases xs<;>rfl
def uL(n:Nat)(xs:aA):V:=match xs with|[]=>.aJ|xs=>.sl n xs .lock
def uM(b off:Nat)(xs:aA):bk:=match xs with|[]=>[]|_=>[(b,off)]
def zfX{P:aM}{t:aq}{env:aA}{H:Hp}{df:bH}{b off n:Nat}{e:aq}{xs cs:aA}{ty:aq}(ha:ka P t=some false)(hb:H.get b=some (.cells cs ty))(hn:nth cs off=some (qu n e xs)) :
  BY P t env H [] df (some (.ptr b off))=some (.val (qu n e xs),⟨env,H.set b (.cells (cs.set off (uL n xs)) ty),uM b off xs,df⟩):=by
 cases xs with
 | nil =>
  simp only[BY,ha,hb,hn,qu,uL,uM];have h1:cs.set off .aJ=cs:=y8 hn;have h2:H.set b (.cells cs ty)=H:=by
   obtain⟨bs,es⟩:=H;simp only[Hp.set];rw[y8 hb]
  rw[h1,h2]
 | cons x xs =>
  simp only[BY,ha,hb,hn,qu,uL,uM];rw[vY (by simp[V.top])]
def zfY{b off n:Nat}{xs cs:aA}(h:off<cs.length):wQ (uM b off xs) b off 1 ((cs.set off (uL n xs)).drop off)=true:=by
 have h2:(cs.set off (uL n xs)).drop off=uL n xs::cs.drop (off+1):=by
  rw[List.drop_eq_getElem_cons (by simpa using h)]
  simp[List.drop_set]
 rw[h2];cases xs<;>simp[wQ,uL,uM,locked]
def zqL{b off d:Nat}{xs:aA}(h:d≠b):(uM b off xs).all (λp=>!(Nat.beq p.1 d))=true:=by
 cases xs with
 | nil=>rfl
 | cons x xs =>
  have:Nat.beq b d=false:=by
   cases hx:Nat.beq b d with
   | false=>rfl
   | true=>exact absurd (gy hx).symm h
  simp[uM,this]
def zid{n:Nat}{e:aq}{xs:aA}:fH (qu n e xs)=true:=by cases xs<;>rfl
def Px{n:Nat}{e:aq}{xs:aA}:(qu n e xs).laid=[qu n e xs]:=by cases xs<;>rfl
def vj{P:aM}{t:aq}{x y:aO}{k:Nat}(h:k<2 ^ 60):jY P .add t x y (some (.int .i64 k)) (some (.int .i64 1))=some (.int .i64 ((k+1:Nat):Int)):=by
 rw[zly,yF (by omega) (by omega)];simp
def ztf(env:aA)(t n:Nat)(e:aq)(xs:aA):Option (V×aA):=vA env t (some (qu n e xs))
open Classical in
def zG{env:aA}{t n:Nat}{e:aq}{xs:aA}:vA env t (some (qu n e xs))=if nth env t=some (qu n e xs) then some (qu n e xs,env.set t (aT (qu n e xs))) else ztf env t n e xs:=by
 split
 next h=>rw[<- h,<- zu];exact xz h
 ·rfl
def zn{env:aA}{t n:Nat}{e:aq}{xs:aA}:vA env t (some (aT (qu n e xs)))=some (aT (qu n e xs),env):=by cases xs<;>rfl
def Wc(want:Bool)(env:aA):Option fQ->Option Bool
 | some (some d)=>K_ want (nth env d)
 | _=>none
def wC{l:List Oper}{dst:fQ}{op:Op}{type:aq}{pos:String}{after:Array Edge}{j:Nat}{want:Bool}{env:aA}:q8 l.toArray ⟨dst,op,type,pos,after,some (j,want)⟩ env=Wc want env ((nth l j).map (·.dst)):=by
 have hj:l.toArray[j]?=nth l j:=by rw[zV,List.getElem?_toArray]
 cases hd:nth l j with
 | none =>
  unfold q8;simp only[hj,hd];rfl
 | some o =>
  cases ho:o.dst with
  | none =>
   unfold q8;simp only[hj,hd,bC,ho];simp only[bG,ho,Wc]
  | some d =>
   rw[zna (d:=d) (by rw[hj,hd];exact ho)]
   simp only[bG,ho,Wc]
def yZ{want:Bool}{env:aA}{d:Tmp}:Wc want env (some (some d))=K_ want (nth env d):=rfl
def ia:K_ true (some (.bool true))=some true:=rfl
def ig:K_ true (some (.bool false))=some false:=rfl
def ij:K_ false (some (.bool true))=some false:=rfl
def iq:K_ false (some (.bool false))=some true:=rfl
def Lb{a b:Prop}:Ip a b (some true) ↔ a:=Iff.rfl
def Lc{a b:Prop}:Ip a b (some false) ↔ b:=Iff.rfl
def z7{a b:cP}:Y3 a b (some (.bool true))=a:=rfl
def z8{a b:cP}:Y3 a b (some (.bool false))=b:=rfl
end
end Go.Vm
