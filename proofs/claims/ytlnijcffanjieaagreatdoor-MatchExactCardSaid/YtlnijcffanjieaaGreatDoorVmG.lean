/- Vm: a region whose order is drawn, run in the order of the text. Conditions: none but those named. -/
import Derived.Test.YtlnijcffanjieaaGreatDoorVmF
set_option linter.defProp false
namespace Go.Vm
open Go
section
variable{cx:Cx}{all:Array Oper}{takes:bA}
def LA(c:eZ)(s:St):Prop :=
 (c.H=s.H/\c.lk=s.lk/\c.df=s.defers)\/∃b off cs ty sz xs e,c.H.get b=some (.cells cs ty)/\nth cs off=some (.sl sz xs (.yes e))/\s.H=(c.H.set b (.cells (cs.set off (.sl sz xs .lock)) ty)).bQ b .dx/\s.lk=(b,off)::c.lk/\s.defers=c.df
def zkG{o:Oper}(h:jT takes o=true){env:aj}{H:Hp}{lk:aC}{df:aV}{v:V}{D:Nat}{s1:St}(az:cx.op takes o env H lk df=some (.val v,s1)):LA ⟨D,H,lk,df⟩ s1:=by
 obtain⟨dst,op,type,pos,after,guard⟩:=o;unfold jT at h;split at h<;>try (cases h;done)
 rename_i t a lN;simp only at lN;subst lN;cases dst with
 | none=>cases h
 | some d =>
  simp only at h;rw[W6 h] at az;unfold Ks at az;split at az<;>try (cases az;done)
  split at az<;>try (cases az;done)
  split at az<;>try (cases az;done)
  rename_i cs ty hb;split at az<;>try (cases az;done)
  next sz xs e hn=>cases az;exact .inr ⟨_,_,cs,ty,sz,xs,e,hb,hn,rfl,rfl,rfl⟩
  ·cases az;exact .inl ⟨rfl,rfl,rfl⟩
  ·cases az;exact .inl ⟨rfl,rfl,rfl⟩
def zlX{P:aD}{c:eZ}{s:St}(h:LA c s){t:ai}{p:V}{v:Int}(hl:jM P s.H t p=some v):jM P c.H t p=some v:=by
 rcases h with⟨h,_⟩|⟨b,off,cs,ty,sz,xs,e,hb,hn,hs,_⟩
 ·rw[h];exact hl
 ·unfold jM at hl ⊢;split at hl<;>try (simp only[*];done)
  rename_i m hu;split at hl<;>try (cases hl;done)
  rename_i es hm;rw[hs,zeU,W4] at hm;split at hm<;>try (cases hm;done)
  rename_i y hy;split at hm
  ·cases hm
  ·cases hm;simp only[hy];exact hl
def zjG{P:aD}{gl:Nat->Nat->bS}{c:eZ}{s:St}(h:LA c s){t:ai}{p u:V}(hk:jI P t=some false\/∀b off,p=.ptr b off->s.lk.all (λq=>!(Nat.beq q.1 b))=true)(hl:zA P s.H gl t p=some u):∃u',zA P c.H gl t p=some u'/\aX u'=aX u:=by
 rcases h with⟨h,_⟩|⟨b,off,cs,ty,sz,xs,e,hb,hn,hs,mW,_⟩
 ·rw[h];exact⟨u,hl,rfl⟩
 ·cases p<;>(try (exact⟨u,hl,rfl⟩))
  ·rename_i b' Lw;simp only[zA,hs,zeU,W4] at hl ⊢
   by_cases NS:b'=b
   ·subst NS;rcases hk with hk|hk
    ·simp only[hb,aT,Option.bind_eq_bind,cG,jZ,hk] at hl ⊢;rw[zf,List.getElem?_set'] at hl
     by_cases ho:off=Lw
     ·subst ho;rw[zf] at hn;simp only[aT,hn,cA,Function.const,Option.map_eq_map] at hl;cases hl;exact⟨.sl sz xs (.yes e),by simp[zf,hn],rfl⟩
     ·rw[if_neg ho] at hl;exact⟨u,by rw[zf];exact hl,rfl⟩
    ·have:=hk b' Lw rfl;rw[mW] at this;simp at this
   ·cases hg:c.H.get b' with
    | none=>simp[hg] at hl
    | some y=>simp only[hg,if_neg NS] at hl;exact⟨u,by simpa[hg] using hl,rfl⟩
  ·rename_i b' u' k;simp only[zA,hs,zeU,W4] at hl ⊢
   by_cases NS:b'=b
   ·subst NS;simp[hb] at hl
   ·cases hg:c.H.get b' with
    | none=>simp[hg] at hl
    | some y=>simp only[hg,if_neg NS] at hl;exact⟨u,by simpa[hg] using hl,rfl⟩
def zfW{o:Oper}(lz:Gg takes o=true){env:aj}{v:V}{c:eZ}{s s1:St}(hL:LA c s)(hk:fW cx o env s.lk=true)(az:cx.op takes o env s.H s.lk s.defers=some (.val v,s1)):cx.eU takes o env v c=true:=by
 obtain⟨dst,op,type,pos,after,guard⟩:=o;unfold Gg at lz;split at lz<;>try (cases lz;done)
 ·rename_i t a lN;simp only at lN;subst lN;cases dst with
  | none=>simp at lz
  | some d =>
   have ht:takes.any (Nat.beq d)=false:=by simpa using lz
   simp only[Cx.eU,Cx.dX,SL ht] at az ⊢;cases hp:aq env a with
   | none=>simp[hp,fU] at az
   | some p =>
    cases hl:zA cx.P s.H cx.gl t p with
    | none=>simp[hp,hl,fU] at az
    | some u =>
     obtain⟨u',h1,h2⟩:=zjG hL (by
      simp only[fW] at hk;split at hk
      next h=>exact .inl h
      ·refine .inr λb off e=>?_;rw[hp,e] at hk
       exact hk) hl
     simp only[hp,hl,fU,cG,cA,aO,bP,OR.val.injEq] at az;simp only[cG,h1,cA,fU,h2,az.1,V.ej]
 ·rename_i x0 t0 lN;simp only at lN;subst lN;have hh:∀H' oM Fb,cx.op takes ⟨dst,.call ⟨.builtin .len,#[x0],#[t0]⟩,type,pos,after,guard⟩ env H' oM Fb=fU env H' oM Fb (((aq env x0).bind (jM cx.P H' t0)).map (.int .i64)):=λH' oM Fb=>wU;rw[show(⟨[x0]⟩:nO)=#[x0] from rfl,show(⟨[t0]⟩:Array ai)=#[t0] from rfl,hh] at az;simp only[Cx.eU,Cx.dX]
  rw[show(⟨[x0]⟩:nO)=#[x0] from rfl,show(⟨[t0]⟩:Array ai)=#[t0] from rfl,hh];cases hp:aq env x0 with
  | none=>simp[hp,fU] at az
  | some p =>
   cases hl:jM cx.P s.H t0 p with
   | none=>simp[hp,hl,fU] at az
   | some u =>
    simp only[hp,hl,fU,cG,cA,aO,bP,OR.val.injEq] at az;simp only[cG,zlX hL hl,cA,fU,az.1,V.ej]
structure W7(cx:Cx)(takes:bA)(i:Nat)(rs:List Rec)(ts:List SR)(c0:eZ)(rest:List eZ)(s:St):Prop where
 pr:uL cx takes rs ts
 lt:∀q∈rs,q.idx<i
 cD:∀b,bit c0.D b=true ↔ ∃q∈rs,q.hp=true/\q.idx=b
 c0:c0.H=s.H/\c0.lk=s.lk/\c0.df=s.defers
 rD:∀c∈rest,∀b,bit c.D b=true->∃q∈rs,q.idx=b
 rest:∀c∈rest,(∃q∈rs,q.hp=true/\jT takes q.o=false/\bit c.D q.idx=false)\/((∃q∈rs,q.hp=true/\jT takes q.o=true/\bit c.D q.idx=false)/\LA c s)
 nF:∀q∈rs,q.hp=false->q.free=false->(∃c∈rs,c.hp=true/\bit c.m q.idx=true)\/(∀D,cx.eU takes q.o q.env q.v ⟨D,s.H,s.lk,s.defers⟩=true)
def zkH{rs:List Rec}{c0 c1:eZ}{rest:List eZ}{r:Rec}{k:List eZ->Option (Ex×St)}
  (dZ:r.hp=true->∀c∈rest,kj (Nat.land r.m (cn rs)) c.D=false)
  (sy:r.hp=false->r.free=false->∀c∈rest,kj (Nat.land r.m (cn rs)) c.D=false\/cx.eU takes r.o r.env r.v c=true)
  (rR:∀b,(∃q∈rs,q.hp=true/\q.idx=b)->bit c1.D b=true)
  (oS:r.hp=true->∀q∈rs,q.hp=false->q.free=false->bit r.m q.idx=true\/(∃c∈rs,c.hp=true/\bit c.m q.idx=true)\/cx.eU takes q.o q.env q.v c1=true) :
  cx.lF takes rs r c0 c1 rest k=k (bif r.hp then c1::c0::rest else c0::rest):=by
 unfold Cx.lF;cases hh:r.hp with
 | false =>
  have:(r.free || jW (λc=>match kj (Nat.land r.m (cn rs)) c.D with|true=>cx.eU takes r.o r.env r.v c|false=>true) rest)=true:=by
   cases hf:r.free with
   | true=>rfl
   | false =>
    simp only[Bl];exact zg0 λc hc=>by
     rcases sy hh hf c hc with h|h
     ·simp only[h]
     ·split
      ·exact h
      ·rfl
  show(match r.free || jW (λc=>match kj (Nat.land r.m (cn rs)) c.D with|true=>cx.eU takes r.o r.env r.v c|false=>true) rest with|true=>k (c0::rest)|false=>none)=k (c0::rest)
  rw[this]
 | true =>
  simp only[cond_true];have cj:∀l:List eZ,(∀c∈l,kj (Nat.land r.m (cn rs)) c.D=false)->cx.lE takes r.o r.env r.v (Nat.land r.m (cn rs)) (Nat.pow 2 r.idx) l=some []:=by
   intro l
   induction l with
   | nil=>intro _;rfl
   | cons c l ih=>intro h;simp only[Cx.lE,h c (ew ..)];exact ih λc hc=>h c (cZ _ hc)
  rw[cj rest (dZ hh)];have fZ:cx.CC takes rs (cn rs) r (c1::c0::rest) c1=true:=by
   unfold Cx.CC;refine zg0 λq hq=>?_;split
   ·rfl
   ·cases fh:q.hp with
    | true =>
     simp only;rw[rR q.idx ⟨q,hq,fh,rfl⟩]
    | false =>
     simp only;cases oA:q.free with
     | true=>rfl
     | false =>
      rcases oS hh q hq fh oA with h|⟨c,hc,h1,h2⟩|h
      ·simp[h]
      ·have:q9 c1.D q rs=true:=by
        have hx:∀l:List Rec,c∈l->q9 c1.D q l=true:=by
         intro l
         induction l with
         | nil=>intro h;simp at h
         | cons d l ih =>
          intro h;simp only[q9,gZ,bN];rcases cS.1 h with rfl|h
          ·exact .inl ⟨⟨h1,rR _ ⟨c,hc,h1,rfl⟩⟩,h2⟩
          ·exact .inr (ih h)
        exact hx rs hc
       simp[this]
      ·simp[h]
  have TT:cx.CC takes rs (cn rs) r ([c1]++c0::rest) c1=true:=fZ;simp only[jW,TT];rfl
def zix{o:Oper}(h:vK o=true){env:aj}{H:Hp}{lk:aC}{df:aV}{v:V}{s1:St}(az:cx.op takes o env H lk df=some (.val v,s1)):∃x,s1=⟨env,H.push x,lk,df⟩:=by
 obtain⟨dst,op,type,pos,after,guard⟩:=o;unfold vK at h;split at h<;>try (cases h;done)
 rename_i t lN;simp only at lN;subst lN;simp only[Cx.op] at az;split at az<;>try (cases az;done)
 split at az<;>try (cases az;done)
 simp only[zQ,qb,aO,bP] at az;exact⟨_,az.2.symm⟩
def y5{n id:Nat}{Q:Ex->St->Prop}{k:List It}{ops:Array Oper}{env:aj}{H:Hp}{lk:aC}{df:aV}{tk:bA}(ht:wi ops=tk)
  (h:go cx n Q (.os ops tk ops.toList::k) .normal ⟨env,H,[],df⟩):go cx n Q (.c (.region id ops false)::k) .normal ⟨env,H,lk,df⟩:=by
 subst ht;exact Gf.2 h
def ze{n id:Nat}{Q:Ex->St->Prop}{k:List It}{ops:Array Oper}{env:aj}{H:Hp}{lk:aC}{df:aV}(h:go cx n Q (.os ops [] ops.toList::k) .normal ⟨env,H,[],df⟩)(ht:wi ops=[]:=by kernel_rfl):go cx n Q (.c (.region id ops false)::k) .normal ⟨env,H,lk,df⟩:=y5 ht h
end
section
variable{cx:Cx}{all:Array Oper}{takes:bA}
def kz(cx:Cx)(takes:bA)(c:eZ):List (Oper×aj×V)->Prop
 | []=>True
 | p::ps=>cx.eU takes p.1 p.2.1 p.2.2 c=true/\kz cx takes c ps
def W8{c:eZ}{ps:List (Oper×aj×V)}(h:kz cx takes c ps)(p:Oper×aj×V)(hp:p∈ps):cx.eU takes p.1 p.2.1 p.2.2 c=true:=by
 induction ps with
 | nil=>cases hp
 | cons a ps ih =>
  cases hp with
  | head=>exact h.1
  | tail _ hp=>exact ih h.2 hp
def yg(b:Bool)(p:Oper×aj×V)(ps:List (Oper×aj×V)):List (Oper×aj×V):=bif b then p::ps else ps
def Cr(cx:Cx)(all:Array Oper)(takes:bA)(P:St->Prop):List (Oper×aj×V)->List (Bool×Bool)->List Oper->St->Prop
 | _,_,[],s=>P s
 | _,[],_::_,_=>False
 | bh,(ld,hp)::fl,o::os,⟨env,H,lk,df⟩=>match zN all o env with
  | none=>False
  | some false=>Cr cx all takes P bh fl os ⟨aI env o.dst (.bx []),H,lk,df⟩
  | some true=>fW cx o env lk=true/\match cx.op takes o env H lk df with
   | some (.val v,⟨bT,H1,c7,dB⟩)=>(hp=true->kz cx takes ⟨0,H1,c7,dB⟩ bh)/\Cr cx all takes P (yg ld (o,env,v) bh) fl os ⟨aI bT o.dst v,H1,c7,dB⟩
   | some (.skip,⟨bT,H1,c7,dB⟩)=>(hp=true->kz cx takes ⟨0,H1,c7,dB⟩ bh)/\Cr cx all takes P bh fl os ⟨aI bT o.dst (.bx []),H1,c7,dB⟩
   | _=>False
def zq1(js:aR)(r q:SR):Bool :=
 match bit r.m q.idx with
 | true=>true
 | false=>!(r.hp && q.hp) && (!(q.hp && r.lk) || (q.tk && r.ld)) && (!(r.hp && q.lk) || (r.al && q.ld) || (js.any (Nat.beq q.idx) && q.ld))
def W9(P:aD)(uq:ai->Bool)(all:Array Oper)(takes:bA)(js:aR):Nat->List SR->List (Bool×Bool)->List Oper->Bool
 | _,_,_,[]=>true
 | _,_,[],_::_=>false
 | i,rs,(ld,hp)::fl,o::os=>match Q6 rs o.after.toList with
  | none=>false
  | some m =>
   let r:SR:=⟨i,m,lT takes o,Nat.lor (lT takes o) (tG all o),qF P uq takes o,wM P uq o,vK o,Gg takes o,jT takes o⟩
   ((!qF P uq takes o || hp) && (!(js.any (Nat.beq i)) || ld)) && ((!r.tk || jW (λq=>!q.tk) rs) && jW (W5 r) rs && (jW (zq1 js r) rs && W9 P uq all takes js (i+1) (r::rs) fl os))
def ziy{js:aR}{P:St->Prop}:∀(os:List Oper)(fl:List (Bool×Bool))(bh:List (Oper×aj×V))(i:Nat)(rs:List Rec)(ts:List SR)(c0:eZ)(rest:List eZ)(s:St),W7 cx takes i rs ts c0 rest s->W9 cx.P cx.uq all takes js i ts fl os=true->(∀q∈rs,q.hp=false->q.free=false->js.any (Nat.beq q.idx)=true->(q.o,q.env,q.v)∈bh)->Cr cx all takes P bh fl os s->∃s',cx.mh all takes i rs (c0::rest) os s=some (.normal,s')/\P s'
 | [],fl,bh,i,rs,ts,c0,rest,s,_,_,_,hc=>by
  simp only[Cr] at hc;exact⟨s,by simp only[Cx.mh],hc⟩
 | _::_,[],bh,i,rs,ts,c0,rest,s,_,_,_,hc=>by
  simp only[Cr] at hc
 | o::os,(ld,O0)::fl,bh,i,rs,ts,c0,rest,⟨env,H,lk,df⟩,hI,b8,BJ,hc=>by
  simp only[W9] at b8;split at b8<;>try (cases b8;done)
  rename_i m hm;simp only[bN] at b8;obtain⟨⟨BO,I2⟩,⟨iX,pN⟩,O1,b8⟩:=b8;have uC:∀(hp free:Bool)(v:V),jW (jG ⟨i,o,m,lT takes o,Nat.lor (lT takes o) (tG all o),hp,free,env,v⟩) rs=true:=λhp free v =>
   ziu hI.pr (λq t CR hg=>by simp only[W5] at hg;simp only[jG,CR.idx,CR.tm,CR.lm];exact hg) pN
  have key:∀(hp free:Bool)(v:V)(q6:List (Oper×aj×V))(H1:Hp)(c7:aC)(dB:aV)(bT:aj),
    (hp=true->qF cx.P cx.uq takes o=true)->(hp=false->free=false->wM cx.P cx.uq o=true) ->
    (hp=false->H1=H/\c7=lk/\dB=df)->(hp=false->free=false->∀D,cx.eU takes o env v ⟨D,H,lk,df⟩=true) ->
    (hp=true->vK o=true->∃x,H1=H.push x/\c7=lk/\dB=df) ->
    (hp=true->jT takes o=true->∀D,LA ⟨D,H,lk,df⟩ ⟨bT,H1,c7,dB⟩) ->
    (hp=false->free=false->Gg takes o=true->∀c,LA c ⟨env,H,lk,df⟩->cx.eU takes o env v c=true) ->
    (hp=true->∀D,∀p∈bh,cx.eU takes p.1 p.2.1 p.2.2 ⟨D,H1,c7,dB⟩=true) ->
    (∀q∈bh,q∈q6)->(hp=false->free=false->js.any (Nat.beq i)=true->(o,env,v)∈q6) ->
    Cr cx all takes P q6 fl os ⟨bT,H1,c7,dB⟩ ->
    ∃s',(match jW (jG ⟨i,o,m,lT takes o,Nat.lor (lT takes o) (tG all o),hp,free,env,v⟩) rs,c0::rest with
     | true,c0::cs=>cx.lF takes rs ⟨i,o,m,lT takes o,Nat.lor (lT takes o) (tG all o),hp,free,env,v⟩ c0 ⟨Nat.lor c0.D (Nat.pow 2 i),H1,c7,dB⟩ cs λcs =>
      cx.mh all takes (i+1) (⟨i,o,m,lT takes o,Nat.lor (lT takes o) (tG all o),hp,free,env,v⟩::rs) cs os ⟨bT,H1,c7,dB⟩
     | _,_=>none)=some (.normal,s')/\P s':=by
   intro hp free v q6 H1 c7 dB bT h1 h2 h3 h4 h5 h5a h5b Dt dZ I3 h6;rw[uC];simp only;have bu:∀q∈rs,q.idx≠i:=λq hq e=>by have:=hI.lt q hq;omega
   have rR:∀b,(∃q∈rs,q.hp=true/\q.idx=b)->bit (Nat.lor c0.D (Nat.pow 2 i)) b=true:=λb hb=>by rw[qW,(hI.cD b).2 hb];rfl
   have C3:=vX hI.pr O1;have oS:hp=true->∀q∈rs,q.hp=false->q.free=false->bit m q.idx=true\/(∃c∈rs,c.hp=true/\bit c.m q.idx=true)\/∀D,cx.eU takes q.o q.env q.v ⟨D,H1,c7,dB⟩=true:=λhr q hq fh oA=>by
    obtain⟨t,ht,hg⟩:=C3 q hq;simp only[zq1] at hg;split at hg
    next hb=>exact .inl (by rw[ht.idx];exact hb)
    ·rw[h1 hr,ht.lk fh oA] at hg;simp only[ug,pI,Bl,bN,gZ] at hg;obtain⟨_,⟨DV,lz⟩|⟨Lu,lz⟩⟩:=hg
     ·rcases hI.nF q hq fh oA with h|h
      ·exact .inr (.inl h)
      ·obtain⟨x,e1,e2,e3⟩:=h5 hr DV;subst e1 e2 e3;rw[ht.ld] at lz;exact .inr (.inr λD=>zfU lz (h D))
     ·exact .inr (.inr λD=>Dt hr D _ (BJ q hq fh oA (by rw[ht.idx];exact Lu)))
   have I4:jT takes o=true->∀q∈rs,jT takes q.o=false:=λht q hq=>by
    rw[ht] at iX;simp only[pI,Bl] at iX;obtain⟨t,h7,h8⟩:=vX hI.pr iX q hq;rw[<- h7.tk];simpa using h8
   have ni:(hp=true\/(hp=false/\free=false))->∀q∈rs,q.hp=true->bit m q.idx=true\/(hp=false/\jT takes q.o=true/\Gg takes o=true):=λhr q hq fh=>by
    obtain⟨t,ht,hg⟩:=C3 q hq;simp only[zq1] at hg;split at hg
    next hb=>exact .inl (by rw[ht.idx];exact hb)
    ·rw[ht.hp fh] at hg;simp only[Bool.and_true,ug,bN,ue] at hg;obtain⟨⟨g1,g2⟩,_⟩:=hg;rcases hr with hr|⟨hr,hf⟩
     ·rw[h1 hr] at g1;cases g1
     ·rw[h2 hr hf] at g2;simp only[pI,Bl,bN] at g2;exact .inr ⟨hr,by rw[<- ht.tk];exact g2.1,g2.2⟩
   have uO:∀c:eZ,(∃q∈rs,q.hp=true/\bit m q.idx=true/\bit c.D q.idx=false)->kj (Nat.land m (cn rs)) c.D=false:=λc hc=>by
    obtain⟨q,hq,e1,e2,e3⟩:=hc;cases hs:kj (Nat.land m (cn rs)) c.D with
    | false=>rfl
    | true =>
     have:=bR.1 hs q.idx (by rw[qX,e2,ep.2 ⟨q,hq,e1,rfl⟩];rfl)
     rw[this] at e3;cases e3
   have OH:∀c:eZ,(∀b,bit c.D b=true->∃q∈rs,q.idx=b)->bit c.D i=false:=λc hc=>by
    cases hb:bit c.D i with
    | false=>rfl
    | true =>
     obtain⟨q,hq,e⟩:=hc i hb;exact absurd e (bu q hq)
   rw[zkH (r:=⟨i,o,m,lT takes o,Nat.lor (lT takes o) (tG all o),hp,free,env,v⟩) ?_ ?_ rR ?_]
   ·have I5:W7 cx takes (i+1) (⟨i,o,m,lT takes o,Nat.lor (lT takes o) (tG all o),hp,free,env,v⟩::rs) (⟨i,m,lT takes o,Nat.lor (lT takes o) (tG all o),qF cx.P cx.uq takes o,wM cx.P cx.uq o,vK o,Gg takes o,jT takes o⟩::ts)
      (bif hp then ⟨Nat.lor c0.D (Nat.pow 2 i),H1,c7,dB⟩ else c0) (bif hp then c0::rest else rest) ⟨bT,H1,c7,dB⟩:=by
     refine⟨.cons ⟨rfl,rfl,rfl,rfl,h1,h2,rfl,rfl⟩ hI.pr,?_,?_,?_,?_,?_,?_⟩
     ·intro q hq;rcases cS.1 hq with rfl|hq
      ·exact PV _
      ·have:=hI.lt q hq;omega
     ·intro b;cases hp with
      | false =>
       simp only[cond_false];rw[hI.cD];constructor
       ·rintro⟨q,hq,e⟩;exact⟨q,cZ _ hq,e⟩
       ·rintro⟨q,hq,e1,e2⟩;rcases cS.1 hq with rfl|hq
        ·cases e1
        ·exact⟨q,hq,e1,e2⟩
      | true =>
       simp only[cond_true];rw[qW,gZ,hI.cD,jh,decide_eq_true_eq];constructor
       ·rintro(⟨q,hq,e⟩|rfl)
        ·exact⟨q,cZ _ hq,e⟩
        ·exact⟨_,ew ..,rfl,rfl⟩
       ·rintro⟨q,hq,e1,e2⟩;rcases cS.1 hq with rfl|hq
        ·exact .inr e2
        ·exact .inl ⟨q,hq,e1,e2⟩
     ·cases hp with
      | false=>obtain⟨e1,e2,e3⟩:=h3 rfl;subst e1 e2 e3;exact hI.c0
      | true=>exact⟨rfl,rfl,rfl⟩
     ·intro c ez b hb;cases hp with
      | false=>obtain⟨q,hq,e⟩:=hI.rD c ez b hb;exact⟨q,cZ _ hq,e⟩
      | true =>
       rcases cS.1 ez with rfl|ez
       ·obtain⟨q,hq,_,e⟩:=(hI.cD b).1 hb;exact⟨q,cZ _ hq,e⟩
       ·obtain⟨q,hq,e⟩:=hI.rD c ez b hb;exact⟨q,cZ _ hq,e⟩
     ·intro c ez;cases hp with
      | false =>
       obtain⟨e1,e2,e3⟩:=h3 rfl;subst e1 e2 e3;rcases hI.rest c ez with⟨q,hq,e⟩|⟨⟨q,hq,e⟩,hL⟩
       ·exact .inl ⟨q,cZ _ hq,e⟩
       ·exact .inr ⟨⟨q,cZ _ hq,e⟩,hL⟩
      | true =>
       have I6:bit c0.D i=false:=OH c0 λb hb=>by obtain⟨q,hq,_,e⟩:=(hI.cD b).1 hb;exact⟨q,hq,e⟩
       cases nu:jT takes o with
       | false =>
        rcases cS.1 ez with rfl|ez
        ·exact .inl ⟨_,ew ..,rfl,nu,I6⟩
        ·exact .inl ⟨_,ew ..,rfl,nu,OH c (hI.rD c ez)⟩
       | true =>
        rcases cS.1 ez with rfl|ez
        ·refine .inr ⟨⟨_,ew ..,rfl,nu,I6⟩,?_⟩;obtain⟨D0,H0,lk0,df0⟩:=c;obtain⟨e1,e2,e3⟩:=hI.c0;simp only at e1 e2 e3;subst e1 e2 e3;exact h5a rfl nu D0
        ·rcases hI.rest c ez with⟨q,hq,e⟩|⟨⟨q,hq,e1,e2,_⟩,_⟩
         ·exact .inl ⟨q,cZ _ hq,e⟩
         ·rw[I4 nu q hq] at e2;cases e2
     ·intro q hq fh oA;rcases cS.1 hq with rfl|uM
      ·obtain⟨e1,e2,e3⟩:=h3 fh;subst e1 e2 e3;exact .inr (h4 fh oA)
      ·clear hq;cases hp with
       | false =>
        obtain⟨e1,e2,e3⟩:=h3 rfl;subst e1 e2 e3;rcases hI.nF q uM fh oA with⟨c,hc,e⟩|h
        ·exact .inl ⟨c,cZ _ hc,e⟩
        ·exact .inr h
       | true =>
        rcases oS rfl q uM fh oA with h|⟨c,hc,e⟩|h
        ·exact .inl ⟨_,ew ..,rfl,h⟩
        ·exact .inl ⟨c,cZ _ hc,e⟩
        ·exact .inr h
    have:=ziy os fl q6 _ _ _ _ _ _ I5 b8 (λq hq fh oA hj=>by
     rcases cS.1 hq with rfl|hq
     ·exact I3 fh oA hj
     ·exact dZ _ (BJ q hq fh oA hj)) h6
    cases hp<;>exact this
   ·intro hr c ez;refine uO c ?_;rcases hI.rest c ez with⟨q,hq,e1,_,e2⟩|⟨⟨q,hq,e1,_,e2⟩,_⟩
    ·rcases ni (.inl hr) q hq e1 with h|⟨h,_⟩
     ·exact⟨q,hq,e1,h,e2⟩
     ·exact absurd (hr.symm.trans h) (by simp)
    ·rcases ni (.inl hr) q hq e1 with h|⟨h,_⟩
     ·exact⟨q,hq,e1,h,e2⟩
     ·exact absurd (hr.symm.trans h) (by simp)
   ·intro hr hf c ez;rcases hI.rest c ez with⟨q,hq,e1,e3,e2⟩|⟨⟨q,hq,e1,e3,e2⟩,hL⟩
    ·rcases ni (.inr ⟨hr,hf⟩) q hq e1 with h|⟨_,h,_⟩
     ·exact .inl (uO c ⟨q,hq,e1,h,e2⟩)
     ·rw[e3] at h;cases h
    ·rcases ni (.inr ⟨hr,hf⟩) q hq e1 with h|⟨_,_,h⟩
     ·exact .inl (uO c ⟨q,hq,e1,h,e2⟩)
     ·exact .inr (h5b hr hf h c hL)
   ·intro hr q hq fh oA;rcases oS hr q hq fh oA with h|h|h
    ·exact .inl h
    ·exact .inr (.inl h)
    ·exact .inr (.inr (h _))
  simp only[Cx.mh,zfT hI.pr,hm,qh,zQ,jc];simp only[Cr] at hc;split at hc<;>try (cases hc;done)
  next hw=>simp only[hw];exact key false true (.bx []) bh H lk df _ (λh=>nomatch h) (λ_ h=>nomatch h) (λ_=>⟨rfl,rfl,rfl⟩) (λ_ h=>nomatch h) (λh=>nomatch h) (λh=>nomatch h) (λ_ h=>nomatch h) (λh=>nomatch h) (λ_ h=>h) (λ_ h=>nomatch h) hc
  ·rename_i hw;simp only[hw];obtain⟨E7,hc⟩:=hc;split at hc<;>try (cases hc;done)
   ·rename_i v bT H1 c7 dB az;simp only[az];obtain⟨l5,hc⟩:=hc;have LB:qF cx.P cx.uq takes o=true->O0=true:=λh=>by rw[h] at BO;simpa using BO
    have hfj:js.any (Nat.beq i)=true->ld=true:=λh=>by rw[h] at I2;simpa using I2
    refine key _ _ v _ H1 c7 dB _ (λh=>h) (λ_ h=>by simpa using h) (λhf=>?_) (λhf _ D=>?_) (λ_ ha=>?_) (λ_ ht D=>?_) (λ_ _ hl c hL=>zfW hl hL E7 az) (λh D p hp=>W8 (l5 (LB h)) p hp) (λq hq=>by unfold yg;cases ld<;>simp[hq]) (λ_ _ hj=>by rw[hfj hj];simp[yg]) hc
    ·obtain⟨v',_,e2,_⟩:=wS hf az;cases e2;exact⟨rfl,rfl,rfl⟩
    ·simp[Cx.eU,Cx.dX,az,V.ej]
    ·obtain⟨x,e⟩:=zix ha az;cases e;exact⟨x,rfl,rfl,rfl⟩
    ·rcases zkG (D:=D) ht az with h|h
     ·exact .inl h
     ·exact .inr h
   ·rename_i bT H1 c7 dB az;simp only[az];have Al:qF cx.P cx.uq takes o=true:=by
     cases hb:qF cx.P cx.uq takes o with
     | true=>rfl
     | false=>obtain⟨v',e1,_⟩:=wS hb az;cases e1
    rw[Al];obtain⟨l5,hc⟩:=hc;have LB:O0=true:=by rw[Al] at BO;simpa using BO
    refine key true false (.bx []) bh H1 c7 dB _ (λ_=>Al) (λh=>nomatch h) (λh=>nomatch h) (λh=>nomatch h) (λ_ ha=>?_) (λ_ ht=>?_) (λh=>nomatch h) (λ_ D p hp=>W8 (l5 LB) p hp) (λ_ h=>h) (λh=>nomatch h) hc
    ·obtain⟨dst,op,type,pos,after,guard⟩:=o;unfold vK at ha;split at ha<;>try (cases ha;done)
     rename_i t lN;simp only at lN;subst lN;simp only[Cx.op] at az;split at az<;>try (cases az;done)
     split at az<;>try (cases az;done)
     simp[zQ,qb] at az
    ·obtain⟨dst,op,type,pos,after,guard⟩:=o;unfold jT at ht;split at ht<;>try (cases ht;done)
     rename_i t a lN;simp only at lN;subst lN;cases dst with
     | none=>cases ht
     | some d =>
      simp only at ht;rw[W6 ht] at az;unfold Ks at az;split at az<;>try (cases az;done)
      split at az<;>try (cases az;done)
      split at az<;>try (cases az;done)
      split at az<;>cases az
def xH{n id:Nat}{Q:Ex->St->Prop}{k:List It}{ops:Array Oper}{env:aj}{H:Hp}{lk:aC}{df:aV}{tk:bA}(js:aR)(fl:List (Bool×Bool))(ht:wi ops=tk)(b8:W9 cx.P cx.uq ops tk js 0 [] fl ops.toList=true)
  (h:Cr cx ops tk (λs=>go cx n Q k .normal s) [] fl ops.toList ⟨env,H,[],df⟩):go cx n Q (.c (.region id ops true)::k) .normal ⟨env,H,lk,df⟩:=by
 subst ht;obtain⟨s',h1,h2⟩:=ziy (js:=js) _ _ _ _ _ _ ⟨0,H,[],df⟩ [] _ ⟨.nil,λq hq=>by simp at hq,λb=>by simp[wR],⟨rfl,rfl,rfl⟩,λc hc=>by simp at hc,λc hc=>by simp at hc,λq hq=>by simp at hq⟩ b8 (λq hq=>by simp at hq) h
 simp only[go];exact⟨.normal,s',by simp only[Cx.code,Cx.draw];exact h1,h2⟩
section
variable{P:St->Prop}{bh:List (Oper×aj×V)}{fl:List (Bool×Bool)}{os:List Oper}{env:aj}{H:Hp}{lk:aC}{df:aV}{s:St}{dst:eC}{op:Op}{type:ai}{pos:String}{after:Array Edge}{ld hp:Bool}
def sI:Cr cx all takes P bh fl [] s ↔ P s:=by simp[Cr]
def LC(cx:Cx)(all:Array Oper)(takes:bA)(P:St->Prop)(bh:List (Oper×aj×V))(ld hp:Bool)(fl:List (Bool×Bool))(o:Oper)(env:aj)(os:List Oper):Option (OR×St)->Prop
 | some (.val v,⟨bT,H1,c7,dB⟩)=>(hp=true->kz cx takes ⟨0,H1,c7,dB⟩ bh)/\Cr cx all takes P (yg ld (o,env,v) bh) fl os ⟨aI bT o.dst v,H1,c7,dB⟩
 | some (.skip,⟨bT,H1,c7,dB⟩)=>(hp=true->kz cx takes ⟨0,H1,c7,dB⟩ bh)/\Cr cx all takes P bh fl os ⟨aI bT o.dst (.bx []),H1,c7,dB⟩
 | _=>False
def oB:Cr cx all takes P bh ((ld,hp)::fl) (⟨dst,op,type,pos,after,none⟩::os) ⟨env,H,lk,df⟩ ↔ (fW cx ⟨dst,op,type,pos,after,none⟩ env lk=true/\LC cx all takes P bh ld hp fl ⟨dst,op,type,pos,after,none⟩ env os (cx.op takes ⟨dst,op,type,pos,after,none⟩ env H lk df)):=by
 simp only[Cr,zN];cases cx.op takes ⟨dst,op,type,pos,after,none⟩ env H lk df with
 | none=>simp[LC]
 | some r =>
  obtain⟨r,s1⟩:=r;obtain⟨bT,H1,c7,dB⟩:=s1;cases r<;>simp[LC]
def Q7{o:Oper}{v:V}{bT:aj}{H1:Hp}{c7:aC}{dB:aV}:LC cx all takes P bh ld false fl o env os (some (.val v,⟨bT,H1,c7,dB⟩)) ↔ Cr cx all takes P (yg ld (o,env,v) bh) fl os ⟨aI bT o.dst v,H1,c7,dB⟩:=by simp[LC]
def ziz{o:Oper}{v:V}{bT:aj}{H1:Hp}{c7:aC}{dB:aV}:LC cx all takes P bh ld true fl o env os (some (.val v,⟨bT,H1,c7,dB⟩)) ↔ kz cx takes ⟨0,H1,c7,dB⟩ bh/\Cr cx all takes P (yg ld (o,env,v) bh) fl os ⟨aI bT o.dst v,H1,c7,dB⟩:=by simp[LC]
def zeX{o:Oper}{bT:aj}{H1:Hp}{c7:aC}{dB:aV}:LC cx all takes P bh ld hp fl o env os (some (.skip,⟨bT,H1,c7,dB⟩)) ↔ (hp=true->kz cx takes ⟨0,H1,c7,dB⟩ bh)/\Cr cx all takes P bh fl os ⟨aI bT o.dst (.bx []),H1,c7,dB⟩:=by simp[LC]
def kA{p:Oper×aj×V}{ps:List (Oper×aj×V)}:yg false p ps=ps:=rfl
def wo{p:Oper×aj×V}{ps:List (Oper×aj×V)}:yg true p ps=p::ps:=rfl
def jU{c:eZ}:kz cx takes c [] ↔ True:=Iff.rfl
def jy{c:eZ}{o:Oper}{env:aj}{v:V}{ps:List (Oper×aj×V)}:kz cx takes c ((o,env,v)::ps) ↔ cx.eU takes o env v c=true/\kz cx takes c ps:=Iff.rfl
def zkI{D:Nat}{o:Oper}{v:V}{s1:St}(h:cx.op takes o env H lk df=some (.val v,s1)):cx.eU takes o env v ⟨D,H,lk,df⟩=true:=by simp[Cx.eU,Cx.dX,h,V.ej]
end
def zrS(cx:Cx)(n:Nat)(Q:Ex->St->Prop)(k:List It)(R:St->Prop):Ex->St->Prop
 | .normal,s=>R s
 | ex,s=>go cx n Q k ex s
def zq2{n:Nat}{Q:Ex->St->Prop}{k:List It}{c:Code}{s:St}(R:St->Prop)(h:go cx n (zrS cx n Q k R) [.c c] .normal s)(h2:∀s',R s'->go cx n Q k .normal s'):go cx n Q (.c c::k) .normal s:=by
 obtain⟨ex,s',h3,h4⟩:=yL h;simp only[go];refine⟨ex,s',h3,?_⟩;cases ex<;>first|exact h2 _ h4|exact h4
def znD{n:Nat}{Q:Ex->St->Prop}{k:List It}{R:St->Prop}{s:St}:zrS cx n Q k R .normal s ↔ R s:=Iff.rfl
def lP{n:Nat}{Q:Ex->St->Prop}{k:List It}{env:aj}{H:Hp}{lk:aC}{df:aV}(F:aj->Prop)(h:F env)(h2:∀env,F env->go cx n Q k .normal ⟨env,H,lk,df⟩):go cx n Q k .normal ⟨env,H,lk,df⟩:=h2 env h
def zfX{D:Nat}{env:aj}{H:Hp}{lk:aC}{df:aV}{d:Tmp}{t type:ai}{a:aH}{pos:String}{after:Array Edge}{guard:i_}{p v0 v:V}(h1:aq env a=some p)(h2:zA cx.P H cx.gl t p=some v0)(h3:aX v0=v):kz cx [] ⟨D,H,lk,df⟩ [(⟨some d,.load t a,type,pos,after,guard⟩,env,v)]:=by
 refine⟨?_,trivial⟩;show cx.eU [] ⟨some d,.load t a,type,pos,after,guard⟩ env v ⟨D,H,lk,df⟩=true;have:cx.op [] ⟨some d,.load t a,type,pos,after,guard⟩ env H lk df=some (.val v,⟨env,H,lk,df⟩):=by
  rw[zw,h1,cG,h2,cA,h3,zd]
 exact zkI this
end
section
variable{cx:Cx}{takes:bA}{dst:eC}{type:ai}{pos:String}{after:Array Edge}{guard:i_}{env:aj}{H:Hp}{lk:aC}{df:aV}
def zpi{t e n k:Nat}{lo co:aH}{z:V}{i:TypeInfo}(h1:cx.P.underlying t=some (.slice e))(h2:z9 cx.P e=some n)(h3:qO cx.P e=some z)(hu:cx.uq e=false)(h4:cx.P.info? e=some i)(hn:n≠0)(hz:z.cells.length=n)(hz':eF z=true)(hl:aq env lo=some (.int .i64 (k:Int)))(hc:aq env co=some (.int .i64 (k:Int)))(hr:jJ k i.bytes=true)(hk:k≠0) :
  cx.op takes ⟨dst,.makeSlice t lo co,type,pos,after,guard⟩ env H lk df=some (.val (.sr H.af.length 0 k k),⟨env,H.push (.cells (List.replicate k z.cells).flatten e),lk,df⟩):=by
 have e1:Nat.beq n 0=false:=by
  cases n with
  | zero=>exact absurd rfl hn
  | succ n=>rfl
 have e2:¬((k:Int)<0):=by omega
 have e3:¬((k:Int)=0):=by omega
 simp[Cx.op,h1,h2,h3,h4,hu,e1,e2,hz,hz',hl,hc,hr,hk,dD,qb]
def zjH{t u e b off len cap:Nat}{x y:aH}{ys cs:aj}{ty:ai}{o:Own}(h1:cx.P.underlying t=some (.slice e))(h2:z9 cx.P e=some 1)(hx:aq env x=some (.sr b off len cap))(hy:aq env y=some (.sl 1 ys o))(hb:H.get b=some (.cells cs ty))(hl:ys.length=len)(hf:(dr ys).map aX=ys)(hr:off+len<=cs.length)(hm:wK lk b off len (cs.drop off)=true) :
  cx.op takes ⟨dst,.call ⟨.builtin .copy,#[x,y],#[t,u]⟩,type,pos,after,guard⟩ env H lk df=some (.val (.int .i64 (len:Nat)),⟨env,(H.set b (.cells (storeCells cs off ys) ty)).bQ b (.bx ys),lk,df⟩):=by
 have e1:ys.take len=ys:=by rw[<- hl,G2]
 have e2:Nat.ble (off+len) cs.length=true:=HK hr;have e3:(dr ys).length=len:=by rw[<- hl,<- congrArg List.length hf,oO]
 simp[Cx.op,Cx.uh,h1,h2,hx,hy,kE,hb,hl,e1,hf,hm,dD,qx,e3,hr]
end
section
variable{cx:Cx}{all:Array Oper}{takes:bA}
def M3(cx:Cx)(takes:bA)(o:Oper)(env:aj)(v:V):List (Hp×aC×aV)->Prop
 | []=>True
 | h::hs=>cx.eU takes o env v ⟨0,h.1,h.2.1,h.2.2⟩=true/\M3 cx takes o env v hs
def znE{o:Oper}{env:aj}{v:V}{hs:List (Hp×aC×aV)}(h:M3 cx takes o env v hs)(p:Hp×aC×aV)(hp:p∈hs):cx.eU takes o env v ⟨0,p.1,p.2.1,p.2.2⟩=true:=by
 induction hs with
 | nil=>cases hp
 | cons a ps ih =>
  cases hp with
  | head=>exact h.1
  | tail _ hp=>exact ih h.2 hp
def y6(b:Bool)(p:Hp×aC×aV)(ps:List (Hp×aC×aV)):List (Hp×aC×aV):=bif b then p::ps else ps
def tX(cx:Cx)(all:Array Oper)(takes:bA)(P:St->Prop):List (Hp×aC×aV)->List (Oper×aj×V)->List (Bool×Bool×Bool×Bool)->List Oper->St->Prop
 | _,_,_,[],s=>P s
 | _,_,[],_::_,_=>False
 | hs,bh,(ld,hp,la,cl)::fl,o::os,⟨env,H,lk,df⟩=>match zN all o env with
  | none=>False
  | some false=>tX cx all takes P hs bh fl os ⟨aI env o.dst (.bx []),H,lk,df⟩
  | some true=>fW cx o env lk=true/\match cx.op takes o env H lk df with
   | some (.val v,⟨bT,H1,c7,dB⟩)=>(hp=true->cl=false->kz cx takes ⟨0,H1,c7,dB⟩ bh)/\(la=true->M3 cx takes o env v hs)/\tX cx all takes P (y6 hp (H,lk,df) hs) (yg ld (o,env,v) bh) fl os ⟨aI bT o.dst v,H1,c7,dB⟩
   | some (.skip,⟨bT,H1,c7,dB⟩)=>(hp=true->cl=false->kz cx takes ⟨0,H1,c7,dB⟩ bh)/\tX cx all takes P (y6 hp (H,lk,df) hs) bh fl os ⟨aI bT o.dst (.bx []),H1,c7,dB⟩
   | _=>False
def zq3(js ls:aR)(r q:SR):Bool :=
 match bit r.m q.idx with
 | true=>true
 | false=>!(r.hp && q.hp) && (!(q.hp && r.lk) || (q.tk && r.ld) || ls.any (Nat.beq r.idx)) && (!(r.hp && q.lk) || (r.al && q.ld) || (js.any (Nat.beq q.idx) && q.ld))
def W_(P:aD)(uq:ai->Bool)(all:Array Oper)(takes:bA)(js ls:aR):Nat->List SR->List (Bool×Bool×Bool×Bool)->List Oper->Bool
 | _,_,_,[]=>true
 | _,_,[],_::_=>false
 | i,rs,(ld,hp,la,cl)::fl,o::os=>match Q6 rs o.after.toList with
  | none=>false
  | some m =>
   let r:SR:=⟨i,m,lT takes o,Nat.lor (lT takes o) (tG all o),qF P uq takes o,wM P uq o,vK o,Gg takes o,jT takes o⟩
   ((!qF P uq takes o || hp) && (!(js.any (Nat.beq i)) || ld) && (!(ls.any (Nat.beq i)) || la) && (!cl || jW (λq=>bit m q.idx) rs)) && ((!r.tk || jW (λq=>!q.tk) rs) && jW (W5 r) rs && (jW (zq3 js ls r) rs && W_ P uq all takes js ls (i+1) (r::rs) fl os))
def zq4{o:Oper}{env:aj}{v:V}{D D':Nat}{H:Hp}{lk:aC}{df:aV}(h:cx.eU takes o env v ⟨D,H,lk,df⟩=true):cx.eU takes o env v ⟨D',H,lk,df⟩=true:=h
def ziA{js ls:aR}{P:St->Prop}:∀(os:List Oper)(fl:List (Bool×Bool×Bool×Bool))(hs:List (Hp×aC×aV))(bh:List (Oper×aj×V))(i:Nat)(rs:List Rec)(ts:List SR)(c0:eZ)(rest:List eZ)(s:St),W7 cx takes i rs ts c0 rest s->W_ cx.P cx.uq all takes js ls i ts fl os=true->(∀c∈rest,(c.H,c.lk,c.df)∈hs)->(∀q∈rs,q.hp=false->q.free=false->js.any (Nat.beq q.idx)=true->(q.o,q.env,q.v)∈bh)->tX cx all takes P hs bh fl os s->∃s',cx.mh all takes i rs (c0::rest) os s=some (.normal,s')/\P s'
 | [],fl,hs,bh,i,rs,ts,c0,rest,s,_,_,_,_,hc=>by
  simp only[tX] at hc;exact⟨s,by simp only[Cx.mh],hc⟩
 | _::_,[],hs,bh,i,rs,ts,c0,rest,s,_,_,_,_,hc=>by
  simp only[tX] at hc
 | o::os,(ld,O0,fla,fcl)::fl,hs,bh,i,rs,ts,c0,rest,⟨env,H,lk,df⟩,hI,b8,Kq,BJ,hc=>by
  simp only[W_] at b8;split at b8<;>try (cases b8;done)
  rename_i m hm;simp only[bN] at b8;obtain⟨⟨⟨⟨BO,I2⟩,TU⟩,O2⟩,⟨iX,pN⟩,O1,b8⟩:=b8;have gI:fcl=true->∀q∈rs,bit m q.idx=true:=λh q hq=>by
   rw[h] at O2;simp only[pI,Bl] at O2;obtain⟨t,h7,h8⟩:=vX hI.pr O2 q hq;rw[h7.idx];exact h8
  have uC:∀(hp free:Bool)(v:V),jW (jG ⟨i,o,m,lT takes o,Nat.lor (lT takes o) (tG all o),hp,free,env,v⟩) rs=true:=λhp free v =>
   ziu hI.pr (λq t CR hg=>by simp only[W5] at hg;simp only[jG,CR.idx,CR.tm,CR.lm];exact hg) pN
  have key:∀(hp free:Bool)(v:V)(NY:List (Hp×aC×aV))(q6:List (Oper×aj×V))(H1:Hp)(c7:aC)(dB:aV)(bT:aj),
    (hp=true->qF cx.P cx.uq takes o=true)->(hp=false->free=false->wM cx.P cx.uq o=true) ->
    (hp=false->H1=H/\c7=lk/\dB=df)->(hp=false->free=false->∀D,cx.eU takes o env v ⟨D,H,lk,df⟩=true) ->
    (hp=true->vK o=true->∃x,H1=H.push x/\c7=lk/\dB=df) ->
    (hp=true->jT takes o=true->∀D,LA ⟨D,H,lk,df⟩ ⟨bT,H1,c7,dB⟩) ->
    (hp=false->free=false->Gg takes o=true->∀c,LA c ⟨env,H,lk,df⟩->cx.eU takes o env v c=true) ->
    (hp=true->fcl=false->∀D,∀p∈bh,cx.eU takes p.1 p.2.1 p.2.2 ⟨D,H1,c7,dB⟩=true) ->
    (hp=false->free=false->ls.any (Nat.beq i)=true->∀c∈rest,cx.eU takes o env v c=true)->(∀h∈hs,h∈NY)->(hp=true->(H,lk,df)∈NY) ->
    (∀q∈bh,q∈q6)->(hp=false->free=false->js.any (Nat.beq i)=true->(o,env,v)∈q6) ->
    tX cx all takes P NY q6 fl os ⟨bT,H1,c7,dB⟩ ->
    ∃s',(match jW (jG ⟨i,o,m,lT takes o,Nat.lor (lT takes o) (tG all o),hp,free,env,v⟩) rs,c0::rest with
     | true,c0::cs=>cx.lF takes rs ⟨i,o,m,lT takes o,Nat.lor (lT takes o) (tG all o),hp,free,env,v⟩ c0 ⟨Nat.lor c0.D (Nat.pow 2 i),H1,c7,dB⟩ cs λcs =>
      cx.mh all takes (i+1) (⟨i,o,m,lT takes o,Nat.lor (lT takes o) (tG all o),hp,free,env,v⟩::rs) cs os ⟨bT,H1,c7,dB⟩
     | _,_=>none)=some (.normal,s')/\P s':=by
   intro hp free v NY q6 H1 c7 dB bT h1 h2 h3 h4 h5 h5a h5b Dt Fy TV abg dZ I3 h6;rw[uC];simp only;have bu:∀q∈rs,q.idx≠i:=λq hq e=>by have:=hI.lt q hq;omega
   have rR:∀b,(∃q∈rs,q.hp=true/\q.idx=b)->bit (Nat.lor c0.D (Nat.pow 2 i)) b=true:=λb hb=>by rw[qW,(hI.cD b).2 hb];rfl
   have C3:=vX hI.pr O1;have oS:hp=true->∀q∈rs,q.hp=false->q.free=false->bit m q.idx=true\/(∃c∈rs,c.hp=true/\bit c.m q.idx=true)\/∀D,cx.eU takes q.o q.env q.v ⟨D,H1,c7,dB⟩=true:=λhr q hq fh oA=>by
    obtain⟨t,ht,hg⟩:=C3 q hq;simp only[zq3] at hg;split at hg
    next hb=>exact .inl (by rw[ht.idx];exact hb)
    ·rw[h1 hr,ht.lk fh oA] at hg;simp only[ug,pI,Bl,bN,gZ] at hg;obtain⟨_,⟨DV,lz⟩|⟨Lu,lz⟩⟩:=hg
     ·rcases hI.nF q hq fh oA with h|h
      ·exact .inr (.inl h)
      ·obtain⟨x,e1,e2,e3⟩:=h5 hr DV;subst e1 e2 e3;rw[ht.ld] at lz;exact .inr (.inr λD=>zfU lz (h D))
     ·cases hf:fcl with
      | true=>exact .inl (gI hf q hq)
      | false=>exact .inr (.inr λD=>Dt hr hf D _ (BJ q hq fh oA (by rw[ht.idx];exact Lu)))
   have I4:jT takes o=true->∀q∈rs,jT takes q.o=false:=λht q hq=>by
    rw[ht] at iX;simp only[pI,Bl] at iX;obtain⟨t,h7,h8⟩:=vX hI.pr iX q hq;rw[<- h7.tk];simpa using h8
   have ni:(hp=true\/(hp=false/\free=false))->∀q∈rs,q.hp=true->bit m q.idx=true\/(hp=false/\jT takes q.o=true/\Gg takes o=true)\/(hp=false/\free=false/\ls.any (Nat.beq i)=true):=λhr q hq fh=>by
    obtain⟨t,ht,hg⟩:=C3 q hq;simp only[zq3] at hg;split at hg
    next hb=>exact .inl (by rw[ht.idx];exact hb)
    ·rw[ht.hp fh] at hg;simp only[Bool.and_true,ug,bN,ue] at hg;obtain⟨⟨g1,g2⟩,_⟩:=hg;rcases hr with hr|⟨hr,hf⟩
     ·rw[h1 hr] at g1;cases g1
     ·rw[h2 hr hf] at g2;simp only[pI,Bl,bN,gZ] at g2;rcases g2 with g2|g2
      ·exact .inr (.inl ⟨hr,by rw[<- ht.tk];exact g2.1,g2.2⟩)
      ·exact .inr (.inr ⟨hr,hf,g2⟩)
   have uO:∀c:eZ,(∃q∈rs,q.hp=true/\bit m q.idx=true/\bit c.D q.idx=false)->kj (Nat.land m (cn rs)) c.D=false:=λc hc=>by
    obtain⟨q,hq,e1,e2,e3⟩:=hc;cases hs:kj (Nat.land m (cn rs)) c.D with
    | false=>rfl
    | true =>
     have:=bR.1 hs q.idx (by rw[qX,e2,ep.2 ⟨q,hq,e1,rfl⟩];rfl)
     rw[this] at e3;cases e3
   have OH:∀c:eZ,(∀b,bit c.D b=true->∃q∈rs,q.idx=b)->bit c.D i=false:=λc hc=>by
    cases hb:bit c.D i with
    | false=>rfl
    | true =>
     obtain⟨q,hq,e⟩:=hc i hb;exact absurd e (bu q hq)
   rw[zkH (r:=⟨i,o,m,lT takes o,Nat.lor (lT takes o) (tG all o),hp,free,env,v⟩) ?_ ?_ rR ?_]
   ·have I5:W7 cx takes (i+1) (⟨i,o,m,lT takes o,Nat.lor (lT takes o) (tG all o),hp,free,env,v⟩::rs) (⟨i,m,lT takes o,Nat.lor (lT takes o) (tG all o),qF cx.P cx.uq takes o,wM cx.P cx.uq o,vK o,Gg takes o,jT takes o⟩::ts)
      (bif hp then ⟨Nat.lor c0.D (Nat.pow 2 i),H1,c7,dB⟩ else c0) (bif hp then c0::rest else rest) ⟨bT,H1,c7,dB⟩:=by
     refine⟨.cons ⟨rfl,rfl,rfl,rfl,h1,h2,rfl,rfl⟩ hI.pr,?_,?_,?_,?_,?_,?_⟩
     ·intro q hq;rcases cS.1 hq with rfl|hq
      ·exact PV _
      ·have:=hI.lt q hq;omega
     ·intro b;cases hp with
      | false =>
       simp only[cond_false];rw[hI.cD];constructor
       ·rintro⟨q,hq,e⟩;exact⟨q,cZ _ hq,e⟩
       ·rintro⟨q,hq,e1,e2⟩;rcases cS.1 hq with rfl|hq
        ·cases e1
        ·exact⟨q,hq,e1,e2⟩
      | true =>
       simp only[cond_true];rw[qW,gZ,hI.cD,jh,decide_eq_true_eq];constructor
       ·rintro(⟨q,hq,e⟩|rfl)
        ·exact⟨q,cZ _ hq,e⟩
        ·exact⟨_,ew ..,rfl,rfl⟩
       ·rintro⟨q,hq,e1,e2⟩;rcases cS.1 hq with rfl|hq
        ·exact .inr e2
        ·exact .inl ⟨q,hq,e1,e2⟩
     ·cases hp with
      | false=>obtain⟨e1,e2,e3⟩:=h3 rfl;subst e1 e2 e3;exact hI.c0
      | true=>exact⟨rfl,rfl,rfl⟩
     ·intro c ez b hb;cases hp with
      | false=>obtain⟨q,hq,e⟩:=hI.rD c ez b hb;exact⟨q,cZ _ hq,e⟩
      | true =>
       rcases cS.1 ez with rfl|ez
       ·obtain⟨q,hq,_,e⟩:=(hI.cD b).1 hb;exact⟨q,cZ _ hq,e⟩
       ·obtain⟨q,hq,e⟩:=hI.rD c ez b hb;exact⟨q,cZ _ hq,e⟩
     ·intro c ez;cases hp with
      | false =>
       obtain⟨e1,e2,e3⟩:=h3 rfl;subst e1 e2 e3;rcases hI.rest c ez with⟨q,hq,e⟩|⟨⟨q,hq,e⟩,hL⟩
       ·exact .inl ⟨q,cZ _ hq,e⟩
       ·exact .inr ⟨⟨q,cZ _ hq,e⟩,hL⟩
      | true =>
       have I6:bit c0.D i=false:=OH c0 λb hb=>by obtain⟨q,hq,_,e⟩:=(hI.cD b).1 hb;exact⟨q,hq,e⟩
       cases nu:jT takes o with
       | false =>
        rcases cS.1 ez with rfl|ez
        ·exact .inl ⟨_,ew ..,rfl,nu,I6⟩
        ·exact .inl ⟨_,ew ..,rfl,nu,OH c (hI.rD c ez)⟩
       | true =>
        rcases cS.1 ez with rfl|ez
        ·refine .inr ⟨⟨_,ew ..,rfl,nu,I6⟩,?_⟩;obtain⟨D0,H0,lk0,df0⟩:=c;obtain⟨e1,e2,e3⟩:=hI.c0;simp only at e1 e2 e3;subst e1 e2 e3;exact h5a rfl nu D0
        ·rcases hI.rest c ez with⟨q,hq,e⟩|⟨⟨q,hq,e1,e2,_⟩,_⟩
         ·exact .inl ⟨q,cZ _ hq,e⟩
         ·rw[I4 nu q hq] at e2;cases e2
     ·intro q hq fh oA;rcases cS.1 hq with rfl|uM
      ·obtain⟨e1,e2,e3⟩:=h3 fh;subst e1 e2 e3;exact .inr (h4 fh oA)
      ·clear hq;cases hp with
       | false =>
        obtain⟨e1,e2,e3⟩:=h3 rfl;subst e1 e2 e3;rcases hI.nF q uM fh oA with⟨c,hc,e⟩|h
        ·exact .inl ⟨c,cZ _ hc,e⟩
        ·exact .inr h
       | true =>
        rcases oS rfl q uM fh oA with h|⟨c,hc,e⟩|h
        ·exact .inl ⟨_,ew ..,rfl,h⟩
        ·exact .inl ⟨c,cZ _ hc,e⟩
        ·exact .inr h
    have:=ziA os fl NY q6 _ _ _ _ _ _ I5 b8 (λc ez=>by
     cases hp with
     | false=>exact TV _ (Kq c ez)
     | true =>
      rcases cS.1 ez with rfl|ez
      ·obtain⟨e1,e2,e3⟩:=hI.c0;simp only at e1 e2 e3;rw[e1,e2,e3];exact abg rfl
      ·exact TV _ (Kq c ez)) (λq hq fh oA hj=>by
     rcases cS.1 hq with rfl|hq
     ·exact I3 fh oA hj
     ·exact dZ _ (BJ q hq fh oA hj)) h6
    cases hp<;>exact this
   ·intro hr c ez;refine uO c ?_;rcases hI.rest c ez with⟨q,hq,e1,_,e2⟩|⟨⟨q,hq,e1,_,e2⟩,_⟩
    ·rcases ni (.inl hr) q hq e1 with h|⟨h,_⟩|⟨h,_⟩
     ·exact⟨q,hq,e1,h,e2⟩
     ·exact absurd (hr.symm.trans h) (by simp)
     ·exact absurd (hr.symm.trans h) (by simp)
    ·rcases ni (.inl hr) q hq e1 with h|⟨h,_⟩|⟨h,_⟩
     ·exact⟨q,hq,e1,h,e2⟩
     ·exact absurd (hr.symm.trans h) (by simp)
     ·exact absurd (hr.symm.trans h) (by simp)
   ·intro hr hf c ez;rcases hI.rest c ez with⟨q,hq,e1,e3,e2⟩|⟨⟨q,hq,e1,e3,e2⟩,hL⟩
    ·rcases ni (.inr ⟨hr,hf⟩) q hq e1 with h|⟨_,h,_⟩|⟨_,_,h⟩
     ·exact .inl (uO c ⟨q,hq,e1,h,e2⟩)
     ·rw[e3] at h;cases h
     ·exact .inr (Fy hr hf h c ez)
    ·rcases ni (.inr ⟨hr,hf⟩) q hq e1 with h|⟨_,_,h⟩|⟨_,_,h⟩
     ·exact .inl (uO c ⟨q,hq,e1,h,e2⟩)
     ·exact .inr (h5b hr hf h c hL)
     ·exact .inr (Fy hr hf h c ez)
   ·intro hr q hq fh oA;rcases oS hr q hq fh oA with h|h|h
    ·exact .inl h
    ·exact .inr (.inl h)
    ·exact .inr (.inr (h _))
  simp only[Cx.mh,zfT hI.pr,hm,qh,zQ,jc];simp only[tX] at hc;split at hc<;>try (cases hc;done)
  next hw=>simp only[hw];exact key false true (.bx []) hs bh H lk df _ (λh=>nomatch h) (λ_ h=>nomatch h) (λ_=>⟨rfl,rfl,rfl⟩) (λ_ h=>nomatch h) (λh=>nomatch h) (λh=>nomatch h) (λ_ h=>nomatch h) (λh=>nomatch h) (λ_ h=>nomatch h) (λ_ h=>h) (λh=>nomatch h) (λ_ h=>h) (λ_ h=>nomatch h) hc
  ·rename_i hw;simp only[hw];obtain⟨E7,hc⟩:=hc;split at hc<;>try (cases hc;done)
   ·rename_i v bT H1 c7 dB az;simp only[az];obtain⟨l5,mW,hc⟩:=hc;have Mn:ls.any (Nat.beq i)=true->fla=true:=λh=>by rw[h] at TU;simpa using TU
    have LB:qF cx.P cx.uq takes o=true->O0=true:=λh=>by rw[h] at BO;simpa using BO
    have hfj:js.any (Nat.beq i)=true->ld=true:=λh=>by rw[h] at I2;simpa using I2
    refine key _ _ v _ _ H1 c7 dB _ (λh=>h) (λ_ h=>by simpa using h) (λhf=>?_) (λhf _ D=>?_) (λ_ ha=>?_) (λ_ ht D=>?_) (λ_ _ hl c hL=>zfW hl hL E7 az) (λh hf D p hp=>W8 (l5 (LB h) hf) p hp) (λ_ _ hl c ez=>zq4 (D:=0) (znE (mW (Mn hl)) _ (Kq c ez))) (λh hm=>by unfold y6;cases O0<;>simp[hm]) (λh=>by rw[LB h];simp[y6]) (λq hq=>by unfold yg;cases ld<;>simp[hq]) (λ_ _ hj=>by rw[hfj hj];simp[yg]) hc
    ·obtain⟨v',_,e2,_⟩:=wS hf az;cases e2;exact⟨rfl,rfl,rfl⟩
    ·simp[Cx.eU,Cx.dX,az,V.ej]
    ·obtain⟨x,e⟩:=zix ha az;cases e;exact⟨x,rfl,rfl,rfl⟩
    ·rcases zkG (D:=D) ht az with h|h
     ·exact .inl h
     ·exact .inr h
   ·rename_i bT H1 c7 dB az;simp only[az];have Al:qF cx.P cx.uq takes o=true:=by
     cases hb:qF cx.P cx.uq takes o with
     | true=>rfl
     | false=>obtain⟨v',e1,_⟩:=wS hb az;cases e1
    rw[Al];obtain⟨l5,hc⟩:=hc;have LB:O0=true:=by rw[Al] at BO;simpa using BO
    refine key true false (.bx []) _ bh H1 c7 dB _ (λ_=>Al) (λh=>nomatch h) (λh=>nomatch h) (λh=>nomatch h) (λ_ ha=>?_) (λ_ ht=>?_) (λh=>nomatch h) (λ_ hf D p hp=>W8 (l5 LB hf) p hp) (λh=>nomatch h) (λh hm=>by unfold y6;cases O0<;>simp[hm]) (λ_=>by rw[LB];simp[y6]) (λ_ h=>h) (λh=>nomatch h) hc
    ·obtain⟨dst,op,type,pos,after,guard⟩:=o;unfold vK at ha;split at ha<;>try (cases ha;done)
     rename_i t lN;simp only at lN;subst lN;simp only[Cx.op] at az;split at az<;>try (cases az;done)
     split at az<;>try (cases az;done)
     simp[zQ,qb] at az
    ·obtain⟨dst,op,type,pos,after,guard⟩:=o;unfold jT at ht;split at ht<;>try (cases ht;done)
     rename_i t a lN;simp only at lN;subst lN;cases dst with
     | none=>cases ht
     | some d =>
      simp only at ht;rw[W6 ht] at az;unfold Ks at az;split at az<;>try (cases az;done)
      split at az<;>try (cases az;done)
      split at az<;>try (cases az;done)
      split at az<;>cases az
def vZ{n id:Nat}{Q:Ex->St->Prop}{k:List It}{ops:Array Oper}{env:aj}{H:Hp}{lk:aC}{df:aV}{tk:bA}(js ls:aR)(fl:List (Bool×Bool×Bool×Bool))(ht:wi ops=tk)(b8:W_ cx.P cx.uq ops tk js ls 0 [] fl ops.toList=true)
  (h:tX cx ops tk (λs=>go cx n Q k .normal s) [] [] fl ops.toList ⟨env,H,[],df⟩):go cx n Q (.c (.region id ops true)::k) .normal ⟨env,H,lk,df⟩:=by
 subst ht;obtain⟨s',h1,h2⟩:=ziA (js:=js) (ls:=ls) _ _ [] _ _ _ _ ⟨0,H,[],df⟩ [] _ ⟨.nil,λq hq=>by simp at hq,λb=>by simp[wR],⟨rfl,rfl,rfl⟩,λc hc=>by simp at hc,λc hc=>by simp at hc,λq hq=>by simp at hq⟩ b8 (λc hc=>by simp at hc) (λq hq=>by simp at hq) h
 simp only[go];exact⟨.normal,s',by simp only[Cx.code,Cx.draw];exact h1,h2⟩
section
variable{P:St->Prop}{hs:List (Hp×aC×aV)}{bh:List (Oper×aj×V)}{fl:List (Bool×Bool×Bool×Bool)}{os:List Oper}{env:aj}{H:Hp}{lk:aC}{df:aV}{s:St}{dst:eC}{op:Op}{type:ai}{pos:String}{after:Array Edge}{ld hp la cl:Bool}
def oh:tX cx all takes P hs bh fl [] s ↔ P s:=by simp[tX]
def Cs(cx:Cx)(all:Array Oper)(takes:bA)(P:St->Prop)(hs:List (Hp×aC×aV))(bh:List (Oper×aj×V))(ld hp la cl:Bool)(fl:List (Bool×Bool×Bool×Bool))(o:Oper)(env:aj)(H:Hp)(lk:aC)(df:aV)(os:List Oper):Option (OR×St)->Prop
 | some (.val v,⟨bT,H1,c7,dB⟩)=>(hp=true->cl=false->kz cx takes ⟨0,H1,c7,dB⟩ bh)/\(la=true->M3 cx takes o env v hs)/\tX cx all takes P (y6 hp (H,lk,df) hs) (yg ld (o,env,v) bh) fl os ⟨aI bT o.dst v,H1,c7,dB⟩
 | some (.skip,⟨bT,H1,c7,dB⟩)=>(hp=true->cl=false->kz cx takes ⟨0,H1,c7,dB⟩ bh)/\tX cx all takes P (y6 hp (H,lk,df) hs) bh fl os ⟨aI bT o.dst (.bx []),H1,c7,dB⟩
 | _=>False
def l7:tX cx all takes P hs bh ((ld,hp,la,cl)::fl) (⟨dst,op,type,pos,after,none⟩::os) ⟨env,H,lk,df⟩ ↔ (fW cx ⟨dst,op,type,pos,after,none⟩ env lk=true/\Cs cx all takes P hs bh ld hp la cl fl ⟨dst,op,type,pos,after,none⟩ env H lk df os (cx.op takes ⟨dst,op,type,pos,after,none⟩ env H lk df)):=by
 simp only[tX,zN];cases cx.op takes ⟨dst,op,type,pos,after,none⟩ env H lk df with
 | none=>simp[Cs]
 | some r =>
  obtain⟨r,s1⟩:=r;obtain⟨bT,H1,c7,dB⟩:=s1;cases r<;>simp[Cs]
def Q8{g:Nat×Bool}:tX cx all takes P hs bh ((ld,hp,la,cl)::fl) (⟨dst,op,type,pos,after,some g⟩::os) ⟨env,H,lk,df⟩ ↔ Kr (fW cx ⟨dst,op,type,pos,after,some g⟩ env lk=true/\Cs cx all takes P hs bh ld hp la cl fl ⟨dst,op,type,pos,after,some g⟩ env H lk df os (cx.op takes ⟨dst,op,type,pos,after,some g⟩ env H lk df)) (tX cx all takes P hs bh fl os ⟨aI env dst (.bx []),H,lk,df⟩) (zN all ⟨dst,op,type,pos,after,some g⟩ env):=by
 simp only[tX];cases zN all ⟨dst,op,type,pos,after,some g⟩ env with
 | none=>simp[Kr]
 | some b =>
  cases b with
  | false=>simp[Kr]
  | true =>
   simp only[Kr];cases cx.op takes ⟨dst,op,type,pos,after,some g⟩ env H lk df with
   | none=>simp[Cs]
   | some r =>
    obtain⟨r,s1⟩:=r;obtain⟨bT,H1,c7,dB⟩:=s1;cases r<;>simp[Cs]
variable{o:Oper}{v:V}{bT:aj}{H1:Hp}{c7:aC}{dB:aV}
def l8:Cs cx all takes P hs bh ld false false cl fl o env H lk df os (some (.val v,⟨bT,H1,c7,dB⟩)) ↔ tX cx all takes P hs (yg ld (o,env,v) bh) fl os ⟨aI bT o.dst v,H1,c7,dB⟩:=by simp[Cs,y6]
def I7:Cs cx all takes P hs bh ld false true cl fl o env H lk df os (some (.val v,⟨bT,H1,c7,dB⟩)) ↔ (M3 cx takes o env v hs/\tX cx all takes P hs (yg ld (o,env,v) bh) fl os ⟨aI bT o.dst v,H1,c7,dB⟩):=by simp[Cs,y6]
def iP:Cs cx all takes P hs bh ld true false false fl o env H lk df os (some (.val v,⟨bT,H1,c7,dB⟩)) ↔ (kz cx takes ⟨0,H1,c7,dB⟩ bh/\tX cx all takes P ((H,lk,df)::hs) (yg ld (o,env,v) bh) fl os ⟨aI bT o.dst v,H1,c7,dB⟩):=by simp[Cs,y6]
def uP:Cs cx all takes P hs bh ld true false false fl o env H lk df os (some (.skip,⟨bT,H1,c7,dB⟩)) ↔ (kz cx takes ⟨0,H1,c7,dB⟩ bh/\tX cx all takes P ((H,lk,df)::hs) bh fl os ⟨aI bT o.dst (.bx []),H1,c7,dB⟩):=by simp[Cs,y6]
def om:Cs cx all takes P hs bh ld true false true fl o env H lk df os (some (.val v,⟨bT,H1,c7,dB⟩)) ↔ tX cx all takes P ((H,lk,df)::hs) (yg ld (o,env,v) bh) fl os ⟨aI bT o.dst v,H1,c7,dB⟩:=by simp[Cs,y6]
def mS:Cs cx all takes P hs bh ld true false true fl o env H lk df os (some (.skip,⟨bT,H1,c7,dB⟩)) ↔ tX cx all takes P ((H,lk,df)::hs) bh fl os ⟨aI bT o.dst (.bx []),H1,c7,dB⟩:=by simp[Cs,y6]
def I8:M3 cx takes o env v [] ↔ True:=Iff.rfl
def zlZ{h:Hp}{l:aC}{d:aV}:M3 cx takes o env v ((h,l,d)::hs) ↔ (cx.eU takes o env v ⟨0,h,l,d⟩=true/\M3 cx takes o env v hs):=Iff.rfl
end
end
section
def zp8(f:Nat->Bool):Nat->Nat
 | 0=>0
 | n+1=>zp8 f n ||| (if f n=true then 2 ^ n else 0)
def ztU(p:Nat->Bool)(i:Nat):Nat:=zp8 (λj=>p (64 * i+j)) 64
def ziB{n:Int}(h:-9223372036854775808<=n)(h':n<9223372036854775808):IntKind.i64.wrap n=n:=by
 simp only[IntKind.wrap,IntKind.bits,IntKind.signed];simp only[ug,decide_eq_true_eq,ge_iff_le];have e1:(2:Int) ^ 64=18446744073709551616:=by decide
 have e2:(2:Int) ^ (64 - 1)=9223372036854775808:=by decide
 rw[e1,e2];split<;>omega
variable{P:aD}{t:ai}{x y:aH}
def zl0{H:Hp}{b off n:Nat}{v:V}{env:aj}{cs:aj}{ty:ai}{lk:aC}{df:aV}(hb:H.get b=some (.cells cs ty))(h1:eF v=true)(h2:v.laid.length=n)(h3:off+n<=cs.length)(h4:wK lk b off n (cs.drop off)=true) :
  Qt n H lk df (some (.ptr b off)) (some (v,env))=some (.skip,⟨env,(H.set b (.cells (Vm.storeCells cs off v.laid) ty)).bQ b v,lk,df⟩):=by
 simp only[Qt,hb,h1,h2,h4];simp[h3]
def zrT{H:Hp}{b:Nat}{v:V}(h:v.top<=b+1):H.bQ b v=H:=by simp[Hp.bQ,h]
def ziC{lk:aC}{b:Nat}:∀{n off:Nat}{l:aj},(∀i,i<n->∃c,l[i]?=some c/\locked c=false)->wK lk b off n l=true
 | 0,_,_,_=>by simp[wK]
 | n+1,off,[],h=>by obtain⟨c,hc,_⟩:=h 0 (by omega);simp at hc
 | n+1,off,c::l,h=>by
  obtain⟨d,hd,hl⟩:=h 0 (by omega)
  simp only[Ce,aO] at hd;subst hd;simp only[wK,hl,Dr,Bool.true_or,ug];exact ziC λi hi=>by
   have:=h (i+1) (by omega)
   simpa using this
def zl1{lk:aC}{b n off:Nat}{cs:aj}(h:∀i,i<n->∃c,cs[off+i]?=some c/\locked c=false):wK lk b off n (cs.drop off)=true :=
 ziC λi hi=>by rw[HN];exact h i hi
end
section
variable{P:aD}{t:ai}{x y:aH}
end
section
def UL(H:Hp)(sz:Nat)(e:ai)(c:V)(i:Option Nat)(xs:List aj):Prop :=
 match i with
 | none=>c=.aU/\xs=[]
 | some j=>∃v,c=.fA j v xs.length/\H.get j=some (.ul v sz xs.flatten e)
structure Frm(H H':Hp)(S:Nat->Prop):Prop where
 len:H.af.length<=H'.af.length
 get:∀d,d<H.af.length->¬S d->H'.get d=H.get d
def Frm.refl{H:Hp}{S:Nat->Prop}:Frm H H S:=⟨bV _,λ_ _ _=>rfl⟩
def gR{n b:Nat}(h:n * b<=140737488355328)(h':n<=140737488355328):jJ n b=true:=by
 simp[jJ,Nat.ble_eq,h,h']
def zq5(z:V):Bool:=eF z && z.cells.all λc=>!(locked c)
def zpk{P:aD}{e n:Nat}(h:(qO P e).map (λz=>(z.cells.length,zq5 z))=some (n,true))(hn:n≠0/\n<=16777216):∃z,qO P e=some z/\(n≠0/\n<=16777216/\z.cells.length=n/\eF z=true)/\z.cells.all (λc=>!(locked c))=true:=by
 cases hz:qO P e with
 | none=>rw[hz] at h;cases h
 | some z =>
  rw[hz] at h;simp only[cA,aO,bP,zq5,bN] at h;exact⟨z,rfl,⟨hn.1,hn.2,h.1,h.2.1⟩,h.2.2⟩
def w9{lk:aC}{b n off:Nat}{cs:aj}(h:cs.all (λc=>!(locked c))=true)(hl:off+n<=cs.length):wK lk b off n (cs.drop off)=true :=
 zl1 λi hi=>⟨cs[off+i]'(by omega),lB (by omega),by
  have:=Cf.1 h _ (List.getElem_mem (show off+i<cs.length by omega))
  simpa using this⟩
structure C4(P:aD)(t e n bytes:Nat):Prop where
 u:P.underlying t=some (.slice e)
 s:z9 P e=some n
 z:(qO P e).map (λz=>(z.cells.length,zq5 z))=some (n,true)
 n0:n≠0/\n<=16777216
 i:((P.info? e).bind λi=>i.zero.map λz=>(z.cells.size,i.bytes))=some (n,bytes)
 a:jI P t=some false
 st:z9 P t=some 1
def C4.bsl{P:aD}{t e n O3:Nat}(h:C4 P t e n O3){v:V}(h5:eF v=true)(h6:v.cells.length=n):OZ P t (some v)=some (.sl n [v] (.yes e)):=by
 obtain⟨z,h1,h2,_⟩:=zpk h.z h.n0;exact zpg h.u h.s h1 h2 h5 h6
def C4.app{P:aD}{t e n O3:Nat}(h:C4 P t e n O3){env:aj}{H:Hp}{lk:aC}{df:aV}{ys:aj}{o:Own}{c:V}{i:Option Nat}{xs:List aj}(hy:ys≠[])(hu:UL H n e c i xs)(mG:jJ (xs.length+ys.length) O3=true) :
  Lz P t env H lk df (some (.sl n ys o)) (some c)=match i with
   | none=>some (.val (.fA H.af.length 0 ys.length),⟨env,H.push (.ul 0 n (dr ys) e),lk,df⟩)
   | some j=>match c with
    | .fA _ v _=>some (.val (.fA j (v+1) (xs.length+ys.length)),⟨env,(H.set j (.ul (v+1) n (xs.flatten++dr ys) e)).bQ j (.bx ys),lk,df⟩)
    | _=>none:=by
 have hi:=h.i;cases He:P.info? e with
 | none=>rw[He] at hi;cases hi
 | some ti =>
  rw[He] at hi;simp only[cG] at hi;cases hz:ti.zero with
  | none=>rw[hz] at hi;cases hi
  | some z =>
   rw[hz] at hi;simp only[cA,aO,bP] at hi;rw[zpf h.u h.s He hz hi.1 h.n0.1,hi.2];cases i with
   | none =>
    obtain⟨rfl,rfl⟩:=hu;cases ys with
    | nil=>exact absurd rfl hy
    | cons y ys=>simp at mG;simp[mG]
   | some j =>
    obtain⟨v,rfl,hj⟩:=hu;simp[hj,mG]
def vd{P:aD}{t:ai}{H:Hp}{gl:Nat->Nat->bS}{b n off:Nat}{cs:aj}{ty:ai}(ha:jI P t=some true)(hs:z9 P t=some n)(hb:H.get b=some (.cells cs ty))(hl:off+n<=cs.length):zA P H gl t (.ptr b off)=some (.agg ((cs.drop off).take n)):=by
 rw[V7,hb,xV,kL,ha,hs,ZV,if_pos hl]
def zM{P:aD}{t:ai}{H:Hp}{gl:Nat->Nat->bS}{b off:Nat}{cs:aj}{ty:ai}{v:V}(ha:jI P t=some false)(hb:H.get b=some (.cells cs ty))(hn:nth cs off=some v):zA P H gl t (.ptr b off)=some v:=by
 rw[V7,hb,xV,kL,ha,V5,hn]
def jn{P:aD}{t n:ai}{H:Hp}{lk:aC}{df:aV}{b off:Nat}{v:V}{env:aj}{cs:aj}{ty:ai}(hs:z9 P t=some n)(hb:H.get b=some (.cells cs ty))(h1:eF v=true)(h2:v.laid.length=n)(h3:off+n<=cs.length)(h4:wK lk b off n (cs.drop off)=true) :
  qV P t H lk df (some (v,env)) (some (.ptr b off))=some (.skip,⟨env,(H.set b (.cells (Vm.storeCells cs off v.laid) ty)).bQ b v,lk,df⟩):=by
 simp only[qV,hs,zl0 hb h1 h2 h3 h4]
def zfY{env:aj}{t j v l:Nat}:jj env t (some (.fA j v l))=some (.fA j v l,env):=rfl
def zkJ{j v l:Nat}:aX (.fA j v l)=.fA j v l:=rfl
def zkK{a b c:Nat}:aX (.ny a b c)=.ny a b c:=rfl
def zkL{i:Nat}:∀{xs ys:aj}{k:Nat},(Vm.storeCells ys k xs)[i]?=if k<=i/\i<k+xs.length/\i<ys.length then xs[i - k]? else ys[i]?
 | [],ys,k=>by simp[Vm.storeCells];omega
 | x::xs,ys,k=>by
  simp only[Vm.storeCells,zkL (xs:=xs),cI,List.getElem?_set',fY]
  by_cases h1:i=k
  ·subst h1;have:¬(i+1<=i/\i<i+1+xs.length/\i<ys.length):=by omega
   rw[if_neg this,if_pos rfl]
   by_cases h2:i<ys.length
   ·rw[if_pos (by omega),lB h2];simp
   ·rw[if_neg (by omega),tE (by omega)];simp
  ·rw[if_neg (Ne.symm h1)]
   by_cases h2:k+1<=i/\i<k+1+xs.length/\i<ys.length
   ·rw[if_pos h2,if_pos (by omega),show i - k=(i - (k+1))+1 by omega,HJ]
   ·rw[if_neg h2,if_neg (by omega)]
def BP{xs ys:aj}(h:ys.length=xs.length):Vm.storeCells ys 0 xs=xs:=by
 apply HO;intro i;rw[zkL]
 by_cases hi:i<xs.length
 ·rw[if_pos (by omega)];simp
 ·rw[if_neg (by omega),tE (by rw[h];omega),tE (by omega)]
def za{l:aj}{i j:Nat}{v:V}:nth (l.set i v) j=if i=j then (if i<l.length then some v else none) else nth l j:=by
 rw[zf,zf,AM]
def Xa{α:Type}{l:List α}{d:Nat}{v:α}(h:nth l d=some v):l.set d v=l:=by
 rw[zf] at h;apply HO;intro t;rw[List.getElem?_set'];split
 next e=>subst e;rw[h];rfl
 ·rfl
def kR(n:Nat)(e:ai)(xs:aj):V:=match xs with|[]=>.aU|xs=>.sl n xs (.yes e)
def znF{env:aj}{t n:Nat}{e:ai}{xs:aj}(h:nth env t=some (kR n e xs)):take env (.tmp t)=some (kR n e xs,env.set t (aX (kR n e xs))):=by
 rw[zh,h];cases xs with
 | nil =>
  have h':nth env t=some .aU:=h;simp only[kR,ZO,nY];rw[Xa h']
 | cons x xs=>rfl
def zjI{P:aD}{t e n O3:Nat}(h:C4 P t e n O3){H:Hp}{xs ys:aj}{o:Own}(hy:ys≠[])(mG:jJ (xs.length+ys.length) O3=true):jN P H t (kR n e xs) (.sl n ys o)=some (kR n e (xs++ys)):=by
 have hi:=h.i;cases He:P.info? e with
 | none=>rw[He] at hi;cases hi
 | some ti =>
  rw[He] at hi;simp only[cG] at hi;cases hz:ti.zero with
  | none=>rw[hz] at hi;cases hi
  | some z =>
   rw[hz] at hi;simp only[cA,aO,bP] at hi;have Kf:Nat.beq n 0=false:=by
    have:=h.n0.1;cases n with
    | zero=>exact absurd rfl this
    | succ n=>rfl
   obtain⟨y,ys,rfl⟩:∃y l,ys=y::l:=by
    cases ys with
    | nil=>exact absurd rfl hy
    | cons y l=>exact⟨y,l,rfl⟩
   simp only[jN,h.u,h.s,He,hz,hi.1,kE,Option.bind_eq_bind,cG,pP,pI,bH,aZ,aT];cases xs with
   | nil =>
    simp only[kR,gF];rw[hi.2,Kf];simp only[List.length_nil,eM,fY] at mG;simp[mG]
   | cons x xs =>
    simp only[kR,iQ];rw[hi.2,Kf];simp only[fY] at mG;simp[mG]
def ziD{P:aD}{t:ai}{x y:aH}{a b:Nat}(h:a+b<2 ^ 60):j6 P .add t x y (some (.int .i64 a)) (some (.int .i64 b))=some (.int .i64 ((a+b:Nat):Int)):=by
 rw[zkd,<- Int.natCast_add,ziB (by omega) (by omega)]
def znG{P:aD}{H:Hp}{t e n:Nat}{xs:aj}(hu:P.underlying t=some (.slice e)):jM P H t (aX (kR n e xs))=some (xs.length:Int):=by
 cases xs with
 | nil=>simp[kR,aX,jM,hu]
 | cons x xs=>simp[kR,aX,jM,hu]
def Xb{n:Nat}{e:ai}{xs:aj}:aX (aX (kR n e xs))=aX (kR n e xs):=by cases xs<;>rfl
def Kt(n:Nat)(xs:aj):V:=match xs with|[]=>.aU|xs=>.sl n xs .lock
def M4(b off:Nat)(xs:aj):aC:=match xs with|[]=>[]|_=>[(b,off)]
def znH{P:aD}{t:ai}{env:aj}{H:Hp}{df:aV}{b off n:Nat}{e:ai}{xs cs:aj}{ty:ai}(ha:jI P t=some false)(hb:H.get b=some (.cells cs ty))(hn:nth cs off=some (kR n e xs)) :
  Ks P t env H [] df (some (.ptr b off))=some (.val (kR n e xs),⟨env,H.set b (.cells (cs.set off (Kt n xs)) ty),M4 b off xs,df⟩):=by
 cases xs with
 | nil =>
  simp only[Ks,ha,hb,hn,kR,Kt,M4];have h1:cs.set off .aU=cs:=Xa hn;have h2:H.set b (.cells cs ty)=H:=by
   obtain⟨bs,es⟩:=H;simp only[Hp.set];rw[Xa hb]
  rw[h1,h2]
 | cons x xs =>
  simp only[Ks,ha,hb,hn,kR,Kt,M4];rw[zrT (by simp[V.top])]
def znI{b off n:Nat}{xs cs:aj}(h:off<cs.length):wK (M4 b off xs) b off 1 ((cs.set off (Kt n xs)).drop off)=true:=by
 have h2:(cs.set off (Kt n xs)).drop off=Kt n xs::cs.drop (off+1):=by
  rw[J6 (by simpa using h)]
  simp[List.drop_set]
 rw[h2];cases xs<;>simp[wK,Kt,M4,locked]
def zpl{n:Nat}{e:ai}{xs:aj}:eF (kR n e xs)=true:=by cases xs<;>rfl
def ziF{n:Nat}{e:ai}{xs:aj}:(kR n e xs).laid=[kR n e xs]:=by cases xs<;>rfl
def qf{P:aD}{t:ai}{x y:aH}{k:Nat}(h:k<2 ^ 60):j6 P .add t x y (some (.int .i64 k)) (some (.int .i64 1))=some (.int .i64 ((k+1:Nat):Int)):=by
 rw[zkd,ziB (by omega) (by omega)];simp
def zs2(env:aj)(t n:Nat)(e:ai)(xs:aj):Option (V×aj):=jj env t (some (kR n e xs))
open Classical in
def zde{env:aj}{t n:Nat}{e:ai}{xs:aj}:jj env t (some (kR n e xs))=if nth env t=some (kR n e xs) then some (kR n e xs,env.set t (aX (kR n e xs))) else zs2 env t n e xs:=by
 split
 next h=>rw[<- h,<- zh];exact znF h
 ·rfl
def zeY{env:aj}{t n:Nat}{e:ai}{xs:aj}:jj env t (some (aX (kR n e xs)))=some (aX (kR n e xs),env):=by cases xs<;>rfl
def Xc(want:Bool)(env:aj):Option eC->Option Bool
 | some (some d)=>M0 want (nth env d)
 | _=>none
def zF{l:List Oper}{dst:eC}{op:Op}{type:ai}{pos:String}{after:Array Edge}{j:Nat}{want:Bool}{env:aj}:zN l.toArray ⟨dst,op,type,pos,after,some (j,want)⟩ env=Xc want env ((nth l j).map (·.dst)):=by
 have hj:l.toArray[j]?=nth l j:=by rw[zf,List.getElem?_toArray]
 cases hd:nth l j with
 | none =>
  unfold zN;simp only[hj,hd];rfl
 | some o =>
  cases ho:o.dst with
  | none =>
   unfold zN;simp only[hj,hd,cG,ho];simp only[cA,ho,Xc]
  | some d =>
   rw[zlV (d:=d) (by rw[hj,hd];exact ho)]
   simp only[cA,ho,Xc]
def qa{want:Bool}{env:aj}{d:Tmp}:Xc want env (some (some d))=M0 want (nth env d):=rfl
def fq:M0 true (some (.bool true))=some true:=rfl
def lQ:M0 true (some (.bool false))=some false:=rfl
def gS:M0 false (some (.bool true))=some false:=rfl
def eX:M0 false (some (.bool false))=some true:=rfl
def kZ{a b:Prop}:Kr a b (some true) ↔ a:=Iff.rfl
def yh{a b:Prop}:Kr a b (some false) ↔ b:=Iff.rfl
def qZ{a b:bS}:ZQ a b (some (.bool true))=a:=rfl
def q5{a b:bS}:ZQ a b (some (.bool false))=b:=rfl
end
def aJ{a b:Prop}(x:a)(y:b):a/\b:=⟨x,y⟩
def BA:type_of% (aJ @zt (aJ @ah (aJ @zp7 (aJ @A8 (aJ @zc (aJ @bC (aJ @wh (aJ @zU (aJ @zr (aJ @zeW (aJ @zfV (aJ @zw (aJ @ziw (aJ @zdd (aJ @wb (aJ @jf (aJ @zC (aJ @zE (aJ @SM (aJ @qD (aJ @jd (aJ @zi (aJ @zx (aJ @zj (aJ @qK (aJ @wU (aJ @jH (aJ @zg2 (aJ @ne_eq.{1} (aJ @not_false_eq_true (aJ @bt.eq_1 (aJ @bt.eq_2 (aJ @zQ (aJ @aq.eq_1 (aJ @aq.eq_2 (aJ @aq.eq_3 (aJ @aq.eq_4 (aJ @zh (aJ @zH (aJ @aF.eq_1 (aJ @aF.eq_2 (aJ @aF.eq_3 (aJ @aF.eq_4 (aJ @aF.eq_5 (aJ @aF.eq_6 (aJ @aF.eq_7 (aJ @aF.eq_8 (aJ @aF.eq_9 (aJ @aF.eq_10 (aJ @aF.eq_11 (aJ @aF.eq_12 (aJ @ZN (aJ @zv (aJ @qt (aJ @V3 (aJ @zfY (aJ @ZO (aJ @zh5 (aJ @zde (aJ @zeY (aJ @zd (aJ @zn (aJ @au (aJ @bK (aJ @aI.eq_1 (aJ @aI.eq_2 (aJ @zB (aJ @zp (aJ @wm (aJ @vF (aJ @zu (aJ @zkJ (aJ @zkK (aJ @On (aJ @nY (aJ @ME (aJ @Xb (aJ @Option.bind_some.{0,0} (aJ @Option.map_some.{0,0} (aJ @bp.eq_1 (aJ @bp.eq_2 (aJ @bp.eq_3 (aJ @bp.eq_4 (aJ @bp.eq_5 (aJ @bp.eq_6 (aJ @bp.eq_7 (aJ @bp.eq_8 (aJ @zq (aJ @a_.eq_1 (aJ @a_.eq_2 (aJ @a_.eq_3 (aJ @a_.eq_4 (aJ @a_.eq_5 (aJ @gW.eq_1 (aJ @gW.eq_2 (aJ @qn (aJ @fH.eq_1 (aJ @fH.eq_2 (aJ @List.map_cons.{0,0} (aJ @List.map_nil.{0,0} (aJ @true_and (aJ @List.length_append.{0} (aJ @List.length_cons.{0} (aJ @List.length_nil.{0} (aJ @Nat.zero_add (aJ @Nat.add_zero (aJ @Nat.add_assoc (aJ @List.append_assoc.{0} (aJ @List.cons_append.{0} (aJ @List.nil_append.{0} (aJ @zP (aJ @zY (aJ @fW.eq_1 (aJ @aT.{1} (aJ @qZ (@q5)))))))))))))))))))))))))))))))))))))))))))))))))))))))))))))))))))))))))))))))))))))))))))))))))))))))))))))))))))):=⟨@zt,@ah,@zp7,@A8,@zc,@bC,@wh,@zU,@zr,@zeW,@zfV,@zw,@ziw,@zdd,@wb,@jf,@zC,@zE,@SM,@qD,@jd,@zi,@zx,@zj,@qK,@wU,@jH,@zg2,@ne_eq.{1},@not_false_eq_true,@bt.eq_1,@bt.eq_2,@zQ,@aq.eq_1,@aq.eq_2,@aq.eq_3,@aq.eq_4,@zh,@zH,@aF.eq_1,@aF.eq_2,@aF.eq_3,@aF.eq_4,@aF.eq_5,@aF.eq_6,@aF.eq_7,@aF.eq_8,@aF.eq_9,@aF.eq_10,@aF.eq_11,@aF.eq_12,@ZN,@zv,@qt,@V3,@zfY,@ZO,@zh5,@zde,@zeY,@zd,@zn,@au,@bK,@aI.eq_1,@aI.eq_2,@zB,@zp,@wm,@vF,@zu,@zkJ,@zkK,@On,@nY,@ME,@Xb,@Option.bind_some.{0,0},@Option.map_some.{0,0},@bp.eq_1,@bp.eq_2,@bp.eq_3,@bp.eq_4,@bp.eq_5,@bp.eq_6,@bp.eq_7,@bp.eq_8,@zq,@a_.eq_1,@a_.eq_2,@a_.eq_3,@a_.eq_4,@a_.eq_5,@gW.eq_1,@gW.eq_2,@qn,@fH.eq_1,@fH.eq_2,@List.map_cons.{0,0},@List.map_nil.{0,0},@true_and,@List.length_append.{0},@List.length_cons.{0},@List.length_nil.{0},@Nat.zero_add,@Nat.add_zero,@Nat.add_assoc,@List.append_assoc.{0},@List.cons_append.{0},@List.nil_append.{0},@zP,@zY,@fW.eq_1,@aT.{1},@qZ,@q5⟩
end Go.Vm
namespace Go.Vm.Sx
open Go Go.Vm
def SA:type_of% (aJ @vi (aJ @w8 (aJ @OU (aJ @qq (aJ @nh (aJ @qp (aJ @OV (aJ @znz (aJ @dM (aJ @I0 (aJ @jv (aJ @vH (aJ @zkF (aJ @znA (aJ @I1 (aJ @OT (aJ @jS (aJ @j8 (aJ @qL (aJ @vz (aJ @xF (aJ @Lx (aJ @kSl (aJ @zrO (aJ @zrP (aJ @dL (aJ @Bool.and_self (aJ @Bool.and_true (aJ @Bool.true_and (aJ @Bool.and_false (aJ @Bool.false_and (aJ @Bool.or_true (aJ @Bool.true_or (aJ @Bool.or_false (aJ @Bool.false_or (aJ @Bool.not_true (aJ @Bool.not_false (aJ @ku (aJ @OP (aJ @decide_true (aJ @decide_false (aJ @zK (aJ @zT (aJ @vJ (aJ @bk.eq_1 (aJ @bk.eq_2 (aJ @bk.eq_3 (aJ @bk.eq_4 (aJ @bk.eq_5 (aJ @bk.eq_6 (aJ @bk.eq_7 (aJ @bk.eq_8 (aJ @bk.eq_9 (aJ @bk.eq_10 (aJ @bk.eq_11 (aJ @bk.eq_12 (aJ @bk.eq_13 (aJ @bk.eq_14 (aJ @bk.eq_15 (aJ @bG.eq_1 (aJ @bG.eq_2 (aJ @bG.eq_3 (aJ @bG.eq_4 (aJ @bG.eq_5 (aJ @bG.eq_6 (aJ @bG.eq_7 (aJ @bG.eq_8 (aJ @gX.eq_1 (aJ @gX.eq_2 (aJ @gX.eq_3 (aJ @gX.eq_4 (aJ @gX.eq_5 (aJ @cV.eq_1 (aJ @cV.eq_2 (aJ @cV.eq_3 (aJ @cV.eq_4 (aJ @cV.eq_5 (aJ @cV.eq_6 (aJ @aG.eq_1 (aJ @aG.eq_2 (aJ @bw.eq_1 (aJ @bw.eq_2 (aJ @bw.eq_3 (aJ @bw.eq_4 (aJ @bw.eq_5 (aJ @bw.eq_6 (aJ @bw.eq_7 (aJ @bw.eq_8 (aJ @bw.eq_9 (aJ @aQ.eq_1 (aJ @aQ.eq_2 (aJ @fe.eq_1 (aJ @fe.eq_2 (aJ @lK.eq_1 (aJ @lK.eq_2 (aJ @BF.eq_1 (aJ @BF.eq_2 (aJ @dY.eq_1 (aJ @dY.eq_2 (aJ @eo.eq_1 (aJ @eo.eq_2 (aJ @eo.eq_3 (aJ @eo.eq_4 (aJ @eo.eq_5 (aJ @qz (aJ @y4 (aJ @zjA (aJ @zp5 (aJ @IZ (aJ @wc (aJ @Q2 (aJ @wZ (aJ @Q3 (aJ @jE (aJ @znx (aJ @Az.eq_1 (aJ @Az.eq_2 (aJ @Az.eq_3 (aJ @Az.eq_4 (aJ @Az.eq_5 (aJ @Az.eq_6 (aJ @Az.eq_7 (aJ @fz.eq_1 (aJ @fz.eq_2 (aJ @fz.eq_3 (aJ @fz.eq_4 (aJ @fz.eq_5 (aJ @fz.eq_6 (aJ @fz.eq_7 (aJ @fz.eq_8 (aJ @fz.eq_9 (aJ @fz.eq_10 (aJ @fz.eq_11 (aJ @fz.eq_12 (aJ @OS (aJ @cw.eq_1 (aJ @cw.eq_2 (aJ @dI.eq_1 (aJ @dI.eq_2 (aJ @dI.eq_3 (aJ @zB (aJ @zp (aJ @wm (aJ @vF (aJ @ME (aJ @nY (aJ @Qx (aJ @iK (aJ @Nat.beq_refl (aJ @List.length_cons.{0} (@List.length_nil.{0}))))))))))))))))))))))))))))))))))))))))))))))))))))))))))))))))))))))))))))))))))))))))))))))))))))))))))))))))))))))))))))))))))))))))))))))))))))))):=⟨@vi,@w8,@OU,@qq,@nh,@qp,@OV,@znz,@dM,@I0,@jv,@vH,@zkF,@znA,@I1,@OT,@jS,@j8,@qL,@vz,@xF,@Lx,@kSl,@zrO,@zrP,@dL,@Bool.and_self,@Bool.and_true,@Bool.true_and,@Bool.and_false,@Bool.false_and,@Bool.or_true,@Bool.true_or,@Bool.or_false,@Bool.false_or,@Bool.not_true,@Bool.not_false,@ku,@OP,@decide_true,@decide_false,@zK,@zT,@vJ,@bk.eq_1,@bk.eq_2,@bk.eq_3,@bk.eq_4,@bk.eq_5,@bk.eq_6,@bk.eq_7,@bk.eq_8,@bk.eq_9,@bk.eq_10,@bk.eq_11,@bk.eq_12,@bk.eq_13,@bk.eq_14,@bk.eq_15,@bG.eq_1,@bG.eq_2,@bG.eq_3,@bG.eq_4,@bG.eq_5,@bG.eq_6,@bG.eq_7,@bG.eq_8,@gX.eq_1,@gX.eq_2,@gX.eq_3,@gX.eq_4,@gX.eq_5,@cV.eq_1,@cV.eq_2,@cV.eq_3,@cV.eq_4,@cV.eq_5,@cV.eq_6,@aG.eq_1,@aG.eq_2,@bw.eq_1,@bw.eq_2,@bw.eq_3,@bw.eq_4,@bw.eq_5,@bw.eq_6,@bw.eq_7,@bw.eq_8,@bw.eq_9,@aQ.eq_1,@aQ.eq_2,@fe.eq_1,@fe.eq_2,@lK.eq_1,@lK.eq_2,@BF.eq_1,@BF.eq_2,@dY.eq_1,@dY.eq_2,@eo.eq_1,@eo.eq_2,@eo.eq_3,@eo.eq_4,@eo.eq_5,@qz,@y4,@zjA,@zp5,@IZ,@wc,@Q2,@wZ,@Q3,@jE,@znx,@Az.eq_1,@Az.eq_2,@Az.eq_3,@Az.eq_4,@Az.eq_5,@Az.eq_6,@Az.eq_7,@fz.eq_1,@fz.eq_2,@fz.eq_3,@fz.eq_4,@fz.eq_5,@fz.eq_6,@fz.eq_7,@fz.eq_8,@fz.eq_9,@fz.eq_10,@fz.eq_11,@fz.eq_12,@OS,@cw.eq_1,@cw.eq_2,@dI.eq_1,@dI.eq_2,@dI.eq_3,@zB,@zp,@wm,@vF,@ME,@nY,@Qx,@iK,@Nat.beq_refl,@List.length_cons.{0},@List.length_nil.{0}⟩
end Go.Vm.Sx
namespace Go.Vm
open Go Go.ChangeShapes Go.WideShapes Go.ChangeAt Go.RowKit
mutual
def Ao:V->Bool
 | .bool _|.int ..|.str _|.dx|.aU|.mB|.nx|.bq|.obj _|.gj ..=>true
 | .bf _ v=>Ao v
 | .agg cs=>tN cs
 | .bx cs=>tN cs
 | _=>false
def tN:aj->Bool
 | []=>true
 | v::vs=>Ao v && tN vs
end
def rj:∀{cs:aj},tN cs=true->∀{j:Nat}{x:V},cs[j]?=some x->Ao x=true
 | [],_,j,x,hx=>by simp at hx
 | c::cs,h,0,x,hx=>by
  simp only[tN,bN] at h;simp at hx;subst hx;exact h.1
 | c::cs,h,j+1,x,hx=>by
  simp only[tN,bN] at h;exact rj h.2 (j:=j) (by simpa using hx)
mutual
def tY:∀(v:V),Ao v=true->v.top=0
 | .bool _,_|.int ..,_|.str _,_|.dx,_|.aU,_|.mB,_|.nx,_|.bq,_|.obj _,_|.gj ..,_=>rfl
 | .bf _ v,h=>by simp only[Ao] at h;simp only[V.top];exact tY v h
 | .agg cs,h=>by simp only[Ao] at h;simp only[V.top];exact oo cs h
 | .bx cs,h=>by simp only[Ao] at h;simp only[V.top];exact oo cs h
def oo:∀(cs:aj),tN cs=true->aA cs=0
 | [],_=>rfl
 | c::cs,h=>by
  simp only[tN,bN] at h;simp only[aA,tY c h.1,oo cs h.2];rfl
end
def aL.Ao{g G:Gh}(ho:G.obj=g.obj){v:V}{cv:aP}(h:aL g v cv):Ao v=true->aL G v cv:=by
 induction h with
 | bool b=>intro _;exact .bool b
 | int k m=>intro _;exact .int k m
 | str h=>intro _;exact .str h
 | dx=>intro _;exact .dx
 | gj k off=>intro _;exact .gj k off
 | obj k=>intro _;rw[<- ho];exact .obj k
 | aU=>intro _;exact .aU
 | mB=>intro _;exact .mB
 | nx=>intro _;exact .nx
 | bq=>intro _;exact .bq
 | bf _ ih=>intro h;exact .bf (ih (by simpa[Vm.Ao] using h))
 | agg h1 h2 _ ih=>intro h;exact .agg h1 h2 λj x v hx hv=>ih j x v hx hv (rj (by simpa[Vm.Ao] using h) hx)
 | bx h1 _ ih=>intro h;exact .bx h1 λj x v hx hv=>ih j x v hx hv (rj (by simpa[Vm.Ao] using h) hx)
 | _=>intro h;simp[Vm.Ao] at h
variable{P:aD}{gl:Gl}{d:Nat}{H:Hp}{g g':Gh}{w w':aB}
open Classical in
noncomputable def Gh.Gi(g:Gh)(n:Nat)(w:aB):Gh :=
 {g with own:=λ_=>none,M:=λc o=>if ∃b,b<n/\(c=g.br b\/g.own c=some (.cell b 0)) then w.cell? ⟨c,o,none⟩ else g.M c o }
def zkN{bs:List aN}(hw:m8 g bs w)(n:Nat):m8 (g.Gi n w) [] w :=
 {mem:=λc o v h=>by
   simp only[Gh.Gi] at h;split at h
   ·exact h
   ·exact hw.mem c o v h
  lt:=λb h=>by simp at h,inj:=λb _ h=>by simp at h,apart:=λb h=>by simp at h,dF:=(λc l h=>by cases h),cF:=λb h=>by simp at h,ok:=λb x h=>by simp at h,aA:=λb x h=>by simp at h,laid:=λc hc=>⟨(hw.laid c hc).1,rfl,λb hb=>by simp at hb⟩ }
def zjJ{bs:List aN}(hw:m8 g bs w)(n:Nat):Gh.Le 0 g (g.Gi n w):=⟨λc o v h=>by
  simp only[Gh.Gi];split
  ·exact hw.mem c o v h
  ·exact h,λb h=>by omega,rfl,λ_ _ _ h=>by omega⟩
def zkO{dd n:Nat}(hf:Fr dd [] (g.Gi n w) w g' w'){c:Nat}(hc:c<w.heap.size):w'.heap[c]?=w.heap[c]?/\g'.own c=none:=by
 have hp:pR dd ([]:List aN).length (g.Gi n w) w c:=⟨hc,λb hb=>by simp at hb,.inl rfl⟩
 exact⟨hf.heap c hp,hf.own c hp⟩
def zfZ{dd n:Nat}(hf:Fr dd [] (g.Gi n w) w g' w'):Below w.heap.size w w':=⟨hf.os,hf.tape,hf.output,hf.size,λ_ hc=>(zkO hf hc).1⟩
def TW(H:Hp)(args dU:aj):Prop:=args.length=dU.length/\∀(j:Nat)(x y:V),args[j]?=some x->dU[j]?=some y->mL H x y/\∀sz xs e,y≠.sl sz xs (.yes e)
def ziG{args dU:aj}{aM:cO}(hw:m8 g H.af w)(hf:TW H args dU)(ha:dG g H.af.length args aM):dG (g.Gi H.af.length w) 0 dU aM where
 len:=hf.1.symm.trans ha.len
 rel:=λj y v hy hv=>by
  have hj:j<args.length:=by rw[hf.1];exact(dW.1 hy).1
  have hx:args[j]?=some args[j]:=lB hj;refine(hf.2 j _ y hx hy).1.SE hw (zjJ hw _) (λb hb o v hv=>?_) (λb c hb hc o v hv=>?_) (ha.rel j _ v hx hv)
  ·simp only[Gh.Gi,if_pos (show ∃b',b'<H.af.length/\(g.br b=g.br b'\/g.own (g.br b)=some (.cell b' 0)) from⟨b,hb,.inl rfl⟩)];exact hv
  ·simp only[Gh.Gi,if_pos (show ∃b',b'<H.af.length/\(c=g.br b'\/g.own c=some (.cell b' 0)) from⟨b,hb,hc⟩)];exact hv
 top:=qU λy hy=>by
  obtain⟨j,hj⟩:=List.getElem?_of_mem hy;have hx:args[j]?=some (args[j]'(by rw[hf.1];exact(dW.1 hj).1)):=lB _
  rw[(hf.2 j _ y hx hj).1.top];exact bV _
 no:=λy hy sz xs e h=>by
  obtain⟨j,hj⟩:=List.getElem?_of_mem hy;have hx:args[j]?=some (args[j]'(by rw[hf.1];exact(dW.1 hj).1)):=lB _
  exact(hf.2 j _ y hx hj).2 sz xs e h
def ze0{dd:Nat}{f:FuncId}{args dU:aj}{aM:cO}{v:V}{H':Hp}{l:Loc}(hv:Ao v=true)(cU:gv P gl g)(hw:m8 g H.af w)(hf:TW H args dU)(ha:dG g H.af.length args aM)
  (hk:∀g,gv P gl g->m8 g [] w->dG g 0 dU aM->Calls P f aM w (dP dd ⟨[],[]⟩ g w l (.ret v) H')) :
  Calls P f aM w (dP d H g w l (.ret v) H):=by
 refine Calls.mono (hk (g.Gi H.af.length w) (cU.le (zjJ hw _)) (zkN hw _) (ziG hw hf ha)) λe w' he=>?_;cases e with
 | returned cv =>
  obtain⟨v',g',e1,e2,e3,_,_⟩:=he;cases e1;refine⟨v,g,rfl,ZK hw (zfZ e2.fr),e3.Ao (show g.obj=g'.obj from e2.fr.le.obj.symm) hv,?_,by rw[tY v hv];exact dJ _⟩
  cases v<;>first|trivial|(simp[Vm.Ao] at hv)
 | panicked chain =>
  obtain⟨v',cv,g',e1,_⟩:=he;cases e1
 | outgrown=>exact he.elim
def Gh.uQ(g g':Gh)(n b0 m:Nat):Gh :=
 {g with br:=λb=>if b=n then g'.br b0 else g.br b,fD:=λb u=>if b=n then g'.fD b0 u else g.fD b u,own:=λc=>if c<m then g.own c else if g'.own c=some (.cell b0 0) then some (.cell n 0) else none }
def zq6{n:Nat}{b0 m:Nat}:Gh.Le n g (Gh.uQ g g' n b0 m) :=
 ⟨λ_ _ _ h=>h,λb hb=>by simp only[Gh.uQ];rw[if_neg (by omega)],rfl,λb u v hb e=>by simp only[Gh.uQ];rw[if_neg (by omega)];exact e⟩
def zl2{dd b0 bZ:Nat}{cs:aj}{e:ai}{H':Hp}(hw:m8 g H.af w)(hA:iY dd ⟨[],[]⟩ (g.Gi H.af.length w) w H' g' w')(hb:H'.af[b0]?=some (.ul bZ 1 cs e))(hc:tN cs=true) :
  iY d H g w (H.push (.ul bZ 1 cs e)) (Gh.uQ g g' H.af.length b0 w.heap.size) w':=by
 have lU:b0<H'.af.length:=(dW.1 hb).1;have tH:w.heap.size<=g'.br b0:=hA.cK b0 (dJ _) lU;have Fz:=zfZ hA.fr;have hgn:∀c,w.heap.size<=c->∀o,g.M c o=none:=λc hc o=>by
  cases hm:g.M c o with
  | none=>rfl
  | some v=>have:=xU (hw.mem _ _ _ hm);omega
 have hS:lG d none none H.af.length g w (Gh.uQ g g' H.af.length b0 w.heap.size) w' :=
  ⟨zq6,λc hc _ _=>Fz.block c hc,λc hc _=>by simp[Gh.uQ,hc],λ_ _ _ _=>rfl,Fz.size,λ_ _ _=>rfl,λ_ h=>(by cases h),λ_ h=>(by cases h),λb u hb _=>by simp only[Gh.uQ];rw[if_neg (by omega)],Fz.os,Fz.tape,Fz.output⟩
 have hlen:(H.push (.ul bZ 1 cs e)).af.length=H.af.length+1:=by simp[Hp.push]
 have dO:∀b,b<H.af.length->(H.push (.ul bZ 1 cs e)).af[b]?=H.af[b]?:=λb hb=>by simp only[Hp.push];rw[nH hb]
 have pU:(H.push (.ul bZ 1 cs e)).af[H.af.length]?=some (.ul bZ 1 cs e):=by simp[Hp.push]
 have Ai:(Gh.uQ g g' H.af.length b0 w.heap.size).br H.af.length=g'.br b0:=by simp[Gh.uQ]
 have LD:∀b,b<H.af.length->(Gh.uQ g g' H.af.length b0 w.heap.size).br b=g.br b:=λb hb=>by simp only[Gh.uQ];rw[if_neg (by omega)]
 obtain⟨c,len,cap,vs,hu⟩:=hA.bW.ok b0 _ hb;have TX:w.heap.size<=c:=by
  rcases hu.uk with e|e
  ·rw[e];exact tH
  ·refine Nat.le_of_not_lt λbu=>?_;rw[(zkO hA.fr bu).2] at e;cases e
 have mw:∀b,b<(H.push (.ul bZ 1 cs e)).af.length->b<H.af.length\/b=H.af.length:=λb hb=>by rw[hlen] at hb;omega
 refine { bW:=?_,fr:=?_,len:=by omega,cK:=λb h1 h2=>?_,aS:=λb x hx=>?_,uz:=λ_ h=>h,gm:=λb off h=>xg dO h }
 ·refine { mem:=λk o v h=>zeq Fz (hw.mem k o v h),lt:=λb h=>?_,inj:=λb b' h h' e'=>?_,apart:=λb h o=>?_,dF:=λk l h=>?_,cF:=λb h=>?_,ok:=λb x hx=>?_,aA:=λb x hx=>?_,laid:=λk hk=>?_ }
  ·rcases mw b h with h|rfl
   ·rw[LD b h];exact rY (hw.lt b h) Fz.size
   ·rw[Ai];exact hA.bW.lt b0 lU
  ·rcases mw b h with h|rfl<;>rcases mw b' h' with h'|rfl
   ·rw[LD b h,LD b' h'] at e';exact hw.inj b b' h h' e'
   ·rw[LD b h,Ai] at e';have:=hw.lt b h;omega
   ·rw[LD b' h',Ai] at e';have:=hw.lt b' h';omega
   ·rfl
  ·show g.M _ o=none;rcases mw b h with h|rfl
   ·rw[LD b h];exact hw.apart b h o
   ·rw[Ai];exact hgn _ tH o
  ·simp only[Gh.uQ] at h;split at h
   ·exact rY (hw.dF k l h) Fz.size
   ·split at h
    next h2=>exact hA.bW.dF k _ h2
    ·cases h
  ·rcases mw b h with h|rfl
   ·have:=hw.lt b h;rw[LD b h];simp only[Gh.uQ,if_pos this];exact hw.cF b h
   ·rw[Ai];simp only[Gh.uQ,if_neg (J9.2 tH),hA.bW.cF b0 lU];rw[if_neg (by simp)]
  ·rcases mw b (dW.1 hx).1 with h|rfl
   ·rw[dO b h] at hx
    have:=fO.same (n':=H.af.length+1) hS (by simp) h (hw.lt b h) (hw.cF b h) (λ_ h=>by cases h) (λb2 h1 h2=>by
     obtain rfl:b2=H.af.length:=by omega
     rw[Ai];exact tH) (hw.aA b x hx) (hw.ok b x hx)
    rw[hlen];exact this
   ·rw[pU] at hx;cases hx;refine⟨c,len,cap,vs,by simp only[Gh.uQ,aT];exact hu.fD,hu.pos,hu.row,?_,λo=>hgn c TX o,λb' bY cg e'=>?_,hu.len,λj x v hx hv=>?_,λu Ve=>by simp only[Gh.uQ,aT];exact hu.fresh u Ve⟩
    ·rcases hu.uk with e'|e'
     ·left;rw[Ai];exact e'
     ·right;simp only[Gh.uQ,if_neg (J9.2 TX),e',aT]
    ·rcases mw b' bY with h|rfl
     ·rw[LD b' h] at e';have:=hw.lt b' h;omega
     ·exact cg rfl
    ·obtain⟨k1,k2⟩:=hu.cells j x v hx hv;exact⟨k1,k2.Ao (show(Gh.uQ g g' H.af.length b0 w.heap.size).obj=g'.obj from hA.fr.le.obj.symm) (rj hc hx)⟩
  ·rcases mw b (dW.1 hx).1 with h|rfl
   ·rw[dO b h] at hx;rw[hlen];exact Nat.le_succ_of_le (hw.aA b x hx)
   ·rw[pU] at hx;cases hx;simp only[aN.top,oo cs hc];exact dJ _
  ·obtain⟨⟨xs,t,h1⟩,h2,h3⟩:=hw.laid k hk;have bu:=(ud.1 h1).1;refine⟨⟨xs,t,by rw[Fz.block k bu];exact h1⟩,by simp only[Gh.uQ,if_pos bu];exact h2,λb hb e'=>?_⟩
   rcases mw b hb with h|rfl
   ·rw[LD b h] at e';exact h3 b h e'
   ·rw[Ai] at e';omega
 ·exact⟨hS.le,λk hk=>Fz.block k hk.1,λk hk=>by simp[Gh.uQ,hk.1],λ_ _ _=>rfl,Fz.size,λ_ _ _=>rfl,Fz.os,Fz.tape,Fz.output⟩
 ·obtain rfl:b=H.af.length:=by rw[hlen] at h2;omega
  rw[Ai];exact tH
 ·rcases mw b (dW.1 hx).1 with h|rfl
  ·rw[dO b h] at hx;exact .inr (.inr ⟨x,hx,bV _⟩)
  ·rw[pU] at hx;cases hx;refine .inl ?_;simp only[aN.top,oo cs hc];exact dJ _
def zl3{dd b0 bZ len:Nat}{cs:aj}{e:ai}{f:FuncId}{args dU:aj}{aM:cO}{v:V}{H':Hp}{l:Loc}(hb:H'.af[b0]?=some (.ul bZ 1 cs e))(hc:tN cs=true)(hv:Ao v=true)(cU:gv P gl g)(hw:m8 g H.af w)(hf:TW H args dU)
  (ha:dG g H.af.length args aM) (hk:∀g,gv P gl g->m8 g [] w->dG g 0 dU aM->Calls P f aM w (dP dd ⟨[],[]⟩ g w l (.ret (.bx [.fA b0 bZ len,v])) H')) :
  Calls P f aM w (dP d H g w l (.ret (.bx [.fA H.af.length bZ len,v])) (H.push (.ul bZ 1 cs e))):=by
 refine Calls.mono (hk (g.Gi H.af.length w) (cU.le (zjJ hw _)) (zkN hw _) (ziG hw hf ha)) λe' w' he=>?_;cases e' with
 | returned cv =>
  obtain⟨v',g',e1,e2,e3,_,_⟩:=he;cases e1;refine⟨_,Gh.uQ g g' H.af.length b0 w.heap.size,rfl,zl2 hw e2 hb hc,?_,trivial,by simp[V.top,aA,tY v hv,Hp.push]⟩
  cases e3 with
  | bx h1 h2 =>
   rename_i arr;refine .bx h1 λj x u hx hu=>?_
   match j,hx with
   | 0,hx =>
    cases hx;have:=h2 0 _ u rfl hu;cases this with
    | fA hh=>exact .fA (by simp only[Gh.uQ,aT];exact hh)
   | 1,hx =>
    cases hx;exact(h2 1 _ u rfl hu).Ao (show(Gh.uQ g g' H.af.length b0 w.heap.size).obj=g'.obj from e2.fr.le.obj.symm) hv
   | j+2,hx=>simp at hx
 | panicked chain =>
  obtain⟨v',cv,g',e1,_⟩:=he;cases e1
 | outgrown=>exact he.elim
end Go.Vm
