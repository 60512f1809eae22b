/- Vm: one operation more. Conditions: none but those named. -/
import Derived.Orders
import Derived.Carry
import Derived.OpenShut
import Derived.ProofKit
import Derived.LaidLaws
import Derived.LaidMore
import Derived.FnData
import Derived.ChangeArms
import Derived.Lib.Bytealg
import Derived.Test.YthohlnmcjkjeiaaGreatDoorVmB
namespace Go.Vm
open Go
section
variable{cx:Cx}{all:Array Oper}{takes:bY}
theorem zeG{o:Oper}{env:aD}{v:V}{c:ei}(h:cx.eM takes o env v c=true):∃c2,cx.dK takes o env c 0=some (v,c2):=by
 unfold Cx.eM at h;split at h
 next u c2 hr=>rw[V.iO h] at hr;exact⟨c2,hr⟩
 ·cases h
theorem RI.start(s:St):RI cx all takes s (λ_=>s.env) 0 [] [⟨0,s.H,s.lk,s.defers⟩] s :=
 {ex:=λj hj=>by omega,lt:=λr hr=>by simp at hr,uniq:=λr hr=>by simp at hr,get:=λr hr=>by simp at hr,tm:=λr hr=>by simp at hr,lm:=λr hr=>by simp at hr,
  bQ:=λr hr=>by simp at hr,mlt:=λr hr=>by simp at hr,mask:=λr hr=>by simp at hr,slots:=λr hr=>by simp at hr,ev:=λr hr=>by simp at hr,S5:=rfl,S6:=rfl,
  Pb:=λr hr=>by simp at hr,
  off:=λr hr=>by simp at hr,calm:=λr hr=>by simp at hr,free:=λr hr=>by simp at hr,
  c0:=⟨_,eH ..,rfl,rfl,rfl,rfl⟩,top:=⟨_,[],rfl,rfl,rfl,rfl,rfl⟩,
  cD:=λc hc b hb=>by simp only[oX] at hc;subst hc;rw[yC] at hb;exact absurd hb (by simp),
  uu:=λc hc d hd _=>by simp only[oX] at hc hd;rw[hc,hd],g1:=λc _ q hq=>by simp at hq,g2:=λc _ q hq=>by simp at hq }
theorem zgT{o:Oper}{t:Nat}(h:t∈o.looksAt all):bit (tw all o) t=true:=by
 rw[tw,w9,tn];rcases rK.1 h with h|h
 ·left
  obtain⟨x,hx,DN⟩:=List.mem_filterMap.1 h;split at DN<;>simp only[br,reduceCtorEq] at DN;subst DN;exact vf hx
 ·right
  unfold zex;split at h
  next g b hg=>rw[hg];simp only;rw[Option.mem_toList] at h;rw[show(all[g]?).bind (·.dst)=some t from h];simp only[yc,decide_true]
  ·simp at h
theorem zfz{o:Oper}{t:Nat}(h:o.dst=some t\/kl takes o=some (.tmp t)) :
  bit (mU takes o) t=true:=by
 unfold mU;rcases h with h|h
 ·rw[h];simp only[w9,yc,decide_true,Bool.true_or]
 ·rw[h];have:bit (gk [Operand.tmp t]) t=true:=vf (eH ..);split
  ·simp only[w9,this,Bool.or_true]
  ·exact this
structure Lr(cx:Cx)(takes:bY)(s0:St)(rs:List Rec)(cs:List ei)(s:St):Prop where
 c0:∃c∈cs,c.D=0/\c.H=s0.H/\c.lk=s0.lk/\c.df=s0.defers
 top:∃c cs',cs=c::cs'/\c.D=ep rs/\c.H=s.H/\c.lk=s.lk/\c.df=s.defers
 cD:∀c∈cs,∀b,bit c.D b=true->∃q∈rs,q.hp=true/\q.idx=b
 uu:∀c∈cs,∀d∈cs,c.D=d.D->c=d
 g1:∀c∈cs,∀q∈rs,q.hp=true->bit c.D q.idx=false->yQ rs q c.D->∃c3∈cs,c3.D=Nat.lor c.D (Nat.pow 2 q.idx)/\cx.dK takes q.o q.env c c3.D=some (q.v,c3)
 g2:∀c∈cs,∀q∈rs,q.hp=false->q.free=false->yQ rs q c.D->(∀d∈rs,d.hp=true->bit c.D d.idx=true->bit d.m q.idx=false)->∃c2,cx.dK takes q.o q.env c 0=some (q.v,c2)
theorem zkb{s0:St}{rs:List Rec}{cs:List ei}{s s1:St}{r:Rec}{i:Nat}(hG:Lr cx takes s0 rs cs s)(bR:∀q∈rs,q.idx<i)(_huq:∀r∈rs,∀q∈rs,r.idx=q.idx->r=q)(_hmlt:∀q∈rs,∀b,bit q.m b=true->b<q.idx)(ry:r.idx=i)(E6:∀b,bit r.m b=true->b<i)
  (Ls:r.hp=false->s1.H=s.H/\s1.lk=s.lk/\s1.defers=s.defers) (sA:r.hp=false->r.free=false->∃c2,∀D,cx.dK takes r.o r.env ⟨D,s.H,s.lk,s.defers⟩ 0=some (r.v,c2))
  (S7:r.hp=true->∀D D',cx.dK takes r.o r.env ⟨D,s.H,s.lk,s.defers⟩ D'=some (r.v,⟨D',s1.H,s1.lk,s1.defers⟩))
  {k:List ei->Option (Ex×St)} {res:Ex×St} {c0:ei} {uZ:List ei} (dZ:cs=c0::uZ) (hk:cx.fj takes rs r c0 ⟨Nat.lor c0.D (Nat.pow 2 i),s1.H,s1.lk,s1.defers⟩ uZ k=some res) :
  ∃cs',k cs'=some res/\Lr cx takes s0 (r::rs) cs' s1:=by
 subst dZ;obtain⟨g0,gt,gD,gu,g1,g2⟩:=hG;obtain⟨ct,cs',he,A4,Ep,gG,s_⟩:=gt;simp only[Aq] at he;obtain⟨rfl,rfl⟩:=he;have HY:∀c∈c0::uZ,bit c.D i=false:=λc hc=>by
  cases h:bit c.D i with
  | false=>rfl
  | true =>
   obtain⟨q,hq,_,he⟩:=gD c hc i h;have:=bR q hq;omega
 unfold Cx.fj at hk;cases hp:r.hp with
 | false =>
  simp only[hp] at hk;split at hk<;>try (cases hk;done)
  rename_i hv;obtain⟨e1,e2,e3⟩:=Ls hp;have ha:∀q D,yQ (r::rs) q D->yQ rs q D:=λq D h d hd=>h d (dR _ hd);refine⟨_,hk,⟨g0,⟨c0,uZ,rfl,?_,by rw[e1,Ep],by rw[e2,gG],by rw[e3,s_]⟩,λc hc b hb=>?_,gu,?_,?_⟩⟩
  ·simp only[ep,hp];exact A4
  ·obtain⟨q,hq,hh⟩:=gD c hc b hb;exact⟨q,dR _ hq,hh⟩
  ·intro c hc q hq lW GI Jy;rcases dH.1 hq with rfl|hq
   ·rw[hp] at lW;cases lW
   ·exact g1 c hc q hq lW GI (ha q _ Jy)
  ·intro c hc q hq lW oV Jy Pc;rcases dH.1 hq with rfl|hq
   ·rw[oV,uQ] at hv;rcases dH.1 hc with rfl|hc
    ·obtain⟨c2,h2⟩:=sA hp oV;refine⟨c2,?_⟩;rw[<- h2 c.D,<- Ep,<- gG,<- s_]
    ·have h1:=yn hv c hc;rw[mz.2 (ha q _ Jy)] at h1;exact zeG h1
   ·exact g2 c hc q hq lW oV (ha q _ Jy) λd hd=>Pc d (dR _ hd)
 | true =>
  simp only[hp] at hk;split at hk<;>try (cases hk;done)
  rename_i l hl;split at hk<;>try (cases hk;done)
  rename_i dX;obtain⟨l1,l2⟩:=Wj hl;have dX:=yn dX;have hN:∀c2,c2∈(⟨Nat.lor c0.D (Nat.pow 2 i),s1.H,s1.lk,s1.defers⟩:ei)::l->∃c∈c0::uZ,yQ rs r c.D/\c2.D=Nat.lor c.D (Nat.pow 2 i)/\cx.dK takes r.o r.env c c2.D=some (r.v,c2):=by
   intro c2 rX;rcases dH.1 rX with rfl|rX
   ·refine⟨c0,eH ..,λd hd hh _=>?_,rfl,?_⟩
    ·rw[A4];exact lu.2 ⟨d,hd,hh,rfl⟩
    ·have:=S7 hp c0.D (Nat.lor c0.D (Nat.pow 2 i));rw[<- Ep,<- gG,<- s_] at this;exact this
   ·obtain⟨c,hc,hs,hD,hr⟩:=l2 c2 rX;rw[ry] at hD;exact⟨c,dR _ hc,mz.1 hs,hD,hr⟩
  have hN':∀c∈c0::uZ,yQ rs r c.D->∃c2∈(⟨Nat.lor c0.D (Nat.pow 2 i),s1.H,s1.lk,s1.defers⟩:ei)::l,c2.D=Nat.lor c.D (Nat.pow 2 i)/\cx.dK takes r.o r.env c c2.D=some (r.v,c2):=by
   intro c hc ha;rcases dH.1 hc with rfl|hc
   ·refine⟨_,eH ..,rfl,?_⟩;have:=S7 hp c.D (Nat.lor c.D (Nat.pow 2 i));rw[<- Ep,<- gG,<- s_] at this;exact this
   ·obtain⟨c2,rX,hD,hr⟩:=l1 c hc (mz.2 ha);rw[ry] at hD;exact⟨c2,dR _ rX,hD,hr⟩
  have eL:∀(c:ei)(b:Nat),bit (Nat.lor c.D (Nat.pow 2 i)) b=true ↔ bit c.D b=true\/b=i:=λc b=>by
   rw[w9,yc,tn,decide_eq_true_eq];exact⟨λh=>h.imp id Eq.symm,λh=>h.imp id Eq.symm⟩
  have dJ:∀c,c∈(⟨Nat.lor c0.D (Nat.pow 2 i),s1.H,s1.lk,s1.defers⟩:ei)::l++c0::uZ ↔ c∈(⟨Nat.lor c0.D (Nat.pow 2 i),s1.H,s1.lk,s1.defers⟩:ei)::l\/c∈c0::uZ:=λc=>rK;refine⟨_,hk,⟨?_,⟨_,_,rfl,?_,rfl,rfl,rfl⟩,?_,?_,?_,?_⟩⟩
  ·obtain⟨c,hc,h⟩:=g0;exact⟨c,(dJ c).2 (.inr hc),h⟩
  ·simp only[ep,hp,ry];rw[A4];exact xB λb=>by rw[w9,w9,Bool.or_comm]
  ·intro c hc b hb;rcases (dJ c).1 hc with hc|hc
   ·obtain⟨d,hd,_,hD,_⟩:=hN c hc;rw[hD,eL] at hb;rcases hb with hb|rfl
    ·obtain⟨q,hq,hh⟩:=gD d hd b hb;exact⟨q,dR _ hq,hh⟩
    ·exact⟨r,eH ..,hp,ry⟩
   ·obtain⟨q,hq,hh⟩:=gD c hc b hb;exact⟨q,dR _ hq,hh⟩
  ·have key:∀c∈c0::uZ,∀d∈c0::uZ,Nat.lor c.D (Nat.pow 2 i)=Nat.lor d.D (Nat.pow 2 i)->c=d:=by
    intro c hc d hd he;refine gu c hc d hd (xB λb=>?_)
    by_cases hb:b=i
    ·rw[hb,HY c hc,HY d hd]
    ·have h1:=eL c b;have h2:=eL d b;rw[he] at h1;simp only[hb,uR] at h1 h2;exact ET.2 (h1.symm.trans h2)
   intro c hc d hd he;rcases (dJ c).1 hc with hc|hc<;>rcases (dJ d).1 hd with hd|hd
   ·obtain⟨c',ej,_,Lt,GG⟩:=hN c hc;obtain⟨d',GC,_,Lu,eZ⟩:=hN d hd;have:=key c' ej d' GC (by rw[<- Lt,<- Lu,he])
    subst this;rw[he,eZ] at GG;simp only[br,cg,iU] at GG;exact GG.symm
   ·obtain⟨c',ej,_,Lt,GG⟩:=hN c hc;have h1:=HY d hd;rw[<- he,Lt,(eL c' i).2 (.inr rfl)] at h1;cases h1
   ·obtain⟨d',GC,_,Lu,eZ⟩:=hN d hd;have h1:=HY c hc;rw[he,Lu,(eL d' i).2 (.inr rfl)] at h1;cases h1
   ·exact gu c hc d hd he
  ·
   intro c hc q hq lW GI Jy;have DY:yQ rs q c.D:=λd hd=>Jy d (dR _ hd);rcases (dJ c).1 hc with hc|hc
   ·rcases dH.1 hq with rfl|hq
    ·obtain⟨d,hd,_,hD,_⟩:=hN c hc;rw[hD,ry,(eL d i).2 (.inr rfl)] at GI;cases GI
    ·have h1:=yn (dX c hc) q hq;rw[mz.2 DY] at h1;simp only[lW,GI] at h1;split at h1
     next u c2 c3 hr hf=>rw[eo] at h1;obtain⟨h1,h2⟩:=h1;have hu:=V.iO h1;subst hu;obtain⟨e1,e2,e3⟩:=zh5 h2;obtain⟨f1,f2⟩:=zbx hf;refine⟨c3,f1,f2,?_⟩;have:=(zlk hr c3.D).2;rw[this,e1,e2,e3]
     ·cases h1
   ·rcases dH.1 hq with rfl|hq
    ·have:yQ rs q c.D:=DY;obtain⟨c2,rX,hD,hr⟩:=hN' c hc this;exact⟨c2,(dJ c2).2 (.inl rX),by rw[ry];exact hD,hr⟩
    ·obtain⟨c3,BJ,hD,hr⟩:=g1 c hc q hq lW GI DY;exact⟨c3,(dJ c3).2 (.inr BJ),hD,hr⟩
  ·intro c hc q hq lW oV Jy Pc;have DY:yQ rs q c.D:=λd hd=>Jy d (dR _ hd);rcases dH.1 hq with rfl|hq
   ·rw[hp] at lW;cases lW
   rcases (dJ c).1 hc with hc|hc
   ·have h1:=yn (dX c hc) q hq;rw[mz.2 DY] at h1;simp only[lW,oV,uQ] at h1
    have HZ:bit r.m q.idx=false:=Pc r (eH ..) hp (by
     obtain⟨d,hd,_,hD,_⟩:=hN c hc;rw[hD,ry]
     exact(eL d i).2 (.inr rfl))
    rw[HZ,zcF λd hd=>Pc d (dR _ hd),uQ,uQ] at h1;exact zeG h1
   ·exact g2 c hc q hq lW oV DY λd hd=>Pc d (dR _ hd)
end
section
variable{cx:Cx}{all:Array Oper}{takes:bY}
theorem RI.Wk{s0:St}{Ev:Nat->aD}{i:Nat}{rs:List Rec}{cs:List ei}{s:St}(h:RI cx all takes s0 Ev i rs cs s):Lr cx takes s0 rs cs s:=⟨h.c0,h.top,h.cD,h.uu,h.g1,h.g2⟩
theorem RI.step{s0:St}{Ev:Nat->aD}{i:Nat}{rs:List Rec}{cs:List ei}{s s1:St}(h:RI cx all takes s0 Ev i rs cs s){r:Rec}(ry:r.idx=i)(dy:all[i]?=some r.o)(hm:wx rs r.o.after.toList=some r.m)(i_:r.env=s.env)
  (htm:r.tm=mU takes r.o)
  (Pd:r.lm=Nat.lor r.tm (tw all r.o))
  (sC:kz (kw r) rs=true) (hE:s1.env=GH all takes r)
  (Pe:zX all r.o r.env≠some true->zX all r.o r.env=some false/\r.hp=false/\r.v=.bq []/\r.free=true)
  (uy:zX all r.o r.env=some true->r.hp=q9 cx.P cx.uq takes r.o/\(q9 cx.P cx.uq takes r.o=false->∃H lk df s1,cx.op takes r.o r.env H lk df=some (.val r.v,s1)))
  (Pf:zX all r.o r.env=some true->r.free=true->kU cx.P cx.uq r.o=false)
  (Ls:r.hp=false->s1.H=s.H/\s1.lk=s.lk/\s1.defers=s.defers) (sA:r.hp=false->r.free=false->∃c2,∀D,cx.dK takes r.o r.env ⟨D,s.H,s.lk,s.defers⟩ 0=some (r.v,c2))
  (S7:r.hp=true->∀D D',cx.dK takes r.o r.env ⟨D,s.H,s.lk,s.defers⟩ D'=some (r.v,⟨D',s1.H,s1.lk,s1.defers⟩))
  {k:List ei->Option (Ex×St)} {res:Ex×St} {c0:ei} {uZ:List ei} (dZ:cs=c0::uZ) (hk:cx.fj takes rs r c0 ⟨Nat.lor c0.D (Nat.pow 2 i),s1.H,s1.lk,s1.defers⟩ uZ k=some res) :
  ∃cs' S8,k cs'=some res/\RI cx all takes s0 S8 (i+1) (r::rs) cs' s1:=by
 obtain⟨m1,m2⟩:=Wi hm;have E6:∀b,bit r.m b=true->b<i:=λb hb=>by
  obtain⟨e,he,H_,u0⟩:=m2 b hb;rcases u0 with rfl|⟨q,hq,HX,GI⟩
  ·obtain⟨q,hq,HX⟩:=m1 e he H_;rw[<- HX];exact h.lt q hq
  ·exact Nat.lt_trans (h.mlt q hq b GI) (h.lt q hq)
 obtain⟨cs',o7,hG⟩:=zkb h.Wk h.lt h.uniq h.mlt ry E6 Ls sA S7 dZ hk;refine⟨cs',λj=>if j<=i then Ev j else s1.env,o7,?_⟩
 have dJ:∀{q:Rec},q∈r::rs->q=r\/q∈rs:=λhq=>dH.1 hq;refine { ex:=?_,lt:=?_,uniq:=?_,get:=?_,tm:=?_,lm:=?_,bQ:=?_,mlt:=?_,mask:=?_,slots:=?_,ev:=?_,S5:=?_,S6:=?_,Pb:=?_,off:=?_,calm:=?_,free:=?_,c0:=hG.c0,top:=hG.top,cD:=hG.cD,uu:=hG.uu,g1:=hG.g1,g2:=hG.g2 }
 ·intro j hj
  by_cases Ia:j=i
  ·exact⟨r,eH ..,by rw[ry,Ia]⟩
  ·obtain⟨q,hq,hqj⟩:=h.ex j (by omega)
   exact⟨q,dR _ hq,hqj⟩
 ·intro q hq;rcases dJ hq with rfl|hq
  ·omega
  ·have:=h.lt q hq;omega
 ·intro a ha b hb he;rcases dJ ha with rfl|GJ<;>rcases dJ hb with rfl|cZ
  ·rfl
  ·have:=h.lt b cZ;omega
  ·have:=h.lt a GJ;omega
  ·exact h.uniq a GJ b cZ he
 ·intro q hq;rcases dJ hq with rfl|hq
  ·rw[ry];exact dy
  ·exact h.get q hq
 ·intro q hq t ht;rcases dJ hq with rfl|hq
  ·rw[htm];exact zfz ht
  ·exact h.tm q hq t ht
 ·intro q hq t ht;rcases dJ hq with rfl|hq
  ·rw[Pd,w9,tn];rcases ht with ht|ht
   ·exact .inl ht
   ·exact .inr (zgT ht)
  ·exact h.lm q hq t ht
 ·intro q hq e he hb;rcases dJ hq with rfl|hq
  ·obtain⟨p,hp,hpi⟩:=m1 e (by simpa using he) hb
   rw[<- hpi,ry];exact h.lt p hp
  ·exact h.bQ q hq e he hb
 ·intro q hq b hb;rcases dJ hq with rfl|hq
  ·rw[ry];exact E6 b hb
  ·exact h.mlt q hq b hb
 ·intro q hq b hb;rcases dJ hq with rfl|hq
  ·obtain⟨e,he,H_,u0⟩:=m2 b hb;refine⟨e,by simpa using he,H_,u0.imp id ?_⟩
   rintro⟨p,hp,hh⟩;exact⟨p,dR _ hp,hh⟩
  ·obtain⟨e,he,H_,u0⟩:=h.mask q hq b hb;refine⟨e,he,H_,u0.imp id ?_⟩;rintro⟨p,hp,hh⟩;exact⟨p,dR _ hp,hh⟩
 ·intro a ha b hb bR;rcases dJ ha with rfl|GJ<;>rcases dJ hb with rfl|cZ
  ·omega
  ·exact yn sC b cZ
  ·have:=h.lt a GJ;omega
  ·exact h.slots a GJ b cZ bR
 ·intro q hq;rcases dJ hq with rfl|hq
  ·rw[ry,if_pos (dI _),h.S6,i_]
  ·rw[if_pos (Nat.le_of_lt (h.lt q hq))];exact h.ev q hq
 ·rw[if_pos (eg _)];exact h.S5
 ·rw[if_neg (by omega)]
 ·intro q hq;rcases dJ hq with rfl|hq
  ·rw[ry,if_neg (by omega)];exact hE
  ·have:=h.lt q hq;rw[if_pos (by omega)];exact h.Pb q hq
 ·intro q hq hw;rcases dJ hq with rfl|hq
  ·obtain⟨a,b,c,_⟩:=Pe hw;exact⟨a,b,c⟩
  ·exact h.off q hq hw
 ·intro q hq hw;rcases dJ hq with rfl|hq
  ·exact uy hw
  ·exact h.calm q hq hw
 ·intro q hq hw hf;rcases dJ hq with rfl|hq
  ·exact Pf hw hf
  ·exact h.free q hq hw hf
theorem xi{s0:St}{ex:Ex}{s':St}:∀(os:List Oper)(i:Nat)(rs:List Rec)(cs:List ei)(s:St)(Ev:Nat->aD),cx.eN all takes i rs cs os s=some (ex,s')->RI cx all takes s0 Ev i rs cs s->os=all.toList.drop i ->
  ex=.normal/\∃Ev rs cs,RI cx all takes s0 Ev all.size rs cs s'
 | [],i,rs,cs,s,Ev,hc,h,ho=>by
  simp only[Cx.eN,br,cg] at hc;obtain⟨rfl,rfl⟩:=hc;refine⟨rfl,Ev,rs,cs,?_⟩;have h1:all.size<=i:=by
   have:=congrArg List.length ho;simp at this;omega
  have h2:i<=all.size:=by
   rcases eX all.size i with h3|h3
   ·obtain⟨r,hr,he⟩:=h.ex all.size h3;have:=h.get r hr;rw[he] at this;simp at this
   ·exact h3
  rw[Nat.le_antisymm h1 h2];exact h
 | o::os,i,rs,cs,⟨env,H,lk,df⟩,Ev,hc,h,ho=>by
  have dy:all[i]?=some o:=by
   have:=congrArg (·[0]?) ho;simp at this;exact this.symm
  have o8:os=all.toList.drop (i+1):=by
   have:=congrArg List.tail ho;simpa using this
  simp only[Cx.eN] at hc;split at hc<;>try (cases hc;done)
  rename_i m hm;simp only[qz] at hc;split at hc<;>try (cases hc;done)
  ·
   rename_i hw;simp only[qp,jO] at hc;split at hc<;>try (cases hc;done)
   rename_i c0 uZ Ib;obtain⟨cs',S8,hk,Pg⟩:=h.step (r:=⟨i,o,m,_,_,false,true,env,.bq []⟩) (s1:=⟨aq env o.dst (.bq []),H,lk,df⟩) rfl dy hm rfl rfl rfl Ib (by simp[GH,hw]) (λ_=>⟨hw,rfl,rfl,rfl⟩) (λhh=>by rw[hw] at hh;cases hh) (λhh=>by rw[hw] at hh;cases hh)
    (λ_=>⟨rfl,rfl,rfl⟩) (λ_ hf=>nomatch hf) (λhf=>nomatch hf) rfl hc
   exact xi os (i+1) _ _ _ _ hk Pg o8
  ·rename_i hw;split at hc<;>try (cases hc;done)
   ·rename_i v s1 aC;obtain⟨cK,H1,eB,eu⟩:=s1;simp only[qp,jO] at hc;split at hc<;>try (cases hc;done)
    rename_i c0 uZ Ib;have he:cK=nX env (kl takes o):=(O9 (bI:=env) (λt _=>rfl) aC).1;obtain⟨cs',S8,hk,Pg⟩:=h.step (r:=⟨i,o,m,_,_,q9 cx.P cx.uq takes o,!kU cx.P cx.uq o,env,v⟩) (s1:=⟨aq cK o.dst v,H1,eB,eu⟩) rfl dy hm rfl rfl rfl Ib (by simp[GH,hw,he]) (λhh=>absurd hw hh) (λ_=>⟨rfl,λ_=>⟨_,_,_,_,aC⟩⟩) (λ_ hf=>by simpa using hf)
     (λhf=>by
      obtain⟨v',e1,e2,e3⟩:=yd hf aC;cases e2
      exact⟨rfl,rfl,rfl⟩)
     (λhf _=>by
      refine⟨⟨0,H1,eB,eu⟩,λD=>?_⟩
      simp only[Cx.dK,aC])
     (λhf D D'=>by simp only[Cx.dK,aC]) rfl hc
    exact xi os (i+1) _ _ _ _ hk Pg o8
   ·rename_i s1 aC;obtain⟨cK,H1,eB,eu⟩:=s1;simp only[qp,jO] at hc;split at hc<;>try (cases hc;done)
    rename_i c0 uZ Ib;have he:cK=nX env (kl takes o):=(O9 (bI:=env) (λt _=>rfl) aC).1;have BP:q9 cx.P cx.uq takes o=true:=by
     cases hb:q9 cx.P cx.uq takes o with
     | true=>rfl
     | false=>obtain⟨v',e1,_⟩:=yd hb aC;cases e1
    obtain⟨cs',S8,hk,Pg⟩:=h.step (r:=⟨i,o,m,_,_,q9 cx.P cx.uq takes o,false,env,.bq []⟩) (s1:=⟨aq cK o.dst (.bq []),H1,eB,eu⟩) rfl dy hm rfl rfl rfl Ib (by simp[GH,hw,he]) (λhh=>absurd hw hh) (λ_=>⟨rfl,λhf=>by rw[BP] at hf;cases hf⟩) (λ_ hf=>nomatch hf)
     (λhf=>by simp only[BP,OF] at hf) (λhf=>by simp only[BP,OF] at hf) (λhf D D'=>by simp only[Cx.dK,aC]) rfl hc
    exact xi os (i+1) _ _ _ _ hk Pg o8
end
section
variable{cx:Cx}{all:Array Oper}{takes:bY}
abbrev iP(l:Array Bool)(j:Nat):Prop:=l.getD j false=true
def S9(all:Array Oper)(l:Array Bool):Prop:=∀(j:Nat)(o:Oper),all[j]?=some o->iP l j->∀e∈o.after,Region.binds .any e=true->iP l e.on
def Jz(rs:List Rec)(t j:Nat):Prop:=∃r∈rs,r.idx=j/\bit r.tm t=true
structure Inv(all:Array Oper)(rs:List Rec)(cs:List ei)(Ev:Nat->aD)(l:Array Bool)(s:St):Prop where
 down:S9 all l
 size:l.size=all.size
 env:∀t m,m<=all.size->(∀j,j<m->Jz rs t j->iP l j)->(∀j,m<=j->Jz rs t j->¬iP l j)->s.env[t]?=(Ev m)[t]?
 mem:∃c∈cs,(∀b,bit c.D b=true ↔ ∃q∈rs,q.hp=true/\q.idx=b/\iP l b)/\s.H=c.H/\s.lk=c.lk/\s.defers=c.df
section
variable{s0 s' s:St}{Ev:Nat->aD}{rs:List Rec}{cs:List ei}{l:Array Bool}
theorem vT(hR:RI cx all takes s0 Ev all.size rs cs s')(hd:S9 all l):∀(n:Nat)(r:Rec),r∈rs->r.idx<=n->(∀e∈r.o.after,Region.binds .any e=true->iP l e.on)->∀b,bit r.m b=true->iP l b
 | 0,r,hr,hn,_,b,hb=>by
  have:=hR.mlt r hr b hb;omega
 | n+1,r,hr,hn,he,b,hb=>by
  obtain⟨e,h1,h2,h3⟩:=hR.mask r hr b hb;rcases h3 with rfl|⟨q,hq,HX,GI⟩
  ·exact he e h1 h2
  ·have hl:=he e h1 h2;rw[<- HX] at hl;have:=hR.bQ r hr e h1 h2;exact vT hR hd n q hq (by omega) (hd q.idx q.o (hR.get q hq) hl) b GI
theorem yD(hR:RI cx all takes s0 Ev all.size rs cs s')(hd:S9 all l){r:Rec}(hr:r∈rs)(hl:iP l r.idx){b:Nat}(hb:bit r.m b=true):iP l b :=
 vT hR hd r.idx r hr (dI _) (hd r.idx r.o (hR.get r hr) hl) b hb
theorem Wl(hR:RI cx all takes s0 Ev all.size rs cs s'){q r:Rec}(hq:q∈rs)(hr:r∈rs)(bR:q.idx<r.idx){t:Nat}(h:(bit q.tm t=true/\bit r.lm t=true)\/(bit r.tm t=true/\bit q.lm t=true)):bit r.m q.idx=true:=by
 have hs:=hR.slots r hr q hq bR;unfold kw at hs;split at hs
 ·assumption
 ·rw[eo] at hs;rcases h with h|h
  ·exact(zgS hs.1 h.1 h.2).elim
  ·exact(zgS hs.2 h.1 h.2).elim
theorem zdr{env bI:aD}{dst:fH}{v:V}{t:Nat}(h:env[t]?=bI[t]?):(aq env dst v)[t]?=(aq bI dst v)[t]?:=by
 cases dst with
 | none=>exact h
 | some d=>simp only[aq,List.getElem?_set',h]
theorem NG{env:aD}{dst:fH}{v:V}{t:Nat}(h:dst≠some t):(aq env dst v)[t]?=env[t]?:=by
 cases dst with
 | none=>rfl
 | some d =>
  have:d≠t:=λe=>h (by rw[e])
  simp only[aq,s4,this,bw]
theorem zgU(env:aD)(x:aX):kn env x=env\/∃u sz xs e,x=.tmp u/\env[u]?=some (.sl sz xs (.yes e))/\kn env x=env.set u (.sl sz xs .no):=by
 cases x with
 | tmp t =>
  simp only[kn];split
  next sz xs e h=>exact .inr ⟨t,sz,xs,e,rfl,h,rfl⟩
  ·exact .inl rfl
 | _=>exact .inl rfl
theorem Wn{env:aD}{k:Option aX}{t:Nat}(h:k≠some (.tmp t)):(nX env k)[t]?=env[t]?:=by
 cases k with
 | none=>rfl
 | some x =>
  simp only[nX];rcases zgU env x with h1|⟨u,sz,xs,e,rfl,_,h1⟩
  ·rw[h1]
  ·have:u≠t:=λe=>h (by rw[e])
   rw[h1];simp only[s4,this,bw]
theorem zkc{env bI:aD}{k:Option aX}{t:Nat}(h:env[t]?=bI[t]?)(hk:∀u,k=some (.tmp u)->env[u]?=bI[u]?):(nX env k)[t]?=(nX bI k)[t]?:=by
 cases k with
 | none=>exact h
 | some x =>
  cases x with
  | tmp u =>
   have hu:=hk u rfl;simp only[nX,kn,hu];split
   ·simp only[List.getElem?_set',h]
   ·exact h
  | _=>exact h
theorem zll{r:Rec}{t:Nat}(h1:r.o.dst≠some t)(h2:kl takes r.o≠some (.tmp t)):(GH all takes r)[t]?=r.env[t]?:=by
 unfold GH;split
 ·rw[NG h1,Wn h2]
 ·rw[NG h1]
theorem Wo(hR:RI cx all takes s0 Ev all.size rs cs s'){t a:Nat}:∀{b:Nat},a<=b->b<=all.size->(∀j,a<=j->j<b->¬Jz rs t j)->(Ev b)[t]?=(Ev a)[t]?
 | 0,h,_,_=>by rw[Nat.le_zero.1 h]
 | b+1,h,hb,hT=>by
  by_cases e:a=b+1
  ·rw[e]
  ·have SU:a<=b:=by omega
   rw[<- Wo hR SU (by omega) λj h1 h2=>hT j h1 (by omega)]
   obtain⟨r,hr,ry⟩:=hR.ex b (by omega)
   have h1:=hR.Pb r hr;have h2:=hR.ev r hr;rw[ry] at h1 h2;have eT:bit r.tm t=false:=by
    cases hb:bit r.tm t with
    | false=>rfl
    | true=>exact(hT b SU (by omega) ⟨r,hr,ry,hb⟩).elim
   have hd:r.o.dst≠some t:=λe=>by rw[hR.tm r hr t (.inl e)] at eT;cases eT
   have hk:kl takes r.o≠some (.tmp t):=λe=>by rw[hR.tm r hr t (.inr e)] at eT;cases eT
   rw[h1,h2,zll hd hk]
theorem Inv.Ph(hR:RI cx all takes s0 Ev all.size rs cs s')(hI:Inv all rs cs Ev l s){r:Rec}(hr:r∈rs)(tE:¬iP l r.idx)(gq:∀e∈r.o.after,Region.binds .any e=true->iP l e.on){t:Nat}(ht:bit r.lm t=true):s.env[t]?=r.env[t]?:=by
 have hb:=vT hR hI.down r.idx r hr (dI _) gq;rw[<- hR.ev r hr];refine hI.env t r.idx (Nat.le_of_lt (hR.lt r hr)) ?_ ?_
 ·rintro j hj ⟨q,hq,rfl,tG⟩;exact hb q.idx (Wl hR hq hr hj (.inl ⟨tG,ht⟩))
 ·rintro j hj ⟨q,hq,rfl,tG⟩ hl;rcases eX r.idx q.idx with h|h
  ·exact tE (yD hR hI.down hq hl (Wl hR hr hq h (.inr ⟨tG,ht⟩)))
  ·have:=hR.uniq q hq r hr (Nat.le_antisymm h hj);subst this;exact tE hl
theorem zh7{o:Oper}{t:Nat}(h:Operand.tmp t∈o.op.operands.toList):t∈o.looksAt all :=
 AO _ (List.mem_filterMap.2 ⟨.tmp t,h,rfl⟩)
theorem zfB{o:Oper}{env bI:aD}(h:∀t∈o.looksAt all,env[t]?=bI[t]?):zX all o env=zX all o bI:=by
 unfold zX;cases hg:o.guard with
 | none=>rfl
 | some jw =>
  obtain⟨j,want⟩:=jw;simp only;cases hd:(all[j]?).bind (·.dst) with
  | none=>rfl
  | some d =>
   have:d∈o.looksAt all:=by
    refine C2 _ ?_;rw[hg];simp[hd]
   simp only[zg,h d this]
theorem ke{i j:Nat}(hs:i<l.size):iP (l.setIfInBounds i true) j ↔ j=i\/iP l j:=by
 unfold iP
 by_cases h:i=j
 ·subst h;simp[hs]
 ·rw[getD_set_ne false h];constructor
  ·exact .inr
  ·rintro(rfl|h')
   ·exact(h rfl).elim
   ·exact h'
theorem Inv.Dg(hR:RI cx all takes s0 Ev all.size rs cs s')(hI:Inv all rs cs Ev l s){r:Rec}(hr:r∈rs)(tE:¬iP l r.idx)(gq:∀e∈r.o.after,Region.binds .any e=true->iP l e.on){E:aD}
  (cI:∀t,bit r.tm t=false->E[t]?=s.env[t]?) (hto:∀t,bit r.tm t=true->E[t]?=(GH all takes r)[t]?) :
  ∀t m,m<=all.size->(∀j,j<m->Jz rs t j->iP (l.setIfInBounds r.idx true) j)->(∀j,m<=j->Jz rs t j->¬iP (l.setIfInBounds r.idx true) j)->E[t]?=(Ev m)[t]?:=by
 intro t m hm h1 h2;have bR:=hR.lt r hr;have fu:r.idx<l.size:=by rw[hI.size];exact bR
 cases hb:bit r.tm t with
 | false =>
  rw[cI t hb];have eT:¬Jz rs t r.idx:=by
   rintro⟨q,hq,HX,tG⟩;have:=hR.uniq q hq r hr HX;subst this;rw[hb] at tG;cases tG
  refine hI.env t m hm (λj hj ht=>?_) (λj hj ht hl=>h2 j hj ht ((ke fu).2 (.inr hl)));rcases (ke fu).1 (h1 j hj ht) with rfl|h
  ·exact(eT ht).elim
  ·exact h
 | true =>
  rw[hto t hb,<- hR.Pb r hr];have him:r.idx<m:=by
   rcases eX r.idx m with h|h
   ·exact h
   ·exact(h2 r.idx h ⟨r,hr,rfl,hb⟩ ((ke fu).2 (.inl rfl))).elim
  refine(Wo hR (a:=r.idx+1) (b:=m) him hm λj hj Wp=>?_).symm;rintro⟨q,hq,rfl,tG⟩;rcases (ke fu).1 (h1 q.idx Wp ⟨q,hq,rfl,tG⟩) with h|h
  ·omega
  ·exact tE (yD hR hI.down hq h (Wl hR hr hq (by omega) (.inr ⟨tG,hR.lm r hr t (.inl hb)⟩)))
theorem Inv.Fe(hI:Inv all rs cs Ev l s){r:Rec}(dy:all[r.idx]?=some r.o)(gq:∀e∈r.o.after,Region.binds .any e=true->iP l e.on):S9 all (l.setIfInBounds r.idx true):=by
 have bR:r.idx<all.size:=(tj.1 dy).1;have fu:r.idx<l.size:=by rw[hI.size];exact bR
 intro j o ho hl e he hb;refine(ke fu).2 (.inr ?_);rcases (ke fu).1 hl with rfl|h
 ·rw[dy] at ho;cases ho;exact gq e he hb
 ·exact hI.down j o ho h e he hb
theorem Inv.step(hR:RI cx all takes s0 Ev all.size rs cs s')(hI:Inv all rs cs Ev l s){r:Rec}(hr:r∈rs)(tE:¬iP l r.idx)(gq:∀e∈r.o.after,Region.binds .any e=true->iP l e.on) :
  (zX all r.o s.env=some false/\Inv all rs cs Ev (l.setIfInBounds r.idx true) { s with env:=aq s.env r.o.dst (.bq []) }) \/
  (zX all r.o s.env=some true/\∃res s2,cx.op takes r.o s.env s.H s.lk s.defers=some (res,s2)/\(res=.val r.v\/res=.skip/\r.v=.bq [])/\Inv all rs cs Ev (l.setIfInBounds r.idx true) { s2 with env:=aq s2.env r.o.dst r.v }):=by
 have bR:=hR.lt r hr;have fu:r.idx<l.size:=by rw[hI.size];exact bR
 have E2:=λt ht=>Inv.Ph hR hI hr tE gq (t:=t) ht;have og:∀t∈r.o.looksAt all,s.env[t]?=r.env[t]?:=λt ht=>E2 t (hR.lm r hr t (.inr ht));have hw:=zfB og;have Pj:∀t,bit r.tm t=false->r.o.dst≠some t:=λt h e=>by rw[hR.tm r hr t (.inl e)] at h;cases h
 have mb:∀t,bit r.tm t=false->kl takes r.o≠some (.tmp t):=λt h e=>by rw[hR.tm r hr t (.inr e)] at h;cases h
 have Dh:=hI.Fe (hR.get r hr) gq;obtain⟨c,hc,A4,Ep,gG,s_⟩:=hI.mem;have same:r.hp=false->∀b,(∃q∈rs,q.hp=true/\q.idx=b/\iP l b) ↔ ∃q∈rs,q.hp=true/\q.idx=b/\iP (l.setIfInBounds r.idx true) b:=by
  intro hh b;constructor
  ·rintro⟨q,h1,h2,h3,h4⟩;exact⟨q,h1,h2,h3,(ke fu).2 (.inr h4)⟩
  ·rintro⟨q,h1,h2,h3,h4⟩;rcases (ke fu).1 h4 with h5|h5
   ·have:=hR.uniq q h1 r hr (h3.trans h5);subst this;rw[hh] at h2;cases h2
   ·exact⟨q,h1,h2,h3,h5⟩
 by_cases tc:zX all r.o r.env=some true
 ·right
  have Lv:∀{H lk df res s1},cx.op takes r.o r.env H lk df=some (res,s1)->s1.env=nX r.env (kl takes r.o)/\cx.op takes r.o s.env H lk df=some (res,{ s1 with env:=nX s.env (kl takes r.o) }):=λh=>O9 (λt ht=>(og t (zh7 ht)).symm) h
  have i_:∀t m,m<=all.size->(∀j,j<m->Jz rs t j->iP (l.setIfInBounds r.idx true) j)->(∀j,m<=j->Jz rs t j->¬iP (l.setIfInBounds r.idx true) j)->(aq (nX s.env (kl takes r.o)) r.o.dst r.v)[t]?=(Ev m)[t]?:=by
   refine Inv.Dg hR hI hr tE gq (λt ht=>by rw[NG (Pj t ht),Wn (mb t ht)]) (λt ht=>?_)
   rw[GH,if_pos tc];exact zdr (zkc (E2 t (hR.lm r hr t (.inl ht))) λu hu=>E2 u (hR.lm r hr u (.inl (hR.tm r hr u (.inr hu)))))
  refine⟨hw.trans tc,?_⟩;cases BP:r.hp with
  | true =>
   have hb:bit c.D r.idx=false:=by
    cases h:bit c.D r.idx with
    | false=>rfl
    | true=>obtain⟨q,_,_,_,h4⟩:=(A4 r.idx).1 h;exact(tE h4).elim
   have ha:yQ rs r c.D:=λd hd S_ DZ=>(A4 d.idx).2 ⟨d,hd,S_,rfl,vT hR hI.down r.idx r hr (dI _) gq d.idx DZ⟩;obtain⟨c3,BJ,hD3,cq⟩:=hR.g1 c hc r hr BP hb ha;have JA:∀b,bit c3.D b=true ↔ ∃q∈rs,q.hp=true/\q.idx=b/\iP (l.setIfInBounds r.idx true) b:=by
    intro b;rw[hD3,w9,yc,tn,decide_eq_true_eq,A4];constructor
    ·rintro(⟨q,h1,h2,h3,h4⟩|rfl)
     ·exact⟨q,h1,h2,h3,(ke fu).2 (.inr h4)⟩
     ·exact⟨r,hr,BP,rfl,(ke fu).2 (.inl rfl)⟩
    ·rintro⟨q,h1,h2,h3,h4⟩;rcases (ke fu).1 h4 with h5|h5
     ·exact .inr h5.symm
     ·exact .inl ⟨q,h1,h2,h3,h5⟩
   unfold Cx.dK at cq;split at cq<;>simp only[br,reduceCtorEq,cg] at cq
   ·rename_i v s1 aC;obtain⟨rfl,e2⟩:=cq;rw[<- Ep,<- gG,<- s_] at aC;refine⟨_,_,(Lv aC).2,.inl rfl,⟨Dh,by simpa using hI.size,i_,c3,BJ,JA,?_⟩⟩
    rw[<- e2];exact⟨rfl,rfl,rfl⟩
   ·rename_i s1 aC;obtain⟨e1,e2⟩:=cq;rw[<- Ep,<- gG,<- s_] at aC;refine⟨_,_,(Lv aC).2,.inr ⟨rfl,e1.symm⟩,⟨Dh,by simpa using hI.size,i_,c3,BJ,JA,?_⟩⟩
    rw[<- e2];exact⟨rfl,rfl,rfl⟩
  | false =>
   obtain⟨hh,hex⟩:=hR.calm r hr tc;have uy:q9 cx.P cx.uq takes r.o=false:=by rw[<- hh];exact BP
   obtain⟨H0,GL,df0,s1,Wq⟩:=hex uy;have sA:∃s2,cx.op takes r.o r.env s.H s.lk s.defers=some (.val r.v,s2):=by
    cases Pa:r.free with
    | true=>exact znr uy (hR.free r hr tc Pa) Wq s.lk s.defers
    | false =>
     have ha:yQ rs r c.D:=λd hd S_ DZ=>(A4 d.idx).2 ⟨d,hd,S_,rfl,vT hR hI.down r.idx r hr (dI _) gq d.idx DZ⟩
     obtain⟨c2,cq⟩:=hR.g2 c hc r hr BP Pa ha (λd hd S_ DZ=>by
      cases h:bit d.m r.idx with
      | false=>rfl
      | true =>
       obtain⟨q,_,_,_,h4⟩:=(A4 d.idx).1 DZ
       exact(tE (yD hR hI.down hd h4 h)).elim)
     unfold Cx.dK at cq;rw[<- Ep,<- gG,<- s_] at cq;split at cq<;>simp only[br,reduceCtorEq,cg] at cq
     next v s2 aC=>obtain⟨rfl,_⟩:=cq;exact⟨s2,aC⟩
     next s2 aC=>obtain⟨v',e1,_⟩:=yd uy aC;cases e1
   obtain⟨s2,aC⟩:=sA;obtain⟨v',e1,e2,_⟩:=yd uy aC;refine⟨_,_,(Lv aC).2,.inl rfl,⟨Dh,by simpa using hI.size,i_,c,hc,λb=>(A4 b).trans (same BP b),?_⟩⟩
   rw[e2];exact⟨Ep,gG,s_⟩
 ·left
  obtain⟨h1,h2,h3⟩:=hR.off r hr tc;refine⟨hw.trans h1,⟨Dh,by simpa using hI.size,?_,c,hc,λb=>(A4 b).trans (same h2 b),Ep,gG,s_⟩⟩
  refine Inv.Dg hR hI hr tE gq (λt ht=>by rw[NG (Pj t ht)]) (λt ht=>?_)
  rw[GH,if_neg tc,h3];exact zdr (E2 t (hR.lm r hr t (.inl ht)))
theorem Inv.final(hR:RI cx all takes s0 Ev all.size rs cs s')(hI:Inv all rs cs Ev l s)(dF:∀j,j<all.size->iP l j):s=s':=by
 have i_:s.env=s'.env:=by
  apply ER;intro t;rw[<- hR.S6];refine hI.env t all.size (dI _) (λj hj _=>dF j hj) ?_;rintro j hj ⟨q,hq,rfl,_⟩;have:=hR.lt q hq;omega
 obtain⟨c,hc,A4,Ep,gG,s_⟩:=hI.mem;obtain⟨c1,uZ,rfl,h1,h2,h3,h4⟩:=hR.top;have:c=c1:=by
  refine hR.uu c hc c1 (eH ..) (xB λb=>?_);rw[h1];refine ET.2 ((A4 b).trans (Iff.trans ?_ lu.symm));constructor
  ·rintro⟨q,a1,a2,a3,_⟩;exact⟨q,a1,a2,a3⟩
  ·rintro⟨q,a1,a2,rfl⟩;exact⟨q,a1,a2,rfl,dF _ (hR.lt q a1)⟩
 subst this;obtain⟨e,H,lk,df⟩:=s;obtain⟨e',H',HR,HS⟩:=s';simp only at *;simp only[i_,Ep,gG,s_,h2,h3,h4]
theorem Inv.start(hR:RI cx all takes s0 Ev all.size rs cs s'):Inv all rs cs Ev (Array.replicate all.size false) s0:=by
 have eT:∀j,¬iP (Array.replicate all.size false) j:=λj h=>by
  unfold iP at h;simp[Array.getElem?_replicate] at h;split at h<;>simp_all
 refine⟨λj o _ hl=>(eT j hl).elim,by simp,λt m hm h1 _=>?_,?_⟩
 ·rw[<- hR.S5];refine(Wo hR (eg m) hm λj _ hj hT=>eT j (h1 j hj hT)).symm
 ·obtain⟨c,hc,h0,h1,h2,h3⟩:=hR.c0;refine⟨c,hc,λb=>?_,h1.symm,h2.symm,h3.symm⟩;rw[h0,yC];constructor
  ·intro h;cases h
  ·rintro⟨_,_,_,_,h⟩;exact(eT b h).elim
end
end
section
variable{P:aQ}{cx:Cx}{all:Array Oper}{takes:bY}{B:dS}{g:Gh}{s:St}{a:Act}{w:aP}
def left(l:Array Bool):Nat->Nat
 | 0=>0
 | k+1=>left l k+if l.getD k false=true then 0 else 1
theorem zcH{l:Array Bool}{i:Nat}:∀k,left (l.setIfInBounds i true) k<=left l k
 | 0=>dI _
 | k+1=>by
  have ih:=zcH (l:=l) (i:=i) k;simp only[left]
  by_cases h:l.getD k false=true
  ·rw[if_pos (getD_set_true h),if_pos h];exact ih
  ·rw[if_neg h];split<;>omega
theorem Wr{l:Array Bool}{i:Nat}(hi:i<l.size)(hl:¬iP l i):∀{k},i<k->left (l.setIfInBounds i true) k+1<=left l k
 | 0,h=>by omega
 | k+1,h=>by
  simp only[left]
  by_cases e:i=k
  ·subst e;have h1:=zcH (l:=l) (i:=i) i;have h2:(l.setIfInBounds i true).getD i false=true:=(ke hi).2 (.inl rfl);rw[if_pos h2,if_neg hl];omega
  ·have h1:=Wr hi hl (k:=k) (by omega)
   rw[getD_set_ne false e];omega
theorem Ws{l:Array Bool}:∀{k},left l k=0->∀j,j<k->iP l j
 | 0,_,j,hj=>by omega
 | k+1,h,j,hj=>by
  simp only[left] at h
  by_cases e:j=k
  ·subst e
   by_cases hl:l.getD j false=true
   ·exact hl
   ·rw[if_neg hl] at h;omega
  ·exact Ws (k:=k) (by omega) j (by omega)
theorem Wt{n:Nat}:∀{k},left (Array.replicate n false) k<=k
 | 0=>dI _
 | k+1=>by have:=Wt (n:=n) (k:=k);simp only[left];split<;>omega
theorem Rel.uz(h:Rel B g s a w):Rel B g s a { w with drawn:=w.drawn+1 }:=by
 refine h.j_ (b0:=none) (l0:=none) (g':=g) (s':=s) (w':={ w with drawn:=w.drawn+1 }) ⟨.refl _ _,λ_ _ _ _=>rfl,λ_ _ _=>rfl,λ_ _ _ _=>rfl,dI _,λ_ _ _=>rfl,λ_ h=>(by cases h),λ_ h=>(by cases h),λ_ _ _ _=>rfl,rfl,rfl,rfl⟩ (dI _) (λ_ _ _=>rfl) ?_ ?_ ?_ ?_ ?_ ?_ rfl rfl ?_ h.bG h.lV h.n8 ?_
 ·intro b x hb hx;rcases hb with hb|hb
  ·cases hb
  ·have:=(c_.1 hx).1;omega
 ·intro b h1 h2;omega
 ·intro b b' h1 h2;omega
 ·exact h.cY.mem
 ·exact h.cY.eV
 ·intro _ _ h;cases h
 ·intro t x hx;exact⟨x,hx,.inl ⟨rfl,by simp⟩⟩
 ·intro t h;cases h
theorem znt{s0 s':St}{Ev:Nat->aD}{rs:List Rec}{cs:List ei}(hR:RI cx all takes s0 Ev all.size rs cs s')(iW:oD P cx B) :
  ∀(fuel:Nat)(l:Array Bool)(s:St)(g:Gh)(a:Act)(w:aP),left l all.size<=fuel->Inv all rs cs Ev l s->Rel B g s a w->wpAny P .any all (vS B .normal s') fuel l a w:=by
 have fin:∀(l:Array Bool)(s:St)(g:Gh)(a:Act)(w:aP),Inv all rs cs Ev l s->Rel B g s a w->(∀j,j<all.size->iP l j)->vS B .normal s' .normal a w:=by
  intro l s g a w hI h dF;have:=hI.final hR dF;subst this;exact⟨g,h,trivial⟩
 have nil:∀(l:Array Bool)(s:St),Inv all rs cs Ev l s->Region.ready .any all l=[]->∀j,j<all.size->iP l j:=by
  intro l s hI hr j
  induction j using Nat.strongRecOn with
  | ind j ih =>
   intro hj;cases hl:l.getD j false with
   | true=>exact hl
   | false =>
    obtain⟨r,oE,Lw⟩:=hR.ex j hj;have dy:=hR.get r oE
    have:j∈Region.ready .any all l:=mem_ready.2 ⟨by
     have:j<l.size:=by rw[hI.size];exact hj
     simp[this] at hl ⊢
     exact hl,r.o,by rw[<- Lw];exact dy,λe he hb=>ih e.on (by rw[<- Lw];exact hR.bQ r oE e he hb) (by
      have h1:=hR.bQ r oE e he hb
      omega)⟩
    rw[hr] at this;cases this
 intro fuel
 induction fuel with
 | zero =>
  intro l s g a w hle hI h;have dF:=Ws (l:=l) (k:=all.size) (by omega)
  refine⟨?_,fin l s g a w hI h dF⟩;cases hr:Region.ready .any all l with
  | nil=>rfl
  | cons x xs =>
   have hx:x∈Region.ready .any all l:=by rw[hr];exact eH ..
   obtain⟨h1,o,ho,_⟩:=mem_ready.1 hx;have bR:x<all.size:=(tj.1 ho).1;have h2:=dF x bR;have:x<l.size:=by rw[hI.size];exact bR
   unfold iP at h2;simp[this] at h1 h2;rw[h1] at h2;cases h2
 | succ fuel ih =>
  intro l s g a w hle hI h;refine⟨λhr=>fin l s g a w hI h (nil l s hI hr),λi hi=>?_⟩;obtain⟨h1,o,ho,gq⟩:=mem_ready.1 hi;have bR:i<all.size:=(tj.1 ho).1;have fu:i<l.size:=by rw[hI.size];exact bR
  have tE:¬iP l i:=by
   unfold iP;simp[fu] at h1 ⊢;exact h1
  obtain⟨r,oE,rfl⟩:=hR.ex i bR;have dy:=hR.get r oE;rw[dy] at ho;cases ho;have mK:=Wr fu tE bR;unfold wpOp;simp only[dy];rcases Inv.step hR hI oE tE gq with⟨hw,tH⟩|⟨hw,res,s2,aC,lP,tH⟩
  ·rw[if_neg (by rw[ym h hw];simp)]
   exact ih _ _ g _ w (by omega) tH (wU (yB h r.o))
  ·rw[if_pos (ym h hw)]
   left
   refine HQ iW h aC ⟨λv' hv g' cv a' w' hk=>?_,λhv g' a' w' hk=>?_,λv' hv=>?_⟩
   ·rcases lP with rfl|⟨rfl,_⟩
    ·cases hv;exact ih _ _ g' _ w' (by omega) tH (wU hk)
    ·cases hv
   ·rcases lP with rfl|⟨_,he⟩
    ·cases hv
    ·rw[he] at tH;exact ih _ _ g' _ w' (by omega) tH (wU (yB hk r.o))
   ·rcases lP with rfl|⟨rfl,_⟩<;>cases hv
theorem zeH{s s':St}{ex:Ex}{ops:Array Oper}(iW:oD P cx B)(hc:cx.drawn ops s=some (ex,s'))(h:Rel B g s a w):ex=.normal/\wpAny P .any ops (vS B .normal s') ops.size (Array.replicate ops.size false) a { w with drawn:=w.drawn+1 }:=by
 obtain⟨env,H,lk,df⟩:=s;unfold Cx.drawn at hc;obtain⟨rfl,Ev,rs,cs,hR⟩:=xi ops.toList 0 [] _ _ _ hc (RI.start (⟨env,H,[],df⟩:St)) (by simp)
 exact⟨rfl,znt hR iW ops.size _ _ g a _ Wt (Inv.start hR) h.HT.uz⟩
end
section
variable{P:aQ}{cx:Cx}{B:dS}{g:Gh}{s:St}{a:Act}{w:aP}
def Ta(T t sz N:Nat):KY:=⟨T,.sl sz [] (.yes t),.slice (some ⟨N,0,none⟩) 0 1,none⟩
abbrev dS.late(B:dS)(T t sz N:Nat):dS:={ B with cW:=Ta T t sz N::B.cW }
theorem nM{T t sz N b off:Nat}:DK (B.late T t sz N) b off ↔ DK B b off:=by
 unfold DK;constructor
 ·rintro(h|⟨q,hq,h⟩)
  ·exact .inl h
  ·rcases dH.1 hq with rfl|hq
   ·cases h
   ·exact .inr ⟨q,hq,h⟩
 ·rintro(h|⟨q,hq,h⟩)
  ·exact .inl h
  ·exact .inr ⟨q,dR _ hq,h⟩
theorem Rel.Cu{T t sz N:Nat}(h:Rel (B.late T t sz N) g s a w):Rel B g s a w :=
 {cY:=h.cY,len:=h.len,env:=h.env,dO:=h.dO,n0:=h.n0,bG:=h.bG,d_:=h.d_,fr:=h.fr,lV:=λb off hb=>h.lV b off (nM.2 hb),n8:=λp hp hb=>h.n8 p hp (nM.2 hb),cW:=λp hp=>h.cW p (dR _ hp),eF:=h.eF,defers:=h.defers,marks:=h.marks,nq:=h.nq }
theorem zfC{T t N n:Nat}(h:Rel (B.late T t n N) g s a w)(hT:∀p∈B.cW,p.t≠T)(hN:B.w.heap.size<=N){p x:aX}{v:V}{cX:aD}(hp:a.eval p=.pointer (some ⟨N,0,none⟩))(ht:take s.env x=some (v,cX))
  (hn:z4 P t=some n) (ek:dz v=true) (hl:v.laid.length=n) :
  ∃g' w',(Instr.storeAt t (a.eval p) (a.eval x)).run P w=.ok () w'/\Rel B g' { s with env:=cX,H:=s.H.push (.cells v.laid t) } a w'/\aR g' (.ptr s.H.az.length 0) (.pointer (some ⟨N,0,none⟩)):=by
 obtain⟨g1,h1,v1,v2,v3,rN⟩:=vJ h ht (.cell s.H.az.length 0);obtain⟨l1,l2,l3⟩:=VF v1 ek v2 (yZ ht) v3;obtain⟨p1,_,p3,_,_⟩:=h1.cW (Ta T t n N) (eH ..);obtain⟨xs,⟨_,b_⟩,hc⟩:=p3;rcases b_ with⟨e,_⟩|⟨c,o,cap,cur,e,lp,_,_,fu,_⟩
 ·cases e
 cases e;obtain⟨o1,o2,o3⟩:=hc N rfl;have fu:cur.size=n:=by rcases fu with h0|h0<;>simp at h0;exact h0
 have Wu:N<w.heap.size:=(tj.1 lp).1;have nB:(a.eval x).cells.size=n:=by rw[<- hl,l1.len];simp
 have hM:∀o,g1.M N o=none:=by
  intro o;cases hm:g1.M N o with
  | none=>rfl
  | some u =>
   have hu:=h1.cY.mem N o u hm;have ho:o<n:=by
    rw[<- fu];simp only[World.cell?,lp] at hu;exact(tj.1 (by simpa using hu)).1
   have:=o2 o (by simp) (by simpa using ho)
   rw[this] at hm;cases hm
 have cq:(Instr.storeAt t (.pointer (some ⟨N,0,none⟩)) (a.eval x)).run P w=.ok () (w.setRow N (a.eval x).cells):=by
  have e_:=run_storeCells_at P N 0 t (a.eval x).cells.toList 0 cur w lp (by simp[nB,fu]) (λu hu=>by
   obtain⟨j,hj⟩:=List.getElem?_of_mem hu;have su:j<v.laid.length:=by rw[l1.len];exact(c_.1 hj).1
   have hx:=gh su
   exact(l1.rel j _ u hx hj).nJ (l1.one j _ hx))
  have m6:cur.toList.take (0+0)++(a.eval x).cells.toList++cur.toList.drop (0+0+(a.eval x).cells.toList.length)=(a.eval x).cells.toList:=by
   rw[List.drop_of_length_le (by simp[nB,fu])];simp
  rw[m6] at e_;unfold Instr.storeAt storeVar;simp[Instr.sureAddr,ju hn,nB,e_]
 have mK:(s.H.push (.cells v.laid t)).az.length=s.H.az.length+1:=by simp[Hp.push]
 have dy:∀b,b<s.H.az.length->(s.H.push (.cells v.laid t)).az[b]?=s.H.az[b]?:=λb hb=>by simp only[Hp.push];rw[gb hb]
 have rq:(s.H.push (.cells v.laid t)).az[s.H.az.length]?=some (.cells v.laid t):=by simp[Hp.push]
 let g2:Gh:={ g1 with bP:=λb=>if b=s.H.az.length then N else g1.bP b,own:=λc=>if c=N then none else g1.own c }
 have Cv:g2.bP s.H.az.length=N:=if_pos rfl;have cI:∀c,(∀l,some (Loc.slot B.d T)=some l->g1.own c≠some l)->c≠N:=λc hc e=>hc _ rfl (e ▸ o1);have hs:ir B.d none (some (.slot B.d T)) s.H.az.length g1 w g2 (w.setRow N (a.eval x).cells) :=
  ⟨⟨λ_ _ _ h=>h,λb hb=>if_neg (by omega),rfl,λ_ _ _ _ h=>h⟩,λc _ _ hc=>setRow_other w N c _ (cI c hc),λc _ hc=>if_neg (cI c hc),λ_ _ _ _=>rfl,by simp[World.setRow],λ_ _ _=>rfl,λl hl=>.inl ⟨T,by cases hl;rfl⟩,λ_ hb=>(by cases hb),λ_ _ _ _=>rfl,rfl,rfl,rfl⟩
 have dX:∀b,s.H.az.length<=b->b<s.H.az.length+1->Nm g1 (some (.slot B.d T)) w (g2.bP b):=λb q1 q2=>by
  have:b=s.H.az.length:=by omega
  subst this;rw[Cv];exact .inr ⟨_,rfl,o1⟩
 have n_:(w.setRow N (a.eval x).cells).heap[g2.bP s.H.az.length]?=some (.cells (a.eval x).cells t (0,0)):=by
  rw[Cv];exact setRow_heap w N cur _ t _ lp
 refine⟨g2,_,by rw[hp];exact cq,h1.Cu.C5 (s':={ s with env:=cX,H:=s.H.push (.cells v.laid t) }) hs (by simp only[mK];omega) (λb hb _=>dy b hb) (λb y hb hy=>?_) (λb q1 q2=>?_) (λb b' q1 q2 q3 q4 _=>?_) (λc o u hu=>?_) (λc l hc=>?_)
  (λb j e=>by cases e) rfl rfl (λk y hy=>⟨y,hy,.inl ⟨rfl,λe=>?_⟩⟩) ?_ (λb off pO=>yY dy (h1.Cu.lV b off pO)) h1.Cu.n8 (λk e p hp=>by cases e;exact hT p hp),?_⟩
 ·have cZ:b=s.H.az.length:=by
   rcases hb with hb|hb
   ·cases hb
   ·have:=(c_.1 hy).1;simp only[mK] at this;simp only at hb;omega
  subst cZ;rw[show({ s with env:=cX,H:=s.H.push (.cells v.laid t) }:St).H.az[s.H.az.length]?=some (.cells v.laid t) from rq] at hy;cases hy;simp only[mK];refine⟨⟨_,n_,by simpa using l1.len,λj y u hy hu=>⟨l1.one j y hy,(l1.rel j y u hy (by simpa using hu)).le hs.le (cP (zn (zv hy)) l2),?_,?_⟩⟩,KM l2⟩
  ·have:=(l3 j y u hy hu).1;rw[nO] at this;exact cM.nt hs (λe=>by cases e) dX this
  ·have:=(l3 j y u hy hu).2;cases y with
   | sl sz xs o=>cases o with
    | lock=>exact absurd rfl (this sz xs)
    | _=>trivial
   | _=>trivial
 ·simp only[mK] at q2;have e:b=s.H.az.length:=by simp only at q1;omega
  subst e;refine⟨⟨dX _ (dI _) (by omega),by rw[Cv];exact hN⟩,by rw[Cv];simpa[World.setRow] using Wu,by rw[Cv];exact if_pos rfl,λo=>by rw[Cv];exact hM o⟩
 ·simp only[mK] at q2 q4;simp only at q1 q3;omega
 ·have nh:g1.M c o=some u:=hu;have:c≠N:=λe=>by rw[e,hM o] at nh;cases nh
  rw[yy (setRow_other w N c _ this)];exact h1.cY.mem c o u nh
 ·have ej:(if c=N then none else g1.own c)=some l:=hc
  split at ej
  ·cases ej
  ·have:=h1.cY.eV c l ej;simpa[World.setRow] using this
 ·simp only[br,Loc.slot.injEq,iU] at e;have:=(c_.1 hy).1;have p1':cX.length<T:=p1;simp only at this;omega
 ·intro b y hy;rcases eX b s.H.az.length with q1|q1
  ·rw[show({ s with env:=cX,H:=s.H.push (.cells v.laid t) }:St).H.az[b]?=s.H.az[b]? from dy b q1] at hy;exact h1.bG b y hy
  ·have cZ:b=s.H.az.length:=by
    have:=(c_.1 hy).1;simp only[mK] at this;omega
   subst cZ;rw[show({ s with env:=cX,H:=s.H.push (.cells v.laid t) }:St).H.az[s.H.az.length]?=some (.cells v.laid t) from rq] at hy;cases hy;exact .inl (KM l2)
 ·have:=aR.ptr (g:=g2) s.H.az.length 0;rw[Cv] at this;exact this
theorem znu{o:Oper}{K:Act->aP->Prop}{Q:Exit->Act->aP->Prop}{d:Tmp}(hd:o.dst≠some d)(h:o.wp P a w K Q):o.wp P a w (λa' w'=>K a' w'/\a'.tmps[d]?=a.tmps[d]?) Q:=by
 have pq:∀(b:Act) v,b.tmps=a.tmps->(b.put o.dst v).tmps[d]?=a.tmps[d]?:=by
  intro b v hb;unfold Act.put;split
  ·rename_i k hk;have cI:k≠d:=λe=>hd (by rw[hk,e])
   simp only[hb,Array.getElem?_setIfInBounds_ne cI]
  ·rw[hb]
 unfold Oper.wp at *;generalize (execOp a.eval o).run P w=r at *;cases r with
 | ok n w' =>
  cases n<;>simp only[Oper.upon] at h ⊢ <;>
   first
    |exact⟨h,pq _ _ rfl⟩
    | exact Calls.mono h (λe w'' he=>by cases e<;>first|exact⟨he,pq _ _ rfl⟩|exact he)
    | exact Rows.mono h (λ_ _ he=>⟨he,pq _ _ rfl⟩)
 | halt x w'=>cases x<;>simp only[Oper.upon] at h ⊢<;>exact h
theorem zh8{ops:Array Oper}{os:List Oper}{d:Tmp}{t:aB}{x:aX}(h:xP ops=some (os,d,t,x)):∃pre JB JC af JD Ic after,ops.toList=pre++[⟨some d,.alloc t,JB,JC,af,none⟩,⟨none,.store t (.tmp d) x,JD,Ic,after,none⟩] /\
  os=pre++[C3 af,C3 after]/\∀j,j<pre.length+1->∃e∈after,e.on=j/\Region.binds .any e=true:=by
 unfold xP at h;split at h
 ·rename_i t' d' x' JD Ic after e u JB JC af rest hr;split at h
  ·rename_i hc;simp only[br,cg] at h;obtain⟨rfl,rfl,rfl,rfl⟩:=h;simp only[eo] at hc;obtain⟨⟨c1,c2⟩,c3⟩:=hc;cases eU c1;cases eU c2;have dF:∀n,SE after.toList n=true->∀j,j<n->∃e∈after,e.on=j/\Region.binds .any e=true:=by
    intro n
    induction n with
    | zero=>intro _ j hj;omega
    | succ n ih =>
     intro ha j hj;simp only[SE,eo,List.any_eq_true] at ha;rcases eX j n with h1|h1
     ·exact ih ha.2 j h1
     ·obtain⟨e,he,h2,h3⟩:=ha.1;exact⟨e,Array.mem_toList_iff.1 he,by have:=eU h2;omega,h3⟩
   have hl:=congrArg List.reverse hr;rw[List.reverse_reverse] at hl;refine⟨rest.reverse,JB,JC,af,JD,Ic,after,by rw[hl];simp,by simp,λj hj=>dF _ c3 j (by simpa using hj)⟩
  ·cases h
 ·cases h
theorem zgV{α:Type}{f:α->Bool}:∀{l:List α},kz f l=true->∀x∈l,f x=true
 | [],_,x,hx=>by cases hx
 | q::qs,h,x,hx=>by
  simp only[kz] at h;split at h
  ·rename_i hq;rcases dH.1 hx with rfl|hx
   ·exact hq
   ·exact zgV h x hx
  ·cases h
theorem zln{takes:bY}{af:Array Edge}{env:aD}{H:Hp}{lk:aN}{df:bO}{r:OR}{s2:St}(h:cx.op takes (C3 af) env H lk df=some (r,s2)):s2=⟨env,H,lk,df⟩:=by
 obtain⟨_,_,h1,_⟩:=yd (by rfl) h
 rw[h1];rfl
theorem znv{pre:List Oper}{JB JD:aB}{JC Ic:String}{af after:Array Edge}{d:Tmp}{t:aB}{x:aX}{ops rQ:Array Oper}{takes:bY}{s0 s1 s':St}{Ev:Nat->aD}{rs:List Rec}{cs:List ei}{n:Nat}{z:V}{v:V}{cK:aD}
  (A5:ops.toList=pre++[⟨some d,.alloc t,JB,JC,af,none⟩,⟨none,.store t (.tmp d) x,JD,Ic,after,none⟩]) (o8:rQ=(pre++[C3 af,C3 after]).toArray) (Wv:∀j,j<pre.length+1->∃e∈after,e.on=j/\Region.binds .any e=true)
  (uj:∀o∈pre,SF takes d o=true) (hR:RI cx rQ takes s0 Ev rQ.size rs cs s1) (iW:oD P cx B)
  (hn:z4 P t=some n) (hz:qQ P t=some z) (hzk:dz z=true) (VS:z.cells.length=n) (ht:take s1.env x=some (v,cK)) (ek:dz v=true) (hl:v.laid.length=n) (hs':s'={ s1 with env:=cK.set d (.ptr s1.H.az.length 0),H:=s1.H.push (.cells v.laid t) }) :
  ∀(fuel:Nat)(l:Array Bool)(s:St)(g:Gh)(a:Act)(w:aP),left l ops.size<=fuel->Inv rQ rs cs Ev l s->s.env[d]?=some .dW->¬iP l (pre.length+1) ->
   ((¬iP l pre.length/\Rel B g s a w)\/(iP l pre.length/\∃T N,(∀p∈B.cW,p.t≠T)/\B.w.heap.size<=N/\a.tmps[d]?=some (.pointer (some ⟨N,0,none⟩))/\Rel (B.late T t n N) g s a w))->wpAny P .any ops (vS B .normal s') fuel l a w:=by
 have fu:ops.size=pre.length+2:=by rw[<- An,A5];simp
 have Cj:rQ.size=pre.length+2:=by rw[o8];simp
 have aC:∀j,j<pre.length->ops[j]?=rQ[j]?:=λj hj=>by
  rw[<- EO,A5,o8,List.getElem?_toArray,gb hj,gb hj]
 have hk:ops[pre.length]?=some ⟨some d,.alloc t,JB,JC,af,none⟩:=by rw[<- EO,A5];simp
 have o7:rQ[pre.length]?=some (C3 af):=by rw[o8];simp
 have DS:ops[pre.length+1]?=some ⟨none,.store t (.tmp d) x,JD,Ic,after,none⟩:=by rw[<- EO,A5];simp
 have Pk:rQ[pre.length+1]?=some (C3 after):=by rw[o8];simp
 have iF:∀(j:Nat)(o r:Oper),ops[j]?=some o->rQ[j]?=some r->r.after=o.after:=by
  intro j o r ho hr;rcases eX j pre.length with h1|h1
  ·rw[aC j h1,hr] at ho;cases ho;rfl
  ·rcases eX j (pre.length+1) with h2|h2
   ·have:j=pre.length:=by omega
    subst this;rw[hk] at ho;rw[o7] at hr;cases ho;cases hr;rfl
   ·have:j=pre.length+1:=by
     have:=(tj.1 ho).1;omega
    subst this;rw[DS] at ho;rw[Pk] at hr;cases ho;cases hr;rfl
 have nil:∀(l:Array Bool)(s:St),Inv rQ rs cs Ev l s->Region.ready .any ops l=[]->∀j,j<ops.size->iP l j:=by
  intro l s hI hr j
  induction j using Nat.strongRecOn with
  | ind j ih =>
   intro hj;cases hl:l.getD j false with
   | true=>exact hl
   | false =>
    obtain⟨r,oE,Lw⟩:=hR.ex j (by rw[Cj,<- fu];exact hj)
    have dy:=hR.get r oE;have ho:=Eh hj;have AE:=iF j _ r.o ho (by rw[<- Lw];exact dy)
    have:j∈Region.ready .any ops l:=mem_ready.2 ⟨by
     have:j<l.size:=by rw[hI.size,Cj,<- fu];exact hj
     simp[this] at hl ⊢;exact hl,_,ho,λe he hb=>by
      have HW:e∈r.o.after:=by rw[AE];exact he
      have h1:=hR.bQ r oE e HW hb
      exact ih e.on (by omega) (by omega)⟩
    rw[hr] at this;cases this
 intro fuel
 induction fuel with
 | zero =>
  intro l s g a w hle hI hj tE h;exact absurd (Ws (l:=l) (k:=ops.size) (by omega) _ (by omega)) tE
 | succ fuel ih =>
  intro l s g a w hle hI hj tE h;refine⟨λhr=>absurd (nil l s hI hr _ (by omega)) tE,λi hi=>?_⟩
  obtain⟨h1,o,ho,gq⟩:=mem_ready.1 hi;have bR:i<ops.size:=(tj.1 ho).1;have AF:i<l.size:=by rw[hI.size,Cj,<- fu];exact bR
  have Lx:¬iP l i:=by
   unfold iP;simp[AF] at h1 ⊢;exact h1
  obtain⟨r,oE,ry⟩:=hR.ex i (by rw[Cj,<- fu];exact bR)
  have dy:=hR.get r oE;rw[ry] at dy;have Pm:∀e∈r.o.after,Region.binds .any e=true->iP l e.on:=λe he hb=>gq e (by rw[<- iF i o r.o ho dy];exact he) hb
  have mK:=Wr AF Lx bR;have mB:=Inv.step hR hI oE (by rw[ry];exact Lx) Pm
  rw[ry] at mB;unfold wpOp;simp only[ho];have hg:o.guard=none->Region.wanted o (yielded ops a.tmps)=true:=λh=>by unfold Region.wanted;rw[h]
  rcases eX i pre.length with uX|uX
  ·
   have u0:r.o=o:=by
    have:=aC i uX;rw[ho,dy] at this;cases this;rfl
   have dJ:o∈pre:=by
    have:pre[i]?=some o:=by
     rw[<- ho,<- EO,A5,gb uX]
    exact m_ this
   have NH:=uj o dJ;simp only[SF,eo] at NH;obtain⟨⟨hd,mb⟩,Pn⟩:=NH;have hd:o.dst≠some d:=λe=>by rw[e] at hd;simp at hd
   have mb:kl takes o≠some (.tmp d):=λe=>by rw[e] at mb;simp at mb
   have Pn:o.guard=none:=by cases hh:o.guard with
    | none=>rfl
    | some _=>rw[hh] at Pn;cases Pn
   rw[u0] at mB;rcases mB with⟨hw,_⟩|⟨hw,res,s2,Cw,lP,tH⟩
   ·unfold zX at hw;rw[Pn] at hw;cases hw
   rw[if_pos (hg Pn)]
   left
   have HW:=(O9 (bI:=s.env) (λ_ _=>rfl) Cw).1;have su:(aq s2.env o.dst r.v)[d]?=some .dW:=by rw[NG hd,HW,Wn mb];exact hj
   have Po:¬iP (l.setIfInBounds i true) (pre.length+1):=λe=>by
    rcases (ke AF).1 e with e|e
    ·omega
    ·exact tE e
   have JE:∀(B':dS)(K:Act->aP->Prop),(∀g' a' w',Rel B' g' { s2 with env:=aq s2.env o.dst r.v } a' w'->K a' w')->Ends P B' o res s2 K (vS B .normal s'):=λB' K hK=>by
    refine⟨λv' hv g' cv a' w' hk=>?_,λhv g' a' w' hk=>?_,λv' hv=>?_⟩
    ·rcases lP with rfl|⟨rfl,_⟩
     ·cases hv;exact hK _ _ _ (wU hk)
     ·cases hv
    ·rcases lP with rfl|⟨_,he⟩
     ·cases hv
     ·rw[he] at hK;exact hK _ _ _ (wU (yB hk o))
    ·rcases lP with rfl|⟨rfl,_⟩<;>cases hv
   rcases h with⟨Pp,h⟩|⟨Pp,T,N,hT,hN,hp,h⟩
   ·refine HQ iW h Cw (JE B _ λg' a' w' hk=>ih _ _ g' _ w' (by omega) tH su Po (.inl ⟨λe=>?_,hk⟩))
    rcases (ke AF).1 e with e|e
    ·omega
    ·exact Pp e
   ·have Ww:oD P cx (B.late T t n N):=⟨iW.prog,iW.num,iW.V2,iW.gl,iW.calls⟩;have key:=HQ Ww h Cw (JE (B.late T t n N) (λa' w'=>∃g',Rel (B.late T t n N) g' { s2 with env:=aq s2.env o.dst r.v } a' w') λg' a' w' hk=>⟨g',hk⟩);refine Oper.wp_mono (λa' w' hk=>?_) (znu hd key);obtain⟨⟨g',hk⟩,NH⟩:=hk
    exact ih _ _ g' _ w' (by omega) tH su Po (.inr ⟨(ke AF).2 (.inr Pp),T,N,hT,hN,NH.trans hp,hk⟩)
  ·rcases eX i (pre.length+1) with Wx|Wx
   ·
    have Pq:i=pre.length:=by omega
    subst Pq;rw[hk] at ho;cases ho;rw[o7] at dy;have DU:r.o=C3 af:=(DH dy).symm;rw[DU] at mB;rcases mB with⟨hw,_⟩|⟨hw,res,s2,Cw,lP,tH⟩
    ·cases hw
    have e2:=zln Cw;subst e2;have tH:Inv rQ rs cs Ev (l.setIfInBounds pre.length true) s:=tH;rcases h with⟨_,h⟩|⟨h0,_⟩
    ·rw[if_pos (hg rfl)]
     left
     obtain⟨cz,z1,z2,z3,_,z5⟩:=yw (g:=g) hz w;have dZ:=vo z2 hzk;have cq:(execOp a.eval ⟨some d,.alloc t,JB,JC,af,none⟩).run P w=.ok (.value (.pointer (some ⟨w.heap.size,0,none⟩))) (w.alloc (.cells cz.cells t)):=by simp[execOp,Instr.alloc,z1,newVar,newRow]
     unfold Oper.wp;rw[cq,Oper.upon_value];obtain⟨T,hT1,hT2⟩:∃T,s.env.length<T/\∀p∈B.cW,p.t<T:=by
      have:∀ps:List KY,∃T,s.env.length<T/\∀p∈ps,p.t<T:=by
       intro ps
       induction ps with
       | nil=>exact⟨s.env.length+1,by omega,λp hp=>by cases hp⟩
       | cons q qs ih =>
        obtain⟨T,t1,t2⟩:=ih;refine⟨T+q.t+1,by omega,λp hp=>?_⟩
        rcases dH.1 hp with rfl|hp
        ·omega
        ·have:=t2 p hp;omega
      exact this B.cW
     have hr0:=h.settle [] (some (.slot B.d T)) (w':=w.alloc (.cells cz.cells t)) (by simp) (λj hj=>by first|exact Go.heap_alloc_old w _ hj|exact Go.heap_alloc_old w _ _ hj) (λ_ _ e=>by simp at e) rfl rfl rfl
     have oE:Rel B (g.row w.heap.size [] (some (.slot B.d T))) { s with env:=aq s.env (some d) .dW } (a.put (some d) (.pointer (some ⟨w.heap.size,0,none⟩))) (w.alloc (.cells cz.cells t)) :=
      wU (dst:=some d) ⟨hr0,.dW _,λ_ _=>trivial,eg _⟩
     have i_:aq s.env (some d) .dW=s.env:=by
      apply ER;intro k
      by_cases e:k=d
      ·subst e;rw[hj];have:=(c_.1 hj).1;simp[aq,this]
      ·exact NG (λe'=>e (by cases e';rfl))
     rw[i_] at oE;have Wy:d<a.tmps.size:=by rw[<- h.len];exact(c_.1 hj).1
     refine ih _ s (g.row w.heap.size [] (some (.slot B.d T))) _ _ (by omega) tH hj (λe=>?_) (.inr ⟨(ke AF).2 (.inl rfl),T,w.heap.size,λp hp e=>by have:=hT2 p hp;omega,h.fr.size,?_,?_⟩)
     ·rcases (ke AF).1 e with e|e
      ·omega
      ·exact tE e
     ·simp[Act.put,Wy]
     ·refine { cY:=oE.cY,len:=oE.len,env:=oE.env,dO:=oE.dO,n0:=oE.n0,bG:=oE.bG,d_:=oE.d_,fr:=oE.fr,lV:=λb off hb=>oE.lV b off (nM.1 hb),n8:=λp hp hb=>oE.n8 p hp (nM.1 hb),cW:=λp hp=>?_,eF:=oE.eF,defers:=oE.defers,marks:=oE.marks,nq:=oE.nq };rcases dH.1 hp with rfl|hp
      ·refine⟨hT1,?_,?_,eg _,λb off e=>by cases e⟩
       ·exact .sl (c:=w.heap.size) (o:=0) (λ_=>.nilFunc) (λ_ e=>by simp at e) (eg _) (λe=>absurd rfl e) (λ_ _ e=>by simp[zI] at e) (λ_ _ e=>by simp[zI] at e) (λ_ _ e=>by simp[zI] at e)
       ·have BK:cz.cells.size=n:=by have:=dZ.len;rw[VS] at this;simpa using this.symm
        refine⟨[],⟨by simp,.inr ⟨w.heap.size,0,1,cz.cells,rfl,heap_alloc_new w _,eg _,by decide,.inr (by rw[BK];omega),by simp⟩⟩,λc' ej=>?_⟩
        simp only[Value.ownBlock,Ta,br] at ej;subst ej;refine⟨by simp[Gh.row,Ta],λo' _ _=>by simp[Gh.row],λb hb e=>?_⟩
        have:=h.cY.lt b hb;simp only[Gh.row] at e;omega
      ·exact oE.cW p hp
    ·exact absurd h0 Lx
   ·
    have Pq:i=pre.length+1:=by omega
    subst Pq;rw[DS] at ho;cases ho;rw[Pk] at dy;have DU:r.o=C3 after:=(DH dy).symm;rw[DU] at mB;have JF:∀j,j<pre.length+1->iP l j:=λj hj=>by
     obtain⟨e,he,rfl,hb⟩:=Wv j hj;exact gq e he hb
    rcases mB with⟨hw,_⟩|⟨hw,res,s2,Cw,lP,tH⟩
    ·cases hw
    have e2:=zln Cw;subst e2;have tH:Inv rQ rs cs Ev (l.setIfInBounds (pre.length+1) true) s:=tH;have JG:∀j,j<ops.size->iP (l.setIfInBounds (pre.length+1) true) j:=λj hj=>by
     rcases eX j (pre.length+1) with q|q
     ·exact(ke AF).2 (.inr (JF j q))
     ·exact(ke AF).2 (.inl (by omega))
    have iE:s=s1:=tH.final hR (λj hj=>JG j (by omega))
    subst iE;rcases h with⟨h0,_⟩|⟨_,T,N,hT,hN,hp,h⟩
    ·exact absurd (JF _ (by omega)) h0
    rw[if_pos (hg rfl)]
    left
    have hev:a.eval (.tmp d)=.pointer (some ⟨N,0,none⟩):=by simp[Act.eval,hp]
    obtain⟨g',w',q1,q2,q3⟩:=zfC h hT hN hev ht hn ek hl;have cq:(execOp a.eval ⟨none,.store t (.tmp d) x,JD,Ic,after,none⟩).run P w=.ok .skip w':=by simp[execOp,q1]
    unfold Oper.wp;rw[cq,Oper.upon_skip];have pq:a.put (some d) (.pointer (some ⟨N,0,none⟩))=a:=by
     unfold Act.put;have:a.tmps.setIfInBounds d (.pointer (some ⟨N,0,none⟩))=a.tmps:=by
      apply Array.ext_getElem?;intro k
      by_cases e:k=d
      ·subst e;have bR:=(tj.1 hp).1;rw[hp];simp[bR]
      ·rw[Array.getElem?_setIfInBounds_ne (λe'=>e e'.symm)]
     simp only[this]
    have iE:=wU (dst:=some d) (v:=.ptr s.H.az.length 0) (cv:=.pointer (some ⟨N,0,none⟩)) ⟨q2,q3,λ_ _=>trivial,by simp[V.top,Hp.push]⟩
    rw[pq] at iE;have hQ:vS B .normal s' .normal a w':=⟨g',by rw[hs'];exact iE,trivial⟩
    have Wb:Region.ready .any ops (l.setIfInBounds (pre.length+1) true)=[]:=by
     apply List.eq_nil_iff_forall_not_mem.2;intro j hj;obtain⟨j1,o,ho,_⟩:=mem_ready.1 hj;have AG:=(tj.1 ho).1;have h2:=JG j AG;have:j<(l.setIfInBounds (pre.length+1) true).size:=by rw[tH.size,Cj,<- fu];exact AG
     unfold iP at h2;simp only[Array.getD_eq_getD_getElem?,Eh this,fQ] at j1 h2;rw[j1] at h2;cases h2
    show wpAny P .any ops (vS B .normal s') fuel _ a w';cases fuel with
    | zero=>exact⟨Wb,hQ⟩
    | succ f=>exact⟨λ_=>hQ,λj hj=>by rw[Wb] at hj;cases hj⟩
theorem zlo{s s':St}{ex:Ex}{ops:Array Oper}(iW:oD P cx B)(hc:cx.late ops s=some (ex,s'))(h:Rel B g s a w):ex=.normal/\wpAny P .any ops (vS B .normal s') ops.size (Array.replicate ops.size false) a { w with drawn:=w.drawn+1 }:=by
 obtain⟨env,H,lk,df⟩:=s;unfold Cx.late at hc;simp only at hc;split at hc
 ·cases hc
 rename_i os d t x iA;split at hc
 ·cases hc
 rename_i Gz;split at hc
 ·rename_i ex1 bI H2 AA AB aC;split at hc
  ·rename_i v ajP n z h1 h2 h3;split at hc
   ·rename_i ru;simp only[qp,de] at hc;split at hc
    ·rename_i hlen;rw[qm] at hc;simp only[br,cg] at hc;obtain⟨rfl,rfl⟩:=hc;refine⟨rfl,?_⟩;obtain⟨pre,JB,JC,af,JD,Ic,after,A5,rfl,Wv⟩:=zh8 iA;simp only[eo] at Gz ru;obtain⟨Gz,s9⟩:=Gz;obtain⟨⟨c1,c2⟩,c3⟩:=ru;have s9:d+1<=env.length:=by simpa[Nat.blt,Nat.ble_eq] using s9
     have s9:d<env.length:=s9;obtain⟨_,Ev,rs,cs,hR⟩:=xi _ 0 [] _ _ _ aC (RI.start (⟨env.set d .dW,H,[],df⟩:St)) (by simp)
     have K0:=h.HT.uz;have hdt:d<a.tmps.size:=by rw[<- K0.len];exact s9
     have pq:a.put (some d) a.tmps[d]=a:=by
      unfold Act.put;have:a.tmps.setIfInBounds d a.tmps[d]=a.tmps:=by
       apply Array.ext_getElem?;intro k
       by_cases e:k=d
       ·subst e;simp[hdt]
       ·rw[Array.getElem?_setIfInBounds_ne (λe'=>e e'.symm)]
      simp only[this]
     have e_:=wU (dst:=some d) (v:=.dW) (cv:=a.tmps[d]) ⟨K0,.dW _,λ_ _=>trivial,eg _⟩;rw[pq] at e_;have eT:∀j,¬iP (Array.replicate ops.size false) j:=λj hj=>by
      unfold iP at hj;simp[Array.getElem?_replicate] at hj;split at hj<;>simp_all
     have fu:ops.size=(pre++[C3 af,C3 after]).toArray.size:=by rw[<- An,A5];simp
     have hI:=Inv.start hR;rw[<- fu] at hI;exact znv A5 rfl Wv (λo ho=>zgV Gz o (AO _ ho)) hR iW (iW.prog ▸ h2) (iW.prog ▸ h3) c2 (eU c3) h1 c1 (eU hlen) rfl ops.size _ _ g a _ Wt hI (by simp[s9]) (eT _) (.inl ⟨eT _,e_⟩)
    ·cases hc
   ·cases hc
  ·cases hc
 ·cases hc
theorem zlp{s s':St}{ex:Ex}{ops:Array Oper}(iW:oD P cx B)(hc:cx.draw ops s=some (ex,s'))(h:Rel B g s a w):ex=.normal/\wpAny P .any ops (vS B .normal s') ops.size (Array.replicate ops.size false) a { w with drawn:=w.drawn+1 }:=by
 unfold Cx.draw at hc;split at hc
 ·split at hc
  ·exact zlo iW hc h
  ·exact zeH iW hc h
 ·exact zeH iW hc h
theorem znw(oG:P.follows .mixedOrders=true):Nz P cx B:=by
 intro iW id ops s s' ex g a w hc h;obtain⟨rfl,h1⟩:=zlp iW hc h;exact wp_region_any oG h1
theorem Wz{ops:Array Oper}{s:St}{r:Ex×St}(h:cx.drawn ops s=some r)(hl:cx.uq mu=false\/xP ops=none):cx.draw ops s=some r:=by
 unfold Cx.draw;rcases hl with hl|hl<;>rw[hl]
 ·exact h
 ·split<;>exact h
theorem zkd{ops:Array Oper}{s:St}{q:List Oper×Tmp×aB×aX}{r:Ex×St}(hu:cx.uq mu=true)(hq:xP ops=some q)(h:cx.late ops s=some r):cx.draw ops s=some r:=by
 unfold Cx.draw;rw[hu,hq];exact h
end
section
variable{P:aQ}{B:dS}
theorem znx{cx:Cx}:NA P cx B:=λ_ n f ps as bd s s' ex g a w hc _=>by simp[Cx.code] at hc
theorem yR{gl:Gl}(oG:P.follows .mixedOrders=true)(fN:yA P)(dP:w8 P)(DX:nW P gl)(n:Nat):xA P gl (zj P gl n) (2 * n) :=
 zgO fN dP DX (λ_ _=>⟨znw oG,znx⟩) n
end
section
open Go.ChangeShapes Go.WideShapes Go.ChangeAt Go.RowKit
def xC(W:aP):Gh :=
 {M:=λc o=>W.cell? ⟨c,o,none⟩,bP:=λ_=>0,own:=λ_=>none,lk:=λ_ _=>undef,eZ:=λ_ _=>none,
  obj:=⟨λk=>match W.cell? ⟨k,0,none⟩ with|some (.iface _ (.pointer (some a)))=>a|_=>⟨0,0,none⟩,λc=>∃cs t,W.heap[c]?=some (.cells cs t (0,0))⟩ }
theorem zlq(W:aP):q_ (xC W) [] W :=
 {mem:=λ_ _ _ h=>h,lt:=λb h=>by simp at h,inj:=λb _ h=>by simp at h,apart:=λb h=>by simp at h,eV:=(λc l h=>by cases h),eD:=λb h=>by simp at h,
  ok:=λb x h=>by simp at h,aI:=λb x h=>by simp at h,laid:=λc hc=>⟨hc,rfl,λb hb=>by simp at hb⟩ }
def NI(U:aB)(ks:bN):Nat->Nat->bX:=λg o=>if Nat.beq o 0 && ks.any (Nat.beq g) then some (.ec U (.obj g)) else none
structure Ff(U:aB)(W:aP)(ks:bN):Prop where
 at_:∀k∈ks,∃a,W.cell? ⟨k,0,none⟩=some (.iface U (.pointer (some a)))/\∃cs t,W.heap[a.block]?=some (.cells cs t (0,0))
 two:∀k∈ks,∀k'∈ks,∀a,W.cell? ⟨k,0,none⟩=some (.iface U (.pointer (some a)))->W.cell? ⟨k',0,none⟩=some (.iface U (.pointer (some a)))->k=k'
theorem WA{U:aB}{ks:bN}{k off:Nat}{v:V}(hv:NI U ks k off=some v):k∈ks/\off=0/\v=.ec U (.obj k):=by
 unfold NI at hv;split at hv<;>simp only[br,reduceCtorEq] at hv;rename_i hb;rw[eo] at hb;obtain⟨x,hx,hkx⟩:=List.any_eq_true.1 hb.2;have e2:=eU hkx;subst e2;exact⟨hx,eU hb.1,hv.symm⟩
theorem Tb{U:aB}{W:aP}{k:Nat}{a:Addr}(ha:W.cell? ⟨k,0,none⟩=some (.iface U (.pointer (some a)))):(xC W).obj k=a:=by simp only[xC,ha]
theorem zny{P:aQ}{U:aB}{ks:bN}{W:aP}(h:Ff U W ks):iu P (NI U ks) (xC W):=by
 refine⟨?_,λk u j hv=>?_⟩
 rotate_left
 ·obtain⟨hk,_,e⟩:=WA hv;cases e;obtain⟨a,ha,hc⟩:=h.at_ _ hk;refine⟨by rw[Tb ha];exact hc,λk' u' j' lf e=>?_⟩
  obtain⟨o7,_,e'⟩:=WA lf;cases e';obtain⟨a',GJ,_⟩:=h.at_ _ o7;rw[Tb ha,Tb GJ] at e;subst e;exact h.two _ hk _ o7 _ ha GJ
 intro k off v hv;obtain⟨hk,rfl,rfl⟩:=WA hv;obtain⟨a,ha,_⟩:=h.at_ _ hk;refine⟨_,ha,.ec ?_,rfl⟩;rw[<- Tb ha];exact .obj k
theorem zkf{P:aQ}{gl:Gl}(oG:P.follows .mixedOrders=true)(fN:yA P)(dP:w8 P)(DX:nW P gl){n:Nat}{f:FuncId}{args:aD}{bx:dN}{W:aP}{H':Hp}
  (hc:zj P gl n f args ⟨[],[]⟩=some (.ret (.bool true),H')) (rj:iu P gl (xC W)) (ha:eP (xC W) 0 args bx):Calls P f bx W λe W'=>e=.returned (.bool true)/\Below W.heap.size W W':=by
 refine Calls.mono (yR oG fN dP DX n f args ⟨[],[]⟩ _ _ hc (xC W) W bx .ret rj (zlq W) ha) λe W' he=>?_;cases e with
 | returned cv =>
  obtain⟨v,g',h1,h2,h3,_,_⟩:=he;cases h1;cases h3;exact⟨rfl,h2.fr.os,h2.fr.tape,h2.fr.output,h2.fr.size,λc ri=>h2.fr.heap c ⟨ri,λb hb=>by simp at hb,.inl rfl⟩⟩
 | panicked chain =>
  obtain⟨v,cv,g',h1,_⟩:=he;cases h1
 | outgrown=>exact he.elim
theorem zds{H:Type}{enc:aB×bt->H}{P:aQ}{W W':aP}(hl:laidOutB P=true)(hb:Below W.heap.size W W'):∀{ts:List aB}{vs:dx}{ds:List (DataW H)}{ps:List MemPlace},
  (∀t∈ts,P.readableRec t=true/\t<P.types.size)->DataW.TrodAll enc P W 0 (λ_=>true) true ts vs ds ps->(∀x∈ps,x.block<W.heap.size)->DataW.TrodAll enc P W' 0 (λb=>decide (b<W.heap.size)) true ts vs ds ps
 | [],vs,ds,ps,_,h,_=>by
  cases vs<;>cases ds<;>first|exact h|exact h.elim
 | t::ts,vs,ds,ps,ht,h,bR=>by
  cases vs<;>cases ds<;>first|exact h.elim|skip
  obtain⟨p,q,h1,h2,rfl⟩:=h
  exact⟨p,q,Below.trod hl (ht t (eH ..)).1 (ht t (eH ..)).2 h1 hb λx hx=>bR x (AO _ hx),
   zds hl hb (λu hu=>ht u (dR _ hu)) h2 λx hx=>bR x (C2 _ hx),rfl⟩
theorem zlr{H:Type}{enc:aB×bt->H}{P:aQ}{f:Func}{s:ChangeSpec}{apart fresh handsOn:Bool}{W W':aP}{args:dN}{ds gs:List (DataW H)}{before:List MemPlace}{tb:aB}
  (JH:s.vars=[]) (hrt:f.resultTypes=#[tb]) (htb:P.underlying tb=some .bool) (hl:laidOutB P=true) (Pr:∀t∈f.params.toList,P.readableRec t=true/\t<P.types.size)
  (Lo:s.fn H (ds++[])={ results:=[.lit (.bool true)],args:=ds }) (hW:DataW.Whole enc P f.params.toList s.vars apart W args.toList ds gs before) (hb:Below W.heap.size W W') :
  s.post enc P f apart fresh handsOn false W args (.bool true) W':=by
 have Ly:=hW;obtain⟨p,q,hA,hV,rfl,_,_⟩:=hW;rw[JH] at hV;obtain⟨rfl,rfl⟩:gs=[]/\q=[]:=by
  cases gs with
  | nil=>exact⟨rfl,hV⟩
  | cons g r=>exact absurd hV (by intro h;cases h)
 refine⟨ds,[],_,[],p,[],Ly,?_,?_,?_,hb.frame _,λh=>by cases h⟩
 ·rw[Lo,hrt];exact trodAll_mk1 (shut_bool htb true)
 ·rw[Lo];exact zds hl hb Pr hA λx hx=>Ly.lt x (by simpa using hx)
 ·rw[Lo,JH];rfl
def Tc(P:aQ)(x:String×DataW Unit):Bool :=
 match P.globalNamed x.1,x.2 with
 | some g,.iface nm (.ptr _) =>
  (match (P.globals[g]?).map (·.type) with
  | some t=>match P.underlying t with
   | some (.interface _)=>true
   | _=>false
  | none=>false) && nm == "*errors.errorString"
 | _,_=>false
structure lX(P:aQ)(w:aP)(ps:List MemPlace)(x:String×DataW Unit)(g t:Nat)(cs:dN)(fuel:Nat)(p:List MemPlace):Prop where
 named:P.globalNamed x.1=some g
 type:(P.globals[g]?).map (·.type)=some t
 var:w.var? P x.1=some cs
 trod:DataW.trod (λ_=>()) P w 0 (λ_=>true) false fuel t cs.toList=some (x.2,p)
 row:∀y∈MemPlace.row ⟨g,0,none⟩ cs.size,y∈ps
 sub:∀y∈p,y∈ps
theorem lX.more{P:aQ}{w:aP}{ps ps':List MemPlace}{x:String×DataW Unit}{g t:Nat}{cs:dN}{fuel:Nat}{p:List MemPlace}(h:lX P w ps x g t cs fuel p)(hs:∀y∈ps,y∈ps'):lX P w ps' x g t cs fuel p :=
 {h with row:=λy hy=>hs y (h.row y hy),sub:=λy hy=>hs y (h.sub y hy) }
theorem Pt{P:aQ}{w:aP}:∀{l:List (String×DataW Unit)}{ps:List MemPlace},DataW.LaidVars P w l ps->∀x∈l,∃g t cs fuel p,lX P w ps x g t cs fuel p
 | [],_,_,x,hx=>by simp at hx
 | (n,d)::r,ps,h,x,hx=>by
  obtain⟨g,t,cs,fuel,p,q,h1,h2,h3,h4,h5,h6⟩:=h;rcases dH.1 hx with rfl|hx
  ·exact⟨g,t,cs,fuel,p,h1,h2,h3,h4,λy hy=>by rw[h6];exact AO _ (AO _ hy),λy hy=>by rw[h6];exact AO _ (C2 _ hy)⟩
  ·obtain⟨g',t',cs',f',p',a⟩:=Pt h5 x hx;exact⟨g',t',cs',f',p',a.more λy hy=>by rw[h6];exact C2 _ hy⟩
theorem zgW{P:aQ}{w:aP}:∀{l:List (String×DataW Unit)}{ps:List MemPlace},DataW.LaidVars P w l ps->ps.Nodup->∀x∈l,∀x'∈l,∃g t cs fuel p g' t' cs' JI p',lX P w ps x g t cs fuel p/\lX P w ps x' g' t' cs' JI p'/\(g=g'\/∀y∈p,y ∉ p')
 | [],_,_,_,x,hx,_,_=>by simp at hx
 | (n,d)::r,ps,h,hn,x,hx,x',o6=>by
  obtain⟨g,t,cs,fuel,p,q,h1,h2,h3,h4,h5,h6⟩:=h;have hd:lX P w ps (n,d) g t cs fuel p:=⟨h1,h2,h3,h4,λy hy=>by rw[h6];exact AO _ (AO _ hy),λy hy=>by rw[h6];exact AO _ (C2 _ hy)⟩
  have hq:∀y∈q,y∈ps:=λy hy=>by rw[h6];exact C2 _ hy
  rw[h6] at hn;obtain⟨_,hnq,Pu⟩:=List.nodup_append.1 hn;rcases dH.1 hx with rfl|hx<;>rcases dH.1 o6 with rfl|o6
  ·exact⟨g,t,cs,fuel,p,g,t,cs,fuel,p,hd,hd,.inl rfl⟩
  ·obtain⟨g',t',cs',f',p',a⟩:=Pt h5 x' o6;exact⟨g,t,cs,fuel,p,g',t',cs',f',p',hd,a.more hq,.inr λy hy WC=>Pu y (C2 _ hy) y (a.sub y WC) rfl⟩
  ·obtain⟨g',t',cs',f',p',a⟩:=Pt h5 x hx;exact⟨g',t',cs',f',p',g,t,cs,fuel,p,a.more hq,hd,.inr λy hy WC=>Pu y (C2 _ WC) y (a.sub y hy) rfl⟩
  ·obtain⟨g1,t1,uZ,f1,p1,g2,t2,VH,f2,p2,a1,a2,a3⟩:=zgW h5 hnq x hx x' o6;exact⟨g1,t1,uZ,f1,p1,g2,t2,VH,f2,p2,a1.more hq,a2.more hq,a3⟩
theorem WE{P:aQ}{U:aB}{W:aP}{ps:List MemPlace}(ek:∀b off,MemPlace.cell b off∈ps->(∃c t,W.heap[b]?=some (.cells c t (0,0)))/\∀u v,W.cell? ⟨b,off,none⟩=some (.iface u v)->Value.okWide P W .any 0 u v)
  (nC:∀u,P.typeName? 3 u=some "*errors.errorString"->u=U) {e:aB} (hU:P.underlying U=some (.pointer e)) (he:0<P.cellsOf e) {x:String×DataW Unit} {k t:Nat} {cs:dN} {fuel:Nat} {p:List MemPlace} (h:lX P W ps x k t cs fuel p) (hB:Tc P x=true) :
  ∃a,W.cell? ⟨k,0,none⟩=some (.iface U (.pointer (some a)))/\MemPlace.cell a.block a.off∈p:=by
 obtain⟨h1,h2,h3,h4,b_,_⟩:=h;unfold Tc at hB;rw[h1] at hB;split at hB<;>try (cases hB;done)
 rename_i g' nm d' Nr GC;cases Nr;rw[h2] at hB;simp only[eo] at hB;obtain⟨AH,Di⟩:=hB;split at AH<;>try (cases AH;done)
 rename_i ms hti;have WG:nm= "*errors.errorString":=by simpa using Di
 subst WG;rw[GC] at h4;cases fuel with
 | zero=>simp[DataW.trod] at h4
 | succ fuel =>
  obtain⟨l0⟩:=cs;simp only[DataW.trod,hti] at h4;have key:∃u v,l0=[.iface u v]/\P.typeName? 3 u=some "*errors.errorString"/\∃d2,DataW.trod (λ_=>()) P W 0 (λ_=>true) false fuel u v.cells.toList=some (.ptr d2,p):=by
   match l0,h4 with
   | [.iface u v],h4 =>
    simp only at h4;split at h4<;>try (cases h4;done)
    rename_i name nC;obtain⟨x1,Db,Lz⟩:=m9.1 h4;simp only[cg,DataW.iface.injEq] at Lz;refine⟨u,v,rfl,by rw[nC,Lz.1.1],d',?_⟩
    rw[Db,<- Lz.1.2,<- Lz.2]
   | [.nilIface],h4=>simp at h4
   | [],h4=>simp at h4
   | _::_::_,h4=>simp at h4
  obtain⟨u,v,rfl,hn,d2,Ie⟩:=key;have hu:u=U:=nC u hn;subst hu;have sy:W.cell? ⟨k,0,none⟩=some (.iface u v):=by
   have:=World.var?_cell h1 h3 0;simpa using this
  have hvo:=(ek k 0 (b_ _ (by simp[MemPlace.row]))).2 u v sy
  have hva:∃a,v=.pointer (some a):=by
   simp only[Value.okWide,hU,Cell.okWide] at hvo;cases fuel with
   | zero=>simp[DataW.trod] at Ie
   | succ fuel =>
    simp only[DataW.trod,hU] at Ie;cases v<;>simp[Cell.ok,hU] at hvo;rename_i oa;cases oa with
    | none=>simp[Value.cells] at Ie
    | some a=>exact⟨a,rfl⟩
  obtain⟨a,rfl⟩:=hva;refine⟨a,sy,?_⟩;cases fuel with
  | zero=>simp[DataW.trod] at Ie
  | succ fuel =>
   have ht3:DataW.trod (λ_=>()) P W 0 (λ_=>true) false (fuel+1) u [.pointer (some a)]=some (.ptr d2,p):=Ie;simp only[DataW.trod,hU] at ht3;obtain⟨z,GM,D1⟩:=m9.1 ht3;simp only[cg] at D1;rw[<- D1.2];exact AO _ (by simp only[MemPlace.row,mj,Ca];exact⟨0,he,rfl⟩)
theorem zfE{P:aQ}{U:aB}{W:aP}{l:List (String×DataW Unit)}(h:laidMet P l W)(nC:∀u,P.typeName? 3 u=some "*errors.errorString"->u=U) {e:aB} (hU:P.underlying U=some (.pointer e)) (he:0<P.cellsOf e):Ff U W ((l.filter (Tc P)).filterMap (λx=>P.globalNamed x.1)):=by
 obtain⟨ps,hv,rY,ek⟩:=h;refine⟨λk hk=>?_,λk hk k' o7 a ha GJ=>?_⟩
 ·obtain⟨x,o6,LA⟩:=List.mem_filterMap.1 hk;obtain⟨hx,hB⟩:=List.mem_filter.1 o6;obtain⟨g,t,cs,fuel,p,h1⟩:=Pt hv x hx;have:=h1.named;rw[this] at LA;cases LA;obtain⟨a,h2,h3⟩:=WE ek nC hU he h1 hB;exact⟨a,h2,(ek _ _ (h1.sub _ h3)).1⟩
 ·obtain⟨x,GB,LA⟩:=List.mem_filterMap.1 hk;obtain⟨hx,hB⟩:=List.mem_filter.1 GB;obtain⟨x',WH,Pv⟩:=List.mem_filterMap.1 o7;obtain⟨o6,GN⟩:=List.mem_filter.1 WH;obtain⟨g,t,cs,fuel,p,g',t',cs',JI,p',h1,HH,h2⟩:=zgW hv rY x hx x' o6;have e1:=h1.named;rw[e1] at LA;cases LA;have Hy:=HH.named;rw[Hy] at Pv;cases Pv;rcases h2 with h2|h2
  ·exact h2
  ·obtain⟨b,c1,c2⟩:=WE ek nC hU he h1 hB;obtain⟨b',lM,Vu⟩:=WE ek nC hU he HH GN;rw[ha] at c1;rw[GJ] at lM;cases c1;cases lM;exact absurd Vu (h2 _ c2)
end
section
open Go.ChangeShapes Go.WideShapes Go.ChangeAt Go.RowKit
def y5(P:aQ)(t:aB):Bool :=
 match P.underlying t with
 | some (.struct _)|some (.array _ _)=>true
 | _=>false
def v7(P:aQ)(e:aB)(cs:aD):V:=if y5 P e then .agg cs else cs.headD .dW
def NJ(P:aQ):Nat->List Field->Nat->Bool
 | off,[],n=>Nat.beq off n
 | off,f::fs,n=>Nat.beq f.offset off && NJ P (off+P.cellsOf f.type) fs n
def Td(P:aQ)(S:List aB)(t:aB):Bool :=
 match P.underlying t with
 | some .bool|some (.int _)|some .string=>Nat.beq (P.cellsOf t) 1
 | some (.slice e)=>Nat.beq (P.cellsOf t) 1 && S.any (Nat.beq e) && Nat.blt 0 (P.cellsOf e)
 | some (.struct fs)=>NJ P 0 fs.toList (P.cellsOf t) && fs.toList.all λf=>S.any (Nat.beq f.type)
 | some (.array n e)=>Nat.beq (n * P.cellsOf e) (P.cellsOf t) && S.any (Nat.beq e)
 | _=>false
def jk(P:aQ):Nat->aB->aD->Prop
 | 0,_,_=>False
 | n+1,t,xs =>
  match P.underlying t with
  | some .bool=>∃b,xs=[.bool b]
  | some (.int k)=>∃z,xs=[.int k z]/\(Lit.int k z).wf=true
  | some .string=>∃s,xs=[.str s]/\(∀b∈s,b<256)/\s.length<=maxLen
  | some (.slice e)=>xs=[.aG]\/∃ys,xs=[.sl (P.cellsOf e) ys .no]/\(ys.length<=maxLen/\ys.length * P.bytesOf e<=reachBytes)/\∀y∈ys,∃cs,jk P n e cs/\y=v7 P e cs
  | some (.struct fs)=>xs.length=P.cellsOf t/\∀f∈fs.toList,jk P n f.type ((xs.drop f.offset).take (P.cellsOf f.type))
  | some (.array m e)=>xs.length=P.cellsOf t/\∀i,i<m->jk P n e ((xs.drop (i * P.cellsOf e)).take (P.cellsOf e))
  | _=>False
def WJ(g:Gh)(x:V)(v:bt):Prop:=x.one=true/\aR g x v/\x.top=0/\∀sz ys e,x≠.sl sz ys (.yes e)
def RC(g:Gh):aD->dx->Prop
 | [],[]=>True
 | x::xs,v::vs=>WJ g x v/\RC g xs vs
 | _,_=>False
theorem RC.append{g:Gh}:∀{xs ys:aD}{vs us:dx},RC g xs vs->RC g ys us->RC g (xs++ys) (vs++us)
 | [],_,[],_,_,h=>h
 | _::_,_,_::_,_,h,k=>⟨h.1,RC.append h.2 k⟩
 | [],_,_::_,_,h,_=>h.elim
 | _::_,_,[],_,h,_=>h.elim
theorem RC.length{g:Gh}:∀{xs:aD}{vs:dx},RC g xs vs->xs.length=vs.length
 | [],[],_=>rfl
 | _::_,_::_,h=>by simp[RC.length h.2]
 | [],_::_,h=>h.elim
 | _::_,[],h=>h.elim
theorem RC.get{g:Gh}:∀{xs:aD}{vs:dx},RC g xs vs->∀(j:Nat)(x:V),xs[j]?=some x->∃v,vs[j]?=some v/\WJ g x v
 | [],[],_,j,x,hx=>by simp at hx
 | y::ys,u::us,h,0,x,hx=>by
  simp only[KG,br] at hx;subst hx;exact⟨u,rfl,h.1⟩
 | y::ys,u::us,h,j+1,x,hx=>RC.get h.2 j x (by simpa using hx)
 | [],_::_,h,_,_,_=>h.elim
 | _::_,[],h,_,_,_=>h.elim
theorem zh9{P:aQ}{e:aB}{cs:aD}{vs:dx}{g:Gh}(h:RC g cs vs)(hlen:y5 P e=false->cs.length=1):(v7 P e cs).cells=cs:=by
 unfold v7;split
 ·rfl
 ·rename_i ha;have:=hlen (by simpa using ha)
  match cs,this with
  | [x],_ =>
   obtain⟨v,_,hx⟩:=RC.get h 0 x rfl;have h1:=hx.1;cases x<;>first|rfl|(simp[V.one,Cc] at h1)
theorem WK{S:List aB}{e:aB}(h:S.any (Nat.beq e)=true):e∈S:=by
 obtain⟨x,hx,hb⟩:=List.any_eq_true.1 h;rw[eU hb];exact hx
theorem WL{α β:Type}{f:α->Option β}:∀{l:List α}{r:List β},l.mapM f=some r->r.length=l.length/\∀(i:Nat)(a:α),l[i]?=some a->∃b,r[i]?=some b/\f a=some b
 | [],r,h=>by
  simp at h;subst h;exact⟨rfl,λi a ha=>by simp at ha⟩
 | x::l,r,h=>by
  simp only[List.mapM_cons,Option.bind_eq_bind,eG,Option.pure_def,br] at h;obtain⟨b,hb,r',C_,rfl⟩:=h;obtain⟨h1,h2⟩:=WL C_;refine⟨by simp[h1],λi a ha=>?_⟩
  cases i with
  | zero =>
   simp only[KG,br] at ha;subst ha;exact⟨b,rfl,hb⟩
  | succ i=>exact h2 i a (by simpa using ha)
theorem zdu{W:aP}{base:Nat}{a:Addr}{n:Nat}{cs:dx}(h:W.cells? base a n=some cs):cs.length=n/\∀i,i<n->W.cell? (a.add i)=cs[i]?:=by
 unfold World.cells? at h;split at h<;>try (cases h;done)
 refine⟨?_,λi hi=>?_⟩
 ·have:=(WL h).1;simpa using this
 ·obtain⟨b,h1,h2⟩:=(WL h).2 i i (by simp[hi])
  rw[h1,h2]
theorem zgX(a:Addr)(hs:a.spot=none)(n:Nat):a.add n=⟨a.block,a.off+n,none⟩:=by
 obtain⟨b,o,s⟩:=a;subst hs;unfold Addr.add;split
 next h=>subst h;rfl
 ·rfl
theorem zls(s:ByteArray):bytes (s.data.toList.map UInt8.toNat)=s:=by
 unfold bytes;have:(s.data.toList.map UInt8.toNat).map UInt8.ofNat=s.data.toList:=by
  rw[List.map_map];exact(List.map_congr_left λb _=>by simp).trans (List.map_id _)
 rw[this]
theorem zdv{g:Gh}{W:aP}{P:aQ}{e:aB}{b o c:Nat}{f:Nat->aD}{v:Nat->dx}:∀(len:Nat),(∀i,i<len->(v7 P e (f i)).cells=f i/\RC g (f i) (v i)/\(f i).length=c/\∀r,r<c->W.cell? ⟨b,o+(i * c+r),none⟩=(v i)[r]?) ->
  (zI ((List.range len).map λi=>v7 P e (f i))).length=len * c/\∀j x,(zI ((List.range len).map λi=>v7 P e (f i)))[j]?=some x->∃u,W.cell? ⟨b,o+j,none⟩=some u/\WJ g x u
 | 0,_=>by simp[zI]
 | len+1,h=>by
  obtain⟨h1,h2⟩:=zdv len λi hi=>h i (by omega)
  obtain⟨k1,k2,k3,k4⟩:=h len (by omega)
  have e:zI ((List.range (len+1)).map λi=>v7 P e (f i))=zI ((List.range len).map λi=>v7 P e (f i))++f len:=by
   simp only[List.range_succ,List.map_append,aY,bp,zI,List.flatMap_append,DE,List.flatMap_nil,mT,k1]
  rw[e];refine⟨by rw[aU,h1,k3,Hr],λj x hx=>?_⟩
  by_cases hj:j<len * c
  ·rw[gb (by rw[h1];exact hj)] at hx
   exact h2 j x hx
  ·rw[fE (by rw[h1];omega),h1] at hx
   obtain⟨u,hu,hg⟩:=RC.get k2 _ x hx;have hr:j - len * c<c:=by
    have:=(c_.1 hx).1;omega
   refine⟨u,?_,hg⟩;rw[<- hu,<- k4 _ hr]
   congr 2
   omega
theorem pV:∀{xs:aD},(∀x∈xs,x.top=0)->aI xs=0
 | [],_=>rfl
 | x::xs,h=>by simp[aI,h x (eH ..),pV λy hy=>h y (dR _ hy)]
theorem zp7{g:Gh}{P:aQ}{n:Nat}{total:Nat}:∀(fs:List Field)(off:Nat)(cs:dx),NJ P off fs total=true->cs.length=total - off->off<=total ->
  (∀f∈fs,∃xs,jk P n f.type xs/\RC g xs ((cs.drop (f.offset - off)).take (P.cellsOf f.type))/\xs.length=P.cellsOf f.type) ->
  ∃ys,RC g ys cs/\ys.length=total - off/\∀f∈fs,off<=f.offset/\jk P n f.type ((ys.drop (f.offset - off)).take (P.cellsOf f.type))
 | [],off,cs,ht,hl,ho,_=>by
  have:=eU ht;have:cs=[]:=Nh.1 (by omega)
  subst this;exact⟨[],trivial,by simp;omega,λf hf=>by simp at hf⟩
 | f::fs,off,cs,ht,hl,ho,h=>by
  simp only[NJ,eo] at ht;have hf0:=eU ht.1;obtain⟨xs,x1,x2,x3⟩:=h f (eH ..);rw[hf0,Cb,mg] at x2;have Au:∀(fs:List Field)(o:Nat),NJ P o fs total=true->o<=total/\∀f∈fs,o<=f.offset:=by
   intro fs
   induction fs with
   | nil=>intro o ho;have:=eU ho;exact⟨by omega,λf hf=>by simp at hf⟩
   | cons k ks ih =>
    intro o ho;simp only[NJ,eo] at ho;have h1:=eU ho.1;obtain⟨i1,i2⟩:=ih _ ho.2;refine⟨by omega,λf hf=>?_⟩
    rcases dH.1 hf with rfl|hf
    ·omega
    ·have:=i2 f hf;omega
  obtain⟨g1,g2⟩:=Au fs _ ht.2
  obtain⟨ys,y1,y2,y3⟩:=zp7 (g:=g) (n:=n) fs (off+P.cellsOf f.type) (cs.drop (P.cellsOf f.type)) ht.2 (by simp;omega) g1 (λk hk=>by
   obtain⟨zs,z1,z2,z3⟩:=h k (dR _ hk);refine⟨zs,z1,?_,z3⟩;have:=g2 k hk;rw[List.drop_drop];rw[show P.cellsOf f.type+(k.offset - (off+P.cellsOf f.type))=k.offset - off by omega]
   exact z2)
  refine⟨xs++ys,?_,by simp[x3,y2];omega,λk hk=>?_⟩
  ·have:=RC.append x2 y1
   rwa [BH] at this
  ·rcases dH.1 hk with rfl|hk
   ·refine⟨by omega,?_⟩
    rw[hf0,Cb,mg,List.take_append_of_le_length (by omega),<- x3,DF]
    exact x1
   ·obtain⟨a1,a2⟩:=y3 k hk;refine⟨by omega,?_⟩
    rw[show k.offset - off=xs.length+(k.offset - (off+P.cellsOf f.type)) by omega,List.drop_append]
    rw[List.drop_eq_nil_of_le (by omega),bg]
    rw[show xs.length+(k.offset - (off+P.cellsOf f.type)) - xs.length=k.offset - (off+P.cellsOf f.type) by omega]
    exact a2
theorem zoP{g:Gh}{P:aQ}{n c:Nat}{e:aB}:∀(m:Nat)(cs:dx),cs.length=m * c->(∀i,i<m->∃xs,jk P n e xs/\RC g xs ((cs.drop (i * c)).take c)/\xs.length=c) ->
  ∃ys,RC g ys cs/\ys.length=m * c/\∀i,i<m->jk P n e ((ys.drop (i * c)).take c)
 | 0,cs,hl,_=>by
  have:cs=[]:=Nh.1 (by simpa using hl)
  subst this;exact⟨[],trivial,by simp,λi hi=>by omega⟩
 | m+1,cs,hl,h=>by
  have hm:∀i,i<m->i * c+c<=m * c:=λi hi=>by
   have:=KI c (show i+1<=m from hi)
   rwa [Hr] at this
  rw[Hr] at hl
  obtain⟨ys,y1,y2,y3⟩:=zoP (g:=g) (P:=P) (n:=n) (c:=c) (e:=e) m (cs.take (m * c)) (by rw[uf];omega) (λi hi=>by
   obtain⟨xs,x1,x2,x3⟩:=h i (by omega)
   refine⟨xs,x1,?_,x3⟩;rw[List.drop_take,List.take_take,Nat.min_eq_left (by have:=hm i hi;omega)]
   exact x2)
  obtain⟨xs,x1,x2,x3⟩:=h m (by omega)
  rw[p9 (by simp;omega)] at x2
  refine⟨ys++xs,?_,by rw[aU,y2,x3,Hr],λi hi=>?_⟩
  ·have:=RC.append y1 x2
   rwa [BH] at this
  ·by_cases he:i=m
   ·subst he;rw[<- y2,List.drop_left,<- x3,DF];exact x1
   ·have tv:i<m:=by omega
    have:=hm i tv;rw[List.drop_append_of_le_length (by omega),List.take_append_of_le_length (by simp;omega)]
    exact y3 i tv
theorem yE{H:Type}{P:aQ}{e:aB}{d:DataW H}:∀{l:List (DataW H)},d∈l->∀w∈d.weights P e,w∈DataW.weightsAll P e l
 | x::l,h,w,hw=>by
  simp only[DataW.weightsAll,rK];rcases dH.1 h with rfl|h
  ·exact .inl hw
  ·exact .inr (yE h w hw)
theorem xQ{H:Type}{P:aQ}{t:aB}{d:DataW H}:∀{i:Nat}{ts:List aB}{l:List (DataW H)},ts[i]?=some t->l[i]?=some d->∀w∈d.weights P t,w∈DataW.weightsEach P ts l
 | 0,u::ts,x::l,h1,h2,w,hw=>by
  simp only[KG,br] at h1 h2;subst h1 h2;simp only[DataW.weightsEach,rK];exact .inl hw
 | i+1,u::ts,x::l,h1,h2,w,hw=>by
  simp only[DataW.weightsEach,rK];exact .inr (xQ (i:=i) (by simpa using h1) (by simpa using h2) w hw)
theorem zgY{H:Type}{enc:aB×bt->H}{P:aQ}{W:aP}{S:List aB}(hS:S.all (Td P S)=true):∀(n:Nat)(t:aB)(cs:dx)(x:DataW H×List MemPlace),t∈S->DataW.trod enc P W 0 (λ_=>true) true n t cs=some x->(∀w∈x.1.weights P t,w<=reachBytes) ->
  ∃xs,jk P n t xs/\RC (xC W) xs cs/\xs.length=P.cellsOf t
 | 0,_,_,_,_,h,_=>by simp[DataW.trod] at h
 | n+1,t,cs,x,ht,h,tc=>by
  have ih:=zgY (enc:=enc) (W:=W) hS n;have hc:=B_.1 hS t ht;unfold Td at hc;unfold jk;cases hu:P.underlying t with
  | none=>rw[hu] at hc;cases hc
  | some d =>
   rw[hu] at hc;cases d<;>simp only[fP] at hc
   case bool =>
    have e1:=eU hc;simp only[DataW.trod,hu] at h
    match cs,h with
    | [.bool b],h=>exact⟨[.bool b],⟨b,rfl⟩,⟨⟨rfl,.bool b,rfl,λ_ _ _ e=>by cases e⟩,trivial⟩,e1.symm⟩
   case int k =>
    have e1:=eU hc;simp only[DataW.trod,hu] at h
    match cs,h with
    | [.int k' z],h =>
     simp only at h;split at h<;>try (cases h;done)
     rename_i hk;obtain⟨rfl,hw⟩:=hk;exact⟨[.int k' z],⟨z,rfl,hw⟩,⟨⟨rfl,.int k' z,rfl,λ_ _ _ e=>by cases e⟩,trivial⟩,e1.symm⟩
   case string =>
    have e1:=eU hc;obtain⟨s,rfl,_,fu⟩:=DataW.trod_string hu h;have hb:∀b∈s.data.toList.map UInt8.toNat,b<256:=λb hb=>by
     obtain⟨c,_,rfl⟩:=mj.1 hb;exact c.toNat_lt
    refine⟨[.str (s.data.toList.map UInt8.toNat)],⟨_,rfl,hb,by simpa using fu⟩,⟨⟨rfl,?_,rfl,λ_ _ _ e=>by cases e⟩,trivial⟩,e1.symm⟩
    have:=aR.str (g:=xC W) hb
    rwa [zls] at this
   case slice e =>
    simp only[eo] at hc;have e1:=eU hc.1.1;have he:=WK hc.1.2;have rP:0<P.cellsOf e:=by
     have:=hc.2;exact uO (Hq 0) (rJ this)
    rcases DataW.trod_slice hu h with⟨rfl,_⟩|⟨a,len,cap,elems,rest,m,hm,rfl,Pw,_,AT,pQ,OQ,dy,_,_⟩
    ·exact⟨[.aG],.inl rfl,⟨⟨rfl,.aG,rfl,λ_ _ _ e=>by cases e⟩,trivial⟩,e1.symm⟩
    ·cases hm;have Ig:∀w∈DataW.weights P t (.slice (elems.map (·.1)) (rest.map (·.1))),w<=reachBytes:=by rw[Pw] at tc;exact tc
     simp only[DataW.weights,hu] at Ig;have LC:len * P.bytesOf e<=reachBytes:=by
      refine cP (KI _ ?_) (Ig _ (eH ..));simp[OQ]
     have each:∀i,∃(f:aD)(v:dx),i<len->jk P n e f/\RC (xC W) f v/\f.length=P.cellsOf e/\W.cells? 0 (a.add (i * P.cellsOf e)) (P.cellsOf e)=some v:=by
      intro i
      by_cases hi:i<len
      ·have h1:=dy i hi;have h2:∃y,elems[i]?=some y:=⟨elems[i]'(by omega),by simp[OQ,hi]⟩
       obtain⟨y,hy⟩:=h2;rw[hy] at h1;obtain⟨v,hv,Ie⟩:=eG.1 h1;obtain⟨xs,x1,x2,x3⟩:=ih e v y he Ie λw hw=>Ig w (dR _ (AO _ (yE (Hg (f:=(·.1)) (m_ hy)) w hw)));exact⟨xs,v,λ_=>⟨x1,x2,x3,hv⟩⟩
      ·exact⟨[],[],λh=>absurd h hi⟩
     have hf:∃f:Nat->aD,∃v:Nat->dx,∀i,i<len->jk P n e (f i)/\RC (xC W) (f i) (v i)/\(f i).length=P.cellsOf e/\W.cells? 0 (a.add (i * P.cellsOf e)) (P.cellsOf e)=some (v i) :=
      ⟨λi=>Classical.choose (each i),λi=>Classical.choose (Classical.choose_spec (each i)),λi=>Classical.choose_spec (Classical.choose_spec (each i))⟩
     obtain⟨f,v,Eo⟩:=hf;have o9:y5 P e=false->P.cellsOf e=1:=λha=>by
      have uW:=B_.1 hS e he;unfold Td at uW;unfold y5 at ha;split at uW<;>simp_all
     have dg:∀i,i<len->(v7 P e (f i)).cells=f i:=λi hi=>zh9 (Eo i hi).2.1 λha=>(Eo i hi).2.2.1.trans (o9 ha);have JJ:0<len->a.spot=none:=λhl=>by
      obtain⟨_,_,_,hv⟩:=Eo 0 hl;obtain⟨l1,l2⟩:=zdu hv;have h0:=l2 0 rP;have h3:∃u,(v 0)[0]?=some u:=⟨(v 0)[0]'(by omega),by simp[l1,rP]⟩
      obtain⟨u,Dj⟩:=h3;rw[Dj] at h0;have:(a.add (0 * P.cellsOf e)).add 0=a:=by simp[Addr.add]
      rw[this] at h0;unfold World.cell? at h0;split at h0<;>try (cases h0;done)
      split at h0<;>try (cases h0;done)
      rename_i hs;simpa using hs
     obtain⟨m5,Fg⟩:=zdv (g:=xC W) (W:=W) (P:=P) (e:=e) (b:=a.block) (o:=a.off) (c:=P.cellsOf e) (f:=f) (v:=v) len λi hi=>by
      obtain⟨a1,a2,a3,a4⟩:=Eo i hi;refine⟨dg i hi,a2,a3,λr hr=>?_⟩;obtain⟨l1,l2⟩:=zdu a4;rw[<- l2 r hr,zgX a (JJ (by omega)) (i * P.cellsOf e),zgX _ rfl r]
      simp[pL]
     refine⟨[.sl (P.cellsOf e) ((List.range len).map λi=>v7 P e (f i)) .no],.inr ⟨_,rfl,⟨by simp;omega,by simpa using LC⟩,λy hy=>?_⟩,⟨⟨rfl,?_,?_,λ_ _ _ e=>by cases e⟩,trivial⟩,e1.symm⟩
     ·obtain⟨i,hi,rfl⟩:=mj.1 hy;exact⟨f i,(Eo i (Ca.1 hi)).1,rfl⟩
     ·have hl:((List.range len).map λi=>v7 P e (f i)).length=len:=by simp
      have:=aR.sl (g:=xC W) (sz:=P.cellsOf e) (xs:=(List.range len).map λi=>v7 P e (f i)) (ow:=.no) (a:=some a) (cap:=cap) (c:=a.block) (o:=a.off) (λj=>(W.cell? ⟨a.block,a.off+j,none⟩).getD undef)
       (λx hx=>by
        obtain⟨i,hi,rfl⟩:=mj.1 hx;rw[dg i (Ca.1 hi)]
        exact(Eo i (Ca.1 hi)).2.2.1)
       (by rw[hl];exact AT)
       (λcI=>by
        have:0<len:=by
         rcases Jl len with h0|h0
         ·subst h0;simp at cI
         ·exact h0
        have hs:=JJ this;obtain⟨ab,ao,asp⟩:=a;simp only at hs;subst hs
        rfl)
       (λj x hx=>(Fg j x hx).elim λu hu=>hu.2.1)
       (λj x hx=>by
        obtain⟨u,EX,Nq⟩:=Fg j x hx;show W.cell? _=_
        rw[EX];rfl)
       (λj x hx=>by
        obtain⟨u,EX,Nq⟩:=Fg j x hx;rw[EX]
        exact Nq.2.1)
      rwa [hl] at this
     ·simp only[V.top];refine pV λx hx=>?_;obtain⟨i,hi,rfl⟩:=mj.1 hx;have tv:=Ca.1 hi;unfold v7;split
      ·simp only[V.top];refine pV λz hz=>?_;obtain⟨j,hj⟩:=List.mem_iff_getElem?.1 hz;exact(RC.get (Eo i tv).2.1 j z hj).elim λu hu=>hu.2.2.2.1
      ·rename_i ha;have so:=(Eo i tv).2.2.1.trans (o9 (by simpa using ha))
       match WM:f i,so with
       | [z],_ =>
        have:=RC.get (Eo i tv).2.1 0 z (by rw[WM];rfl)
        exact this.elim λu hu=>hu.2.2.2.1
   case struct fs =>
    simp only[eo] at hc;obtain⟨xs,m,hm,Pw,hlen,_,dy⟩:=DataW.trod_struct hu h;cases hm
    obtain⟨ys,y1,y2,y3⟩:=zp7 (g:=xC W) (n:=n) (total:=P.cellsOf t) fs.toList 0 cs hc.1 (by simpa using hlen) (eg _) (λf hf=>by
     obtain⟨i,hi⟩:=List.mem_iff_getElem?.1 hf;have h1:=dy i f (by simpa using hi)
     have hfS:=WK (B_.1 hc.2 f hf)
     have h2:∃y,xs[i]?=some y:=⟨xs[i]'(by
      have:=(c_.1 hi).1;simp at this
      omega),by simp⟩
     obtain⟨y,hy⟩:=h2;rw[hy] at h1;have Ig:∀w∈DataW.weights P t (.agg (xs.map (·.1))),w<=reachBytes:=by rw[Pw] at tc;exact tc
     simp only[DataW.weights,hu] at Ig
     simpa using ih f.type _ y hfS h1 λw hw=>Ig w (xQ (i:=i) (t:=f.type) (d:=y.1) (by simp at hi ⊢;simp[hi]) (by simp[hy]) w hw))
    refine⟨ys,⟨by simpa using y2,λf hf=>by simpa using (y3 f hf).2⟩,y1,by simpa using y2⟩
   case array m e =>
    simp only[eo] at hc;have hmc:=eU hc.1;have he:=WK hc.2;obtain⟨xs,k,hk,Pw,hlen,JK,dy⟩:=DataW.trod_array hu h;cases hk
    obtain⟨ys,y1,y2,y3⟩:=zoP (g:=xC W) (n:=n) (P:=P) (e:=e) (c:=P.cellsOf e) m cs (by omega) (λi hi=>by
     have h1:=dy i hi;have h2:∃y,xs[i]?=some y:=⟨xs[i]'(by omega),by simp[JK,hi]⟩
     obtain⟨y,hy⟩:=h2;rw[hy] at h1;have Ig:∀w∈DataW.weights P t (.agg (xs.map (·.1))),w<=reachBytes:=by rw[Pw] at tc;exact tc
     simp only[DataW.weights,hu] at Ig
     exact ih e _ y he h1 λw hw=>Ig w (yE (Hg (f:=(·.1)) (m_ hy)) w hw))
    exact⟨ys,⟨by omega,y3⟩,y1,by omega⟩
end
theorem zcT{P:aQ}{f:FuncId}{fn:Func}{e:dN->Sem bt}{args:dN}{w w':aP}{v:bt}(hf:P.funcs[f]?=some fn)(nC:(fn.name == "runtime.NumGoroutine")=false) (hb:fn.body=none) (hn:Extern.findNext fn=none) (he:Extern.find fn=some e)
  (hr:(e args).run P w=.ok v w'):(callFunc f args).run P w=.ok (.value v) w':=by
 unfold callFunc;have cI:¬fn.name= "runtime.NumGoroutine":=by simpa using nC
 simp[hf,cI,hb,hn,he,hr]
theorem idx_eq:∀(s:bN)(c:Nat),(∀b∈s,b<256)->c<256->Lib.indexByte (s.map UInt8.ofNat) c.toUInt8=(match s.findIdx? (λ(b:Nat)=>Nat.beq b c) with|some i=>(i:Int)|none=>-1)
 | [],c,_,_=>rfl
 | b::s,c,hs,hc=>by
  have ih:=idx_eq s c (λx hx=>hs x (dR _ hx)) hc;have hb:=hs b (eH ..);simp only[aY,Lib.indexByte,List.findIdx?_cons];have e:(UInt8.ofNat b == c.toUInt8)=Nat.beq b c:=by
   cases h:Nat.beq b c with
   | true =>
    have:=eU h;subst this;simp
   | false =>
    have:=Nat.ne_of_beq_eq_false h;rw[beq_eq_false_iff_ne];intro he;have:=congrArg UInt8.toNat he;simp at this;omega
  rw[e,ih];cases Nat.beq b c with
  | true=>rfl
  | false =>
   simp only[fP,bw];cases WM:s.findIdx? (λ(b:Nat)=>Nat.beq b c) with
   | none=>simp
   | some i =>
    simp only[aS];have:((i:Int) == -1)=false:=by rw[beq_eq_false_iff_ne];omega
    rw[this];simp
theorem zkg{P:aQ}{k:FuncId}{fk:Func}(Px:(List.range P.funcs.size).all (λf=>match P.funcs[f]? with|some fn=>fn.name != "internal/bytealg.IndexByteString" || f == k|none=>true)=true)
  (JL:P.funcs[k]?=some fk) (nC:(fk.name == "runtime.NumGoroutine")=false) (hn:Extern.findNext fk=none) (he:Extern.find fk=some Extern.BytealgIndexByte.indexByte):w8 P:=by
 intro f fn args v hf hb hp g n bx w ha;unfold Vg at hp;split at hp<;>try (cases hp;done)
 rename_i nm l s c WG;split at hp<;>try (cases hp;done)
 rename_i hc;simp only[br] at hp;have bR:f<P.funcs.size:=(tj.1 hf).1;have h1:=B_.1 Px f (Ca.2 bR);rw[hf] at h1;have WN:f=k:=by
  simp only[WG,bne_self_eq_false,uQ] at h1;simpa using h1
 subst WN;rw[hf] at JL;cases JL;obtain⟨al,ar,_,_⟩:=ha
 match bx,al,ar with
 | ⟨[c0,c1]⟩,_,ar =>
  have r0:=ar 0 _ c0 rfl rfl;have r1:=ar 1 _ c1 rfl rfl;cases r1;have hs:∀b∈s,b<256:=by cases r0;assumption
  cases r0;refine⟨_,zcT hf nC hb hn he (Lib.run_indexByteString (bytes s) c w),?_,by rw[<- hp];rfl,λ_ _=>by rw[<- hp];trivial⟩
  have e1:(bytes s).data.toList=s.map UInt8.ofNat:=by simp[bytes]
  rw[e1,idx_eq s c.toNat hs (by omega),<- hp]
  exact .int _ _
 | ⟨[]⟩,al,_=>simp at al
 | ⟨[_]⟩,al,_=>simp at al
 | ⟨_::_::_::_⟩,al,_=>simp at al
def zqJ(P:aQ):Bool:=P.funcs.toList.all λfn=>!(fn.name == "runtime.NumGoroutine")
theorem zlt{P:aQ}(h:zqJ P=true):yA P:=λf fn hf=>by
 have:=B_.1 h fn (by
  have:=Array.mem_of_getElem? hf
  simpa using this)
 simpa using this
section
open Go.ChangeShapes Go.WideShapes Go.ChangeAt Go.RowKit
end
section
def Gh.bare(g:Gh):Gh:={ g with own:=λ_=>none }
def Gh.over(n:Nat)(g g':Gh):Gh :=
 {M:=λc o=>if c<n then g.M c o else g'.M c o,bP:=g.bP,obj:=g.obj,own:=λc=>if c<n then g.own c else g'.own c,lk:=g.lk,eZ:=g.eZ }
theorem zbz{w:aP}{c o:Nat}{v:bt}(h:w.cell? ⟨c,o,none⟩=some v):c<w.heap.size:=by
 rcases eX c w.heap.size with hc|hc
 ·exact hc
 ·have:w.heap[c]?=none:=Array.getElem?_eq_none hc;simp[World.cell?,this] at h
variable{P:aQ}{gl:Gl}{d:Nat}{H:Hp}{g g':Gh}{w w':aP}
theorem WO{bs:List aV}(hw:q_ g bs w):q_ g.bare [] w :=
 {mem:=hw.mem,lt:=λb h=>by simp at h,inj:=λb _ h=>by simp at h,apart:=λb h=>by simp at h,eV:=(λc l h=>by cases h),eD:=λb h=>by simp at h,ok:=λb x h=>by simp at h,aI:=λb x h=>by simp at h,laid:=λc hc=>⟨(hw.laid c hc).1,rfl,λb hb=>by simp at hb⟩ }
theorem nN:Gh.Le 0 g g.bare:=⟨λ_ _ _ h=>h,λb h=>by omega,rfl,λ_ _ _ h=>by omega⟩
theorem kR{dd:Nat}(hf:Fr dd [] g.bare w g' w'){c:Nat}(hc:c<w.heap.size):w'.heap[c]?=w.heap[c]?/\g'.own c=none/\∀o,g'.M c o=g.M c o:=by
 have hp:rM dd ([]:List aV).length g.bare w c:=⟨hc,λb hb=>by simp at hb,.inl rfl⟩
 exact⟨hf.heap c hp,hf.own c hp,hf.M c hp⟩
theorem zlu{dd:Nat}(hf:Fr dd [] g.bare w g' w'):Gh.Le 0 g' (Gh.over w.heap.size g g'):=by
 refine⟨λc o v h=>?_,λb h=>by omega,hf.le.obj.symm,λ_ _ _ h=>by omega⟩
 simp only[Gh.over];split
 next hc=>rw[<- (kR hf hc).2.2 o];exact h
 ·exact h
theorem zeJ{n dd:Nat}{bs:List aV}(hw:q_ g bs w)(hf:Fr dd [] g.bare w g' w'):ir d none none n g w (Gh.over w.heap.size g g') w':=by
 refine⟨⟨λc o v h=>?_,λ_ _=>rfl,rfl,λ_ _ _ _ h=>h⟩,λc hc _ _=>(kR hf hc).1,λc hc _=>by simp[Gh.over,hc],λc hc _ o=>by simp[Gh.over,hc],hf.size,λ_ _ _=>rfl,λ_ h=>(by cases h),λ_ h=>(by cases h),λ_ _ _ _=>rfl,hf.os,hf.tape,hf.output⟩
 have:=zbz (hw.mem c o v h);simp[Gh.over,this,h]
theorem zia{dd:Nat}(hw:q_ g H.az w){Ax:List aV}(tJ:q_ g' Ax w')(hf:Fr dd [] g.bare w g' w'):mw d H g w H (Gh.over w.heap.size g g') w' where
 cY :=
  {mem:=λc o v h=>by
    simp only[Gh.over] at h;split at h
    next hc=>have h0:=hw.mem c o v h;simp only[World.cell?,(kR hf hc).1] at h0 ⊢;exact h0
    ·exact tJ.mem c o v h
   lt:=λb h=>uO (hw.lt b h) hf.size
   inj:=hw.inj
   apart:=λb h o=>by simp only[Gh.over,hw.lt b h,aF];exact hw.apart b h o
   eV:=λc l h=>by
    simp only[Gh.over] at h;split at h
    ·exact uO (hw.eV c l h) hf.size
    ·exact tJ.eV c l h
   eD:=λb h=>by simp only[Gh.over,hw.lt b h,aF];exact hw.eD b h
   ok:=λb x hx=>by
    have bR:b<H.az.length:=(c_.1 hx).1;exact fY.same (d:=d) (zeJ hw hf) (by simp) bR (hw.lt b bR) (hw.eD b bR) (λ_ h=>by cases h) (λc h1 h2=>by omega) (hw.aI b x hx) (hw.ok b x hx)
   aI:=hw.aI
   laid:=λc hc=>by
    obtain⟨⟨cs,t,h1⟩,h2,h3⟩:=hw.laid c hc;have bR:=(tj.1 h1).1
    exact⟨⟨cs,t,by rw[(kR hf bR).1];exact h1⟩,by simp only[Gh.over,bR,aF];exact h2,h3⟩ }
 fr:=⟨(zeJ (d:=d) (n:=H.az.length) hw hf).le,λc hc=>(kR hf hc.1).1,λc hc=>by simp[Gh.over,hc.1],λc hc o=>by simp[Gh.over,hc.1],hf.size,λ_ _ _=>rfl,hf.os,hf.tape,hf.output⟩
 len:=dI _
 d_:=λb h1 h2=>by omega
 bG:=λb x hx=>.inr (.inr ⟨x,hx,dI _⟩)
 E8:=λ_ h=>h
 lV:=λ_ _ h=>h
theorem zlv{dd:Nat}(hw:q_ g H.az w)(hf:Fr dd [] g.bare w g' w'){n:Nat}{l:Loc}{v:V}{cv:bt}(h:cM g' n w' l v cv):cM (Gh.over w.heap.size g g') H.az.length w' l v cv:=by
 unfold cM at *;split
 ·rename_i sz xs e;have h':fK g' n w' l e sz xs.length cv:=h;obtain⟨vs,h1,h2⟩:=h';refine⟨vs,h1,λc hc=>?_⟩;have Au:¬c<w.heap.size:=λbR=>by
   have:=(h2 c hc).1;rw[(kR hf bR).2.1] at this;cases this
  refine⟨by simp only[Gh.over,Au,bw];exact(h2 c hc).1,(h2 c hc).2.1.eq λo=>by simp only[Gh.over,Au,bw],λb hb e=>?_⟩
  have:=hw.lt b hb;rw[show(Gh.over w.heap.size g g').bP b=g.bP b from rfl] at e;omega
 ·trivial
theorem Py(oG:P.follows .mixedOrders=true)(fN:yA P)(dP:w8 P)(DX:nW P gl){n:Nat}{f:FuncId}{args:aD}{v:V}{H':Hp}
  (hc:zj P gl n f args ⟨[],[]⟩=some (.ret v,H')) (ht:aI args=0) (hv:v.top=0) {bx:dN} {l:Loc} (h1:iu P gl g) (h2:q_ g H.az w) (h3:eP g H.az.length args bx) :
  Calls P f bx w (fS d H g w l (.ret v) H):=by
 refine Calls.mono (yR oG fN dP DX n f args ⟨[],[]⟩ _ _ hc g.bare w bx l (h1.le nN) (WO h2) ⟨h3.len,λj x c hx iV=>(h3.rel j x c hx iV).le nN (cP (zn (zv hx)) (by omega)),by simp[ht],h3.no⟩) λe w' he=>?_
 cases e with
 | returned cv =>
  obtain⟨v',g',e1,e2,e3,e4,_⟩:=he;cases e1;exact⟨v,_,rfl,zia h2 e2.cY e2.fr,e3.le (zlu e2.fr) (by omega),zlv h2 e2.fr e4,by omega⟩
 | panicked chain =>
  obtain⟨v',cv,g',e1,_⟩:=he;cases e1
 | outgrown=>exact he.elim
abbrev dB:=List (FuncId×aD×V)
def cR:dB->FuncId->aD->bX
 | [],_,_=>none
 | (f,xs,v)::r,f',ys=>match Nat.beq f' f with
  | true=>match eJ ys xs with
   | true=>some v
   | false=>cR r f' ys
  | false=>cR r f' ys
def qj(P:aQ)(g0:Nat->Nat->bX)(l:dB):Prop:=nW P { g:=g0,hk:=cR l }
theorem xj{g0:Nat->Nat->bX}:qj P g0 []:=⟨λf args v h=>(by cases h),λn f args H out H' h=>(by cases h),λ_ _ _ _ h=>(by cases h)⟩
theorem vD{a b:aD}(h:eJ a b=true):a=b:=by
 have:V.same (.bq a) (.bq b)=true:=h;have:=V.iO this;cases this;rfl
structure LD where
 n:Nat
 f:FuncId
 args:aD
 H:Hp
 out:Out
 H':Hp
def zph(a b:Hp):Bool:=l9 a.bG b.bG && mM a.az b.az
def A6:List LD->Nat->FuncId->aD->Hp->Option (Out×Hp)
 | [],_,_,_,_=>none
 | m::r,n,f,args,H=>match Nat.beq f m.f with
  | true=>match Nat.ble m.n (n+1) && (eJ args m.args && zph H m.H) with
   | true=>some (m.out,m.H')
   | false=>A6 r n f args H
  | false=>A6 r n f args H
def zi7(P:aQ)(g0:Nat->Nat->bX)(l:dB)(ms:List LD):Prop:=nW P { g:=g0,hk:=cR l,fG:=A6 ms }
theorem zib(oG:P.follows .mixedOrders=true)(fN:yA P)(dP:w8 P){g0:Nat->Nat->bX}{l:dB}{ms:List LD}(hl:zi7 P g0 l ms){n:Nat}{f:FuncId}{args:aD}{v:V}{H':Hp}
  {uq:aB->Bool} (hc:zj P { g:=g0,hk:=cR l,uq:=uq,fG:=A6 ms } n f args ⟨[],[]⟩=some (.ret v,H')) (ht:aI args=0) (hv:v.top=0) (hit:Wg P uq:=by intro _ _ _ _ h;cases h):zi7 P g0 ((f,args,v)::l) ms:=by
 refine⟨λf' A7 v' h d H g w bx lc h1 h2 h3=>?_,hl.heap,hl.it⟩;simp only[cR] at h;cases hb:Nat.beq f' f with
 | false=>rw[hb] at h;exact hl.pure f' A7 v' h d H g w bx lc h1 h2 h3
 | true =>
  rw[hb] at h;cases hs:eJ A7 args with
  | false=>rw[hs] at h;exact hl.pure f' A7 v' h d H g w bx lc h1 h2 h3
  | true =>
   rw[hs] at h;cases h;have:=eU hb;subst this;have:=vD hs;subst this;exact Py (gl:={ g:=g0,hk:=cR l,uq:=uq,fG:=A6 ms }) oG fN dP ⟨hl.pure,hl.heap,hit⟩ hc ht hv h1 h2 h3
theorem mw.mono{d d':Nat}(h:d<=d'){H H':Hp}{g g':Gh}{w w':aP}(hA:mw d H g w H' g' w'):mw d' H g w H' g' w':={ hA with fr:=hA.fr.mono h }
theorem fS.mono{d d':Nat}(h:d<=d'){H H':Hp}{g:Gh}{w w':aP}{l:Loc}{out:Out}{e:Ending}(hp:fS d H g w l out H' e w'):fS d' H g w l out H' e w':=by
 cases e with
 | returned cv =>
  obtain⟨v,g',h1,h2,h3,h4,h5⟩:=hp;exact⟨v,g',h1,h2.mono h,h3,h4,h5⟩
 | panicked chain =>
  obtain⟨v,cv,g',h1,h2,h3,h4⟩:=hp;exact⟨v,cv,g',h1,h2,h3.mono h,h4⟩
 | outgrown=>exact hp.elim
theorem yF(oG:P.follows .mixedOrders=true)(fN:yA P)(dP:w8 P){g0:Nat->Nat->bX}{l:dB}(hl:qj P g0 l){n:Nat}{f:FuncId}{args:aD}{v:V}{H':Hp}
  {uq:aB->Bool} (hc:zj P { g:=g0,hk:=cR l,uq:=uq } n f args ⟨[],[]⟩=some (.ret v,H')) (ht:aI args=0) (hv:v.top=0) (hit:Wg P uq:=by intro _ _ _ _ h;cases h):qj P g0 ((f,args,v)::l) :=
 zib (ms:=[]) oG fN dP hl hc ht hv hit
end
section
def Gh.tK(n:Nat)(g:Gh)(w':aP):Gh :=
 {M:=λc o=>if c<n then g.M c o else w'.cell? ⟨c,o,none⟩,bP:=g.bP,obj:=g.obj,own:=λc=>if c<n then g.own c else none,lk:=g.lk,eZ:=g.eZ }
variable{P:aQ}{gl:Gl}{d:Nat}{H:Hp}{g g':Gh}{w w':aP}
theorem WQ{dd:Nat}{Ax:List aV}(tJ:q_ g' Ax w')(hf:Fr dd [] g.bare w g' w'):Gh.Le 0 g' (Gh.tK w.heap.size g w'):=by
 refine⟨λc o v h=>?_,λb h=>by omega,hf.le.obj.symm,λ_ _ _ h=>by omega⟩
 simp only[Gh.tK];split
 next hc=>rw[<- (kR hf hc).2.2 o];exact h
 ·exact tJ.mem c o v h
theorem zgZ{n dd:Nat}{bs:List aV}(hw:q_ g bs w)(hf:Fr dd [] g.bare w g' w'):ir d none none n g w (Gh.tK w.heap.size g w') w':=by
 refine⟨⟨λc o v h=>?_,λ_ _=>rfl,rfl,λ_ _ _ _ h=>h⟩,λc hc _ _=>(kR hf hc).1,λc hc _=>by simp[Gh.tK,hc],λc hc _ o=>by simp[Gh.tK,hc],hf.size,λ_ _ _=>rfl,λ_ h=>(by cases h),λ_ h=>(by cases h),λ_ _ _ _=>rfl,hf.os,hf.tape,hf.output⟩
 have:=zbz (hw.mem c o v h);simp[Gh.tK,this,h]
theorem zeK{dd:Nat}(hw:q_ g H.az w){Ax:List aV}(_hw':q_ g' Ax w')(hf:Fr dd [] g.bare w g' w'):mw d H g w H (Gh.tK w.heap.size g w') w' where
 cY :=
  {mem:=λc o v h=>by
    simp only[Gh.tK] at h;split at h
    next hc=>have h0:=hw.mem c o v h;simp only[World.cell?,(kR hf hc).1] at h0 ⊢;exact h0
    ·exact h
   lt:=λb h=>uO (hw.lt b h) hf.size
   inj:=hw.inj
   apart:=λb h o=>by simp only[Gh.tK,hw.lt b h,aF];exact hw.apart b h o
   eV:=λc l h=>by
    simp only[Gh.tK] at h;split at h
    ·exact uO (hw.eV c l h) hf.size
    ·cases h
   eD:=λb h=>by simp only[Gh.tK,hw.lt b h,aF];exact hw.eD b h
   ok:=λb x hx=>by
    have bR:b<H.az.length:=(c_.1 hx).1;exact fY.same (d:=d) (zgZ hw hf) (by simp) bR (hw.lt b bR) (hw.eD b bR) (λ_ h=>by cases h) (λc h1 h2=>by omega) (hw.aI b x hx) (hw.ok b x hx)
   aI:=hw.aI
   laid:=λc hc=>by
    obtain⟨⟨cs,t,h1⟩,h2,h3⟩:=hw.laid c hc;have bR:=(tj.1 h1).1
    exact⟨⟨cs,t,by rw[(kR hf bR).1];exact h1⟩,by simp only[Gh.tK,bR,aF];exact h2,h3⟩ }
 fr:=⟨(zgZ (d:=d) (n:=H.az.length) hw hf).le,λc hc=>(kR hf hc.1).1,λc hc=>by simp[Gh.tK,hc.1],λc hc o=>by simp[Gh.tK,hc.1],hf.size,λ_ _ _=>rfl,hf.os,hf.tape,hf.output⟩
 len:=dI _
 d_:=λb h1 h2=>by omega
 bG:=λb x hx=>.inr (.inr ⟨x,hx,dI _⟩)
 E8:=λ_ h=>h
 lV:=λ_ _ h=>h
inductive mC(H:Hp):V->V->Prop where
 |same {v:V}:v.top=0->mC H v v
 |sr {b off len cap:Nat} {cs:aD} {t:aB}:H.az[b]?=some (.cells cs t)->aI cs=0->off+len<=cs.length->mC H (.sr b off len cap) (.sl 1 ((cs.drop off).take len) .no)
 |ul {b u len:Nat} {cs:aD} {e:aB}:H.az[b]?=some (.ul u 1 cs e)->aI cs=0->mC H (.dD b u len) (.sl 1 cs .no)
 |sl {xs ys:aD} {o:ug}:xs.length=ys.length->(∀(j:Nat)(x:V),xs[j]?=some x->x.cells=[x]/\x.one=true)->(∀(j:Nat)(y:V),ys[j]?=some y->y.cells=[y]/\y.one=true)->(∀(j:Nat)(x y:V),xs[j]?=some x->ys[j]?=some y->mC H x y)->mC H (.sl 1 xs o) (.sl 1 ys .no)
 |agg {xs ys:aD}:xs.length=ys.length->(∀(j:Nat)(y:V),ys[j]?=some y->y.one=true)->(∀(j:Nat)(x y:V),xs[j]?=some x->ys[j]?=some y->mC H x y)->mC H (.agg xs) (.agg ys)
 |bq {xs ys:aD}:xs.length=ys.length->(∀(j:Nat)(x y:V),xs[j]?=some x->ys[j]?=some y->mC H x y)->mC H (.bq xs) (.bq ys)
theorem mD:∀{xs:aD},(∀(j:Nat)(x:V),xs[j]?=some x->x.cells=[x])->zI xs=xs
 | [],_=>rfl
 | x::xs,h=>by
  have h0:=h 0 x rfl;have ih:=mD (xs:=xs) λj y hy=>h (j+1) y hy;simp only[zI,DE] at ih ⊢;rw[h0,ih];rfl
theorem Te{x:V}(h:x.one=true):x.cells=[x]:=by
 cases x<;>first|rfl|(simp[V.one,Cc] at h)
theorem mC.top{v v':V}(h:mC H v v'):v'.top=0:=by
 have hz:∀{l:aD},(∀y∈l,y.top=0)->aI l=0:=λ{l} hl=>Nat.le_zero.1 (qL λy hy=>by rw[hl y hy];exact dI _)
 induction h with
 | same h=>exact h
 | sr hb hc hl =>
  simp only[V.top];refine hz λy hy=>?_;have:=zn (B8 (B9 hy));omega
 | ul hb hc=>simp only[V.top];exact hc
 | sl hl h1 h2 h3 ih =>
  simp only[V.top];refine hz λy hy=>?_;obtain⟨j,hj,e⟩:=List.getElem_of_mem hy;exact ih j _ y (gh (by omega)) (by rw[gh hj,e])
 | agg hl h1 h2 ih =>
  simp only[V.top];refine hz λy hy=>?_;obtain⟨j,hj,e⟩:=List.getElem_of_mem hy;exact ih j _ y (gh (by omega)) (by rw[gh hj,e])
 | bq hl h2 ih =>
  simp only[V.top];refine hz λy hy=>?_;obtain⟨j,hj,e⟩:=List.getElem_of_mem hy;exact ih j _ y (gh (by omega)) (by rw[gh hj,e])
theorem mC.LF{H':Hp}{G:Gh}(tJ:q_ g' H'.az w')(hle:Gh.Le 0 g' G)(dg:∀b,b<H'.az.length->∀o v,w'.cell? ⟨g'.bP b,o,none⟩=some v->G.M (g'.bP b) o=some v)
  (b_:∀b c,b<H'.az.length->(c=g'.bP b\/g'.own c=some (.cell b 0))->∀o v,w'.cell? ⟨c,o,none⟩=some v->G.M c o=some v) {v v':V} (h:mC H' v v'):∀{cv:bt},aR g' v cv->aR G v' cv:=by
 induction h with
 | same h=>intro cv hr;exact hr.le hle (by omega)
 | sr hb hc hl =>
  rename_i b off len cap cs t;intro cv hr;cases hr with
  | sr nS =>
   have bR:b<H'.az.length:=(c_.1 hb).1;obtain⟨arr,h1,h2,h3⟩:=tJ.ok b _ hb;have hlen:((cs.drop off).take len).length=len:=by simp;omega
   have gG:∀(j:Nat)(x:V),((cs.drop off).take len)[j]?=some x->cs[off+j]?=some x/\j<len:=λj x hx=>by
    rw[Ao] at hx;split at hx
    ·rw[Hl] at hx;exact⟨hx,by assumption⟩
    ·cases hx
   have o9:∀(j:Nat)(x:V),((cs.drop off).take len)[j]?=some x->x.one=true/\∃a,arr[off+j]?=some a/\aR g' x a:=λj x hx=>by
    obtain⟨e1,e2⟩:=gG j x hx;have hj:off+j<arr.size:=by rw[<- h2];exact(c_.1 e1).1
    have:=h3 (off+j) x _ e1 (Eh hj);exact⟨this.1,_,Eh hj,this.2.1⟩
   have m5:zI ((cs.drop off).take len)=(cs.drop off).take len:=mD λj x hx=>Te (o9 j x hx).1;have:=aR.sl (g:=G) (sz:=1) (xs:=(cs.drop off).take len) (ow:=.no) (a:=some ⟨g'.bP b,off,none⟩) (cap:=cap) (c:=g'.bP b) (o:=off) (λj=>arr[off+j]?.getD (.bool false))
    (λx hx=>by
     obtain⟨j,hj,e⟩:=List.getElem_of_mem hx
     rw[Te (o9 j x (by rw[gh hj,e])).1];rfl)
    (by rw[hlen];exact nS) (λ_=>rfl)
    (λj x hx=>(o9 j x (by rwa [m5] at hx)).1)
    (λj x hx=>by
     rw[m5] at hx;obtain⟨_,a,ha,_⟩:=o9 j x hx;refine dg b bR _ _ ?_;simp only[World.cell?,h1,ha]
     simp[])
    (λj x hx=>by
     rw[m5] at hx;obtain⟨_,a,ha,hr⟩:=o9 j x hx;simp only[ha,fQ];refine hr.le hle ?_;have:=zn (B8 (B9 (m_ hx)))
     omega)
   rw[hlen] at this;exact this
 | ul hb hc =>
  rename_i b u len cs e;intro cv hr;have bR:b<H'.az.length:=(c_.1 hb).1;obtain⟨c,l0,cap,vs,hu⟩:=tJ.ok b _ hb;cases hr with
  | dD hh =>
   rw[hu.eZ] at hh;cases hh;obtain⟨BM,hr|⟨c',ou,cur,hv,h0,lp,h5,h6,h7,h8⟩⟩:=hu.row
   ·cases hr.1
   cases hv;have hlen:cs.length=len:=by rw[hu.len,BM,Jp]
   have EY:∀(j:Nat)(x:V),cs[j]?=some x->∃v,vs[j]?=some v/\x.one=true/\aR g' x v/\w'.cell? ⟨c,j,none⟩=some v:=λj x hx=>by
    have hj:=(c_.1 hx).1;obtain⟨v0,NK⟩:∃v0,vs[j]?=some v0:=⟨vs[j]'(by rw[<- hu.len];exact hj),gh _⟩
    obtain⟨k1,k2⟩:=hu.cells j x _ hx NK;refine⟨_,NK,k1,k2,?_⟩;rw[<- h8,Ao] at NK;split at NK<;>try (cases NK;done)
    rw[cell_of_row w' c j cur e (0,0) lp];simpa using NK
   have m5:zI cs=cs:=mD λj x hx=>Te (EY j x hx).choose_spec.2.1;rw[<- hlen];refine .sl (sz:=1) (xs:=cs) (ow:=.no) (c:=c) (o:=0) (λj=>vs[j]?.getD (.bool false)) (λx hx=>?_) (by rw[hlen];exact h5) (λ_=>rfl) (λj x hx=>?_) (λj x hx=>?_) (λj x hx=>?_)
   ·obtain⟨j,hj⟩:=List.getElem?_of_mem hx;rw[Te (EY j x hj).choose_spec.2.1];rfl
   ·rw[m5] at hx;exact(EY j x hx).choose_spec.2.1
   ·rw[m5] at hx;obtain⟨v,k0,_,_,k3⟩:=EY j x hx;rw[k0,nO];exact b_ b c bR hu.Cd j v k3
   ·rw[m5] at hx;obtain⟨v,k0,_,k2,_⟩:=EY j x hx;rw[k0];exact k2.le hle (by have:=zn (zv hx);omega)
 | sl hl h1 h2 h3 ih =>
  rename_i xs ys o;intro cv hr;have hfx:zI xs=xs:=mD λj x hx=>(h1 j x hx).1;have WT:zI ys=ys:=mD λj y hy=>(h2 j y hy).1;cases hr with
  | sl f e1 e2 e3 e4 e5 e6 =>
   rw[hfx] at e4 e5 e6;rw[hl];have hx:∀(j:Nat)(y:V),ys[j]?=some y->∃x,xs[j]?=some x:=λj y hy=>⟨_,gh (by rw[hl];exact(c_.1 hy).1)⟩
   refine .sl f (λy hy=>?_) (by rw[<- hl];exact e2) (λcI=>e3 λe=>cI (He (by rw[<- hl,e];rfl))) (λj y hy=>?_) (λj y hy=>?_) (λj y hy=>?_)
   ·obtain⟨j,hj,e⟩:=List.getElem_of_mem hy;rw[(h2 j y (by rw[gh hj,e])).1];rfl
   ·rw[WT] at hy;exact(h2 j y hy).2
   ·rw[WT] at hy;obtain⟨x,hx⟩:=hx j y hy;exact hle.M _ _ _ (e5 j x hx)
   ·rw[WT] at hy;obtain⟨x,hx⟩:=hx j y hy;exact ih j x y hx hy (e6 j x hx)
 | agg hl h1 h2 ih =>
  rename_i xs ys;intro cv hr;cases hr with
  | agg e1 e2 e3 =>
   refine .agg (by rw[<- hl,e1]) (λj y hy=>h1 j y hy) λj y v hy hv=>?_
   have Pz:xs[j]?=some (xs[j]'(by rw[hl];exact(c_.1 hy).1)):=gh _
   exact ih j _ y Pz hy (e3 j _ v Pz hv)
 | bq hl h2 ih =>
  rename_i xs ys;intro cv hr;cases hr with
  | bq e1 e3 =>
   refine .bq (by rw[<- hl,e1]) λj y v hy hv=>?_
   have Pz:xs[j]?=some (xs[j]'(by rw[hl];exact(c_.1 hy).1)):=gh _
   exact ih j _ y Pz hy (e3 j _ v Pz hv)
theorem mC.rel{dd:Nat}{H':Hp}(tJ:q_ g' H'.az w')(hf:Fr dd [] g.bare w g' w')(dX:∀b,b<H'.az.length->w.heap.size<=g'.bP b){v v':V}(h:mC H' v v'){cv:bt}(hr:aR g' v cv):aR (Gh.tK w.heap.size g w') v' cv:=by
 refine h.LF tJ (WQ tJ hf) (λb hb o v hv=>?_) (λb c hb hc o v hv=>?_) hr
 ·simp only[Gh.tK,if_neg (Nat.not_lt.2 (dX b hb))];exact hv
 ·have Au:¬c<w.heap.size:=λbR=>by
   rcases hc with e|e
   ·have:=dX b hb;omega
   ·rw[(kR hf bR).2.1] at e;cases e
  simp only[Gh.tK,if_neg Au];exact hv
theorem PA(oG:P.follows .mixedOrders=true)(fN:yA P)(dP:w8 P)(DX:nW P gl){n:Nat}{f:FuncId}{args:aD}{v v':V}{H':Hp}
  (hc:zj P gl n f args ⟨[],[]⟩=some (.ret v,H')) (ht:aI args=0) (hv:mC H' v v') (eT:∀sz xs e,v'≠.sl sz xs (.yes e)) {bx:dN} {l:Loc} (h1:iu P gl g) (h2:q_ g H.az w) (h3:eP g H.az.length args bx) :
  Calls P f bx w (fS d H g w l (.ret v') H):=by
 refine Calls.mono (yR oG fN dP DX n f args ⟨[],[]⟩ _ _ hc g.bare w bx l (h1.le nN) (WO h2) ⟨h3.len,λj x c hx iV=>(h3.rel j x c hx iV).le nN (cP (zn (zv hx)) (by omega)),by simp[ht],h3.no⟩) λe w' he=>?_
 cases e with
 | returned cv =>
  obtain⟨u,g',e1,e2,e3,e4,_⟩:=he;cases e1;refine⟨v',_,rfl,zeK h2 e2.cY e2.fr,hv.rel e2.cY e2.fr (λb hb=>e2.d_ b (eg _) hb) e3,?_,by rw[hv.top];exact eg _⟩
  unfold cM;split
  next sz xs e=>exact absurd rfl (eT sz xs e)
  ·trivial
 | panicked chain =>
  obtain⟨u,cv,g',e1,_⟩:=he;cases e1
 | outgrown=>exact he.elim
end
section
variable{cx:Cx}{n:Nat}{all:Array Oper}{takes:bY}
def W(cx:Cx)(n:Nat)(c:Code)(s:St)(Q:Ex->St->Prop):Prop:=∃ex s',cx.code n c s=some (ex,s')/\Q ex s'
def O(cx:Cx)(all:Array Oper)(takes:bY)(ops:List Oper)(s:St)(Q:Ex->St->Prop):Prop:=∃ex s',cx.ops all takes ops s=some (ex,s')/\Q ex s'
theorem JM{α β:Type}{a:α}{b:β}{Q:α->β->Prop}:(∃x y,(a=x/\b=y)/\Q x y) ↔ Q a b :=
 ⟨λ⟨_,_,⟨h1,h2⟩,h⟩=>by subst h1 h2;exact h,λh=>⟨_,_,⟨rfl,rfl⟩,h⟩⟩
def Ih(K:St->Prop)(Q:Ex->St->Prop):Ex->St->Prop
 | .normal,s=>K s
 | ex,s=>Q ex s
@[simp] theorem aM {K:St->Prop} {Q:Ex->St->Prop} {s:St}:Ih K Q .normal s=K s:=rfl
@[simp] theorem bJ {K:St->Prop} {Q:Ex->St->Prop} {s:St} {i:Nat}:Ih K Q (.exit i) s=Q (.exit i) s:=rfl
@[simp] theorem l6 {K:St->Prop} {Q:Ex->St->Prop} {s:St}:Ih K Q .ret s=Q .ret s:=rfl
@[simp] theorem Tf {K:St->Prop} {Q:Ex->St->Prop} {s:St} {v:V}:Ih K Q (.pM v) s=Q (.pM v) s:=rfl
@[simp] theorem PC {K:St->Prop} {Q:Ex->St->Prop} {s:St} {i:Nat}:Ih K Q (.goto i) s=Q (.goto i) s:=rfl
def bP(id:Nat)(Q:Ex->St->Prop):Ex->St->Prop
 | .exit i,s=>Q (if Nat.beq i id then .normal else .exit i) s
 | ex,s=>Q ex s
@[simp] theorem LG {id:Nat} {Q:Ex->St->Prop} {s:St}:bP id Q .normal s=Q .normal s:=rfl
@[simp] theorem PD {id i:Nat} {Q:Ex->St->Prop} {s:St}:bP id Q (.exit i) s=Q (if Nat.beq i id then .normal else .exit i) s:=rfl
@[simp] theorem Tg {id:Nat} {Q:Ex->St->Prop} {s:St}:bP id Q .ret s=Q .ret s:=rfl
@[simp] theorem Th {id:Nat} {Q:Ex->St->Prop} {s:St} {v:V}:bP id Q (.pM v) s=Q (.pM v) s:=rfl
@[simp] theorem PF {id i:Nat} {Q:Ex->St->Prop} {s:St}:bP id Q (.goto i) s=Q (.goto i) s:=rfl
theorem zpi{s:St}{Q:Ex->St->Prop}:W cx n .skip s Q ↔ Q .normal s:=by
 unfold W;simp[Cx.code,JM]
theorem zp8{s:St}{Q:Ex->St->Prop}:W cx n .ret s Q ↔ Q .ret s:=by
 unfold W;simp[Cx.code,JM]
theorem zpj{s:St}{i:Nat}{Q:Ex->St->Prop}:W cx n (.exit i) s Q ↔ Q (.exit i) s:=by
 unfold W;simp[Cx.code,JM]
theorem zp9{a b:Code}{s:St}{Q:Ex->St->Prop}:W cx n (.seq a b) s Q ↔ W cx n a s (Ih (λs=>W cx n b s Q) Q):=by
 unfold W;simp only[Cx.code];cases h:cx.code n a s with
 | none=>simp
 | some r =>
  obtain⟨ex,s1⟩:=r;cases ex<;>simp[JM]
theorem znz{id:Nat}{c:Code}{s:St}{Q:Ex->St->Prop}:W cx n (.block id c) s Q ↔ W cx n c s (bP id Q):=by
 unfold W;simp only[Cx.code];cases h:cx.code n c s with
 | none=>simp
 | some r =>
  obtain⟨ex,s1⟩:=r;cases ex<;>simp[JM]
theorem zlw{id:Nat}{ops:Array Oper}{env:aD}{H:Hp}{lk:aN}{df:bO}{Q:Ex->St->Prop} :
  W cx n (.region id ops false) ⟨env,H,lk,df⟩ Q ↔ O cx ops (jN ops) ops.toList ⟨env,H,[],df⟩ Q:=by
 unfold W O;simp only[Cx.code]
theorem zqa{s:St}{Q:Ex->St->Prop}:O cx all takes [] s Q ↔ Q .normal s:=by
 unfold O;simp[Cx.ops,JM]
def Fh(dst:fH)(K:St->Prop)(Q:Ex->St->Prop):Option (OR×St)->Prop
 | some (.val v,⟨env,H,lk,df⟩)=>K ⟨aq env dst v,H,lk,df⟩
 | some (.skip,⟨env,H,lk,df⟩)=>K ⟨aq env dst (.bq []),H,lk,df⟩
 | some (.pM v,s)=>Q (.pM v) s
 | none=>False
@[simp] theorem aL {dst:fH} {K:St->Prop} {Q:Ex->St->Prop} {v:V} {env:aD} {H:Hp} {lk:aN} {df:bO}:Fh dst K Q (some (.val v,⟨env,H,lk,df⟩))=K ⟨aq env dst v,H,lk,df⟩:=rfl
@[simp] theorem bu {dst:fH} {K:St->Prop} {Q:Ex->St->Prop} {env:aD} {H:Hp} {lk:aN} {df:bO}:Fh dst K Q (some (.skip,⟨env,H,lk,df⟩))=K ⟨aq env dst (.bq []),H,lk,df⟩:=rfl
@[simp] theorem Ti {dst:fH} {K:St->Prop} {Q:Ex->St->Prop} {v:V} {s:St}:Fh dst K Q (some (.pM v,s))=Q (.pM v) s:=rfl
@[simp] theorem PG {dst:fH} {K:St->Prop} {Q:Ex->St->Prop}:Fh dst K Q none=False:=rfl
theorem znA{dst:fH}{op:Op}{type:aB}{pos:String}{after:Array Edge}{os:List Oper}{env:aD}{H:Hp}{lk:aN}{df:bO}{Q:Ex->St->Prop} :
  O cx all takes (⟨dst,op,type,pos,after,none⟩::os) ⟨env,H,lk,df⟩ Q ↔ Fh dst (λs=>O cx all takes os s Q) Q (cx.op takes ⟨dst,op,type,pos,after,none⟩ env H lk df):=by
 unfold O;simp only[Cx.ops,zX];cases h:cx.op takes ⟨dst,op,type,pos,after,none⟩ env H lk df with
 | none=>simp
 | some r =>
  obtain⟨r,s1⟩:=r;obtain⟨cK,H1,eB,eu⟩:=s1;cases r<;>simp[jO,JM]
end
section
variable{cx:Cx}{takes:bY}{P:aQ}{gl:Nat->Nat->bX}{dst:fH}{type:aB}{pos:String}{after:Array Edge}{guard:oZ}{env:aD}{H:Hp}{lk:aN}{df:bO}
def iB(env:aD)(H:Hp)(lk:aN)(df:bO):bX->Option (OR×St)
 | some v=>some (.val v,⟨env,H,lk,df⟩)
 | none=>none
theorem zr{v:V}:iB env H lk df (some v)=some (.val v,⟨env,H,lk,df⟩):=rfl
theorem vU{x y:bX}:x=y->(match x with|none=>none|some v=>some (OR.val v,(⟨env,H,lk,df⟩:St)))=iB env H lk df y:=by
 rintro rfl;cases x<;>rfl
def qK(env:aD)(t:Nat):bX->Option (V×aD)
 | some (.sl sz xs (.yes e))=>some (.sl sz xs (.yes e),env.set t (.sl sz xs .no))
 | some v=>some (aW v,env)
 | none=>none
theorem zL{t:Nat}:take env (.tmp t)=qK env t (nth env t):=by
 simp only[take,qK,fm];rfl
theorem qF{v:bt}:take env (.const v)=(aj v).map (·,env):=rfl
theorem qq{t:Nat}{k:IntKind}{n:Int}:qK env t (some (.int k n))=some (.int k n,env):=rfl
theorem jo{t:Nat}{b:Bool}:qK env t (some (.bool b))=some (.bool b,env):=rfl
theorem qV{t:Nat}{s:aD}:qK env t (some (.agg s))=some (.agg s,env):=rfl
theorem jI{t b o:Nat}:qK env t (some (.ptr b o))=some (.ptr b o,env):=rfl
theorem jg{t:Nat}:qK env t (some .aG)=some (.aG,env):=rfl
theorem ko{t sz:Nat}{xs:aD}:qK env t (some (.sl sz xs .no))=some (.sl sz xs .no,env):=rfl
theorem WU{t:Nat}:qK env t (some .bM)=some (.bM,env):=rfl
theorem zeL{t:Nat}{u:aB}{v:V}:qK env t (some (.ec u v))=some (.ec u v,env):=rfl
theorem zi8{d:Tmp}{x:aX}(h:takes.any (Nat.beq d)=false):cx.op takes ⟨some d,.move x,type,pos,after,guard⟩ env H lk df=iB env H lk df (ak env x):=by
 simp only[Cx.op,h];exact vU rfl
def Tj(H:Hp)(lk:aN)(df:bO):Option (V×aD)->Option (OR×St)
 | some (v,env)=>some (.val v,⟨env,H,lk,df⟩)
 | none=>none
theorem z9{v:V}:Tj H lk df (some (v,env))=some (.val v,⟨env,H,lk,df⟩):=rfl
theorem zlx{d:Tmp}{x:aX}(h:takes.any (Nat.beq d)=true):cx.op takes ⟨some d,.move x,type,pos,after,guard⟩ env H lk df=Tj H lk df (take env x):=by
 simp only[Cx.op,h];cases take env x<;>rfl
theorem z6{x:aX}:cx.op takes ⟨dst,.assign x,type,pos,after,guard⟩ env H lk df=Tj H lk df (take env x):=by
 simp only[Cx.op];cases take env x<;>rfl
def WV(a b:bX):bX->bX
 | some (.bool true)=>a
 | some (.bool false)=>b
 | _=>none
theorem kW{c a b:aX}:cx.op takes ⟨dst,.pick c a b,type,pos,after,guard⟩ env H lk df=iB env H lk df (WV (ak env a) (ak env b) (ak env c)):=by
 simp only[Cx.op];refine vU ?_;simp only[jf];cases h:ak env c with
 | none=>rfl
 | some v=>cases v<;>first|rfl|(rename_i t;cases t<;>rfl)
theorem kp{t:aB}{ps:Array (Nat×aX)}:cx.op takes ⟨dst,.build t ps,type,pos,after,guard⟩ env H lk df=iB env H lk df (ky cx.P t ps env):=by
 simp only[Cx.op];exact vU rfl
theorem Tk{d:Tmp}{t:aB}{a:aX}(h:takes.any (Nat.beq d)=false):cx.op takes ⟨some d,.load t a,type,pos,after,guard⟩ env H lk df=iB env H lk df (((ak env a).bind (zk cx.P H cx.gl t)).map aW):=by
 simp only[Cx.op,h];refine vU ?_;simp only[jf];cases ak env a with
 | none=>rfl
 | some v=>cases h:zk cx.P H cx.gl t v<;>simp[h]
theorem zG{x:aX}:cx.op takes ⟨dst,.nilCheck x,type,pos,after,guard⟩ env H lk df=iB env H lk df ((ak env x).bind aa):=by
 simp only[Cx.op];exact vU rfl
def qP(P:aQ)(op:BinOp)(t:aB)(x y:aX):bX->bX->bX
 | some u,some v=>if jt P op t x y u v then w7 P op t u v else none
 | _,_=>none
theorem zV{o:BinOp}{t u:aB}{x y:aX}:cx.op takes ⟨dst,.binOp o t x y u,type,pos,after,guard⟩ env H lk df=iB env H lk df (qP cx.P o t x y (ak env x) (ak env y)):=by
 simp only[Cx.op];refine vU ?_;simp only[jf];cases ak env x<;>cases ak env y<;>rfl
theorem kL{o:UnOp}{t:aB}{x:aX}:cx.op takes ⟨dst,.unOp o t x,type,pos,after,guard⟩ env H lk df=iB env H lk df ((ak env x).bind (iz o)):=by
 simp only[Cx.op];exact vU rfl
theorem vV{a b:aB}{x:aX}(hu:cx.uq (vd a)=false)(hm:Nat.beq a b=false):cx.op takes ⟨dst,.convert a b x,type,pos,after,guard⟩ env H lk df=iB env H lk df ((ak env x).bind (vz cx.P a b)):=by
 have hk:v9 cx.P a b x env=none:=by
  unfold v9;rw[hm]
 simp only[Cx.op,hk,hu];exact vU rfl
theorem kX{x:aX}{i:Nat}:cx.op takes ⟨dst,.extract x i,type,pos,after,guard⟩ env H lk df=iB env H lk df ((ak env x).bind λv=>match v with|.bq vs=>(nth vs i).map aW|_=>none):=by
 simp only[Cx.op];refine vU ?_;simp only[jf];cases ak env x with
 | none=>rfl
 | some v=>cases v<;>first|rfl|(rename_i vs;cases h:nth vs i<;>simp[h])
def ah(off:Nat):V->bX
 | .ptr b o=>some (.ptr b (o+off))
 | .fq g o=>some (.fq g (o+off))
 | .gj b u k=>some (.gj b u (k+off))
 | .vp cs=>some (.vp (cs.drop off))
 | _=>none
theorem zfI{t:aB}{x:aX}{f:Nat}{fs:Array Field}{fd:Field}{sz:Nat}(h1:cx.P.underlying t=some (.struct fs))(h2:fs[f]?=some fd)(h3:z4 cx.P fd.type=some sz)(h4:Nat.beq sz 0=false) :
  cx.op takes ⟨dst,.fieldAddr t x f,type,pos,after,guard⟩ env H lk df=iB env H lk df ((ak env x).bind (ah fd.offset)):=by
 simp only[Cx.op];refine vU ?_;simp only[jf,h1];have h5:¬sz=0:=Nat.ne_of_beq_eq_false h4;simp[h2,h3,h5];cases ak env x with
 | none=>rfl
 | some v=>cases v<;>rfl
def aE(f:V->Int->bX):bX->bX->bX
 | some x,some (.int _ i)=>f x i
 | _,_=>none
theorem zT{t:aB}{x i:aX}:cx.op takes ⟨dst,.indexAddr t x i,type,pos,after,guard⟩ env H lk df=iB env H lk df (aE (zt cx.P t) (ak env x) (ak env i)):=by
 simp only[Cx.op];refine vU ?_;simp only[jf];cases h:ak env i with
 | none=>cases ak env x<;>rfl
 | some v=>cases v<;>cases ak env x<;>rfl
theorem zlz{t:aB}{x i:aX}:cx.op takes ⟨dst,.index t x i,type,pos,after,guard⟩ env H lk df=iB env H lk df (aE (OI cx.P t) (ak env x) (ak env i)):=by
 simp only[Cx.op];refine vU ?_;simp only[jf];cases h:ak env i with
 | none=>cases ak env x<;>rfl
 | some v=>cases v<;>cases ak env x<;>rfl
def Tm(t:aB)(H:Hp)(lk:aN)(df:bO):Option (V×aD)->Option (OR×St)
 | some (v,env)=>if !dz v then none else some (.val (.ptr H.az.length 0),⟨env,H.push (.cells v.laid t),lk,df⟩)
 | none=>none
theorem wB{t:aB}{x:aX}:cx.op takes ⟨dst,.box t x,type,pos,after,guard⟩ env H lk df=Tm t H lk df (take env x):=by
 simp only[Cx.op,Tm,qp,de,qm];cases take env x<;>rfl
theorem z7{t:aB}{v:V}(h:dz v=true):Tm t H lk df (some (v,env))=some (.val (.ptr H.az.length 0),⟨env,H.push (.cells v.laid t),lk,df⟩):=by
 simp[Tm,h]
def PI(n:Nat)(H:Hp)(lk:aN)(df:bO):bX->Option (V×aD)->Option (OR×St)
 | some (.ptr b off),some (v,env)=>match H.get b with
  | some (.cells cs ty)=>if dz v && Nat.beq v.laid.length n && Nat.ble (off+n) cs.length && wv lk b off n (cs.drop off) then some (.skip,⟨env,(H.set b (.cells (storeCells cs off v.laid) ty)).bQ b v,lk,df⟩) else none
  | _=>none
 | _,_=>none
theorem zlA{t:aB}{a x:aX}{n:Nat}(hn:z4 cx.P t=some n)(Pp:∀b u k,ak env a≠some (.gj b u k)):cx.op takes ⟨dst,.store t a x,type,pos,after,guard⟩ env H lk df=PI n H lk df (ak env a) (take env x):=by
 simp only[Cx.op,qp,de,eE,jd,hn];cases ha:ak env a with
 | none=>rfl
 | some p =>
  cases p<;>try rfl
  case gj b u k=>exact absurd ha (Pp b u k)
  rename_i b off;cases take env x with
  | none=>rfl
  | some q =>
   simp only[PI];cases H.get b with
   | none=>rfl
   | some y=>cases y<;>rfl
def aA(lk:aN)(df:bO)(env:aD):Option (OR×Hp)->Option (OR×St)
 | some (r,H)=>some (r,⟨env,H,lk,df⟩)
 | none=>none
theorem zO{r:OR}:aA lk df env (some (r,H))=some (r,⟨env,H,lk,df⟩):=rfl
def WW(cx:Cx)(f:FuncId)(H:Hp)(lk:aN)(df:bO)(env:aD):Option aD->Option (OR×St)
 | some args=>aA lk df env (cx.bC f (args.map aW) H)
 | none=>none
theorem qM{f:FuncId}{args:aD}:WW cx f H lk df env (some args)=aA lk df env (cx.bC f (args.map aW) H):=rfl
theorem kf{f:FuncId}{args:rL}{ts:Array aB}:cx.op takes ⟨dst,.call ⟨.value (.func f),args,ts⟩,type,pos,after,guard⟩ env H lk df=WW cx f H lk df env (av env args.toList):=by
 simp only[Cx.op,ak];cases av env args.toList with
 | none=>rfl
 | some l=>simp only[Cx.mq,eE,bg,mT,WW];cases cx.bC f (l.map aW) H<;>rfl
theorem zu{P:aQ}{gl:Nat->Nat->bX}{uq:aB->Bool}{call:FuncId->aD->Hp->Option (Out×Hp)}{f:FuncId}{fn:Func}{body:Code}{args:aD}{v:V}{H':Hp}(hf:P.funcs[f]?=some fn)(hb:fn.body=some body)(hc:call f args H=some (.ret v,H')) :
  Cx.bC ⟨P,gl,call,uq⟩ f args H=some (.val v,H'):=by
 simp only[Cx.bC,hf,hb,hc,Hu]
theorem kA{x:aX}{t:aB}:cx.op takes ⟨dst,.call ⟨.builtin .len,#[x],#[t]⟩,type,pos,after,guard⟩ env H lk df=iB env H lk df (((ak env x).bind (jb cx.P H t)).map (.int .i64)):=by
 simp only[Cx.op,Cx.builtin];cases ak env x with
 | none=>rfl
 | some v=>cases h:jb cx.P H t v<;>simp[h,iB]
def xS(P:aQ)(H:Hp)(t:aB)(lk:aN)(df:bO)(y:bX):Option (V×aD)->Option (OR×St)
 | some (v,env)=>match y.bind (j9 P H t v) with
  | some u=>some (.val u,⟨env,H,lk,df⟩)
  | none=>none
 | none=>none
theorem jV{x y:aX}{t:aB}(hu:pN cx.P cx.uq t=false):cx.op takes ⟨dst,.call ⟨.builtin .append,#[x,y],#[t,t]⟩,type,pos,after,guard⟩ env H lk df=xS cx.P H t lk df (ak env y) (take env x):=by
 simp only[Cx.op,Cx.builtin,hu,iN,mh,fP,bw];cases hy:ak env y with
 | none=>cases hx:take env x<;>simp[xS]
 | some v =>
  cases hx:take env x with
  | none=>simp[xS]
  | some p =>
   obtain⟨u,e⟩:=p;cases h:j9 cx.P H t u v<;>simp[xS,h]
end
section
variable{P:aQ}{gl:Gl}
def Fin(P:aQ)(rs:List ResultVar)(n0:Nat)(es:aN)(out:Out)(H':Hp):Ex->St->Prop
 | .normal,⟨env,H,_,df⟩|.ret,⟨env,H,_,df⟩=>df=[]/\∃vs,zx P H env rs=some vs/\out=.ret (iZ vs)/\H'=zW n0 es (iZ vs).top H
 | .pM v,⟨_,H,_,df⟩=>df=[]/\out=.pM v/\H'=zW n0 es v.top H
 | _,_=>False
theorem WX{n:Nat}{f:FuncId}{fn:Func}{body:Code}{args:aD}{bs:List aV}{es:aN}{out:Out}{H':Hp}(hk:gl.hk f args=none)(fG:∀H,gl.fG n f args H=none)(hf:P.funcs[f]?=some fn)(hb:fn.body=some body)
  (h:W ⟨P,gl,zj P gl n,gl.uq⟩ n body ⟨args++List.replicate (fn.ntmps - args.length) (.bq []),⟨bs++[],[]⟩,[],[]⟩ (Fin P fn.results.toList bs.length es out H')):zj P gl (n+1) f args ⟨bs,es⟩=some (out,H'):=by
 obtain⟨ex,⟨env,H,lk,df⟩,h1,h2⟩:=h;rw[mT] at h1;simp only[zj,hk,fG,hf,hb,qz,eE,h1];cases ex<;>simp only[Fin] at h2
 ·obtain⟨rfl,vs,h3,h4,h5⟩:=h2;simp[AR,SG,vh,h3,h4,h5,qp,kV]
 ·obtain⟨rfl,vs,h3,h4,h5⟩:=h2;simp[AR,SG,vh,h3,h4,h5,qp,kV]
 ·obtain⟨rfl,h4,h5⟩:=h2;simp[AR,SG,vh,h4,h5,kV]
theorem z8{bs ls:List aV}{es:aN}{t:Nat}(ht:t<=bs.length):zW bs.length es t ⟨bs++ls,[]⟩=⟨bs,es⟩:=by
 have:Nat.ble t bs.length=true:=KH ht;simp[zW,this]
theorem get_at{bs ls:List aV}{es:aN}{k:Nat}:Hp.get ⟨bs++ls,es⟩ (bs.length+k)=nth ls k:=by
 simp only[Hp.get,zg];rw[fE (by omega)]
 congr 1
 omega
theorem zd{α:Type}{x:α}{xs:List α}:nth (x::xs) 0=some x:=rfl
theorem ze{α:Type}{x:α}{xs:List α}{n:Nat}:nth (x::xs) (n+1)=nth xs n:=rfl
end
section
variable{takes:bY}
end
section
variable{cx:Cx}{n:Nat}{takes:bY}{P:aQ}{gl:Nat->Nat->bX}{dst:fH}{type:aB}{pos:String}{after:Array Edge}{guard:oZ}{env:aD}{H:Hp}{lk:aN}{df:bO}
def zB(P:aQ)(t:aB)(f:Nat):Option Nat :=
 match P.underlying t with
 | some (.struct fs)=>match fs[f]? with
  | some fd=>match z4 P fd.type with
   | some m=>if Nat.beq m 0 then none else some fd.offset
   | none=>none
  | none=>none
 | _=>none
def JN(v:bX):Option Nat->bX
 | some off=>v.bind (ah off)
 | none=>none
theorem zS{v:bX}{off:Nat}:JN v (some off)=v.bind (ah off):=rfl
theorem zA{t:aB}{x:aX}{f:Nat}:cx.op takes ⟨dst,.fieldAddr t x f,type,pos,after,guard⟩ env H lk df=iB env H lk df (JN (ak env x) (zB cx.P t f)):=by
 unfold zB;cases h1:cx.P.underlying t with
 | none=>simp[Cx.op,jf,h1,JN,iB]
 | some d =>
  cases d<;>try (simp[Cx.op,jf,h1,JN,iB];done)
  rename_i fs;cases h2:fs[f]? with
  | none=>simp[Cx.op,jf,h1,h2,JN,iB]
  | some fd =>
   cases h3:z4 cx.P fd.type with
   | none=>simp[Cx.op,jf,h1,h2,h3,JN,iB]
   | some m =>
    cases m with
    | zero=>simp[Cx.op,jf,h1,h2,h3,JN,iB]
    | succ m=>rw[zfI h1 h2 h3 rfl];simp[JN,h2,h3]
def fieldAt(P:aQ)(t:aB)(f:Nat):Option (aB×Nat) :=
 match P.underlying t with
 | some (.struct fs)=>(fs[f]?).map λfd=>(fd.type,fd.offset)
 | _=>none
def wW(cs:aD)(off:Nat):Option Bool->Option Nat->bX
 | some true,some n=>if off+n<=cs.length then some (.agg ((cs.drop off).take n)) else none
 | some false,_=>nth cs off
 | _,_=>none
theorem qy{t:aB}{cs:aD}{off:Nat}:wd P t cs off=wW cs off (qD P t) (z4 P t):=by
 unfold wd;cases qD P t with
 | none=>rfl
 | some b =>
  cases b with
  | false=>simp[wW]
  | true=>cases z4 P t<;>simp[wW]
theorem Tn{cs:aD}{off:Nat}{s:Option Nat}:wW cs off (some false) s=nth cs off:=by cases s<;>rfl
theorem NL{cs:aD}{off n:Nat}:wW cs off (some true) (some n)=if off+n<=cs.length then some (.agg ((cs.drop off).take n)) else none:=rfl
def To(P:aQ)(t:aB)(off:Nat):Option aV->bX
 | some (.cells cs _)=>wd P t cs off
 | _=>none
theorem jv{t u:aB}{off:Nat}{cs:aD}:To P t off (some (.cells cs u))=wd P t cs off:=rfl
theorem jW{t:aB}{b off:Nat}:zk P H gl t (.ptr b off)=To P t off (H.get b):=by
 cases h:H.get b with
 | none=>simp[zk,h,To]
 | some x=>cases x<;>simp[zk,h,To]
theorem zpk{c:Code}{s:St}{Q:Ex->St->Prop}(Inv:Nat->St->Prop)(k:Nat)(hk:k<n)(h0:Inv k s)(mB:∀j s,Inv j s->W cx n c s (Ih (λs'=>∃i,i<j/\Inv i s') Q)):W cx n (.loop c) s Q:=by
 unfold W;simp only[Cx.code];have key:∀(m:Nat)(s:St)(j:Nat),j<m->Inv j s->∃ex s',KV (cx.code n c) m s=some (ex,s')/\Q ex s':=by
  intro m
  induction m with
  | zero=>intro s j h;omega
  | succ m ih =>
   intro s j hj hI;obtain⟨ex,s1,h1,h2⟩:=mB j s hI;simp only[KV,h1];cases ex with
   | normal =>
    obtain⟨i,hi,tH⟩:=h2;exact ih s1 i (by omega) tH
   | _=>exact⟨_,_,rfl,h2⟩
 exact key n s k hk h0
end
section
variable{cx:Cx}{n:Nat}{all:Array Oper}{takes:bY}{dst:fH}{op:Op}{type:aB}{pos:String}{after:Array Edge}{os:List Oper}{env cK bI:aD}{H H1:Hp}{lk eB:aN}{df eu:bO}{v:V}{Q:Ex->St->Prop}
theorem kg{P:aQ}{t:aB}{x y:aX}{k:IntKind}{a b:Int}:qP P .add t x y (some (.int k a)) (some (.int k b))=some (.int k (k.wrap (a+b))):=by simp[qP,jt,w7,j3]
theorem jX{P:aQ}{t:aB}{x y:aX}{k:IntKind}{a b:Int}:qP P .sub t x y (some (.int k a)) (some (.int k b))=some (.int k (k.wrap (a - b))):=by simp[qP,jt,w7,j3]
theorem znC{P:aQ}{t:aB}{x y:aX}{k:IntKind}{a b:Int}:qP P .mul t x y (some (.int k a)) (some (.int k b))=some (.int k (k.wrap (a * b))):=by simp[qP,jt,w7,j3]
theorem wM{P:aQ}{t:aB}{x y:aX}{k:IntKind}{a b:Int}:qP P .eql t x y (some (.int k a)) (some (.int k b))=some (.bool (a == b)):=by simp[qP,jt,v6,w7,j3]
theorem PJ{P:aQ}{t:aB}{x y:aX}{k:IntKind}{a b:Int}:qP P .neq t x y (some (.int k a)) (some (.int k b))=some (.bool (a != b)):=by simp[qP,jt,v6,w7,j3]
theorem qU{P:aQ}{t:aB}{x y:aX}{k:IntKind}{a b:Int}:qP P .lss t x y (some (.int k a)) (some (.int k b))=some (.bool (a<b)):=by simp[qP,jt,w7,j3]
theorem NM{P:aQ}{t:aB}{x y:aX}{k:IntKind}{a b:Int}:qP P .leq t x y (some (.int k a)) (some (.int k b))=some (.bool (a<=b)):=by simp[qP,jt,w7,j3]
theorem w4{P:aQ}{t:aB}{x y:aX}{k:IntKind}{a b:Int}:qP P .gtr t x y (some (.int k a)) (some (.int k b))=some (.bool (a > b)):=by simp[qP,jt,w7,j3]
theorem Tp{P:aQ}{t:aB}{x y:aX}{k:IntKind}{a b:Int}:qP P .geq t x y (some (.int k a)) (some (.int k b))=some (.bool (a ≥ b)):=by simp[qP,jt,w7,j3]
theorem zlC{P:aQ}{t:aB}{x y:aX}{a b:bN}:qP P .neq t x y (some (.str a)) (some (.str b))=some (.bool (!(nQ a b))):=by simp[qP,jt,v6,w7,OH]
theorem qu{d:Tmp}{t:aB}{a:aX}{guard:oZ}:cx.op [] ⟨some d,.load t a,type,pos,after,guard⟩ env H lk df=iB env H lk df (((ak env a).bind (zk cx.P H cx.gl t)).map aW):=Tk rfl
theorem zK{d:Tmp}{x:aX}{guard:oZ}:cx.op [] ⟨some d,.move x,type,pos,after,guard⟩ env H lk df=iB env H lk df (ak env x):=zi8 rfl
theorem zR{k:IntKind}{n:Int}:aW (.int k n)=.int k n:=rfl
theorem qR{b:Bool}:aW (.bool b)=.bool b:=rfl
theorem kN{s:bN}:aW (.str s)=.str s:=rfl
theorem qX{s:aD}:aW (.agg s)=.agg s:=rfl
theorem wV{s:aD}:aW (.vp s)=.vp s:=rfl
theorem dA{s:aD}:aW (.bq s)=.bq s:=rfl
theorem qk{a b:Nat}:aW (.ptr a b)=.ptr a b:=rfl
theorem zlD{a b:Nat}:aW (.fq a b)=.fq a b:=rfl
theorem di:aW .aG=.aG:=rfl
theorem mE:aW .bM=.bM:=rfl
theorem kY{sz:Nat}{xs:aD}{o:ug}:aW (.sl sz xs o)=.sl sz xs .no:=rfl
theorem NN{a b c d:Nat}:aW (.sr a b c d)=.sr a b c d:=rfl
theorem zja{t:aB}{v:V}:aW (.ec t v)=.ec t v:=rfl
end
def NO(g:Nat):List (Nat×aD)->Option aD
 | []=>none
 | (k,vs)::r=>match Nat.beq g k with
  | true=>some vs
  | false=>NO g r
def Ii(U:aB)(ks:bN)(T:List (Nat×aD)):Nat->Nat->bX:=λg o=>match NO g T with
 | some vs=>nth vs o
 | none=>NI U ks g o
def WY(W:aP)(x:Nat×aD):Prop:=∀(o:Nat)(v:V),x.2[o]?=some v->v.top=0/\∃cv,W.cell? ⟨x.1,o,none⟩=some cv/\∀g,aR g v cv
theorem WZ{g:Nat}{vs:aD}:∀{T:List (Nat×aD)},NO g T=some vs->(g,vs)∈T
 | [],h=>by simp[NO] at h
 | (k,us)::r,h=>by
  simp only[NO] at h;split at h
  next hb=>simp only[br] at h;rw[eU hb,h];exact eH ..
  ·exact dR _ (WZ h)
theorem zic{W:aP}{x:Nat×aD}(h:WY W x){o:Nat}{U:aB}{j:Nat}:x.2[o]?≠some (.ec U (.obj j)):=by
 intro hv;obtain⟨_,cv,_,h3⟩:=h o _ hv;have k1:∀a,cv=.iface U (.pointer (some a)):=λa=>by
  have:=h3 { xC W with obj:=⟨λ_=>a,λ_=>True⟩ };cases this with
  | ec h2 =>
   cases h2 with
   | obj k=>rfl
 have:=(k1 ⟨0,0,none⟩).symm.trans (k1 ⟨1,0,none⟩);simp at this
theorem zpl{P:aQ}{U:aB}{ks:bN}{T:List (Nat×aD)}{W:aP}(h:Ff U W ks)(hT:∀x∈T,WY W x):iu P (Ii U ks T) (xC W):=by
 have Gt:∀k u j,Ii U ks T k 0=some (.ec u (.obj j))->NI U ks k 0=some (.ec u (.obj j)):=λk u j hv=>by
  unfold Ii at hv;split at hv
  next vs Jx=>rw[zg] at hv;exact absurd hv (zic (hT _ (WZ Jx)))
  ·exact hv
 have h0:=zny (P:=P) h;refine⟨?_,λk u j hv=>⟨(h0.2 k u j (Gt k u j hv)).1,λk' u' j' lf e=>(h0.2 k u j (Gt k u j hv)).2 k' u' j' (Gt k' u' j' lf) e⟩⟩;intro k off v hv;unfold Ii at hv;split at hv
 next vs Jx=>rw[zg] at hv;obtain⟨h1,cv,h2,h3⟩:=hT _ (WZ Jx) off v hv;exact⟨cv,h2,h3 _,h1⟩
 ·exact h0.1 k off v hv
theorem zg0{α β:Type}{f:α->Option β}:∀{l:List α}{xs:List β},l.mapM f=some xs->xs.length=l.length/\∀(i:Nat)(a:α)(x:β),l[i]?=some a->xs[i]?=some x->f a=some x
 | [],xs,h=>by
  simp only[List.mapM_nil,Option.pure_def,br] at h;subst h;exact⟨rfl,λi a x h=>by simp at h⟩
 | a::l,xs,h=>by
  simp only[List.mapM_cons,Option.pure_def,Option.bind_eq_bind,eG,br] at h;obtain⟨y,hy,ys,s6,rfl⟩:=h;obtain⟨h1,h2⟩:=zg0 s6;refine⟨by simp[h1],λi b x hb hx=>?_⟩
  cases i with
  | zero=>simp at hb hx;subst hb;subst hx;exact hy
  | succ i=>exact h2 i b x (by simpa using hb) (by simpa using hx)
theorem zg1{P:aQ}{W:aP}{l:List (String×DataW Unit)}(h:laidMet P l W){nm:String}{ns:List Int}{k:IntKind}(hx:(nm,DataW.agg (ns.map λm=>.lit (.int k m)))∈l){g t n e:Nat}(hg:P.globalNamed nm=some g)(hgt:(P.globals[g]?).map (·.type)=some t)
  (ht:P.underlying t=some (.array n e)) (he:P.underlying e=some (.int k)) (hc:P.cellsOf e=1) (hn:P.cellsOf t=n):WY W (g,ns.map (V.int k)):=by
 obtain⟨ps,hv,_,ek⟩:=h;obtain⟨g',t',cs,fuel,p,h1,h2,h3,h4,b_,_⟩:=Pt hv _ hx;rw[hg] at h1;cases h1;rw[hgt] at h2;cases h2;cases fuel with
 | zero=>simp[DataW.trod] at h4
 | succ fuel =>
  have AT:∀i,i<cs.size->W.cell? ⟨g,i,none⟩=cs[i]?:=λi hi=>by
   have:=World.var?_cell hg h3 i;simpa using this
  obtain⟨l0⟩:=cs;simp only[DataW.trod,ht] at h4;split at h4<;>try (cases h4;done)
  rename_i hl;simp only[m9,cg,DataW.agg.injEq] at h4;obtain⟨xs,oU,e1,_⟩:=h4;obtain⟨m1,m2⟩:=zg0 oU;have lg:ns.length=n:=by
   have:=congrArg List.length e1;simp only[gC,m1,List.length_range] at this;exact this.symm
  intro o v hov;simp only[iY,m9] at hov;obtain⟨m,hm,rfl⟩:=hov;have ho:o<n:=by rw[<- lg];exact(c_.1 hm).1
  have hox:o<xs.length:=by rw[m1];simpa using ho
  have hxo:xs[o]?=some xs[o]:=gh hox;have hr:=m2 o o xs[o] (by simp[ho]) hxo
  have hd:xs[o].1=.lit (.int k m):=by
   have:=congrArg (λl=>l[o]?) e1;simp only[iY,hxo,hm,aS,br] at this;exact this
  refine⟨rfl,?_⟩;have DT:o<l0.length:=by rw[hl,hn];exact ho
  have iA:l0[o]?=some l0[o]:=gh DT;have mb:(l0.drop (o * P.cellsOf e)).take (P.cellsOf e)=[l0[o]]:=by
   rw[hc,Jp,EL DT];rfl
  rw[mb] at hr;cases fuel with
  | zero=>simp[DataW.trod] at hr
  | succ fuel =>
   generalize sy:l0[o]=c at hr iA;refine⟨c,?_,λg=>?_⟩
   ·rw[AT o (by simpa using DT)];simpa using iA
   ·generalize xs[o]=y at hr hd;obtain⟨y1,y2⟩:=y;simp only at hd;subst hd;simp only[DataW.trod,he] at hr;cases c<;>simp at hr;obtain⟨⟨rfl,_⟩,rfl,_⟩:=hr;exact .int _ _
section
variable{cx:Cx}{n:Nat}
def au(cx:Cx)(o:Oper)(env:aD)(lk:aN):Bool :=
 match o.op with
 | .load t a=>match qD cx.P t with
  | some false=>true
  | _=>match ak env a with
   | some (.ptr b _)=>lk.all λp=>!(Nat.beq p.1 b)
   | _=>true
 | _=>true
def Cx.pW(cx:Cx)(all:Array Oper)(takes:bY):List Oper->St->Option St
 | [],s=>some s
 | o::os,⟨env,H,lk,df⟩=>match zX all o env with
  | none=>none
  | some false=>cx.pW all takes os ⟨aq env o.dst (.bq []),H,lk,df⟩
  | some true=>match au cx o env lk with
   | false=>none
   | true=>match cx.op takes o env H lk df with
    | some (.val v,⟨env,H,lk,df⟩)=>cx.pW all takes os ⟨aq env o.dst v,H,lk,df⟩
    | some (.skip,⟨env,H,lk,df⟩)=>cx.pW all takes os ⟨aq env o.dst (.bq []),H,lk,df⟩
    | _=>none
inductive It where
 |c (c:Code)|eb (id:Nat)|os (all:Array Oper) (takes:bY) (l:List Oper)|on (all:Array Oper) (takes:bY) (l:List Oper)
def go(cx:Cx)(n:Nat)(Q:Ex->St->Prop):List It->Ex->St->Prop
 | [],ex,s=>Q ex s
 | .c c::k,.normal,s=>W cx n c s (go cx n Q k)
 | .c _::k,ex,s=>go cx n Q k ex s
 | .eb id::k,.exit i,s=>go cx n Q k (if Nat.beq i id then .normal else .exit i) s
 | .eb _::k,ex,s=>go cx n Q k ex s
 | .os all takes l::k,.normal,s=>O cx all takes l s (go cx n Q k)
 | .os _ _ _::k,ex,s=>go cx n Q k ex s
 | .on all takes l::k,.normal,s=>∃s',cx.pW all takes l s=some s'/\go cx n Q k .normal s'
 | .on _ _ _::k,ex,s=>go cx n Q k ex s
variable{Q:Ex->St->Prop}{k:List It}{s:St}{env:aD}{H:Hp}{lk:aN}{df:bO}{all:Array Oper}{takes:bY}{os:List Oper}
theorem Tq{c:Code}(h:go cx n Q [.c c] .normal s):W cx n c s Q:=by
 have:(go cx n Q [])=Q:=by funext ex s;simp[go]
 simpa[go,this] using h
theorem zp{ex:Ex}:go cx n Q [] ex s ↔ Q ex s:=by simp[go]
theorem bz:go cx n Q (.c .skip::k) .normal s ↔ go cx n Q k .normal s:=by simp only[go];exact zpi
theorem zh{a b:Code}:go cx n Q (.c (.seq a b)::k) .normal s ↔ go cx n Q (.c a::.c b::k) .normal s:=by
 simp only[go,zp9];have:(Ih (λs=>W cx n b s (go cx n Q k)) (go cx n Q k))=go cx n Q (.c b::k):=by
  funext ex s;cases ex<;>simp[go]
 rw[this]
theorem zw{id:Nat}{c:Code}:go cx n Q (.c (.block id c)::k) .normal s ↔ go cx n Q (.c c::.eb id::k) .normal s:=by
 simp only[go,znz];have:bP id (go cx n Q k)=go cx n Q (.eb id::k):=by
  funext ex s;cases ex<;>simp[go]
 rw[this]
theorem go_ret:go cx n Q (.c .ret::k) .normal s ↔ go cx n Q k .ret s:=by simp only[go];exact zp8
theorem ql{i:Nat}:go cx n Q (.c (.exit i)::k) .normal s ↔ go cx n Q k (.exit i) s:=by simp only[go];exact zpj
theorem qC{id:Nat}:go cx n Q (.eb id::k) .normal s ↔ go cx n Q k .normal s:=by simp[go]
theorem zD{id i:Nat}:go cx n Q (.eb id::k) (.exit i) s ↔ go cx n Q k (if Nat.beq i id then .normal else .exit i) s:=by simp[go]
theorem wk{id:Nat}:go cx n Q (.eb id::k) .ret s ↔ go cx n Q k .ret s:=by simp[go]
theorem zN{c:Code}{i:Nat}:go cx n Q (.c c::k) (.exit i) s ↔ go cx n Q k (.exit i) s:=by simp[go]
theorem we{c:Code}:go cx n Q (.c c::k) .ret s ↔ go cx n Q k .ret s:=by simp[go]
def Ij(a b:Prop):bX->Prop
 | some (.bool true)=>a
 | some (.bool false)=>b
 | _=>False
theorem qS{c:aX}{a b:Code}:go cx n Q (.c (.cond c a b)::k) .normal ⟨env,H,lk,df⟩ ↔ Ij (go cx n Q (.c a::k) .normal ⟨env,H,lk,df⟩) (go cx n Q (.c b::k) .normal ⟨env,H,lk,df⟩) (ak env c):=by
 simp only[go];unfold W;simp only[Cx.code];cases ak env c with
 | none=>simp[Ij]
 | some v =>
  cases v with
  | bool t=>cases t<;>simp[Ij]
  | _=>simp[Ij]
theorem qo{a b:Prop}{t:Bool}:Ij a b (some (.bool t)) ↔ (t=true/\a\/t=false/\b):=by cases t<;>simp[Ij]
theorem zjb{a b:Prop}:Ij a b (some (.bool true)) ↔ a:=Iff.rfl
theorem zjc{a b:Prop}:Ij a b (some (.bool false)) ↔ b:=Iff.rfl
theorem D2{id:Nat}{ops:Array Oper}:go cx n Q (.c (.region id ops false)::k) .normal ⟨env,H,lk,df⟩ ↔ go cx n Q (.os ops (jN ops) ops.toList::k) .normal ⟨env,H,[],df⟩:=by
 simp only[go];exact zlw
theorem aH:go cx n Q (.os all takes []::k) .normal s ↔ go cx n Q k .normal s:=by simp only[go];exact zqa
theorem qw{dst:fH}{op:Op}{type:aB}{pos:String}{after:Array Edge} :
  go cx n Q (.os all takes (⟨dst,op,type,pos,after,none⟩::os)::k) .normal ⟨env,H,lk,df⟩ ↔ Fh dst (λs=>go cx n Q (.os all takes os::k) .normal s) (go cx n Q k) (cx.op takes ⟨dst,op,type,pos,after,none⟩ env H lk df):=by
 simp only[go];exact znA
def GO(a b:Prop):Option Bool->Prop
 | some true=>a
 | some false=>b
 | none=>False
theorem j4{dst:fH}{op:Op}{type:aB}{pos:String}{after:Array Edge}{g:Nat×Bool} :
  go cx n Q (.os all takes (⟨dst,op,type,pos,after,some g⟩::os)::k) .normal ⟨env,H,lk,df⟩ ↔
   GO (Fh dst (λs=>go cx n Q (.os all takes os::k) .normal s) (go cx n Q k) (cx.op takes ⟨dst,op,type,pos,after,some g⟩ env H lk df)) (go cx n Q (.os all takes os::k) .normal ⟨aq env dst (.bq []),H,lk,df⟩) (zX all ⟨dst,op,type,pos,after,some g⟩ env):=by
 simp only[go];unfold O;simp only[Cx.ops];cases zX all ⟨dst,op,type,pos,after,some g⟩ env with
 | none=>simp[GO]
 | some b =>
  cases b with
  | false=>simp[GO,jO]
  | true =>
   simp only[GO];cases h:cx.op takes ⟨dst,op,type,pos,after,some g⟩ env H lk df with
   | none=>simp
   | some r =>
    obtain⟨r,s1⟩:=r;obtain⟨cK,H1,eB,eu⟩:=s1;cases r<;>simp[jO,JM]
theorem bk:go cx n Q (.on all takes []::k) .normal s ↔ go cx n Q k .normal s:=by simp[go,Cx.pW]
theorem jY{dst:fH}{op:Op}{type:aB}{pos:String}{after:Array Edge} :
  go cx n Q (.on all takes (⟨dst,op,type,pos,after,none⟩::os)::k) .normal ⟨env,H,lk,df⟩ ↔ (au cx ⟨dst,op,type,pos,after,none⟩ env lk=true/\Fh dst (λs=>go cx n Q (.on all takes os::k) .normal s) (λ_ _=>False) (cx.op takes ⟨dst,op,type,pos,after,none⟩ env H lk df)):=by
 simp only[go,Cx.pW,zX];cases au cx ⟨dst,op,type,pos,after,none⟩ env lk with
 | false=>simp
 | true =>
  cases h:cx.op takes ⟨dst,op,type,pos,after,none⟩ env H lk df with
  | none=>simp
  | some r =>
   obtain⟨r,s1⟩:=r;obtain⟨cK,H1,eB,eu⟩:=s1;cases r<;>simp
theorem j5{dst:fH}{op:Op}{type:aB}{pos:String}{after:Array Edge}{g:Nat×Bool} :
  go cx n Q (.on all takes (⟨dst,op,type,pos,after,some g⟩::os)::k) .normal ⟨env,H,lk,df⟩ ↔
   GO (au cx ⟨dst,op,type,pos,after,some g⟩ env lk=true/\Fh dst (λs=>go cx n Q (.on all takes os::k) .normal s) (λ_ _=>False) (cx.op takes ⟨dst,op,type,pos,after,some g⟩ env H lk df)) (go cx n Q (.on all takes os::k) .normal ⟨aq env dst (.bq []),H,lk,df⟩) (zX all ⟨dst,op,type,pos,after,some g⟩ env):=by
 simp only[go,Cx.pW];cases zX all ⟨dst,op,type,pos,after,some g⟩ env with
 | none=>simp[GO]
 | some b =>
  cases b with
  | false=>simp[GO]
  | true =>
   simp only[GO];cases au cx ⟨dst,op,type,pos,after,some g⟩ env lk with
   | false=>simp
   | true =>
    cases h:cx.op takes ⟨dst,op,type,pos,after,some g⟩ env H lk df with
    | none=>simp
    | some r =>
     obtain⟨r,s1⟩:=r;obtain⟨cK,H1,eB,eu⟩:=s1;cases r<;>simp
def Ik(want:Bool):bX->Option Bool
 | some (.bool b)=>some (b == want)
 | some (.bq _)=>some false
 | _=>none
theorem zki{dst:fH}{op:Op}{type:aB}{pos:String}{after:Array Edge}{j:Nat}{want:Bool}{d:Tmp}(hd:(all[j]?).bind (·.dst)=some d):zX all ⟨dst,op,type,pos,after,some (j,want)⟩ env=Ik want (nth env d):=by
 unfold zX Ik;simp only[hd];cases nth env d with
 | none=>rfl
 | some v=>cases v<;>rfl
theorem qh{c:Code}(Inv:Nat->St->Prop)(j:Nat)(hj:j<n)(h0:Inv j s)(mB:∀j s,Inv j s->go cx n (Ih (λs'=>∃i,i<j/\Inv i s') (go cx n Q k)) [.c c] .normal s):go cx n Q (.c (.loop c)::k) .normal s:=by
 simp only[go];exact zpk Inv j hj h0 λj s h=>Tq (mB j s h)
theorem zlF{P:aQ}{gl:Gl}{f:FuncId}{fn:Func}{body:Code}{args:aD}{bs:List aV}{es:aN}{out:Out}{H':Hp}(hk:gl.hk f args=none)(fG:∀H,gl.fG n f args H=none)(hf:P.funcs[f]?=some fn)(hb:fn.body=some body)
  (h:go ⟨P,gl,zj P gl n,gl.uq⟩ n (Fin P fn.results.toList bs.length es out H') [.c body] .normal ⟨args++List.replicate (fn.ntmps - args.length) (.bq []),⟨bs,[]⟩,[],[]⟩):zj P gl (n+1) f args ⟨bs,es⟩=some (out,H') :=
 WX hk fG hf hb (by rw[mT];exact Tq h)
def Fx(P:aQ)(rs:List ResultVar)(tL:V->Hp->Prop):Ex->St->Prop
 | .normal,⟨env,H,_,df⟩|.ret,⟨env,H,_,df⟩=>df=[]/\∃vs,zx P H env rs=some vs/\tL (iZ vs) H
 | _,_=>False
theorem zQ{P:aQ}{gl:Gl}{f:FuncId}{fn:Func}{body:Code}{args:aD}{bs:List aV}{es:aN}{tL:V->Hp->Prop}(hk:gl.hk f args=none)(fG:∀H,gl.fG n f args H=none)(hf:P.funcs[f]?=some fn)(hb:fn.body=some body)
  (h:go ⟨P,gl,zj P gl n,gl.uq⟩ n (Fx P fn.results.toList tL) [.c body] .normal ⟨args++List.replicate (fn.ntmps - args.length) (.bq []),⟨bs,[]⟩,[],[]⟩):∃v H1,zj P gl (n+1) f args ⟨bs,es⟩=some (.ret v,zW bs.length es v.top H1)/\tL v H1:=by
 obtain⟨ex,⟨env,H,lk,df⟩,h1,h2⟩:=Tq h;cases ex<;>simp only[Fx] at h2
 ·obtain⟨rfl,vs,h3,h4⟩:=h2;exact⟨_,H,WX hk fG hf hb ⟨.normal,_,by rw[mT];exact h1,⟨rfl,vs,h3,rfl,rfl⟩⟩,h4⟩
 ·obtain⟨rfl,vs,h3,h4⟩:=h2;exact⟨_,H,WX hk fG hf hb ⟨.ret,_,by rw[mT];exact h1,⟨rfl,vs,h3,rfl,rfl⟩⟩,h4⟩
theorem wX{x:aV}{b:Nat}:(H.push x).get b=match H.get b with|some y=>some y|none=>if b=H.az.length then some x else none:=by
 simp only[Hp.get,Hp.push,zg,List.getElem?_append];split
 next h=>rw[gh h]
 ·rename_i h;have:H.az[b]?=none:=uc (by omega)
  rw[this]
  by_cases e:b=H.az.length
  ·subst e;simp
  ·rw[if_neg e];simp;omega
theorem jx{x:aV}{b c:Nat}:(H.set b x).get c=match H.get c with|some y=>some (if c=b then x else y)|none=>none:=by
 simp only[Hp.get,Hp.set,zg,List.getElem?_set']
 by_cases e:b=c
 ·subst e;cases h:H.az[b]?<;>simp
 ·rw[if_neg e];cases h:H.az[c]?<;>simp[Ne.symm e]
theorem bU{b c:Nat}{v:V}:(H.bQ b v).get c=H.get c:=by
 unfold Hp.bQ;split<;>rfl
theorem jl{x:aV}:(H.push x).az.length=H.az.length+1:=by simp[Hp.push]
theorem wm{x:aV}{b:Nat}:(H.set b x).az.length=H.az.length:=by simp[Hp.set]
theorem xk{b:Nat}{v:V}:(H.bQ b v).az.length=H.az.length:=by
 unfold Hp.bQ;split<;>rfl
theorem kI{b:Nat}{x:aV}(h:H.get b=some x):b<H.az.length:=by
 simp only[Hp.get,zg] at h;exact(c_.1 h).1
theorem Il:H.get H.az.length=none:=by simp[Hp.get,zg]
theorem zlG{b:Nat}(h:H.az.length<=b):H.get b=none:=by simp[Hp.get,zg,h]
end
section
structure SR where
 idx:Nat
 m:Nat
 tm:Nat
 lm:Nat
 hp:Bool
 lk:Bool
 al:Bool
 ld:Bool
 tk:Bool
def vM(o:Oper):Bool:=match o.op with|.alloc _=>true|_=>false
def kJ(takes:bY)(o:Oper):Bool :=
 match o.op with
 | .load ..=>match o.dst with
  | some d=>takes.any (Nat.beq d)
  | none=>false
 | _=>false
def D3(takes:bY)(o:Oper):Bool :=
 match o.op with
 | .load ..=>match o.dst with
  | some d=>!(takes.any (Nat.beq d))
  | none=>false
 | .call ⟨.builtin .len,⟨[_]⟩,⟨[_]⟩⟩=>true
 | _=>false
def rZ:List SR->Nat->Option Nat
 | [],_=>none
 | r::rs,j=>if Nat.beq r.idx j then some r.m else rZ rs j
def NP(rs:List SR):List Edge->Option Nat
 | []=>some 0
 | e::es=>match Region.binds .any e with
  | false=>NP rs es
  | true=>match rZ rs e.on with
   | none=>none
   | some m=>match NP rs es with
    | none=>none
    | some k=>some (Nat.lor k (Nat.lor m (Nat.pow 2 e.on)))
def Tr(r q:SR):Bool :=
 match bit r.m q.idx with
 | true=>true
 | false=>Nat.beq (Nat.land q.tm r.lm) 0 && Nat.beq (Nat.land r.tm q.lm) 0
def W0(r q:SR):Bool :=
 match bit r.m q.idx with
 | true=>true
 | false=>!(r.hp && q.hp) && (!(q.hp && r.lk) || (q.tk && r.ld)) && (!(r.hp && q.lk) || (r.al && q.ld))
def JO(P:aQ)(uq:aB->Bool)(all:Array Oper)(takes:bY):Nat->List SR->List Oper->Bool
 | _,_,[]=>true
 | i,rs,o::os=>match NP rs o.after.toList with
  | none=>false
  | some m =>
   let r:SR:=⟨i,m,mU takes o,Nat.lor (mU takes o) (tw all o),q9 P uq takes o,kU P uq o,vM o,D3 takes o,kJ takes o⟩
   (!r.tk || kz (λq=>!q.tk) rs) && kz (Tr r) rs && (kz (W0 r) rs && JO P uq all takes (i+1) (r::rs) os)
variable{cx:Cx}{all:Array Oper}{takes:bY}
structure LH(cx:Cx)(takes:bY)(q:Rec)(t:SR):Prop where
 idx:q.idx=t.idx
 m:q.m=t.m
 tm:q.tm=t.tm
 lm:q.lm=t.lm
 hp:q.hp=true->t.hp=true
 lk:q.hp=false->q.free=false->t.lk=true
 ld:t.ld=D3 takes q.o
 tk:t.tk=kJ takes q.o
inductive LI(cx:Cx)(takes:bY):List Rec->List SR->Prop where
 |nil:LI cx takes [] []
 |cons {q:Rec} {t:SR} {rs:List Rec} {ts:List SR} (h:LH cx takes q t) (r:LI cx takes rs ts):LI cx takes (q::rs) (t::ts)
theorem zeN{rs:List Rec}{ts:List SR}(h:LI cx takes rs ts):∀(es:List Edge),wx rs es=NP ts es:=by
 have Nv:∀j,maskAt rs j=rZ ts j:=by
  intro j
  induction h with
  | nil=>rfl
  | cons a _ ih=>simp only[maskAt,rZ,a.idx,a.m,ih]
 intro es
 induction es with
 | nil=>rfl
 | cons e es ih=>simp only[wx,NP,Nv,ih];rfl
theorem zg3{rs:List Rec}{ts:List SR}(h:LI cx takes rs ts){f:Rec->Bool}{g:SR->Bool}(hfg:∀q t,LH cx takes q t->g t=true->f q=true)(hg:kz g ts=true):kz f rs=true:=by
 induction h with
 | nil=>rfl
 | cons a _ ih =>
  simp only[kz] at hg ⊢;split at hg
  next h1=>rw[hfg _ _ a h1];exact ih hg
  ·cases hg
theorem kC{α:Type}{f:α->Bool}:∀{l:List α},(∀x∈l,f x=true)->kz f l=true
 | [],_=>rfl
 | y::l,h=>by simp only[kz,h y (eH ..)];exact kC λx hx=>h x (dR _ hx)
theorem yS{rs:List Rec}{ts:List SR}(h:LI cx takes rs ts){g:SR->Bool}(hg:kz g ts=true):∀q∈rs,∃t,LH cx takes q t/\g t=true:=by
 induction h with
 | nil=>intro q hq;simp at hq
 | cons a _ ih =>
  simp only[kz] at hg;split at hg<;>try (cases hg;done)
  rename_i h1;intro q hq;rcases dH.1 hq with rfl|hq
  ·exact⟨_,a,h1⟩
  ·exact ih hg q hq
theorem zM{H:Hp}{b:Nat}{x y:aV}(h:H.get b=some y):(H.push x).get b=some y:=by rw[wX,h]
theorem zid{P:aQ}{gl:Nat->Nat->bX}{H:Hp}{x:aV}{t:aB}{p v:V}(h:zk P H gl t p=some v):zk P (H.push x) gl t p=some v:=by
 cases p<;>simp only[zk] at h ⊢<;>first|exact h|skip
 ·rename_i b off;cases hb:H.get b with
  | none=>simp[hb] at h
  | some y=>rw[zM hb];simpa[hb] using h
 ·rename_i b u k;cases hb:H.get b with
  | none=>simp[hb] at h
  | some y=>rw[zM hb];simpa[hb] using h
theorem zkj{P:aQ}{H:Hp}{x:aV}{t:aB}{p:V}{v:Int}(h:jb P H t p=some v):jb P (H.push x) t p=some v:=by
 unfold jb at h ⊢;split at h<;>try (simp only[*];done)
 ·rename_i hu;split at h<;>try (cases h;done)
  rename_i es hb;simp only[zM hb];exact h
theorem zeO{o:Oper}(gw:D3 takes o=true){env:aD}{v:V}{D:Nat}{H:Hp}{x:aV}{lk:aN}{df:bO}(h:cx.eM takes o env v ⟨D,H,lk,df⟩=true):cx.eM takes o env v ⟨D,H.push x,lk,df⟩=true:=by
 obtain⟨dst,op,type,pos,after,guard⟩:=o;unfold D3 at gw;split at gw<;>try (cases gw;done)
 ·rename_i t a aC;simp only at aC;subst aC;cases dst with
  | none=>simp at gw
  | some d =>
   have ht:takes.any (Nat.beq d)=false:=by simpa using gw
   simp only[Cx.eM,Cx.dK,Tk ht] at h ⊢;cases hp:ak env a with
   | none=>simp[hp,iB] at h
   | some p =>
    cases hl:zk cx.P H cx.gl t p with
    | none=>simp[hp,hl,iB] at h
    | some u=>simpa[hp,hl,zid hl,iB] using h
 ·rename_i x0 t0 aC;simp only at aC;subst aC;have hh:∀H',cx.op takes ⟨dst,.call ⟨.builtin .len,#[x0],#[t0]⟩,type,pos,after,guard⟩ env H' lk df=iB env H' lk df (((ak env x0).bind (jb cx.P H' t0)).map (.int .i64)):=λH'=>kA;simp only[Cx.eM,Cx.dK] at h ⊢;rw[show(⟨[x0]⟩:rL)=#[x0] from rfl,show(⟨[t0]⟩:Array aB)=#[t0] from rfl] at *;rw[hh] at h ⊢;cases hp:ak env x0 with
  | none=>simp[hp,iB] at h
  | some p =>
   cases hl:jb cx.P H t0 p with
   | none=>simp[hp,hl,iB] at h
   | some u=>simpa[hp,hl,zkj hl,iB] using h
end
section
variable{cx:Cx}{takes:bY}{P:aQ}{gl:Nat->Nat->bX}{dst:fH}{type:aB}{pos:String}{after:Array Edge}{guard:oZ}{env:aD}{H:Hp}{lk:aN}{df:bO}
def PK(P:aQ)(t:aB)(env:aD)(H:Hp)(lk:aN)(df:bO)(y x:bX):Option (OR×St):=do
 let .slice e <- P.underlying t|none
 let n <- z4 P e
 let i <- P.info? e
 let z <- i.zero
 let ys <- ww P H e (<- y)
 if !Nat.beq z.cells.size n || Nat.beq n 0 then none else
 match <- x with
 | .aG=>match ys with
  | []=>some (.val .aG,⟨env,H,lk,df⟩)
  | _=>if kx ys.length i.bytes then some (.val (.dD H.az.length 0 ys.length),⟨env,H.push (.ul 0 n (bW ys) e),lk,df⟩) else none
 | .dD b u len=>match H.get b with
  | some (.ul eI sz cs e') =>
   if Nat.beq e e' && Nat.beq n sz && Nat.beq eI u && kx (len+ys.length) i.bytes then
    some (.val (.dD b (eI+1) (len+ys.length)),⟨env,(H.set b (.ul (eI+1) sz (cs++bW ys) e)).bQ b (.bq ys),lk,df⟩)
   else none
  | _=>none
 | .sr b off len cap=>match H.get b with
  | some (.cells cs ty) =>
   if Nat.beq off 0 && Nat.beq n 1 && Nat.beq ty e && Nat.beq ((bW ys).map aW).length ys.length && Nat.ble (len+ys.length) cap && Nat.ble (len+ys.length) cs.length && wv lk b len ys.length (cs.drop len) then
    some (.val (.sr b 0 (len+ys.length) cap),⟨env,(H.set b (.cells (storeCells cs len ((bW ys).map aW)) ty)).bQ b (.bq ((bW ys).map aW)),lk,df⟩)
   else match ww P H e (.sr b off len cap) with
    | some xs =>
     if Nat.beq xs.length len && Nat.ble 1 len && Nat.ble (cap+1) (len+ys.length) && kx (len+ys.length) i.bytes then
      some (.val (.dD H.az.length 0 (len+ys.length)),⟨env,H.push (.ul 0 n (bW xs++bW ys) e),lk,df⟩)
     else none
    | none=>none
  | _=>none
 | _=>none
theorem W1{x y:aX}{t:aB}(hu:pN cx.P cx.uq t=true):cx.op takes ⟨dst,.call ⟨.builtin .append,#[x,y],#[t,t]⟩,type,pos,after,guard⟩ env H lk df=PK cx.P t env H lk df (ak env y) (ak env x):=by
 simp only[Cx.op,hu,iN,aF];simp only[Cx.mL,PK,de,qz,qm,jd]
 congr 1
theorem znD{t e n:Nat}{i:TypeInfo}{z:bt}(h1:P.underlying t=some (.slice e))(h2:z4 P e=some n)(h3:P.info? e=some i)(h4:i.zero=some z)(h5:z.cells.size=n)(h6:n≠0){xs:aD}{o:ug}{x:bX} :
  PK P t env H lk df (some (.sl n xs o)) x=match x with
   | some .aG=>(match xs with
    | []=>some (.val .aG,⟨env,H,lk,df⟩)
    | _=>if kx xs.length i.bytes then some (.val (.dD H.az.length 0 xs.length),⟨env,H.push (.ul 0 n (bW xs) e),lk,df⟩) else none)
   | some (.dD b u len)=>(match H.get b with
    | some (.ul eI sz cs e')=>if (e=e'/\n=sz/\eI=u/\kx (len+xs.length) i.bytes=true) then
      some (.val (.dD b (eI+1) (len+xs.length)),⟨env,(H.set b (.ul (eI+1) sz (cs++bW xs) e)).bQ b (.bq xs),lk,df⟩) else none
    | _=>none)
   | some (.sr b off len cap)=>(match H.get b with
    | some (.cells cs ty)=>if Nat.beq off 0 && Nat.beq n 1 && Nat.beq ty e && Nat.beq ((bW xs).map aW).length xs.length && Nat.ble (len+xs.length) cap && Nat.ble (len+xs.length) cs.length && wv lk b len xs.length (cs.drop len) then
      some (.val (.sr b 0 (len+xs.length) cap),⟨env,(H.set b (.cells (storeCells cs len ((bW xs).map aW)) ty)).bQ b (.bq ((bW xs).map aW)),lk,df⟩) else match ww P H e (.sr b off len cap) with
       | some zs=>if Nat.beq zs.length len && Nat.ble 1 len && Nat.ble (cap+1) (len+xs.length) && kx (len+xs.length) i.bytes then
         some (.val (.dD H.az.length 0 (len+xs.length)),⟨env,H.push (.ul 0 n (bW zs++bW xs) e),lk,df⟩) else none
       | none=>none
    | _=>none)
   | _=>none:=by
 have h7:(!Nat.beq z.cells.size n || Nat.beq n 0)=false:=by
  rw[h5];cases n with
  | zero=>exact absurd rfl h6
  | succ n=>simp[Nat.beq]
 simp only[PK,h1,h2,h3,h4,ww,Option.bind_eq_bind,aT,h7,aF,fP,bw];cases x with
 | none=>rfl
 | some v =>
  cases v<;>try rfl
  rename_i b u len;simp only[aT];cases H.get b with
  | none=>rfl
  | some y =>
   cases y<;>try rfl
   rename_i eI sz cs e';simp only[eo,Nat.beq_eq,and_assoc]
def NQ(P:aQ)(t:aB)(env:aD)(H:Hp)(lk:aN)(df:bO):bX->Option bX->Option bX->Option (OR×St)
 | some (.dD b u len),some none,some (some (.int _ h))=>match P.underlying t,H.get b with
  | some (.slice e'),some (.ul eI sz cs e)=>match z4 P e' with
   | some _=>if eI=u/\0<=h/\h.toNat<=len then some (.val (.dD b (eI+1) h.toNat),⟨env,(H.set b (.ul (eI+1) sz (cs.take (h.toNat * sz)) e)).bQ b .fR,lk,df⟩) else none
   | none=>none
  | _,_=>none
 | some (.sr b off len cap),some lo,some hi=>match yW P t (.sr b off len cap) lo hi with
  | some v=>some (.val v,⟨env,H,lk,df⟩)
  | none=>none
 | _,_,_=>none
theorem zeP{x:aX}{hi:Option aX}:xz takes x none hi=false:=by cases x<;>rfl
theorem zdA{x:aX}{t:aB}{lo hi:Option aX}(hu:pN cx.P cx.uq t=true)(hf:xz takes x lo hi=false):cx.op takes ⟨dst,.slice t x lo hi none,type,pos,after,guard⟩ env H lk df=NQ cx.P t env H lk df (ak env x) (cU env lo) (cU env hi):=by
 simp only[Cx.op,hf,hu];simp only[Cx.ot,eE,qz,jd];unfold NQ;cases hx:ak env x with
 | none=>split<;>simp_all
 | some v =>
  by_cases S0:∃b off len cap,v=.sr b off len cap
  ·obtain⟨b,off,len,cap,rfl⟩:=S0;cases cU env lo with
   | none=>split<;>simp_all
   | some lo=>cases cU env hi with
    | none=>split<;>simp_all
    | some hi=>cases cx.P.underlying t with
     | none=>rfl
     | some d=>cases d<;>rfl
  cases v<;>(try (split<;>simp_all;done))
  rename_i b u len;cases hl:cU env lo with
  | none=>split<;>simp_all
  | some l =>
   cases l with
   | some l=>split<;>simp_all
   | none =>
    cases hh:cU env hi with
    | none=>split<;>simp_all
    | some h =>
     cases h with
     | none=>split<;>simp_all
     | some h =>
      cases h<;>(try (split<;>simp_all;done))
      rename_i k h;cases hP:cx.P.underlying t with
      | none=>simp
      | some d =>
       cases d<;>simp only<;>try rfl
       rename_i e';cases H.get b with
       | none=>simp
       | some y =>
        cases y<;>simp only<;>try (cases z4 cx.P e'<;>rfl)
        rename_i eI sz cs e;cases z4 cx.P e' with
        | none=>rfl
        | some m=>simp only[eo,Nat.beq_eq,decide_eq_true_eq,Nat.ble_eq,and_assoc]
def qr(P:aQ)(t:aB)(H:Hp)(lk:aN)(df:bO)(x:Option (V×aD)):bX->Option (OR×St)
 | some (.ptr b off)=>match z4 P t with
  | some n=>PI n H lk df (some (.ptr b off)) x
  | none=>none
 | some (.gj b u k)=>match x,z4 P t,H.get b with
  | some (x,env),some n,some (.ul eI sz cs e)=>if eI=u/\dz (aW x)=true/\(aW x).cells.length=n/\k+n<=cs.length then
    some (.skip,⟨env,(H.set b (.ul eI sz (storeCells cs k (aW x).cells) e)).bQ b (aW x),lk,df⟩) else none
  | _,_,_=>none
 | _=>none
theorem zU{t:aB}{a x:aX}:cx.op takes ⟨dst,.store t a x,type,pos,after,guard⟩ env H lk df=qr cx.P t H lk df (take env x) (ak env a):=by
 cases ha:ak env a with
 | none=>simp[Cx.op,ha,qr]
 | some p =>
  cases p<;>try (simp[Cx.op,ha,qr];done)
  ·rename_i b off;cases hn:z4 cx.P t with
   | none =>
    simp only[Cx.op,ha,hn,qr];cases take env x<;>rfl
   | some n =>
    rw[zlA hn (λ_ _ _=>by rw[ha];simp)]
    simp only[qr,hn,ha]
  ·rename_i b u k;simp only[Cx.op,ha,qr,qp,eE,jd];cases take env x with
   | none=>rfl
   | some q =>
    obtain⟨x,cX⟩:=q;cases z4 cx.P t with
    | none=>rfl
    | some n =>
     cases H.get b with
     | none=>rfl
     | some y =>
      cases y<;>try rfl
      simp only[eo,Nat.beq_eq,Nat.ble_eq,and_assoc]
def vW(P:aQ)(t:aB)(env:aD)(H:Hp)(lk:aN)(df:bO):bX->Option (OR×St)
 | some (.ptr b off)=>match qD P t with
  | some false=>match H.get b with
   | some (.cells cs ty)=>match nth cs off with
    | some (.sl sz xs (.yes e))=>some (.val (.sl sz xs (.yes e)),⟨env,(H.set b (.cells (cs.set off (.sl sz xs .lock)) ty)).bQ b .fR,(b,off)::lk,df⟩)
    | some .aG=>some (.val .aG,⟨env,H,lk,df⟩)
    | some (.dD c u n)=>some (.val (.dD c u n),⟨env,H,lk,df⟩)
    | _=>none
   | _=>none
  | _=>none
 | _=>none
theorem xl{d:Tmp}{t:aB}{a:aX}(h:takes.any (Nat.beq d)=true):cx.op takes ⟨some d,.load t a,type,pos,after,guard⟩ env H lk df=vW cx.P t env H lk df (ak env a):=by
 simp only[Cx.op,h,fm,jd];unfold vW;cases ha:ak env a with
 | none=>cases qD cx.P t with
  | none=>rfl
  | some b=>cases b<;>rfl
 | some p =>
  cases p<;>cases qD cx.P t<;>(try rfl)<;>rename_i g<;>cases g<;>rfl
def Ts(t:aB)(env:aD)(H:Hp)(lk:aN)(df:bO):bX->Option (OR×St)
 | some z=>if dz z=true then some (.val (.ptr H.az.length 0),⟨env,H.push (.cells z.cells t),lk,df⟩) else none
 | none=>none
theorem qO{t:aB}:cx.op takes ⟨dst,.alloc t,type,pos,after,guard⟩ env H lk df=Ts t env H lk df (qQ cx.P t):=by
 simp only[Cx.op,Ts];cases qQ cx.P t with
 | none=>rfl
 | some z=>cases hz:dz z<;>simp[qp,qm,hz]
theorem zH{t:aB}{z:V}(h:dz z=true):Ts t env H lk df (some z)=some (.val (.ptr H.az.length 0),⟨env,H.push (.cells z.cells t),lk,df⟩):=by simp[Ts,h]
theorem zqb{d t:Nat}(h:d≠t):[t].any (Nat.beq d)=false:=by
 cases hb:Nat.beq d t with
 | false=>simp[hb]
 | true=>exact absurd (eU hb) h
theorem jy{t d:Tmp}{x:aX}(h:d≠t):cx.op [t] ⟨some d,.move x,type,pos,after,guard⟩ env H lk df=iB env H lk df (ak env x):=zi8 (zqb h)
theorem jz{t d:Tmp}{ty:aB}{a:aX}(h:d≠t):cx.op [t] ⟨some d,.load ty a,type,pos,after,guard⟩ env H lk df=iB env H lk df (((ak env a).bind (zk cx.P H cx.gl ty)).map aW):=Tk (zqb h)
theorem jq{d:Tmp}{t:aB}{a:aX}:cx.op [d] ⟨some d,.load t a,type,pos,after,guard⟩ env H lk df=vW cx.P t env H lk df (ak env a):=xl (by simp)
theorem jr{d:Tmp}{x:aX}:cx.op [d] ⟨some d,.move x,type,pos,after,guard⟩ env H lk df=Tj H lk df (take env x):=zlx (by simp)
def PL(P:aQ)(t:aB):bX->bX
 | some v=>match P.underlying t with
  | some (.slice e)=>match z4 P e,qQ P e with
   | some n,some z=>if n≠0/\n<=16777216/\z.cells.length=n/\dz z=true/\dz v=true/\v.cells.length=n then some (.sl n [v] (.yes e)) else none
   | _,_=>none
  | _=>none
 | none=>none
theorem jP{t:aB}{x:aX}:cx.op takes ⟨dst,.buildSlice t 1 #[(0,x)],type,pos,after,guard⟩ env H lk df=iB env H lk df (PL cx.P t (ak env x)):=by
 simp only[Cx.op];refine vU ?_;simp only[jf,PL];cases h1:cx.P.underlying t with
 | none=>cases ak env x<;>rfl
 | some d =>
  cases d<;>(try (cases ak env x<;>rfl))
  rename_i e;cases h2:z4 cx.P e with
  | none=>cases ak env x<;>simp[h2]
  | some n =>
   cases h3:qQ cx.P e with
   | none=>cases ak env x<;>simp[h2,h3]
   | some z =>
    simp only[h2,h3,Option.bind_eq_bind,aT];cases hx:ak env x with
    | none=>simp[Ei,hx]
    | some v =>
     simp only[Ei,hx,Option.bind_eq_bind,aT,qp,fm,Nat.one_mul]
     by_cases c0:n=0
     ·subst c0;simp[Nat.beq]
     ·have NR:Nat.beq n 0=false:=by cases n with
       | zero=>exact absurd rfl c0
       | succ n=>rfl
      by_cases c1:n<=16777216
      ·have lM:Nat.blt 16777216 n=false:=by
        cases hb:Nat.blt 16777216 n with
        | false=>rfl
        | true=>have:=rJ hb;omega
       by_cases c2:z.cells.length=n
       ·cases c3:dz z with
        | false=>simp[NR,lM,c2]
        | true =>
         cases c4:dz v with
         | false=>simp[NR,lM,c2]
         | true =>
          by_cases c5:v.cells.length=n
          ·simp[NR,c2,c5,c0,c1,Nat.blt];omega
          ·simp[NR,lM,c2,c5]
       ·simp[NR,lM,c2]
      ·have lM:Nat.blt 16777216 n=true:=KH (by omega)
       simp[NR,lM,c1]
theorem znF{P:aQ}{t e n:Nat}{z v:V}(h1:P.underlying t=some (.slice e))(h2:z4 P e=some n)(h3:qQ P e=some z)(h4:(n≠0/\n<=16777216/\z.cells.length=n/\dz z=true))(h5:dz v=true)(h6:v.cells.length=n):PL P t (some v)=some (.sl n [v] (.yes e)):=by
 obtain⟨a,b,c,d⟩:=h4;simp[PL,h1,h2,h3,a,b,c,d,h5,h6]
end
section
variable{cx:Cx}{all:Array Oper}{takes:bY}
def Im(c:ei)(s:St):Prop :=
 (c.H=s.H/\c.lk=s.lk/\c.df=s.defers)\/∃b off cs ty sz xs e,c.H.get b=some (.cells cs ty)/\nth cs off=some (.sl sz xs (.yes e))/\s.H=(c.H.set b (.cells (cs.set off (.sl sz xs .lock)) ty)).bQ b .fR/\s.lk=(b,off)::c.lk/\s.defers=c.df
theorem zjd{o:Oper}(h:kJ takes o=true){env:aD}{H:Hp}{lk:aN}{df:bO}{v:V}{D:Nat}{s1:St}(aC:cx.op takes o env H lk df=some (.val v,s1)):Im ⟨D,H,lk,df⟩ s1:=by
 obtain⟨dst,op,type,pos,after,guard⟩:=o;unfold kJ at h;split at h<;>try (cases h;done)
 rename_i t a lz;simp only at lz;subst lz;cases dst with
 | none=>cases h
 | some d =>
  simp only at h;rw[xl h] at aC;unfold vW at aC;split at aC<;>try (cases aC;done)
  split at aC<;>try (cases aC;done)
  split at aC<;>try (cases aC;done)
  rename_i cs ty hb;split at aC<;>try (cases aC;done)
  next sz xs e hn=>cases aC;exact .inr ⟨_,_,cs,ty,sz,xs,e,hb,hn,rfl,rfl,rfl⟩
  ·cases aC;exact .inl ⟨rfl,rfl,rfl⟩
  ·cases aC;exact .inl ⟨rfl,rfl,rfl⟩
theorem zkl{P:aQ}{c:ei}{s:St}(h:Im c s){t:aB}{p:V}{v:Int}(hl:jb P s.H t p=some v):jb P c.H t p=some v:=by
 rcases h with⟨h,_⟩|⟨b,off,cs,ty,sz,xs,e,hb,hn,hs,_⟩
 ·rw[h];exact hl
 ·unfold jb at hl ⊢;split at hl<;>try (simp only[*];done)
  rename_i m hu;split at hl<;>try (cases hl;done)
  rename_i es hm;rw[hs,bU,jx] at hm;split at hm<;>try (cases hm;done)
  rename_i y hy;split at hm
  ·cases hm
  ·cases hm;simp only[hy];exact hl
theorem zie{P:aQ}{gl:Nat->Nat->bX}{c:ei}{s:St}(h:Im c s){t:aB}{p u:V}(hk:qD P t=some false\/∀b off,p=.ptr b off->s.lk.all (λq=>!(Nat.beq q.1 b))=true)(hl:zk P s.H gl t p=some u):∃u',zk P c.H gl t p=some u'/\aW u'=aW u:=by
 rcases h with⟨h,_⟩|⟨b,off,cs,ty,sz,xs,e,hb,hn,hs,pO,_⟩
 ·rw[h];exact⟨u,hl,rfl⟩
 ·cases p<;>(try (exact⟨u,hl,rfl⟩))
  ·rename_i b' off';simp only[zk,hs,bU,jx] at hl ⊢
   by_cases La:b'=b
   ·subst La;rcases hk with hk|hk
    ·simp only[hb,aF,Option.bind_eq_bind,aT,wd,hk] at hl ⊢;rw[zg,List.getElem?_set'] at hl
     by_cases ho:off=off'
     ·subst ho;rw[zg] at hn;simp only[aF,hn,aS,Function.const,Option.map_eq_map] at hl;cases hl;exact⟨.sl sz xs (.yes e),by simp[zg,hn],rfl⟩
     ·rw[if_neg ho] at hl;exact⟨u,by rw[zg];exact hl,rfl⟩
    ·have:=hk b' off' rfl;rw[pO] at this;simp at this
   ·cases hg:c.H.get b' with
    | none=>simp[hg] at hl
    | some y=>simp only[hg,if_neg La] at hl;exact⟨u,by simpa[hg] using hl,rfl⟩
  ·rename_i b' u' k;simp only[zk,hs,bU,jx] at hl ⊢
   by_cases La:b'=b
   ·subst La;simp[hb] at hl
   ·cases hg:c.H.get b' with
    | none=>simp[hg] at hl
    | some y=>simp only[hg,if_neg La] at hl;exact⟨u,by simpa[hg] using hl,rfl⟩
theorem zeQ{o:Oper}(gw:D3 takes o=true){env:aD}{v:V}{c:ei}{s s1:St}(hL:Im c s)(hk:au cx o env s.lk=true)(aC:cx.op takes o env s.H s.lk s.defers=some (.val v,s1)):cx.eM takes o env v c=true:=by
 obtain⟨dst,op,type,pos,after,guard⟩:=o;unfold D3 at gw;split at gw<;>try (cases gw;done)
 ·rename_i t a lz;simp only at lz;subst lz;cases dst with
  | none=>simp at gw
  | some d =>
   have ht:takes.any (Nat.beq d)=false:=by simpa using gw
   simp only[Cx.eM,Cx.dK,Tk ht] at aC ⊢;cases hp:ak env a with
   | none=>simp[hp,iB] at aC
   | some p =>
    cases hl:zk cx.P s.H cx.gl t p with
    | none=>simp[hp,hl,iB] at aC
    | some u =>
     obtain⟨u',h1,h2⟩:=zie hL (by
      simp only[au] at hk;split at hk
      next h=>exact .inl h
      ·refine .inr λb off e=>?_;rw[hp,e] at hk
       exact hk) hl
     simp only[hp,hl,iB,aT,aS,br,cg,OR.val.injEq] at aC;simp only[aT,h1,aS,iB,h2,aC.1,V.cN]
 ·rename_i x0 t0 lz;simp only at lz;subst lz;have hh:∀H' HR HS,cx.op takes ⟨dst,.call ⟨.builtin .len,#[x0],#[t0]⟩,type,pos,after,guard⟩ env H' HR HS=iB env H' HR HS (((ak env x0).bind (jb cx.P H' t0)).map (.int .i64)):=λH' HR HS=>kA;rw[show(⟨[x0]⟩:rL)=#[x0] from rfl,show(⟨[t0]⟩:Array aB)=#[t0] from rfl,hh] at aC;simp only[Cx.eM,Cx.dK]
  rw[show(⟨[x0]⟩:rL)=#[x0] from rfl,show(⟨[t0]⟩:Array aB)=#[t0] from rfl,hh];cases hp:ak env x0 with
  | none=>simp[hp,iB] at aC
  | some p =>
   cases hl:jb cx.P s.H t0 p with
   | none=>simp[hp,hl,iB] at aC
   | some u =>
    simp only[hp,hl,iB,aT,aS,br,cg,OR.val.injEq] at aC;simp only[aT,zkl hL hl,aS,iB,aC.1,V.cN]
structure Tt(cx:Cx)(takes:bY)(i:Nat)(rs:List Rec)(ts:List SR)(c0:ei)(rest:List ei)(s:St):Prop where
 pr:LI cx takes rs ts
 lt:∀q∈rs,q.idx<i
 cD:∀b,bit c0.D b=true ↔ ∃q∈rs,q.hp=true/\q.idx=b
 c0:c0.H=s.H/\c0.lk=s.lk/\c0.df=s.defers
 rD:∀c∈rest,∀b,bit c.D b=true->∃q∈rs,q.idx=b
 rest:∀c∈rest,(∃q∈rs,q.hp=true/\kJ takes q.o=false/\bit c.D q.idx=false)\/((∃q∈rs,q.hp=true/\kJ takes q.o=true/\bit c.D q.idx=false)/\Im c s)
 Io:∀q∈rs,q.hp=false->q.free=false->(∃c∈rs,c.hp=true/\bit c.m q.idx=true)\/(∀D,cx.eM takes q.o q.env q.v ⟨D,s.H,s.lk,s.defers⟩=true)
theorem zje{rs:List Rec}{c0 c1:ei}{rest:List ei}{r:Rec}{k:List ei->Option (Ex×St)}
  (lQ:r.hp=true->∀c∈rest,vA (Nat.land r.m (ep rs)) c.D=false)
  (sA:r.hp=false->r.free=false->∀c∈rest,vA (Nat.land r.m (ep rs)) c.D=false\/cx.eM takes r.o r.env r.v c=true)
  (ng:∀b,(∃q∈rs,q.hp=true/\q.idx=b)->bit c1.D b=true)
  (og:r.hp=true->∀q∈rs,q.hp=false->q.free=false->bit r.m q.idx=true\/(∃c∈rs,c.hp=true/\bit c.m q.idx=true)\/cx.eM takes q.o q.env q.v c1=true) :
  cx.fj takes rs r c0 c1 rest k=k (bif r.hp then c1::c0::rest else c0::rest):=by
 unfold Cx.fj;cases hh:r.hp with
 | false =>
  have:(r.free || kz (λc=>match vA (Nat.land r.m (ep rs)) c.D with|true=>cx.eM takes r.o r.env r.v c|false=>true) rest)=true:=by
   cases hf:r.free with
   | true=>rfl
   | false =>
    simp only[uQ];exact kC λc hc=>by
     rcases sA hh hf c hc with h|h
     ·simp only[h]
     ·split
      ·exact h
      ·rfl
  show(match r.free || kz (λc=>match vA (Nat.land r.m (ep rs)) c.D with|true=>cx.eM takes r.o r.env r.v c|false=>true) rest with|true=>k (c0::rest)|false=>none)=k (c0::rest)
  rw[this]
 | true =>
  simp only[mJ];have cq:∀l:List ei,(∀c∈l,vA (Nat.land r.m (ep rs)) c.D=false)->cx.gR takes r.o r.env r.v (Nat.land r.m (ep rs)) (Nat.pow 2 r.idx) l=some []:=by
   intro l
   induction l with
   | nil=>intro _;rfl
   | cons c l ih=>intro h;simp only[Cx.gR,h c (eH ..)];exact ih λc hc=>h c (dR _ hc)
  rw[cq rest (lQ hh)];have dX:cx.eK takes rs (ep rs) r (c1::c0::rest) c1=true:=by
   unfold Cx.eK;refine kC λq hq=>?_;split
   ·rfl
   ·cases lW:q.hp with
    | true =>
     simp only;rw[ng q.idx ⟨q,hq,lW,rfl⟩]
    | false =>
     simp only;cases oV:q.free with
     | true=>rfl
     | false =>
      rcases og hh q hq lW oV with h|⟨c,hc,h1,h2⟩|h
      ·simp[h]
      ·have:KT c1.D q rs=true:=by
        have hx:∀l:List Rec,c∈l->KT c1.D q l=true:=by
         intro l
         induction l with
         | nil=>intro h;simp at h
         | cons d l ih =>
          intro h;simp only[KT,tn,eo];rcases dH.1 h with rfl|h
          ·exact .inl ⟨⟨h1,ng _ ⟨c,hc,h1,rfl⟩⟩,h2⟩
          ·exact .inr (ih h)
        exact hx rs hc
       simp[this]
      ·simp[h]
  have PM:cx.eK takes rs (ep rs) r ([c1]++c0::rest) c1=true:=dX;simp only[kz,PM];rfl
theorem zg4{o:Oper}(h:vM o=true){env:aD}{H:Hp}{lk:aN}{df:bO}{v:V}{s1:St}(aC:cx.op takes o env H lk df=some (.val v,s1)):∃x,s1=⟨env,H.push x,lk,df⟩:=by
 obtain⟨dst,op,type,pos,after,guard⟩:=o;unfold vM at h;split at h<;>try (cases h;done)
 rename_i t lz;simp only at lz;subst lz;simp only[Cx.op] at aC;split at aC<;>try (cases aC;done)
 split at aC<;>try (cases aC;done)
 simp only[qp,qm,br,cg] at aC;exact⟨_,aC.2.symm⟩
theorem W4{s':St}:∀(os:List Oper)(i:Nat)(rs:List Rec)(ts:List SR)(c0:ei)(rest:List ei)(s:St),Tt cx takes i rs ts c0 rest s->JO cx.P cx.uq all takes i ts os=true->cx.pW all takes os s=some s'->cx.eN all takes i rs (c0::rest) os s=some (.normal,s')
 | [],i,rs,ts,c0,rest,s,_,_,hc=>by
  simp only[Cx.pW,br] at hc;simp only[Cx.eN,hc]
 | o::os,i,rs,ts,c0,rest,⟨env,H,lk,df⟩,hI,e_,hc=>by
  simp only[JO] at e_;split at e_<;>try (cases e_;done)
  rename_i m hm;simp only[eo] at e_;obtain⟨⟨mb,Ib⟩,LJ,e_⟩:=e_;have sC:∀(hp free:Bool)(v:V),kz (kw ⟨i,o,m,mU takes o,Nat.lor (mU takes o) (tw all o),hp,free,env,v⟩) rs=true:=λhp free v =>
   zg3 hI.pr (λq t tG hg=>by simp only[Tr] at hg;simp only[kw,tG.idx,tG.tm,tG.lm];exact hg) Ib
  have key:∀(hp free:Bool)(v:V)(H1:Hp)(eB:aN)(eu:bO)(cK:aD),
    (hp=true->q9 cx.P cx.uq takes o=true)->(hp=false->free=false->kU cx.P cx.uq o=true) ->
    (hp=false->H1=H/\eB=lk/\eu=df)->(hp=false->free=false->∀D,cx.eM takes o env v ⟨D,H,lk,df⟩=true) ->
    (hp=true->vM o=true->∃x,H1=H.push x/\eB=lk/\eu=df) ->
    (hp=true->kJ takes o=true->∀D,Im ⟨D,H,lk,df⟩ ⟨cK,H1,eB,eu⟩) ->
    (hp=false->free=false->D3 takes o=true->∀c,Im c ⟨env,H,lk,df⟩->cx.eM takes o env v c=true) ->
    cx.pW all takes os ⟨cK,H1,eB,eu⟩=some s' ->
    (match kz (kw ⟨i,o,m,mU takes o,Nat.lor (mU takes o) (tw all o),hp,free,env,v⟩) rs,c0::rest with
     | true,c0::cs=>cx.fj takes rs ⟨i,o,m,mU takes o,Nat.lor (mU takes o) (tw all o),hp,free,env,v⟩ c0 ⟨Nat.lor c0.D (Nat.pow 2 i),H1,eB,eu⟩ cs λcs =>
      cx.eN all takes (i+1) (⟨i,o,m,mU takes o,Nat.lor (mU takes o) (tw all o),hp,free,env,v⟩::rs) cs os ⟨cK,H1,eB,eu⟩
     | _,_=>none)=some (.normal,s'):=by
   intro hp free v H1 eB eu cK h1 h2 h3 h4 h5 W5 W6 h6;rw[sC];simp only;have bR:∀q∈rs,q.idx≠i:=λq hq e=>by have:=hI.lt q hq;omega
   have ng:∀b,(∃q∈rs,q.hp=true/\q.idx=b)->bit (Nat.lor c0.D (Nat.pow 2 i)) b=true:=λb hb=>by rw[w9,(hI.cD b).2 hb];rfl
   have A8:=yS hI.pr LJ;have og:hp=true->∀q∈rs,q.hp=false->q.free=false->bit m q.idx=true\/(∃c∈rs,c.hp=true/\bit c.m q.idx=true)\/∀D,cx.eM takes q.o q.env q.v ⟨D,H1,eB,eu⟩=true:=λhr q hq lW oV=>by
    obtain⟨t,ht,hg⟩:=A8 q hq;simp only[W0] at hg;split at hg
    next hb=>exact .inl (by rw[ht.idx];exact hb)
    ·rw[h1 hr,ht.lk lW oV] at hg;simp only[s5,mh,uQ,eo] at hg;obtain⟨_,rN,gw⟩:=hg;rcases hI.Io q hq lW oV with h|h
     ·exact .inr (.inl h)
     ·obtain⟨x,e1,e2,e3⟩:=h5 hr rN;subst e1 e2 e3;rw[ht.ld] at gw;exact .inr (.inr λD=>zeO gw (h D))
   have Fi:kJ takes o=true->∀q∈rs,kJ takes q.o=false:=λht q hq=>by
    rw[ht] at mb;simp only[mh,uQ] at mb;obtain⟨t,h7,h8⟩:=yS hI.pr mb q hq;rw[<- h7.tk];simpa using h8
   have iF:(hp=true\/(hp=false/\free=false))->∀q∈rs,q.hp=true->bit m q.idx=true\/(hp=false/\kJ takes q.o=true/\D3 takes o=true):=λhr q hq lW=>by
    obtain⟨t,ht,hg⟩:=A8 q hq;simp only[W0] at hg;split at hg
    next hb=>exact .inl (by rw[ht.idx];exact hb)
    ·rw[ht.hp lW] at hg;simp only[Bool.and_true,s5,eo,Gq] at hg;obtain⟨⟨g1,g2⟩,_⟩:=hg;rcases hr with hr|⟨hr,hf⟩
     ·rw[h1 hr] at g1;cases g1
     ·rw[h2 hr hf] at g2;simp only[mh,uQ,eo] at g2;exact .inr ⟨hr,by rw[<- ht.tk];exact g2.1,g2.2⟩
   have sD:∀c:ei,(∃q∈rs,q.hp=true/\bit m q.idx=true/\bit c.D q.idx=false)->vA (Nat.land m (ep rs)) c.D=false:=λc hc=>by
    obtain⟨q,hq,e1,e2,e3⟩:=hc;cases hs:vA (Nat.land m (ep rs)) c.D with
    | false=>rfl
    | true =>
     have:=pU.1 hs q.idx (by rw[NF,e2,lu.2 ⟨q,hq,e1,rfl⟩];rfl)
     rw[this] at e3;cases e3
   have PN:∀c:ei,(∀b,bit c.D b=true->∃q∈rs,q.idx=b)->bit c.D i=false:=λc hc=>by
    cases hb:bit c.D i with
    | false=>rfl
    | true =>
     obtain⟨q,hq,e⟩:=hc i hb;exact absurd e (bR q hq)
   rw[zje (r:=⟨i,o,m,mU takes o,Nat.lor (mU takes o) (tw all o),hp,free,env,v⟩) ?_ ?_ ng ?_]
   ·have Fj:Tt cx takes (i+1) (⟨i,o,m,mU takes o,Nat.lor (mU takes o) (tw all o),hp,free,env,v⟩::rs) (⟨i,m,mU takes o,Nat.lor (mU takes o) (tw all o),q9 cx.P cx.uq takes o,kU cx.P cx.uq o,vM o,D3 takes o,kJ takes o⟩::ts)
      (bif hp then ⟨Nat.lor c0.D (Nat.pow 2 i),H1,eB,eu⟩ else c0) (bif hp then c0::rest else rest) ⟨cK,H1,eB,eu⟩:=by
     refine⟨.cons ⟨rfl,rfl,rfl,rfl,h1,h2,rfl,rfl⟩ hI.pr,?_,?_,?_,?_,?_,?_⟩
     ·intro q hq;rcases dH.1 hq with rfl|hq
      ·exact Hq _
      ·have:=hI.lt q hq;omega
     ·intro b;cases hp with
      | false =>
       simp only[oq];rw[hI.cD];constructor
       ·rintro⟨q,hq,e⟩;exact⟨q,dR _ hq,e⟩
       ·rintro⟨q,hq,e1,e2⟩;rcases dH.1 hq with rfl|hq
        ·cases e1
        ·exact⟨q,hq,e1,e2⟩
      | true =>
       simp only[mJ];rw[w9,tn,hI.cD,yc,decide_eq_true_eq];constructor
       ·rintro(⟨q,hq,e⟩|rfl)
        ·exact⟨q,dR _ hq,e⟩
        ·exact⟨_,eH ..,rfl,rfl⟩
       ·rintro⟨q,hq,e1,e2⟩;rcases dH.1 hq with rfl|hq
        ·exact .inr e2
        ·exact .inl ⟨q,hq,e1,e2⟩
     ·cases hp with
      | false=>obtain⟨e1,e2,e3⟩:=h3 rfl;subst e1 e2 e3;exact hI.c0
      | true=>exact⟨rfl,rfl,rfl⟩
     ·intro c ej b hb;cases hp with
      | false=>obtain⟨q,hq,e⟩:=hI.rD c ej b hb;exact⟨q,dR _ hq,e⟩
      | true =>
       rcases dH.1 ej with rfl|ej
       ·obtain⟨q,hq,_,e⟩:=(hI.cD b).1 hb;exact⟨q,dR _ hq,e⟩
       ·obtain⟨q,hq,e⟩:=hI.rD c ej b hb;exact⟨q,dR _ hq,e⟩
     ·intro c ej;cases hp with
      | false =>
       obtain⟨e1,e2,e3⟩:=h3 rfl;subst e1 e2 e3;rcases hI.rest c ej with⟨q,hq,e⟩|⟨⟨q,hq,e⟩,hL⟩
       ·exact .inl ⟨q,dR _ hq,e⟩
       ·exact .inr ⟨⟨q,dR _ hq,e⟩,hL⟩
      | true =>
       have Fk:bit c0.D i=false:=PN c0 λb hb=>by obtain⟨q,hq,_,e⟩:=(hI.cD b).1 hb;exact⟨q,hq,e⟩
       cases Ay:kJ takes o with
       | false =>
        rcases dH.1 ej with rfl|ej
        ·exact .inl ⟨_,eH ..,rfl,Ay,Fk⟩
        ·exact .inl ⟨_,eH ..,rfl,Ay,PN c (hI.rD c ej)⟩
       | true =>
        rcases dH.1 ej with rfl|ej
        ·refine .inr ⟨⟨_,eH ..,rfl,Ay,Fk⟩,?_⟩;obtain⟨D0,H0,GL,df0⟩:=c;obtain⟨e1,e2,e3⟩:=hI.c0;simp only at e1 e2 e3;subst e1 e2 e3;exact W5 rfl Ay D0
        ·rcases hI.rest c ej with⟨q,hq,e⟩|⟨⟨q,hq,e1,e2,_⟩,_⟩
         ·exact .inl ⟨q,dR _ hq,e⟩
         ·rw[Fi Ay q hq] at e2;cases e2
     ·intro q hq lW oV;rcases dH.1 hq with rfl|A9
      ·obtain⟨e1,e2,e3⟩:=h3 lW;subst e1 e2 e3;exact .inr (h4 lW oV)
      ·clear hq;cases hp with
       | false =>
        obtain⟨e1,e2,e3⟩:=h3 rfl;subst e1 e2 e3;rcases hI.Io q A9 lW oV with⟨c,hc,e⟩|h
        ·exact .inl ⟨c,dR _ hc,e⟩
        ·exact .inr h
       | true =>
        rcases og rfl q A9 lW oV with h|⟨c,hc,e⟩|h
        ·exact .inl ⟨_,eH ..,rfl,h⟩
        ·exact .inl ⟨c,dR _ hc,e⟩
        ·exact .inr h
    have:=W4 os _ _ _ _ _ _ Fj e_ h6;cases hp<;>exact this
   ·intro hr c ej;refine sD c ?_;rcases hI.rest c ej with⟨q,hq,e1,_,e2⟩|⟨⟨q,hq,e1,_,e2⟩,_⟩
    ·rcases iF (.inl hr) q hq e1 with h|⟨h,_⟩
     ·exact⟨q,hq,e1,h,e2⟩
     ·exact absurd (hr.symm.trans h) (by simp)
    ·rcases iF (.inl hr) q hq e1 with h|⟨h,_⟩
     ·exact⟨q,hq,e1,h,e2⟩
     ·exact absurd (hr.symm.trans h) (by simp)
   ·intro hr hf c ej;rcases hI.rest c ej with⟨q,hq,e1,e3,e2⟩|⟨⟨q,hq,e1,e3,e2⟩,hL⟩
    ·rcases iF (.inr ⟨hr,hf⟩) q hq e1 with h|⟨_,h,_⟩
     ·exact .inl (sD c ⟨q,hq,e1,h,e2⟩)
     ·rw[e3] at h;cases h
    ·rcases iF (.inr ⟨hr,hf⟩) q hq e1 with h|⟨_,_,h⟩
     ·exact .inl (sD c ⟨q,hq,e1,h,e2⟩)
     ·exact .inr (W6 hr hf h c hL)
   ·intro hr q hq lW oV;rcases og hr q hq lW oV with h|h|h
    ·exact .inl h
    ·exact .inr (.inl h)
    ·exact .inr (.inr (h _))
  simp only[Cx.eN,zeN hI.pr,hm,qz,qp,jO];simp only[Cx.pW] at hc;split at hc<;>try (cases hc;done)
  next hw=>simp only[hw];exact key false true (.bq []) H lk df _ (λh=>nomatch h) (λ_ h=>nomatch h) (λ_=>⟨rfl,rfl,rfl⟩) (λ_ h=>nomatch h) (λh=>nomatch h) (λh=>nomatch h) (λ_ h=>nomatch h) hc
  ·rename_i hw;simp only[hw];split at hc<;>try (cases hc;done)
   rename_i nL;split at hc<;>try (cases hc;done)
   ·rename_i v cK H1 eB eu aC;simp only[aC];refine key _ _ v H1 eB eu _ (λh=>h) (λ_ h=>by simpa using h) (λhf=>?_) (λhf _ D=>?_) (λ_ ha=>?_) (λ_ ht D=>?_) (λ_ _ hl c hL=>zeQ hl hL nL aC) hc
    ·obtain⟨v',_,e2,_⟩:=yd hf aC;cases e2;exact⟨rfl,rfl,rfl⟩
    ·simp[Cx.eM,Cx.dK,aC,V.cN]
    ·obtain⟨x,e⟩:=zg4 ha aC;cases e;exact⟨x,rfl,rfl,rfl⟩
    ·rcases zjd (D:=D) ht aC with h|h
     ·exact .inl h
     ·exact .inr h
   ·rename_i cK H1 eB eu aC;simp only[aC];have BP:q9 cx.P cx.uq takes o=true:=by
     cases hb:q9 cx.P cx.uq takes o with
     | true=>rfl
     | false=>obtain⟨v',e1,_⟩:=yd hb aC;cases e1
    rw[BP];refine key true false (.bq []) H1 eB eu _ (λ_=>BP) (λh=>nomatch h) (λh=>nomatch h) (λh=>nomatch h) (λ_ ha=>?_) (λ_ ht=>?_) (λh=>nomatch h) hc
    ·obtain⟨dst,op,type,pos,after,guard⟩:=o;unfold vM at ha;split at ha<;>try (cases ha;done)
     rename_i t lz;simp only at lz;subst lz;simp only[Cx.op] at aC;split at aC<;>try (cases aC;done)
     split at aC<;>try (cases aC;done)
     simp[qp,qm] at aC
    ·obtain⟨dst,op,type,pos,after,guard⟩:=o;unfold kJ at ht;split at ht<;>try (cases ht;done)
     rename_i t a lz;simp only at lz;subst lz;cases dst with
     | none=>cases ht
     | some d =>
      simp only at ht;rw[xl ht] at aC;unfold vW at aC;split at aC<;>try (cases aC;done)
      split at aC<;>try (cases aC;done)
      split at aC<;>try (cases aC;done)
      split at aC<;>cases aC
theorem zlJ{ops:Array Oper}{env:aD}{H:Hp}{lk:aN}{df:bO}{s':St}(e_:JO cx.P cx.uq ops (jN ops) 0 [] ops.toList=true)(hc:cx.pW ops (jN ops) ops.toList ⟨env,H,[],df⟩=some s')(hl:cx.uq mu=false\/xP ops=none):cx.draw ops ⟨env,H,lk,df⟩=some (.normal,s'):=by
 refine Wz ?_ hl;unfold Cx.drawn;exact W4 _ _ _ _ _ _ _ ⟨.nil,λq hq=>by simp at hq,λb=>by simp[yC],⟨rfl,rfl,rfl⟩,λc hc=>by simp at hc,λc hc=>by simp at hc,λq hq=>by simp at hq⟩ e_ hc
theorem znG{n id:Nat}{Q:Ex->St->Prop}{k:List It}{ops:Array Oper}{env:aD}{H:Hp}{lk:aN}{df:bO}(e_:JO cx.P cx.uq ops (jN ops) 0 [] ops.toList=true)
  (h:go cx n Q (.on ops (jN ops) ops.toList::k) .normal ⟨env,H,[],df⟩) (hl:cx.uq mu=false\/xP ops=none:=by first|exact .inl rfl|exact .inr (by kernel_rfl)):go cx n Q (.c (.region id ops true)::k) .normal ⟨env,H,lk,df⟩:=by
 simp only[go] at h ⊢;obtain⟨s',h1,h2⟩:=h;exact⟨.normal,s',by simp only[Cx.code];exact zlJ e_ h1 hl,h2⟩
theorem qG{n id:Nat}{Q:Ex->St->Prop}{k:List It}{ops:Array Oper}{env:aD}{H:Hp}{lk:aN}{df:bO}{tk:bY}(ht:jN ops=tk)(e_:JO cx.P cx.uq ops tk 0 [] ops.toList=true)
  (h:go cx n Q (.on ops tk ops.toList::k) .normal ⟨env,H,[],df⟩) (hl:cx.uq mu=false\/xP ops=none:=by first|exact .inl rfl|exact .inr (by kernel_rfl)):go cx n Q (.c (.region id ops true)::k) .normal ⟨env,H,lk,df⟩:=by
 subst ht;exact znG e_ h hl
theorem wo{n id:Nat}{Q:Ex->St->Prop}{k:List It}{ops:Array Oper}{env:aD}{H:Hp}{lk:aN}{df:bO}{tk:bY}(ht:jN ops=tk)
  (h:go cx n Q (.os ops tk ops.toList::k) .normal ⟨env,H,[],df⟩):go cx n Q (.c (.region id ops false)::k) .normal ⟨env,H,lk,df⟩:=by
 subst ht;exact D2.2 h
theorem zi{n id:Nat}{Q:Ex->St->Prop}{k:List It}{ops:Array Oper}{env:aD}{H:Hp}{lk:aN}{df:bO}(h:go cx n Q (.os ops [] ops.toList::k) .normal ⟨env,H,[],df⟩)(ht:jN ops=[]:=by kernel_rfl):go cx n Q (.c (.region id ops false)::k) .normal ⟨env,H,lk,df⟩:=wo ht h
end
end Go.Vm
