/- Vm: one operation more. Conditions: none but those named. -/
import Derived.Orders
import Derived.Carry
import Derived.OpenShut
import Derived.ProofKit
import Derived.LaidLaws
import Derived.LaidMore
import Derived.FnData
import Derived.ChangeArms
import Derived.Lib.Bytealg
import Derived.Test.YthohlnmcjkjeiaaGreatDoorVmB
namespace Go.Vm
open Go
section
variable{cx:Cx}{all:Array Oper}{takes:cg}
theorem zeU{o:Oper}{env:aD}{v:V}{c:ew}(h:cx.eX takes o env v c=true):∃c2,cx.ee takes o env c 0=some (v,c2):=by
 unfold Cx.eX at h;split at h
 next u c2 hr=>rw[V.iN h] at hr;exact⟨c2,hr⟩
 ·cases h
theorem RI.start(s:St):RI cx all takes s (λ_=>s.env) 0 [] [⟨0,s.H,s.lk,s.defers⟩] s :=
 {ex:=λj hj=>by omega,lt:=λr hr=>by simp at hr,uniq:=λr hr=>by simp at hr,get:=λr hr=>by simp at hr,tm:=λr hr=>by simp at hr,lm:=λr hr=>by simp at hr,
  bQ:=λr hr=>by simp at hr,mlt:=λr hr=>by simp at hr,mask:=λr hr=>by simp at hr,slots:=λr hr=>by simp at hr,ev:=λr hr=>by simp at hr,TJ:=rfl,TK:=rfl,
  PR:=λr hr=>by simp at hr,
  off:=λr hr=>by simp at hr,calm:=λr hr=>by simp at hr,free:=λr hr=>by simp at hr,
  c0:=⟨_,eK ..,rfl,rfl,rfl,rfl⟩,top:=⟨_,[],rfl,rfl,rfl,rfl,rfl⟩,
  cD:=λc hc b hb=>by simp only[oG] at hc;subst hc;rw[yD] at hb;exact absurd hb (by simp),
  uS:=λc hc d hd _=>by simp only[oG] at hc hd;rw[hc,hd],g1:=λc _ q hq=>by simp at hq,g2:=λc _ q hq=>by simp at hq }
theorem zg7{o:Oper}{t:Nat}(h:t∈o.looksAt all):bit (ug all o) t=true:=by
 rw[ug,vf,p7];rcases sw.1 h with h|h
 ·left
  obtain⟨x,hx,D8⟩:=List.mem_filterMap.1 h;split at D8<;>simp only[bq,reduceCtorEq] at D8;subst D8;exact vj hx
 ·right
  unfold zeL;split at h
  next g b hg=>rw[hg];simp only;rw[Option.mem_toList] at h;rw[show(all[g]?).bind (·.dst)=some t from h];simp only[yc,decide_true]
  ·simp at h
theorem zfO{o:Oper}{t:Nat}(h:o.dst=some t\/kl takes o=some (.tmp t)) :
  bit (m8 takes o) t=true:=by
 unfold m8;rcases h with h|h
 ·rw[h];simp only[vf,yc,decide_true,Bool.true_or]
 ·rw[h];have:bit (gm [Operand.tmp t]) t=true:=vj (eK ..);split
  ·simp only[vf,this,Bool.or_true]
  ·exact this
structure LP(cx:Cx)(takes:cg)(s0:St)(rs:List Rec)(cs:List ew)(s:St):Prop where
 c0:∃c∈cs,c.D=0/\c.H=s0.H/\c.lk=s0.lk/\c.df=s0.defers
 top:∃c cs',cs=c::cs'/\c.D=eJ rs/\c.H=s.H/\c.lk=s.lk/\c.df=s.defers
 cD:∀c∈cs,∀b,bit c.D b=true->∃q∈rs,q.hp=true/\q.idx=b
 uS:∀c∈cs,∀d∈cs,c.D=d.D->c=d
 g1:∀c∈cs,∀q∈rs,q.hp=true->bit c.D q.idx=false->yR rs q c.D->∃c3∈cs,c3.D=Nat.lor c.D (Nat.pow 2 q.idx)/\cx.ee takes q.o q.env c c3.D=some (q.v,c3)
 g2:∀c∈cs,∀q∈rs,q.hp=false->q.free=false->yR rs q c.D->(∀d∈rs,d.hp=true->bit c.D d.idx=true->bit d.m q.idx=false)->∃c2,cx.ee takes q.o q.env c 0=some (q.v,c2)
theorem zkx{s0:St}{rs:List Rec}{cs:List ew}{s s1:St}{r:Rec}{i:Nat}(hG:LP cx takes s0 rs cs s)(bR:∀q∈rs,q.idx<i)(_huq:∀r∈rs,∀q∈rs,r.idx=q.idx->r=q)(_hmlt:∀q∈rs,∀b,bit q.m b=true->b<q.idx)(rS:r.idx=i)(Ft:∀b,bit r.m b=true->b<i)
  (LQ:r.hp=false->s1.H=s.H/\s1.lk=s.lk/\s1.defers=s.defers) (sW:r.hp=false->r.free=false->∃c2,∀D,cx.ee takes r.o r.env ⟨D,s.H,s.lk,s.defers⟩ 0=some (r.v,c2))
  (TL:r.hp=true->∀D D',cx.ee takes r.o r.env ⟨D,s.H,s.lk,s.defers⟩ D'=some (r.v,⟨D',s1.H,s1.lk,s1.defers⟩))
  {k:List ew->Option (Ex×St)} {res:Ex×St} {c0:ew} {Al:List ew} (ef:cs=c0::Al) (hk:cx.fN takes rs r c0 ⟨Nat.lor c0.D (Nat.pow 2 i),s1.H,s1.lk,s1.defers⟩ Al k=some res) :
  ∃cs',k cs'=some res/\LP cx takes s0 (r::rs) cs' s1:=by
 subst ef;obtain⟨g0,gt,gD,gu,g1,g2⟩:=hG;obtain⟨ct,cs',he,Bm,ER,gG,tV⟩:=gt;simp only[List.cons.injEq] at he;obtain⟨rfl,rfl⟩:=he;have IC:∀c∈c0::Al,bit c.D i=false:=λc hc=>by
  cases h:bit c.D i with
  | false=>rfl
  | true =>
   obtain⟨q,hq,_,he⟩:=gD c hc i h;have:=bR q hq;omega
 unfold Cx.fN at hk;cases hp:r.hp with
 | false =>
  simp only[hp] at hk;split at hk<;>try (cases hk;done)
  rename_i hv;obtain⟨e1,e2,e3⟩:=LQ hp;have ha:∀q D,yR (r::rs) q D->yR rs q D:=λq D h d hd=>h d (dU _ hd);refine⟨_,hk,⟨g0,⟨c0,Al,rfl,?_,by rw[e1,ER],by rw[e2,gG],by rw[e3,tV]⟩,λc hc b hb=>?_,gu,?_,?_⟩⟩
  ·simp only[eJ,hp];exact Bm
  ·obtain⟨q,hq,hh⟩:=gD c hc b hb;exact⟨q,dU _ hq,hh⟩
  ·intro c hc q hq l6 He JV;rcases dG.1 hq with rfl|hq
   ·rw[hp] at l6;cases l6
   ·exact g1 c hc q hq l6 He (ha q _ JV)
  ·intro c hc q hq l6 pE JV PS;rcases dG.1 hq with rfl|hq
   ·rw[pE,uM] at hv;rcases dG.1 hc with rfl|hc
    ·obtain⟨c2,h2⟩:=sW hp pE;refine⟨c2,?_⟩;rw[<- h2 c.D,<- ER,<- gG,<- tV]
    ·have h1:=yn hv c hc;rw[mD.2 (ha q _ JV)] at h1;exact zeU h1
   ·exact g2 c hc q hq l6 pE (ha q _ JV) λd hd=>PS d (dU _ hd)
 | true =>
  simp only[hp] at hk;split at hk<;>try (cases hk;done)
  rename_i l hl;split at hk<;>try (cases hk;done)
  rename_i dX;obtain⟨l1,l2⟩:=W5 hl;have dX:=yn dX;have hN:∀c2,c2∈(⟨Nat.lor c0.D (Nat.pow 2 i),s1.H,s1.lk,s1.defers⟩:ew)::l->∃c∈c0::Al,yR rs r c.D/\c2.D=Nat.lor c.D (Nat.pow 2 i)/\cx.ee takes r.o r.env c c2.D=some (r.v,c2):=by
   intro c2 sy;rcases dG.1 sy with rfl|sy
   ·refine⟨c0,eK ..,λd hd hh _=>?_,rfl,?_⟩
    ·rw[Bm];exact lp.2 ⟨d,hd,hh,rfl⟩
    ·have:=TL hp c0.D (Nat.lor c0.D (Nat.pow 2 i));rw[<- ER,<- gG,<- tV] at this;exact this
   ·obtain⟨c,hc,hs,hD,hr⟩:=l2 c2 sy;rw[rS] at hD;exact⟨c,dU _ hc,mD.1 hs,hD,hr⟩
  have hN':∀c∈c0::Al,yR rs r c.D->∃c2∈(⟨Nat.lor c0.D (Nat.pow 2 i),s1.H,s1.lk,s1.defers⟩:ew)::l,c2.D=Nat.lor c.D (Nat.pow 2 i)/\cx.ee takes r.o r.env c c2.D=some (r.v,c2):=by
   intro c hc ha;rcases dG.1 hc with rfl|hc
   ·refine⟨_,eK ..,rfl,?_⟩;have:=TL hp c.D (Nat.lor c.D (Nat.pow 2 i));rw[<- ER,<- gG,<- tV] at this;exact this
   ·obtain⟨c2,sy,hD,hr⟩:=l1 c hc (mD.2 ha);rw[rS] at hD;exact⟨c2,dU _ sy,hD,hr⟩
  have eL:∀(c:ew)(b:Nat),bit (Nat.lor c.D (Nat.pow 2 i)) b=true ↔ bit c.D b=true\/b=i:=λc b=>by
   rw[vf,yc,p7,decide_eq_true_eq];exact⟨λh=>h.imp id Eq.symm,λh=>h.imp id Eq.symm⟩
  have dI:∀c,c∈(⟨Nat.lor c0.D (Nat.pow 2 i),s1.H,s1.lk,s1.defers⟩:ew)::l++c0::Al ↔ c∈(⟨Nat.lor c0.D (Nat.pow 2 i),s1.H,s1.lk,s1.defers⟩:ew)::l\/c∈c0::Al:=λc=>sw;refine⟨_,hk,⟨?_,⟨_,_,rfl,?_,rfl,rfl,rfl⟩,?_,?_,?_,?_⟩⟩
  ·obtain⟨c,hc,h⟩:=g0;exact⟨c,(dI c).2 (.inr hc),h⟩
  ·simp only[eJ,hp,rS];rw[Bm];exact xC λb=>by rw[vf,vf,Bool.or_comm]
  ·intro c hc b hb;rcases (dI c).1 hc with hc|hc
   ·obtain⟨d,hd,_,hD,_⟩:=hN c hc;rw[hD,eL] at hb;rcases hb with hb|rfl
    ·obtain⟨q,hq,hh⟩:=gD d hd b hb;exact⟨q,dU _ hq,hh⟩
    ·exact⟨r,eK ..,hp,rS⟩
   ·obtain⟨q,hq,hh⟩:=gD c hc b hb;exact⟨q,dU _ hq,hh⟩
  ·have key:∀c∈c0::Al,∀d∈c0::Al,Nat.lor c.D (Nat.pow 2 i)=Nat.lor d.D (Nat.pow 2 i)->c=d:=by
    intro c hc d hd he;refine gu c hc d hd (xC λb=>?_)
    by_cases hb:b=i
    ·rw[hb,IC c hc,IC d hd]
    ·have h1:=eL c b;have h2:=eL d b;rw[he] at h1;simp only[hb,AM] at h1 h2;exact EI.2 (h1.symm.trans h2)
   intro c hc d hd he;rcases (dI c).1 hc with hc|hc<;>rcases (dI d).1 hd with hd|hd
   ·obtain⟨c',ei,_,LR,G9⟩:=hN c hc;obtain⟨d',G6,_,LS,eY⟩:=hN d hd;have:=key c' ei d' G6 (by rw[<- LR,<- LS,he])
    subst this;rw[he,eY] at G9;simp only[bq,cq,lM] at G9;exact G9.symm
   ·obtain⟨c',ei,_,LR,G9⟩:=hN c hc;have h1:=IC d hd;rw[<- he,LR,(eL c' i).2 (.inr rfl)] at h1;cases h1
   ·obtain⟨d',G6,_,LS,eY⟩:=hN d hd;have h1:=IC c hc;rw[he,LS,(eL d' i).2 (.inr rfl)] at h1;cases h1
   ·exact gu c hc d hd he
  ·
   intro c hc q hq l6 He JV;have Eh:yR rs q c.D:=λd hd=>JV d (dU _ hd);rcases (dI c).1 hc with hc|hc
   ·rcases dG.1 hq with rfl|hq
    ·obtain⟨d,hd,_,hD,_⟩:=hN c hc;rw[hD,rS,(eL d i).2 (.inr rfl)] at He;cases He
    ·have h1:=yn (dX c hc) q hq;rw[mD.2 Eh] at h1;simp only[l6,He] at h1;split at h1
     next u c2 c3 hr hf=>rw[d_] at h1;obtain⟨h1,h2⟩:=h1;have hu:=V.iN h1;subst hu;obtain⟨e1,e2,e3⟩:=zij h2;obtain⟨f1,f2⟩:=zbG hf;refine⟨c3,f1,f2,?_⟩;have:=(zlF hr c3.D).2;rw[this,e1,e2,e3]
     ·cases h1
   ·rcases dG.1 hq with rfl|hq
    ·have:yR rs q c.D:=Eh;obtain⟨c2,sy,hD,hr⟩:=hN' c hc this;exact⟨c2,(dI c2).2 (.inl sy),by rw[rS];exact hD,hr⟩
    ·obtain⟨c3,BZ,hD,hr⟩:=g1 c hc q hq l6 He Eh;exact⟨c3,(dI c3).2 (.inr BZ),hD,hr⟩
  ·intro c hc q hq l6 pE JV PS;have Eh:yR rs q c.D:=λd hd=>JV d (dU _ hd);rcases dG.1 hq with rfl|hq
   ·rw[hp] at l6;cases l6
   rcases (dI c).1 hc with hc|hc
   ·have h1:=yn (dX c hc) q hq;rw[mD.2 Eh] at h1;simp only[l6,pE,uM] at h1
    have Hf:bit r.m q.idx=false:=PS r (eK ..) hp (by
     obtain⟨d,hd,_,hD,_⟩:=hN c hc;rw[hD,rS]
     exact(eL d i).2 (.inr rfl))
    rw[Hf,zcP λd hd=>PS d (dU _ hd),uM,uM] at h1;exact zeU h1
   ·exact g2 c hc q hq l6 pE Eh λd hd=>PS d (dU _ hd)
end
section
variable{cx:Cx}{all:Array Oper}{takes:cg}
theorem RI.W6{s0:St}{Ev:Nat->aD}{i:Nat}{rs:List Rec}{cs:List ew}{s:St}(h:RI cx all takes s0 Ev i rs cs s):LP cx takes s0 rs cs s:=⟨h.c0,h.top,h.cD,h.uS,h.g1,h.g2⟩
theorem RI.step{s0:St}{Ev:Nat->aD}{i:Nat}{rs:List Rec}{cs:List ew}{s s1:St}(h:RI cx all takes s0 Ev i rs cs s){r:Rec}(rS:r.idx=i)(dy:all[i]?=some r.o)(hm:wB rs r.o.after.toList=some r.m)(iZ:r.env=s.env)
  (htm:r.tm=m8 takes r.o)
  (PT:r.lm=Nat.lor r.tm (ug all r.o))
  (sX:kB (kw r) rs=true) (hE:s1.env=G_ all takes r)
  (PU:zY all r.o r.env≠some true->zY all r.o r.env=some false/\r.hp=false/\r.v=.br []/\r.free=true)
  (uV:zY all r.o r.env=some true->r.hp=q9 cx.P cx.uq takes r.o/\(q9 cx.P cx.uq takes r.o=false->∃H lk df s1,cx.op takes r.o r.env H lk df=some (.val r.v,s1)))
  (PV:zY all r.o r.env=some true->r.free=true->kV cx.P cx.uq r.o=false)
  (LQ:r.hp=false->s1.H=s.H/\s1.lk=s.lk/\s1.defers=s.defers) (sW:r.hp=false->r.free=false->∃c2,∀D,cx.ee takes r.o r.env ⟨D,s.H,s.lk,s.defers⟩ 0=some (r.v,c2))
  (TL:r.hp=true->∀D D',cx.ee takes r.o r.env ⟨D,s.H,s.lk,s.defers⟩ D'=some (r.v,⟨D',s1.H,s1.lk,s1.defers⟩))
  {k:List ew->Option (Ex×St)} {res:Ex×St} {c0:ew} {Al:List ew} (ef:cs=c0::Al) (hk:cx.fN takes rs r c0 ⟨Nat.lor c0.D (Nat.pow 2 i),s1.H,s1.lk,s1.defers⟩ Al k=some res) :
  ∃cs' TM,k cs'=some res/\RI cx all takes s0 TM (i+1) (r::rs) cs' s1:=by
 obtain⟨m1,m2⟩:=W4 hm;have Ft:∀b,bit r.m b=true->b<i:=λb hb=>by
  obtain⟨e,he,ID,Am⟩:=m2 b hb;rcases Am with rfl|⟨q,hq,IB,He⟩
  ·obtain⟨q,hq,IB⟩:=m1 e he ID;rw[<- IB];exact h.lt q hq
  ·exact Nat.lt_trans (h.mlt q hq b He) (h.lt q hq)
 obtain⟨cs',pM,hG⟩:=zkx h.W6 h.lt h.uniq h.mlt rS Ft LQ sW TL ef hk;refine⟨cs',λj=>if j<=i then Ev j else s1.env,pM,?_⟩
 have dI:∀{q:Rec},q∈r::rs->q=r\/q∈rs:=λhq=>dG.1 hq;refine { ex:=?_,lt:=?_,uniq:=?_,get:=?_,tm:=?_,lm:=?_,bQ:=?_,mlt:=?_,mask:=?_,slots:=?_,ev:=?_,TJ:=?_,TK:=?_,PR:=?_,off:=?_,calm:=?_,free:=?_,c0:=hG.c0,top:=hG.top,cD:=hG.cD,uS:=hG.uS,g1:=hG.g1,g2:=hG.g2 }
 ·intro j hj
  by_cases Du:j=i
  ·exact⟨r,eK ..,by rw[rS,Du]⟩
  ·obtain⟨q,hq,hqj⟩:=h.ex j (by omega)
   exact⟨q,dU _ hq,hqj⟩
 ·intro q hq;rcases dI hq with rfl|hq
  ·omega
  ·have:=h.lt q hq;omega
 ·intro a ha b hb he;rcases dI ha with rfl|Hg<;>rcases dI hb with rfl|cY
  ·rfl
  ·have:=h.lt b cY;omega
  ·have:=h.lt a Hg;omega
  ·exact h.uniq a Hg b cY he
 ·intro q hq;rcases dI hq with rfl|hq
  ·rw[rS];exact dy
  ·exact h.get q hq
 ·intro q hq t ht;rcases dI hq with rfl|hq
  ·rw[htm];exact zfO ht
  ·exact h.tm q hq t ht
 ·intro q hq t ht;rcases dI hq with rfl|hq
  ·rw[PT,vf,p7];rcases ht with ht|ht
   ·exact .inl ht
   ·exact .inr (zg7 ht)
  ·exact h.lm q hq t ht
 ·intro q hq e he hb;rcases dI hq with rfl|hq
  ·obtain⟨p,hp,hpi⟩:=m1 e (by simpa using he) hb
   rw[<- hpi,rS];exact h.lt p hp
  ·exact h.bQ q hq e he hb
 ·intro q hq b hb;rcases dI hq with rfl|hq
  ·rw[rS];exact Ft b hb
  ·exact h.mlt q hq b hb
 ·intro q hq b hb;rcases dI hq with rfl|hq
  ·obtain⟨e,he,ID,Am⟩:=m2 b hb;refine⟨e,by simpa using he,ID,Am.imp id ?_⟩
   rintro⟨p,hp,hh⟩;exact⟨p,dU _ hp,hh⟩
  ·obtain⟨e,he,ID,Am⟩:=h.mask q hq b hb;refine⟨e,he,ID,Am.imp id ?_⟩;rintro⟨p,hp,hh⟩;exact⟨p,dU _ hp,hh⟩
 ·intro a ha b hb bR;rcases dI ha with rfl|Hg<;>rcases dI hb with rfl|cY
  ·omega
  ·exact yn sX b cY
  ·have:=h.lt a Hg;omega
  ·exact h.slots a Hg b cY bR
 ·intro q hq;rcases dI hq with rfl|hq
  ·rw[rS,if_pos (dA _),h.TK,iZ]
  ·rw[if_pos (Nat.le_of_lt (h.lt q hq))];exact h.ev q hq
 ·rw[if_pos (ec _)];exact h.TJ
 ·rw[if_neg (by omega)]
 ·intro q hq;rcases dI hq with rfl|hq
  ·rw[rS,if_neg (by omega)];exact hE
  ·have:=h.lt q hq;rw[if_pos (by omega)];exact h.PR q hq
 ·intro q hq hw;rcases dI hq with rfl|hq
  ·obtain⟨a,b,c,_⟩:=PU hw;exact⟨a,b,c⟩
  ·exact h.off q hq hw
 ·intro q hq hw;rcases dI hq with rfl|hq
  ·exact uV hw
  ·exact h.calm q hq hw
 ·intro q hq hw hf;rcases dI hq with rfl|hq
  ·exact PV hw hf
  ·exact h.free q hq hw hf
theorem xj{s0:St}{ex:Ex}{s':St}:∀(os:List Oper)(i:Nat)(rs:List Rec)(cs:List ew)(s:St)(Ev:Nat->aD),cx.eN all takes i rs cs os s=some (ex,s')->RI cx all takes s0 Ev i rs cs s->os=all.toList.drop i ->
  ex=.normal/\∃Ev rs cs,RI cx all takes s0 Ev all.size rs cs s'
 | [],i,rs,cs,s,Ev,hc,h,ho=>by
  simp only[Cx.eN,bq,cq] at hc;obtain⟨rfl,rfl⟩:=hc;refine⟨rfl,Ev,rs,cs,?_⟩;have h1:all.size<=i:=by
   have:=congrArg List.length ho;simp at this;omega
  have h2:i<=all.size:=by
   rcases eM all.size i with h3|h3
   ·obtain⟨r,hr,he⟩:=h.ex all.size h3;have:=h.get r hr;rw[he] at this;simp at this
   ·exact h3
  rw[Nat.le_antisymm h1 h2];exact h
 | o::os,i,rs,cs,⟨env,H,lk,df⟩,Ev,hc,h,ho=>by
  have dy:all[i]?=some o:=by
   have:=congrArg (·[0]?) ho;simp at this;exact this.symm
  have pN:os=all.toList.drop (i+1):=by
   have:=congrArg List.tail ho;simpa using this
  simp only[Cx.eN] at hc;split at hc<;>try (cases hc;done)
  rename_i m hm;simp only[qA] at hc;split at hc<;>try (cases hc;done)
  ·
   rename_i hw;simp only[qp,jN] at hc;split at hc<;>try (cases hc;done)
   rename_i c0 Al IE;obtain⟨cs',TM,hk,PW⟩:=h.step (r:=⟨i,o,m,_,_,false,true,env,.br []⟩) (s1:=⟨aq env o.dst (.br []),H,lk,df⟩) rfl dy hm rfl rfl rfl IE (by simp[G_,hw]) (λ_=>⟨hw,rfl,rfl,rfl⟩) (λhh=>by rw[hw] at hh;cases hh) (λhh=>by rw[hw] at hh;cases hh)
    (λ_=>⟨rfl,rfl,rfl⟩) (λ_ hf=>nomatch hf) (λhf=>nomatch hf) rfl hc
   exact xj os (i+1) _ _ _ _ hk PW pN
  ·rename_i hw;split at hc<;>try (cases hc;done)
   ·rename_i v s1 aC;obtain⟨cK,H1,eB,eA⟩:=s1;simp only[qp,jN] at hc;split at hc<;>try (cases hc;done)
    rename_i c0 Al IE;have he:cK=oh env (kl takes o):=(PM (bH:=env) (λt _=>rfl) aC).1;obtain⟨cs',TM,hk,PW⟩:=h.step (r:=⟨i,o,m,_,_,q9 cx.P cx.uq takes o,!kV cx.P cx.uq o,env,v⟩) (s1:=⟨aq cK o.dst v,H1,eB,eA⟩) rfl dy hm rfl rfl rfl IE (by simp[G_,hw,he]) (λhh=>absurd hw hh) (λ_=>⟨rfl,λ_=>⟨_,_,_,_,aC⟩⟩) (λ_ hf=>by simpa using hf)
     (λhf=>by
      obtain⟨v',e1,e2,e3⟩:=yd hf aC;cases e2
      exact⟨rfl,rfl,rfl⟩)
     (λhf _=>by
      refine⟨⟨0,H1,eB,eA⟩,λD=>?_⟩
      simp only[Cx.ee,aC])
     (λhf D D'=>by simp only[Cx.ee,aC]) rfl hc
    exact xj os (i+1) _ _ _ _ hk PW pN
   ·rename_i s1 aC;obtain⟨cK,H1,eB,eA⟩:=s1;simp only[qp,jN] at hc;split at hc<;>try (cases hc;done)
    rename_i c0 Al IE;have he:cK=oh env (kl takes o):=(PM (bH:=env) (λt _=>rfl) aC).1;have Ca:q9 cx.P cx.uq takes o=true:=by
     cases hb:q9 cx.P cx.uq takes o with
     | true=>rfl
     | false=>obtain⟨v',e1,_⟩:=yd hb aC;cases e1
    obtain⟨cs',TM,hk,PW⟩:=h.step (r:=⟨i,o,m,_,_,q9 cx.P cx.uq takes o,false,env,.br []⟩) (s1:=⟨aq cK o.dst (.br []),H1,eB,eA⟩) rfl dy hm rfl rfl rfl IE (by simp[G_,hw,he]) (λhh=>absurd hw hh) (λ_=>⟨rfl,λhf=>by rw[Ca] at hf;cases hf⟩) (λ_ hf=>nomatch hf)
     (λhf=>by simp only[Ca,Pd] at hf) (λhf=>by simp only[Ca,Pd] at hf) (λhf D D'=>by simp only[Cx.ee,aC]) rfl hc
    exact xj os (i+1) _ _ _ _ hk PW pN
end
section
variable{cx:Cx}{all:Array Oper}{takes:cg}
abbrev iO(l:Array Bool)(j:Nat):Prop:=l.getD j false=true
def TN(all:Array Oper)(l:Array Bool):Prop:=∀(j:Nat)(o:Oper),all[j]?=some o->iO l j->∀e∈o.after,Region.binds .any e=true->iO l e.on
def JW(rs:List Rec)(t j:Nat):Prop:=∃r∈rs,r.idx=j/\bit r.tm t=true
structure Inv(all:Array Oper)(rs:List Rec)(cs:List ew)(Ev:Nat->aD)(l:Array Bool)(s:St):Prop where
 down:TN all l
 size:l.size=all.size
 env:∀t m,m<=all.size->(∀j,j<m->JW rs t j->iO l j)->(∀j,m<=j->JW rs t j->¬iO l j)->s.env[t]?=(Ev m)[t]?
 mem:∃c∈cs,(∀b,bit c.D b=true ↔ ∃q∈rs,q.hp=true/\q.idx=b/\iO l b)/\s.H=c.H/\s.lk=c.lk/\s.defers=c.df
section
variable{s0 s' s:St}{Ev:Nat->aD}{rs:List Rec}{cs:List ew}{l:Array Bool}
theorem vR(hR:RI cx all takes s0 Ev all.size rs cs s')(hd:TN all l):∀(n:Nat)(r:Rec),r∈rs->r.idx<=n->(∀e∈r.o.after,Region.binds .any e=true->iO l e.on)->∀b,bit r.m b=true->iO l b
 | 0,r,hr,hn,_,b,hb=>by
  have:=hR.mlt r hr b hb;omega
 | n+1,r,hr,hn,he,b,hb=>by
  obtain⟨e,h1,h2,h3⟩:=hR.mask r hr b hb;rcases h3 with rfl|⟨q,hq,IB,He⟩
  ·exact he e h1 h2
  ·have hl:=he e h1 h2;rw[<- IB] at hl;have:=hR.bQ r hr e h1 h2;exact vR hR hd n q hq (by omega) (hd q.idx q.o (hR.get q hq) hl) b He
theorem yE(hR:RI cx all takes s0 Ev all.size rs cs s')(hd:TN all l){r:Rec}(hr:r∈rs)(hl:iO l r.idx){b:Nat}(hb:bit r.m b=true):iO l b :=
 vR hR hd r.idx r hr (dA _) (hd r.idx r.o (hR.get r hr) hl) b hb
theorem W7(hR:RI cx all takes s0 Ev all.size rs cs s'){q r:Rec}(hq:q∈rs)(hr:r∈rs)(bR:q.idx<r.idx){t:Nat}(h:(bit q.tm t=true/\bit r.lm t=true)\/(bit r.tm t=true/\bit q.lm t=true)):bit r.m q.idx=true:=by
 have hs:=hR.slots r hr q hq bR;unfold kw at hs;split at hs
 ·assumption
 ·rw[d_] at hs;rcases h with h|h
  ·exact(zg6 hs.1 h.1 h.2).elim
  ·exact(zg6 hs.2 h.1 h.2).elim
theorem zdE{env bH:aD}{dst:fJ}{v:V}{t:Nat}(h:env[t]?=bH[t]?):(aq env dst v)[t]?=(aq bH dst v)[t]?:=by
 cases dst with
 | none=>exact h
 | some d=>simp only[aq,List.getElem?_set',h]
theorem N9{env:aD}{dst:fJ}{v:V}{t:Nat}(h:dst≠some t):(aq env dst v)[t]?=env[t]?:=by
 cases dst with
 | none=>rfl
 | some d =>
  have:d≠t:=λe=>h (by rw[e])
  simp only[aq,tL,this,bw]
theorem zg8(env:aD)(x:aW):kn env x=env\/∃u sz xs e,x=.tmp u/\env[u]?=some (.sl sz xs (.yes e))/\kn env x=env.set u (.sl sz xs .no):=by
 cases x with
 | tmp t =>
  simp only[kn];split
  next sz xs e h=>exact .inr ⟨t,sz,xs,e,rfl,h,rfl⟩
  ·exact .inl rfl
 | _=>exact .inl rfl
theorem W8{env:aD}{k:Option aW}{t:Nat}(h:k≠some (.tmp t)):(oh env k)[t]?=env[t]?:=by
 cases k with
 | none=>rfl
 | some x =>
  simp only[oh];rcases zg8 env x with h1|⟨u,sz,xs,e,rfl,_,h1⟩
  ·rw[h1]
  ·have:u≠t:=λe=>h (by rw[e])
   rw[h1];simp only[tL,this,bw]
theorem zky{env bH:aD}{k:Option aW}{t:Nat}(h:env[t]?=bH[t]?)(hk:∀u,k=some (.tmp u)->env[u]?=bH[u]?):(oh env k)[t]?=(oh bH k)[t]?:=by
 cases k with
 | none=>exact h
 | some x =>
  cases x with
  | tmp u =>
   have hu:=hk u rfl;simp only[oh,kn,hu];split
   ·simp only[List.getElem?_set',h]
   ·exact h
  | _=>exact h
theorem zlG{r:Rec}{t:Nat}(h1:r.o.dst≠some t)(h2:kl takes r.o≠some (.tmp t)):(G_ all takes r)[t]?=r.env[t]?:=by
 unfold G_;split
 ·rw[N9 h1,W8 h2]
 ·rw[N9 h1]
theorem W9(hR:RI cx all takes s0 Ev all.size rs cs s'){t a:Nat}:∀{b:Nat},a<=b->b<=all.size->(∀j,a<=j->j<b->¬JW rs t j)->(Ev b)[t]?=(Ev a)[t]?
 | 0,h,_,_=>by rw[Nat.le_zero.1 h]
 | b+1,h,hb,hT=>by
  by_cases e:a=b+1
  ·rw[e]
  ·have Ty:a<=b:=by omega
   rw[<- W9 hR Ty (by omega) λj h1 h2=>hT j h1 (by omega)]
   obtain⟨r,hr,rS⟩:=hR.ex b (by omega)
   have h1:=hR.PR r hr;have h2:=hR.ev r hr;rw[rS] at h1 h2;have eH:bit r.tm t=false:=by
    cases hb:bit r.tm t with
    | false=>rfl
    | true=>exact(hT b Ty (by omega) ⟨r,hr,rS,hb⟩).elim
   have hd:r.o.dst≠some t:=λe=>by rw[hR.tm r hr t (.inl e)] at eH;cases eH
   have hk:kl takes r.o≠some (.tmp t):=λe=>by rw[hR.tm r hr t (.inr e)] at eH;cases eH
   rw[h1,h2,zlG hd hk]
theorem Inv.PX(hR:RI cx all takes s0 Ev all.size rs cs s')(hI:Inv all rs cs Ev l s){r:Rec}(hr:r∈rs)(uj:¬iO l r.idx)(gv:∀e∈r.o.after,Region.binds .any e=true->iO l e.on){t:Nat}(ht:bit r.lm t=true):s.env[t]?=r.env[t]?:=by
 have hb:=vR hR hI.down r.idx r hr (dA _) gv;rw[<- hR.ev r hr];refine hI.env t r.idx (Nat.le_of_lt (hR.lt r hr)) ?_ ?_
 ·rintro j hj ⟨q,hq,rfl,uk⟩;exact hb q.idx (W7 hR hq hr hj (.inl ⟨uk,ht⟩))
 ·rintro j hj ⟨q,hq,rfl,uk⟩ hl;rcases eM r.idx q.idx with h|h
  ·exact uj (yE hR hI.down hq hl (W7 hR hr hq h (.inr ⟨uk,ht⟩)))
  ·have:=hR.uniq q hq r hr (Nat.le_antisymm h hj);subst this;exact uj hl
theorem zil{o:Oper}{t:Nat}(h:Operand.tmp t∈o.op.operands.toList):t∈o.looksAt all :=
 A7 _ (List.mem_filterMap.2 ⟨.tmp t,h,rfl⟩)
theorem zfQ{o:Oper}{env bH:aD}(h:∀t∈o.looksAt all,env[t]?=bH[t]?):zY all o env=zY all o bH:=by
 unfold zY;cases hg:o.guard with
 | none=>rfl
 | some jw =>
  obtain⟨j,want⟩:=jw;simp only;cases hd:(all[j]?).bind (·.dst) with
  | none=>rfl
  | some d =>
   have:d∈o.looksAt all:=by
    refine Dc _ ?_;rw[hg];simp[hd]
   simp only[zg,h d this]
theorem ke{i j:Nat}(hs:i<l.size):iO (l.setIfInBounds i true) j ↔ j=i\/iO l j:=by
 unfold iO
 by_cases h:i=j
 ·subst h;simp[hs]
 ·rw[getD_set_ne false h];constructor
  ·exact .inr
  ·rintro(rfl|h')
   ·exact(h rfl).elim
   ·exact h'
theorem Inv.Dv(hR:RI cx all takes s0 Ev all.size rs cs s')(hI:Inv all rs cs Ev l s){r:Rec}(hr:r∈rs)(uj:¬iO l r.idx)(gv:∀e∈r.o.after,Region.binds .any e=true->iO l e.on){E:aD}
  (cH:∀t,bit r.tm t=false->E[t]?=s.env[t]?) (hto:∀t,bit r.tm t=true->E[t]?=(G_ all takes r)[t]?) :
  ∀t m,m<=all.size->(∀j,j<m->JW rs t j->iO (l.setIfInBounds r.idx true) j)->(∀j,m<=j->JW rs t j->¬iO (l.setIfInBounds r.idx true) j)->E[t]?=(Ev m)[t]?:=by
 intro t m hm h1 h2;have bR:=hR.lt r hr;have fq:r.idx<l.size:=by rw[hI.size];exact bR
 cases hb:bit r.tm t with
 | false =>
  rw[cH t hb];have eH:¬JW rs t r.idx:=by
   rintro⟨q,hq,IB,uk⟩;have:=hR.uniq q hq r hr IB;subst this;rw[hb] at uk;cases uk
  refine hI.env t m hm (λj hj ht=>?_) (λj hj ht hl=>h2 j hj ht ((ke fq).2 (.inr hl)));rcases (ke fq).1 (h1 j hj ht) with rfl|h
  ·exact(eH ht).elim
  ·exact h
 | true =>
  rw[hto t hb,<- hR.PR r hr];have him:r.idx<m:=by
   rcases eM r.idx m with h|h
   ·exact h
   ·exact(h2 r.idx h ⟨r,hr,rfl,hb⟩ ((ke fq).2 (.inl rfl))).elim
  refine(W9 hR (a:=r.idx+1) (b:=m) him hm λj hj W_=>?_).symm;rintro⟨q,hq,rfl,uk⟩;rcases (ke fq).1 (h1 q.idx W_ ⟨q,hq,rfl,uk⟩) with h|h
  ·omega
  ·exact uj (yE hR hI.down hq h (W7 hR hr hq (by omega) (.inr ⟨uk,hR.lm r hr t (.inl hb)⟩)))
theorem Inv.FC(hI:Inv all rs cs Ev l s){r:Rec}(dy:all[r.idx]?=some r.o)(gv:∀e∈r.o.after,Region.binds .any e=true->iO l e.on):TN all (l.setIfInBounds r.idx true):=by
 have bR:r.idx<all.size:=(tK.1 dy).1;have fq:r.idx<l.size:=by rw[hI.size];exact bR
 intro j o ho hl e he hb;refine(ke fq).2 (.inr ?_);rcases (ke fq).1 hl with rfl|h
 ·rw[dy] at ho;cases ho;exact gv e he hb
 ·exact hI.down j o ho h e he hb
theorem Inv.step(hR:RI cx all takes s0 Ev all.size rs cs s')(hI:Inv all rs cs Ev l s){r:Rec}(hr:r∈rs)(uj:¬iO l r.idx)(gv:∀e∈r.o.after,Region.binds .any e=true->iO l e.on) :
  (zY all r.o s.env=some false/\Inv all rs cs Ev (l.setIfInBounds r.idx true) { s with env:=aq s.env r.o.dst (.br []) }) \/
  (zY all r.o s.env=some true/\∃res s2,cx.op takes r.o s.env s.H s.lk s.defers=some (res,s2)/\(res=.val r.v\/res=.skip/\r.v=.br [])/\Inv all rs cs Ev (l.setIfInBounds r.idx true) { s2 with env:=aq s2.env r.o.dst r.v }):=by
 have bR:=hR.lt r hr;have fq:r.idx<l.size:=by rw[hI.size];exact bR
 have Fm:=λt ht=>Inv.PX hR hI hr uj gv (t:=t) ht;have oB:∀t∈r.o.looksAt all,s.env[t]?=r.env[t]?:=λt ht=>Fm t (hR.lm r hr t (.inr ht));have hw:=zfQ oB;have PY:∀t,bit r.tm t=false->r.o.dst≠some t:=λt h e=>by rw[hR.tm r hr t (.inl e)] at h;cases h
 have mq:∀t,bit r.tm t=false->kl takes r.o≠some (.tmp t):=λt h e=>by rw[hR.tm r hr t (.inr e)] at h;cases h
 have Dw:=hI.FC (hR.get r hr) gv;obtain⟨c,hc,Bm,ER,gG,tV⟩:=hI.mem;have same:r.hp=false->∀b,(∃q∈rs,q.hp=true/\q.idx=b/\iO l b) ↔ ∃q∈rs,q.hp=true/\q.idx=b/\iO (l.setIfInBounds r.idx true) b:=by
  intro hh b;constructor
  ·rintro⟨q,h1,h2,h3,h4⟩;exact⟨q,h1,h2,h3,(ke fq).2 (.inr h4)⟩
  ·rintro⟨q,h1,h2,h3,h4⟩;rcases (ke fq).1 h4 with h5|h5
   ·have:=hR.uniq q h1 r hr (h3.trans h5);subst this;rw[hh] at h2;cases h2
   ·exact⟨q,h1,h2,h3,h5⟩
 by_cases tW:zY all r.o r.env=some true
 ·right
  have LU:∀{H lk df res s1},cx.op takes r.o r.env H lk df=some (res,s1)->s1.env=oh r.env (kl takes r.o)/\cx.op takes r.o s.env H lk df=some (res,{ s1 with env:=oh s.env (kl takes r.o) }):=λh=>PM (λt ht=>(oB t (zil ht)).symm) h
  have iZ:∀t m,m<=all.size->(∀j,j<m->JW rs t j->iO (l.setIfInBounds r.idx true) j)->(∀j,m<=j->JW rs t j->¬iO (l.setIfInBounds r.idx true) j)->(aq (oh s.env (kl takes r.o)) r.o.dst r.v)[t]?=(Ev m)[t]?:=by
   refine Inv.Dv hR hI hr uj gv (λt ht=>by rw[N9 (PY t ht),W8 (mq t ht)]) (λt ht=>?_)
   rw[G_,if_pos tW];exact zdE (zky (Fm t (hR.lm r hr t (.inl ht))) λu hu=>Fm u (hR.lm r hr u (.inl (hR.tm r hr u (.inr hu)))))
  refine⟨hw.trans tW,?_⟩;cases Ca:r.hp with
  | true =>
   have hb:bit c.D r.idx=false:=by
    cases h:bit c.D r.idx with
    | false=>rfl
    | true=>obtain⟨q,_,_,_,h4⟩:=(Bm r.idx).1 h;exact(uj h4).elim
   have ha:yR rs r c.D:=λd hd TO Ei=>(Bm d.idx).2 ⟨d,hd,TO,rfl,vR hR hI.down r.idx r hr (dA _) gv d.idx Ei⟩;obtain⟨c3,BZ,hD3,cw⟩:=hR.g1 c hc r hr Ca hb ha;have JX:∀b,bit c3.D b=true ↔ ∃q∈rs,q.hp=true/\q.idx=b/\iO (l.setIfInBounds r.idx true) b:=by
    intro b;rw[hD3,vf,yc,p7,decide_eq_true_eq,Bm];constructor
    ·rintro(⟨q,h1,h2,h3,h4⟩|rfl)
     ·exact⟨q,h1,h2,h3,(ke fq).2 (.inr h4)⟩
     ·exact⟨r,hr,Ca,rfl,(ke fq).2 (.inl rfl)⟩
    ·rintro⟨q,h1,h2,h3,h4⟩;rcases (ke fq).1 h4 with h5|h5
     ·exact .inr h5.symm
     ·exact .inl ⟨q,h1,h2,h3,h5⟩
   unfold Cx.ee at cw;split at cw<;>simp only[bq,reduceCtorEq,cq] at cw
   ·rename_i v s1 aC;obtain⟨rfl,e2⟩:=cw;rw[<- ER,<- gG,<- tV] at aC;refine⟨_,_,(LU aC).2,.inl rfl,⟨Dw,by simpa using hI.size,iZ,c3,BZ,JX,?_⟩⟩
    rw[<- e2];exact⟨rfl,rfl,rfl⟩
   ·rename_i s1 aC;obtain⟨e1,e2⟩:=cw;rw[<- ER,<- gG,<- tV] at aC;refine⟨_,_,(LU aC).2,.inr ⟨rfl,e1.symm⟩,⟨Dw,by simpa using hI.size,iZ,c3,BZ,JX,?_⟩⟩
    rw[<- e2];exact⟨rfl,rfl,rfl⟩
  | false =>
   obtain⟨hh,hex⟩:=hR.calm r hr tW;have uV:q9 cx.P cx.uq takes r.o=false:=by rw[<- hh];exact Ca
   obtain⟨H0,Hh,df0,s1,Xa⟩:=hex uV;have sW:∃s2,cx.op takes r.o r.env s.H s.lk s.defers=some (.val r.v,s2):=by
    cases PO:r.free with
    | true=>exact znL uV (hR.free r hr tW PO) Xa s.lk s.defers
    | false =>
     have ha:yR rs r c.D:=λd hd TO Ei=>(Bm d.idx).2 ⟨d,hd,TO,rfl,vR hR hI.down r.idx r hr (dA _) gv d.idx Ei⟩
     obtain⟨c2,cw⟩:=hR.g2 c hc r hr Ca PO ha (λd hd TO Ei=>by
      cases h:bit d.m r.idx with
      | false=>rfl
      | true =>
       obtain⟨q,_,_,_,h4⟩:=(Bm d.idx).1 Ei
       exact(uj (yE hR hI.down hd h4 h)).elim)
     unfold Cx.ee at cw;rw[<- ER,<- gG,<- tV] at cw;split at cw<;>simp only[bq,reduceCtorEq,cq] at cw
     next v s2 aC=>obtain⟨rfl,_⟩:=cw;exact⟨s2,aC⟩
     next s2 aC=>obtain⟨v',e1,_⟩:=yd uV aC;cases e1
   obtain⟨s2,aC⟩:=sW;obtain⟨v',e1,e2,_⟩:=yd uV aC;refine⟨_,_,(LU aC).2,.inl rfl,⟨Dw,by simpa using hI.size,iZ,c,hc,λb=>(Bm b).trans (same Ca b),?_⟩⟩
   rw[e2];exact⟨ER,gG,tV⟩
 ·left
  obtain⟨h1,h2,h3⟩:=hR.off r hr tW;refine⟨hw.trans h1,⟨Dw,by simpa using hI.size,?_,c,hc,λb=>(Bm b).trans (same h2 b),ER,gG,tV⟩⟩
  refine Inv.Dv hR hI hr uj gv (λt ht=>by rw[N9 (PY t ht)]) (λt ht=>?_)
  rw[G_,if_neg tW,h3];exact zdE (Fm t (hR.lm r hr t (.inl ht)))
theorem Inv.final(hR:RI cx all takes s0 Ev all.size rs cs s')(hI:Inv all rs cs Ev l s)(di:∀j,j<all.size->iO l j):s=s':=by
 have iZ:s.env=s'.env:=by
  apply Fa;intro t;rw[<- hR.TK];refine hI.env t all.size (dA _) (λj hj _=>di j hj) ?_;rintro j hj ⟨q,hq,rfl,_⟩;have:=hR.lt q hq;omega
 obtain⟨c,hc,Bm,ER,gG,tV⟩:=hI.mem;obtain⟨c1,Al,rfl,h1,h2,h3,h4⟩:=hR.top;have:c=c1:=by
  refine hR.uS c hc c1 (eK ..) (xC λb=>?_);rw[h1];refine EI.2 ((Bm b).trans (Iff.trans ?_ lp.symm));constructor
  ·rintro⟨q,a1,a2,a3,_⟩;exact⟨q,a1,a2,a3⟩
  ·rintro⟨q,a1,a2,rfl⟩;exact⟨q,a1,a2,rfl,di _ (hR.lt q a1)⟩
 subst this;obtain⟨e,H,lk,df⟩:=s;obtain⟨e',H',Iv,Iw⟩:=s';simp only at *;simp only[iZ,ER,gG,tV,h2,h3,h4]
theorem Inv.start(hR:RI cx all takes s0 Ev all.size rs cs s'):Inv all rs cs Ev (Array.replicate all.size false) s0:=by
 have eH:∀j,¬iO (Array.replicate all.size false) j:=λj h=>by
  unfold iO at h;simp[Array.getElem?_replicate] at h;split at h<;>simp_all
 refine⟨λj o _ hl=>(eH j hl).elim,by simp,λt m hm h1 _=>?_,?_⟩
 ·rw[<- hR.TJ];refine(W9 hR (ec m) hm λj _ hj hT=>eH j (h1 j hj hT)).symm
 ·obtain⟨c,hc,h0,h1,h2,h3⟩:=hR.c0;refine⟨c,hc,λb=>?_,h1.symm,h2.symm,h3.symm⟩;rw[h0,yD];constructor
  ·intro h;cases h
  ·rintro⟨_,_,_,_,h⟩;exact(eH b h).elim
end
end
section
variable{P:aQ}{cx:Cx}{all:Array Oper}{takes:cg}{B:dR}{g:Gh}{s:St}{a:Act}{w:aP}
def left(l:Array Bool):Nat->Nat
 | 0=>0
 | k+1=>left l k+if l.getD k false=true then 0 else 1
theorem zcR{l:Array Bool}{i:Nat}:∀k,left (l.setIfInBounds i true) k<=left l k
 | 0=>dA _
 | k+1=>by
  have ih:=zcR (l:=l) (i:=i) k;simp only[left]
  by_cases h:l.getD k false=true
  ·rw[if_pos (getD_set_true h),if_pos h];exact ih
  ·rw[if_neg h];split<;>omega
theorem Xb{l:Array Bool}{i:Nat}(hi:i<l.size)(hl:¬iO l i):∀{k},i<k->left (l.setIfInBounds i true) k+1<=left l k
 | 0,h=>by omega
 | k+1,h=>by
  simp only[left]
  by_cases e:i=k
  ·subst e;have h1:=zcR (l:=l) (i:=i) i;have h2:(l.setIfInBounds i true).getD i false=true:=(ke hi).2 (.inl rfl);rw[if_pos h2,if_neg hl];omega
  ·have h1:=Xb hi hl (k:=k) (by omega)
   rw[getD_set_ne false e];omega
theorem Xc{l:Array Bool}:∀{k},left l k=0->∀j,j<k->iO l j
 | 0,_,j,hj=>by omega
 | k+1,h,j,hj=>by
  simp only[left] at h
  by_cases e:j=k
  ·subst e
   by_cases hl:l.getD j false=true
   ·exact hl
   ·rw[if_neg hl] at h;omega
  ·exact Xc (k:=k) (by omega) j (by omega)
theorem Xd{n:Nat}:∀{k},left (Array.replicate n false) k<=k
 | 0=>dA _
 | k+1=>by have:=Xd (n:=n) (k:=k);simp only[left];split<;>omega
theorem Rel.uW(h:Rel B g s a w):Rel B g s a { w with drawn:=w.drawn+1 }:=by
 refine h.i_ (b0:=none) (l0:=none) (g':=g) (s':=s) (w':={ w with drawn:=w.drawn+1 }) ⟨.refl _ _,λ_ _ _ _=>rfl,λ_ _ _=>rfl,λ_ _ _ _=>rfl,dA _,λ_ _ _=>rfl,λ_ h=>(by cases h),λ_ h=>(by cases h),λ_ _ _ _=>rfl,rfl,rfl,rfl⟩ (dA _) (λ_ _ _=>rfl) ?_ ?_ ?_ ?_ ?_ ?_ rfl rfl ?_ h.bG h.lP h.ou ?_
 ·intro b x hb hx;rcases hb with hb|hb
  ·cases hb
  ·have:=(cZ.1 hx).1;omega
 ·intro b h1 h2;omega
 ·intro b b' h1 h2;omega
 ·exact h.cX.mem
 ·exact h.cX.eD
 ·intro _ _ h;cases h
 ·intro t x hx;exact⟨x,hx,.inl ⟨rfl,by simp⟩⟩
 ·intro t h;cases h
theorem znN{s0 s':St}{Ev:Nat->aD}{rs:List Rec}{cs:List ew}(hR:RI cx all takes s0 Ev all.size rs cs s')(iV:oT P cx B) :
  ∀(fuel:Nat)(l:Array Bool)(s:St)(g:Gh)(a:Act)(w:aP),left l all.size<=fuel->Inv all rs cs Ev l s->Rel B g s a w->wpAny P .any all (vQ B .normal s') fuel l a w:=by
 have fin:∀(l:Array Bool)(s:St)(g:Gh)(a:Act)(w:aP),Inv all rs cs Ev l s->Rel B g s a w->(∀j,j<all.size->iO l j)->vQ B .normal s' .normal a w:=by
  intro l s g a w hI h di;have:=hI.final hR di;subst this;exact⟨g,h,trivial⟩
 have nil:∀(l:Array Bool)(s:St),Inv all rs cs Ev l s->Region.ready .any all l=[]->∀j,j<all.size->iO l j:=by
  intro l s hI hr j
  induction j using Nat.strongRecOn with
  | ind j ih =>
   intro hj;cases hl:l.getD j false with
   | true=>exact hl
   | false =>
    obtain⟨r,oU,LV⟩:=hR.ex j hj;have dy:=hR.get r oU
    have:j∈Region.ready .any all l:=mem_ready.2 ⟨by
     have:j<l.size:=by rw[hI.size];exact hj
     simp[this] at hl ⊢
     exact hl,r.o,by rw[<- LV];exact dy,λe he hb=>ih e.on (by rw[<- LV];exact hR.bQ r oU e he hb) (by
      have h1:=hR.bQ r oU e he hb
      omega)⟩
    rw[hr] at this;cases this
 intro fuel
 induction fuel with
 | zero =>
  intro l s g a w hle hI h;have di:=Xc (l:=l) (k:=all.size) (by omega)
  refine⟨?_,fin l s g a w hI h di⟩;cases hr:Region.ready .any all l with
  | nil=>rfl
  | cons x xs =>
   have hx:x∈Region.ready .any all l:=by rw[hr];exact eK ..
   obtain⟨h1,o,ho,_⟩:=mem_ready.1 hx;have bR:x<all.size:=(tK.1 ho).1;have h2:=di x bR;have:x<l.size:=by rw[hI.size];exact bR
   unfold iO at h2;simp[this] at h1 h2;rw[h1] at h2;cases h2
 | succ fuel ih =>
  intro l s g a w hle hI h;refine⟨λhr=>fin l s g a w hI h (nil l s hI hr),λi hi=>?_⟩;obtain⟨h1,o,ho,gv⟩:=mem_ready.1 hi;have bR:i<all.size:=(tK.1 ho).1;have fq:i<l.size:=by rw[hI.size];exact bR
  have uj:¬iO l i:=by
   unfold iO;simp[fq] at h1 ⊢;exact h1
  obtain⟨r,oU,rfl⟩:=hR.ex i bR;have dy:=hR.get r oU;rw[dy] at ho;cases ho;have mT:=Xb fq uj bR;unfold wpOp;simp only[dy];rcases Inv.step hR hI oU uj gv with⟨hw,um⟩|⟨hw,res,s2,aC,lQ,um⟩
  ·rw[if_neg (by rw[ym h hw];simp)]
   exact ih _ _ g _ w (by omega) um (wV (yC h r.o))
  ·rw[if_pos (ym h hw)]
   left
   refine Iu iV h aC ⟨λv' hv g' cv a' w' hk=>?_,λhv g' a' w' hk=>?_,λv' hv=>?_⟩
   ·rcases lQ with rfl|⟨rfl,_⟩
    ·cases hv;exact ih _ _ g' _ w' (by omega) um (wV hk)
    ·cases hv
   ·rcases lQ with rfl|⟨_,he⟩
    ·cases hv
    ·rw[he] at um;exact ih _ _ g' _ w' (by omega) um (wV (yC hk r.o))
   ·rcases lQ with rfl|⟨rfl,_⟩<;>cases hv
theorem zeV{s s':St}{ex:Ex}{ops:Array Oper}(iV:oT P cx B)(hc:cx.drawn ops s=some (ex,s'))(h:Rel B g s a w):ex=.normal/\wpAny P .any ops (vQ B .normal s') ops.size (Array.replicate ops.size false) a { w with drawn:=w.drawn+1 }:=by
 obtain⟨env,H,lk,df⟩:=s;unfold Cx.drawn at hc;obtain⟨rfl,Ev,rs,cs,hR⟩:=xj ops.toList 0 [] _ _ _ hc (RI.start (⟨env,H,[],df⟩:St)) (by simp)
 exact⟨rfl,znN hR iV ops.size _ _ g a _ Xd (Inv.start hR) h.Ix.uW⟩
end
section
variable{P:aQ}{cx:Cx}{B:dR}{g:Gh}{s:St}{a:Act}{w:aP}
def TP(T t sz N:Nat):Lj:=⟨T,.sl sz [] (.yes t),.slice (some ⟨N,0,none⟩) 0 1,none⟩
abbrev dR.late(B:dR)(T t sz N:Nat):dR:={ B with cR:=TP T t sz N::B.cR }
theorem nW{T t sz N b off:Nat}:D6 (B.late T t sz N) b off ↔ D6 B b off:=by
 unfold D6;constructor
 ·rintro(h|⟨q,hq,h⟩)
  ·exact .inl h
  ·rcases dG.1 hq with rfl|hq
   ·cases h
   ·exact .inr ⟨q,hq,h⟩
 ·rintro(h|⟨q,hq,h⟩)
  ·exact .inl h
  ·exact .inr ⟨q,dU _ hq,h⟩
theorem Rel.CM{T t sz N:Nat}(h:Rel (B.late T t sz N) g s a w):Rel B g s a w :=
 {cX:=h.cX,len:=h.len,env:=h.env,dO:=h.dO,n0:=h.n0,bG:=h.bG,dY:=h.dY,fr:=h.fr,lP:=λb off hb=>h.lP b off (nW.2 hb),ou:=λp hp hb=>h.ou p hp (nW.2 hb),cR:=λp hp=>h.cR p (dU _ hp),eE:=h.eE,defers:=h.defers,marks:=h.marks,nG:=h.nG }
theorem zfR{T t N n:Nat}(h:Rel (B.late T t n N) g s a w)(hT:∀p∈B.cR,p.t≠T)(hN:B.w.heap.size<=N){p x:aW}{v:V}{cW:aD}(hp:a.eval p=.pointer (some ⟨N,0,none⟩))(ht:take s.env x=some (v,cW))
  (hn:z4 P t=some n) (ej:dz v=true) (hl:v.laid.length=n) :
  ∃g' w',(Instr.storeAt t (a.eval p) (a.eval x)).run P w=.ok () w'/\Rel B g' { s with env:=cW,H:=s.H.push (.cells v.laid t) } a w'/\aR g' (.ptr s.H.az.length 0) (.pointer (some ⟨N,0,none⟩)):=by
 obtain⟨g1,h1,v1,v2,v3,sQ⟩:=vG h ht (.cell s.H.az.length 0);obtain⟨l1,l2,l3⟩:=We v1 ej v2 (y4 ht) v3;obtain⟨p1,_,p3,_,_⟩:=h1.cR (TP T t n N) (eK ..);obtain⟨xs,⟨_,cj⟩,hc⟩:=p3;rcases cj with⟨e,_⟩|⟨c,o,cap,cur,e,lg,_,_,fq,_⟩
 ·cases e
 cases e;obtain⟨o1,o2,o3⟩:=hc N rfl;have fq:cur.size=n:=by rcases fq with h0|h0<;>simp at h0;exact h0
 have Xe:N<w.heap.size:=(tK.1 lg).1;have nL:(a.eval x).cells.size=n:=by rw[<- hl,l1.len];simp
 have hM:∀o,g1.M N o=none:=by
  intro o;cases hm:g1.M N o with
  | none=>rfl
  | some u =>
   have hu:=h1.cX.mem N o u hm;have ho:o<n:=by
    rw[<- fq];simp only[World.cell?,lg] at hu;exact(tK.1 (by simpa using hu)).1
   have:=o2 o (by simp) (by simpa using ho)
   rw[this] at hm;cases hm
 have cw:(Instr.storeAt t (.pointer (some ⟨N,0,none⟩)) (a.eval x)).run P w=.ok () (w.setRow N (a.eval x).cells):=by
  have eZ:=run_storeCells_at P N 0 t (a.eval x).cells.toList 0 cur w lg (by simp[nL,fq]) (λu hu=>by
   obtain⟨j,hj⟩:=List.getElem?_of_mem hu;have sO:j<v.laid.length:=by rw[l1.len];exact(cZ.1 hj).1
   have hx:=gj sO
   exact(l1.rel j _ u hx hj).nT (l1.one j _ hx))
  have nq:cur.toList.take (0+0)++(a.eval x).cells.toList++cur.toList.drop (0+0+(a.eval x).cells.toList.length)=(a.eval x).cells.toList:=by
   rw[List.drop_of_length_le (by simp[nL,fq])];simp
  rw[nq] at eZ;unfold Instr.storeAt storeVar;simp[Instr.sureAddr,jv hn,nL,eZ]
 have mT:(s.H.push (.cells v.laid t)).az.length=s.H.az.length+1:=by simp[Hp.push]
 have dy:∀b,b<s.H.az.length->(s.H.push (.cells v.laid t)).az[b]?=s.H.az[b]?:=λb hb=>by simp only[Hp.push];rw[gb hb]
 have rP:(s.H.push (.cells v.laid t)).az[s.H.az.length]?=some (.cells v.laid t):=by simp[Hp.push]
 let g2:Gh:={ g1 with bO:=λb=>if b=s.H.az.length then N else g1.bO b,own:=λc=>if c=N then none else g1.own c }
 have Cb:g2.bO s.H.az.length=N:=if_pos rfl;have cH:∀c,(∀l,some (Loc.slot B.d T)=some l->g1.own c≠some l)->c≠N:=λc hc e=>hc _ rfl (e ▸ o1);have hs:gK B.d none (some (.slot B.d T)) s.H.az.length g1 w g2 (w.setRow N (a.eval x).cells) :=
  ⟨⟨λ_ _ _ h=>h,λb hb=>if_neg (by omega),rfl,λ_ _ _ _ h=>h⟩,λc _ _ hc=>setRow_other w N c _ (cH c hc),λc _ hc=>if_neg (cH c hc),λ_ _ _ _=>rfl,by simp[World.setRow],λ_ _ _=>rfl,λl hl=>.inl ⟨T,by cases hl;rfl⟩,λ_ hb=>(by cases hb),λ_ _ _ _=>rfl,rfl,rfl,rfl⟩
 have dX:∀b,s.H.az.length<=b->b<s.H.az.length+1->NS g1 (some (.slot B.d T)) w (g2.bO b):=λb q1 q2=>by
  have:b=s.H.az.length:=by omega
  subst this;rw[Cb];exact .inr ⟨_,rfl,o1⟩
 have ov:(w.setRow N (a.eval x).cells).heap[g2.bO s.H.az.length]?=some (.cells (a.eval x).cells t (0,0)):=by
  rw[Cb];exact setRow_heap w N cur _ t _ lg
 refine⟨g2,_,by rw[hp];exact cw,h1.CM.Dg (s':={ s with env:=cW,H:=s.H.push (.cells v.laid t) }) hs (by simp only[mT];omega) (λb hb _=>dy b hb) (λb y hb hy=>?_) (λb q1 q2=>?_) (λb b' q1 q2 q3 q4 _=>?_) (λc o u hu=>?_) (λc l hc=>?_)
  (λb j e=>by cases e) rfl rfl (λk y hy=>⟨y,hy,.inl ⟨rfl,λe=>?_⟩⟩) ?_ (λb off q_=>yZ dy (h1.CM.lP b off q_)) h1.CM.ou (λk e p hp=>by cases e;exact hT p hp),?_⟩
 ·have cY:b=s.H.az.length:=by
   rcases hb with hb|hb
   ·cases hb
   ·have:=(cZ.1 hy).1;simp only[mT] at this;simp only at hb;omega
  subst cY;rw[show({ s with env:=cW,H:=s.H.push (.cells v.laid t) }:St).H.az[s.H.az.length]?=some (.cells v.laid t) from rP] at hy;cases hy;simp only[mT];refine⟨⟨_,ov,by simpa using l1.len,λj y u hy hu=>⟨l1.one j y hy,(l1.rel j y u hy (by simpa using hu)).le hs.le (cN (zn (zv hy)) l2),?_,?_⟩⟩,K8 l2⟩
  ·have:=(l3 j y u hy hu).1;rw[nY] at this;exact cL.nH hs (λe=>by cases e) dX this
  ·have:=(l3 j y u hy hu).2;cases y with
   | sl sz xs o=>cases o with
    | lock=>exact absurd rfl (this sz xs)
    | _=>trivial
   | _=>trivial
 ·simp only[mT] at q2;have e:b=s.H.az.length:=by simp only at q1;omega
  subst e;refine⟨⟨dX _ (dA _) (by omega),by rw[Cb];exact hN⟩,by rw[Cb];simpa[World.setRow] using Xe,by rw[Cb];exact if_pos rfl,λo=>by rw[Cb];exact hM o⟩
 ·simp only[mT] at q2 q4;simp only at q1 q3;omega
 ·have ny:g1.M c o=some u:=hu;have:c≠N:=λe=>by rw[e,hM o] at ny;cases ny
  rw[yz (setRow_other w N c _ this)];exact h1.cX.mem c o u ny
 ·have ei:(if c=N then none else g1.own c)=some l:=hc
  split at ei
  ·cases ei
  ·have:=h1.cX.eD c l ei;simpa[World.setRow] using this
 ·simp only[bq,Loc.slot.injEq,lM] at e;have:=(cZ.1 hy).1;have p1':cW.length<T:=p1;simp only at this;omega
 ·intro b y hy;rcases eM b s.H.az.length with q1|q1
  ·rw[show({ s with env:=cW,H:=s.H.push (.cells v.laid t) }:St).H.az[b]?=s.H.az[b]? from dy b q1] at hy;exact h1.bG b y hy
  ·have cY:b=s.H.az.length:=by
    have:=(cZ.1 hy).1;simp only[mT] at this;omega
   subst cY;rw[show({ s with env:=cW,H:=s.H.push (.cells v.laid t) }:St).H.az[s.H.az.length]?=some (.cells v.laid t) from rP] at hy;cases hy;exact .inl (K8 l2)
 ·have:=aR.ptr (g:=g2) s.H.az.length 0;rw[Cb] at this;exact this
theorem znO{o:Oper}{K:Act->aP->Prop}{Q:Exit->Act->aP->Prop}{d:Tmp}(hd:o.dst≠some d)(h:o.wp P a w K Q):o.wp P a w (λa' w'=>K a' w'/\a'.tmps[d]?=a.tmps[d]?) Q:=by
 have pS:∀(b:Act) v,b.tmps=a.tmps->(b.put o.dst v).tmps[d]?=a.tmps[d]?:=by
  intro b v hb;unfold Act.put;split
  ·rename_i k hk;have cH:k≠d:=λe=>hd (by rw[hk,e])
   simp only[hb,Array.getElem?_setIfInBounds_ne cH]
  ·rw[hb]
 unfold Oper.wp at *;generalize (execOp a.eval o).run P w=r at *;cases r with
 | ok n w' =>
  cases n<;>simp only[Oper.upon] at h ⊢ <;>
   first
    |exact⟨h,pS _ _ rfl⟩
    | exact Calls.mono h (λe w'' he=>by cases e<;>first|exact⟨he,pS _ _ rfl⟩|exact he)
    | exact Rows.mono h (λ_ _ he=>⟨he,pS _ _ rfl⟩)
 | halt x w'=>cases x<;>simp only[Oper.upon] at h ⊢<;>exact h
theorem zim{ops:Array Oper}{os:List Oper}{d:Tmp}{t:aB}{x:aW}(h:xO ops=some (os,d,t,x)):∃pre JY JZ af J0 IF after,ops.toList=pre++[⟨some d,.alloc t,JY,JZ,af,none⟩,⟨none,.store t (.tmp d) x,J0,IF,after,none⟩] /\
  os=pre++[De af,De after]/\∀j,j<pre.length+1->∃e∈after,e.on=j/\Region.binds .any e=true:=by
 unfold xO at h;split at h
 ·rename_i t' d' x' J0 IF after e u JY JZ af rest hr;split at h
  ·rename_i hc;simp only[bq,cq] at h;obtain⟨rfl,rfl,rfl,rfl⟩:=h;simp only[d_] at hc;obtain⟨⟨c1,c2⟩,c3⟩:=hc;cases eG c1;cases eG c2;have di:∀n,Ti after.toList n=true->∀j,j<n->∃e∈after,e.on=j/\Region.binds .any e=true:=by
    intro n
    induction n with
    | zero=>intro _ j hj;omega
    | succ n ih =>
     intro ha j hj;simp only[Ti,d_,Fc] at ha;rcases eM j n with h1|h1
     ·exact ih ha.2 j h1
     ·obtain⟨e,he,h2,h3⟩:=ha.1;exact⟨e,Array.mem_toList_iff.1 he,by have:=eG h2;omega,h3⟩
   have hl:=congrArg List.reverse hr;rw[List.reverse_reverse] at hl;refine⟨rest.reverse,JY,JZ,af,J0,IF,after,by rw[hl];simp,by simp,λj hj=>di _ c3 j (by simpa using hj)⟩
  ·cases h
 ·cases h
theorem zg9{α:Type}{f:α->Bool}:∀{l:List α},kB f l=true->∀x∈l,f x=true
 | [],_,x,hx=>by cases hx
 | q::qs,h,x,hx=>by
  simp only[kB] at h;split at h
  ·rename_i hq;rcases dG.1 hx with rfl|hx
   ·exact hq
   ·exact zg9 h x hx
  ·cases h
theorem zlI{takes:cg}{af:Array Edge}{env:aD}{H:Hp}{lk:aO}{df:bP}{r:OR}{s2:St}(h:cx.op takes (De af) env H lk df=some (r,s2)):s2=⟨env,H,lk,df⟩:=by
 obtain⟨_,_,h1,_⟩:=yd (by rfl) h
 rw[h1];rfl
theorem znP{pre:List Oper}{JY J0:aB}{JZ IF:String}{af after:Array Edge}{d:Tmp}{t:aB}{x:aW}{ops sn:Array Oper}{takes:cg}{s0 s1 s':St}{Ev:Nat->aD}{rs:List Rec}{cs:List ew}{n:Nat}{z:V}{v:V}{cK:aD}
  (Bn:ops.toList=pre++[⟨some d,.alloc t,JY,JZ,af,none⟩,⟨none,.store t (.tmp d) x,J0,IF,after,none⟩]) (pN:sn=(pre++[De af,De after]).toArray) (Xf:∀j,j<pre.length+1->∃e∈after,e.on=j/\Region.binds .any e=true)
  (uP:∀o∈pre,Tj takes d o=true) (hR:RI cx sn takes s0 Ev sn.size rs cs s1) (iV:oT P cx B)
  (hn:z4 P t=some n) (hz:qP P t=some z) (hzk:dz z=true) (Wt:z.cells.length=n) (ht:take s1.env x=some (v,cK)) (ej:dz v=true) (hl:v.laid.length=n) (hs':s'={ s1 with env:=cK.set d (.ptr s1.H.az.length 0),H:=s1.H.push (.cells v.laid t) }) :
  ∀(fuel:Nat)(l:Array Bool)(s:St)(g:Gh)(a:Act)(w:aP),left l ops.size<=fuel->Inv sn rs cs Ev l s->s.env[d]?=some .dW->¬iO l (pre.length+1) ->
   ((¬iO l pre.length/\Rel B g s a w)\/(iO l pre.length/\∃T N,(∀p∈B.cR,p.t≠T)/\B.w.heap.size<=N/\a.tmps[d]?=some (.pointer (some ⟨N,0,none⟩))/\Rel (B.late T t n N) g s a w))->wpAny P .any ops (vQ B .normal s') fuel l a w:=by
 have fq:ops.size=pre.length+2:=by rw[<- AJ,Bn];simp
 have CD:sn.size=pre.length+2:=by rw[pN];simp
 have aC:∀j,j<pre.length->ops[j]?=sn[j]?:=λj hj=>by
  rw[<- E9,Bn,pN,List.getElem?_toArray,gb hj,gb hj]
 have hk:ops[pre.length]?=some ⟨some d,.alloc t,JY,JZ,af,none⟩:=by rw[<- E9,Bn];simp
 have pM:sn[pre.length]?=some (De af):=by rw[pN];simp
 have Eb:ops[pre.length+1]?=some ⟨none,.store t (.tmp d) x,J0,IF,after,none⟩:=by rw[<- E9,Bn];simp
 have PZ:sn[pre.length+1]?=some (De after):=by rw[pN];simp
 have iE:∀(j:Nat)(o r:Oper),ops[j]?=some o->sn[j]?=some r->r.after=o.after:=by
  intro j o r ho hr;rcases eM j pre.length with h1|h1
  ·rw[aC j h1,hr] at ho;cases ho;rfl
  ·rcases eM j (pre.length+1) with h2|h2
   ·have:j=pre.length:=by omega
    subst this;rw[hk] at ho;rw[pM] at hr;cases ho;cases hr;rfl
   ·have:j=pre.length+1:=by
     have:=(tK.1 ho).1;omega
    subst this;rw[Eb] at ho;rw[PZ] at hr;cases ho;cases hr;rfl
 have nil:∀(l:Array Bool)(s:St),Inv sn rs cs Ev l s->Region.ready .any ops l=[]->∀j,j<ops.size->iO l j:=by
  intro l s hI hr j
  induction j using Nat.strongRecOn with
  | ind j ih =>
   intro hj;cases hl:l.getD j false with
   | true=>exact hl
   | false =>
    obtain⟨r,oU,LV⟩:=hR.ex j (by rw[CD,<- fq];exact hj)
    have dy:=hR.get r oU;have ho:=EH hj;have AV:=iE j _ r.o ho (by rw[<- LV];exact dy)
    have:j∈Region.ready .any ops l:=mem_ready.2 ⟨by
     have:j<l.size:=by rw[hI.size,CD,<- fq];exact hj
     simp[this] at hl ⊢;exact hl,_,ho,λe he hb=>by
      have IA:e∈r.o.after:=by rw[AV];exact he
      have h1:=hR.bQ r oU e IA hb
      exact ih e.on (by omega) (by omega)⟩
    rw[hr] at this;cases this
 intro fuel
 induction fuel with
 | zero =>
  intro l s g a w hle hI hj uj h;exact absurd (Xc (l:=l) (k:=ops.size) (by omega) _ (by omega)) uj
 | succ fuel ih =>
  intro l s g a w hle hI hj uj h;refine⟨λhr=>absurd (nil l s hI hr _ (by omega)) uj,λi hi=>?_⟩
  obtain⟨h1,o,ho,gv⟩:=mem_ready.1 hi;have bR:i<ops.size:=(tK.1 ho).1;have AX:i<l.size:=by rw[hI.size,CD,<- fq];exact bR
  have LW:¬iO l i:=by
   unfold iO;simp[AX] at h1 ⊢;exact h1
  obtain⟨r,oU,rS⟩:=hR.ex i (by rw[CD,<- fq];exact bR)
  have dy:=hR.get r oU;rw[rS] at dy;have P0:∀e∈r.o.after,Region.binds .any e=true->iO l e.on:=λe he hb=>gv e (by rw[<- iE i o r.o ho dy];exact he) hb
  have mT:=Xb AX LW bR;have mF:=Inv.step hR hI oU (by rw[rS];exact LW) P0
  rw[rS] at mF;unfold wpOp;simp only[ho];have hg:o.guard=none->Region.wanted o (yielded ops a.tmps)=true:=λh=>by unfold Region.wanted;rw[h]
  rcases eM i pre.length with Aj|Aj
  ·
   have Am:r.o=o:=by
    have:=aC i Aj;rw[ho,dy] at this;cases this;rfl
   have dI:o∈pre:=by
    have:pre[i]?=some o:=by
     rw[<- ho,<- E9,Bn,gb Aj]
    exact nB this
   have N_:=uP o dI;simp only[Tj,d_] at N_;obtain⟨⟨hd,mq⟩,P3⟩:=N_;have hd:o.dst≠some d:=λe=>by rw[e] at hd;simp at hd
   have mq:kl takes o≠some (.tmp d):=λe=>by rw[e] at mq;simp at mq
   have P3:o.guard=none:=by cases hh:o.guard with
    | none=>rfl
    | some _=>rw[hh] at P3;cases P3
   rw[Am] at mF;rcases mF with⟨hw,_⟩|⟨hw,res,s2,CN,lQ,um⟩
   ·unfold zY at hw;rw[P3] at hw;cases hw
   rw[if_pos (hg P3)]
   left
   have IA:=(PM (bH:=s.env) (λ_ _=>rfl) CN).1;have sO:(aq s2.env o.dst r.v)[d]?=some .dW:=by rw[N9 hd,IA,W8 mq];exact hj
   have P4:¬iO (l.setIfInBounds i true) (pre.length+1):=λe=>by
    rcases (ke AX).1 e with e|e
    ·omega
    ·exact uj e
   have J1:∀(B':dR)(K:Act->aP->Prop),(∀g' a' w',Rel B' g' { s2 with env:=aq s2.env o.dst r.v } a' w'->K a' w')->Ends P B' o res s2 K (vQ B .normal s'):=λB' K hK=>by
    refine⟨λv' hv g' cv a' w' hk=>?_,λhv g' a' w' hk=>?_,λv' hv=>?_⟩
    ·rcases lQ with rfl|⟨rfl,_⟩
     ·cases hv;exact hK _ _ _ (wV hk)
     ·cases hv
    ·rcases lQ with rfl|⟨_,he⟩
     ·cases hv
     ·rw[he] at hK;exact hK _ _ _ (wV (yC hk o))
    ·rcases lQ with rfl|⟨rfl,_⟩<;>cases hv
   rcases h with⟨P5,h⟩|⟨P5,T,N,hT,hN,hp,h⟩
   ·refine Iu iV h CN (J1 B _ λg' a' w' hk=>ih _ _ g' _ w' (by omega) um sO P4 (.inl ⟨λe=>?_,hk⟩))
    rcases (ke AX).1 e with e|e
    ·omega
    ·exact P5 e
   ·have Xg:oT P cx (B.late T t n N):=⟨iV.prog,iV.num,iV.WH,iV.gl,iV.calls⟩;have key:=Iu Xg h CN (J1 (B.late T t n N) (λa' w'=>∃g',Rel (B.late T t n N) g' { s2 with env:=aq s2.env o.dst r.v } a' w') λg' a' w' hk=>⟨g',hk⟩);refine Oper.wp_mono (λa' w' hk=>?_) (znO hd key);obtain⟨⟨g',hk⟩,N_⟩:=hk
    exact ih _ _ g' _ w' (by omega) um sO P4 (.inr ⟨(ke AX).2 (.inr P5),T,N,hT,hN,N_.trans hp,hk⟩)
  ·rcases eM i (pre.length+1) with Xh|Xh
   ·
    have P6:i=pre.length:=by omega
    subst P6;rw[hk] at ho;cases ho;rw[pM] at dy;have Ed:r.o=De af:=(Ct dy).symm;rw[Ed] at mF;rcases mF with⟨hw,_⟩|⟨hw,res,s2,CN,lQ,um⟩
    ·cases hw
    have e2:=zlI CN;subst e2;have um:Inv sn rs cs Ev (l.setIfInBounds pre.length true) s:=um;rcases h with⟨_,h⟩|⟨h0,_⟩
    ·rw[if_pos (hg rfl)]
     left
     obtain⟨cz,z1,z2,z3,_,z5⟩:=yx (g:=g) hz w;have ef:=vr z2 hzk;have cw:(execOp a.eval ⟨some d,.alloc t,JY,JZ,af,none⟩).run P w=.ok (.value (.pointer (some ⟨w.heap.size,0,none⟩))) (w.alloc (.cells cz.cells t)):=by simp[execOp,Instr.alloc,z1,newVar,newRow]
     unfold Oper.wp;rw[cw,Oper.upon_value];obtain⟨T,hT1,hT2⟩:∃T,s.env.length<T/\∀p∈B.cR,p.t<T:=by
      have:∀ps:List Lj,∃T,s.env.length<T/\∀p∈ps,p.t<T:=by
       intro ps
       induction ps with
       | nil=>exact⟨s.env.length+1,by omega,λp hp=>by cases hp⟩
       | cons q qs ih =>
        obtain⟨T,t1,t2⟩:=ih;refine⟨T+q.t+1,by omega,λp hp=>?_⟩
        rcases dG.1 hp with rfl|hp
        ·omega
        ·have:=t2 p hp;omega
      exact this B.cR
     have hr0:=h.settle [] (some (.slot B.d T)) (w':=w.alloc (.cells cz.cells t)) (by simp) (λj hj=>by first|exact Go.heap_alloc_old w _ hj|exact Go.heap_alloc_old w _ _ hj) (λ_ _ e=>by simp at e) rfl rfl rfl
     have oU:Rel B (g.row w.heap.size [] (some (.slot B.d T))) { s with env:=aq s.env (some d) .dW } (a.put (some d) (.pointer (some ⟨w.heap.size,0,none⟩))) (w.alloc (.cells cz.cells t)) :=
      wV (dst:=some d) ⟨hr0,.dW _,λ_ _=>trivial,ec _⟩
     have iZ:aq s.env (some d) .dW=s.env:=by
      apply Fa;intro k
      by_cases e:k=d
      ·subst e;rw[hj];have:=(cZ.1 hj).1;simp[aq,this]
      ·exact N9 (λe'=>e (by cases e';rfl))
     rw[iZ] at oU;have Xi:d<a.tmps.size:=by rw[<- h.len];exact(cZ.1 hj).1
     refine ih _ s (g.row w.heap.size [] (some (.slot B.d T))) _ _ (by omega) um hj (λe=>?_) (.inr ⟨(ke AX).2 (.inl rfl),T,w.heap.size,λp hp e=>by have:=hT2 p hp;omega,h.fr.size,?_,?_⟩)
     ·rcases (ke AX).1 e with e|e
      ·omega
      ·exact uj e
     ·simp[Act.put,Xi]
     ·refine { cX:=oU.cX,len:=oU.len,env:=oU.env,dO:=oU.dO,n0:=oU.n0,bG:=oU.bG,dY:=oU.dY,fr:=oU.fr,lP:=λb off hb=>oU.lP b off (nW.1 hb),ou:=λp hp hb=>oU.ou p hp (nW.1 hb),cR:=λp hp=>?_,eE:=oU.eE,defers:=oU.defers,marks:=oU.marks,nG:=oU.nG };rcases dG.1 hp with rfl|hp
      ·refine⟨hT1,?_,?_,ec _,λb off e=>by cases e⟩
       ·exact .sl (c:=w.heap.size) (o:=0) (λ_=>.nilFunc) (λ_ e=>by simp at e) (ec _) (λe=>absurd rfl e) (λ_ _ e=>by simp[zH] at e) (λ_ _ e=>by simp[zH] at e) (λ_ _ e=>by simp[zH] at e)
       ·have B7:cz.cells.size=n:=by have:=ef.len;rw[Wt] at this;simpa using this.symm
        refine⟨[],⟨by simp,.inr ⟨w.heap.size,0,1,cz.cells,rfl,heap_alloc_new w _,ec _,by decide,.inr (by rw[B7];omega),by simp⟩⟩,λc' ei=>?_⟩
        simp only[Value.ownBlock,TP,bq] at ei;subst ei;refine⟨by simp[Gh.row,TP],λo' _ _=>by simp[Gh.row],λb hb e=>?_⟩
        have:=h.cX.lt b hb;simp only[Gh.row] at e;omega
      ·exact oU.cR p hp
    ·exact absurd h0 LW
   ·
    have P6:i=pre.length+1:=by omega
    subst P6;rw[Eb] at ho;cases ho;rw[PZ] at dy;have Ed:r.o=De after:=(Ct dy).symm;rw[Ed] at mF;have J2:∀j,j<pre.length+1->iO l j:=λj hj=>by
     obtain⟨e,he,rfl,hb⟩:=Xf j hj;exact gv e he hb
    rcases mF with⟨hw,_⟩|⟨hw,res,s2,CN,lQ,um⟩
    ·cases hw
    have e2:=zlI CN;subst e2;have um:Inv sn rs cs Ev (l.setIfInBounds (pre.length+1) true) s:=um;have J3:∀j,j<ops.size->iO (l.setIfInBounds (pre.length+1) true) j:=λj hj=>by
     rcases eM j (pre.length+1) with q|q
     ·exact(ke AX).2 (.inr (J2 j q))
     ·exact(ke AX).2 (.inl (by omega))
    have iD:s=s1:=um.final hR (λj hj=>J3 j (by omega))
    subst iD;rcases h with⟨h0,_⟩|⟨_,T,N,hT,hN,hp,h⟩
    ·exact absurd (J2 _ (by omega)) h0
    rw[if_pos (hg rfl)]
    left
    have hev:a.eval (.tmp d)=.pointer (some ⟨N,0,none⟩):=by simp[Act.eval,hp]
    obtain⟨g',w',q1,q2,q3⟩:=zfR h hT hN hev ht hn ej hl;have cw:(execOp a.eval ⟨none,.store t (.tmp d) x,J0,IF,after,none⟩).run P w=.ok .skip w':=by simp[execOp,q1]
    unfold Oper.wp;rw[cw,Oper.upon_skip];have pS:a.put (some d) (.pointer (some ⟨N,0,none⟩))=a:=by
     unfold Act.put;have:a.tmps.setIfInBounds d (.pointer (some ⟨N,0,none⟩))=a.tmps:=by
      apply Array.ext_getElem?;intro k
      by_cases e:k=d
      ·subst e;have bR:=(tK.1 hp).1;rw[hp];simp[bR]
      ·rw[Array.getElem?_setIfInBounds_ne (λe'=>e e'.symm)]
     simp only[this]
    have iD:=wV (dst:=some d) (v:=.ptr s.H.az.length 0) (cv:=.pointer (some ⟨N,0,none⟩)) ⟨q2,q3,λ_ _=>trivial,by simp[V.top,Hp.push]⟩
    rw[pS] at iD;have hQ:vQ B .normal s' .normal a w':=⟨g',by rw[hs'];exact iD,trivial⟩
    have WV:Region.ready .any ops (l.setIfInBounds (pre.length+1) true)=[]:=by
     apply List.eq_nil_iff_forall_not_mem.2;intro j hj;obtain⟨j1,o,ho,_⟩:=mem_ready.1 hj;have AY:=(tK.1 ho).1;have h2:=J3 j AY;have:j<(l.setIfInBounds (pre.length+1) true).size:=by rw[um.size,CD,<- fq];exact AY
     unfold iO at h2;simp only[Array.getD_eq_getD_getElem?,EH this,fS] at j1 h2;rw[j1] at h2;cases h2
    show wpAny P .any ops (vQ B .normal s') fuel _ a w';cases fuel with
    | zero=>exact⟨WV,hQ⟩
    | succ f=>exact⟨λ_=>hQ,λj hj=>by rw[WV] at hj;cases hj⟩
theorem zlJ{s s':St}{ex:Ex}{ops:Array Oper}(iV:oT P cx B)(hc:cx.late ops s=some (ex,s'))(h:Rel B g s a w):ex=.normal/\wpAny P .any ops (vQ B .normal s') ops.size (Array.replicate ops.size false) a { w with drawn:=w.drawn+1 }:=by
 obtain⟨env,H,lk,df⟩:=s;unfold Cx.late at hc;simp only at hc;split at hc
 ·cases hc
 rename_i os d t x iy;split at hc
 ·cases hc
 rename_i G3;split at hc
 ·rename_i ex1 bH H2 AT AU aC;split at hc
  ·rename_i v akA n z h1 h2 h3;split at hc
   ·rename_i rR;simp only[qp,c_] at hc;split at hc
    ·rename_i hlen;rw[qn] at hc;simp only[bq,cq] at hc;obtain⟨rfl,rfl⟩:=hc;refine⟨rfl,?_⟩;obtain⟨pre,JY,JZ,af,J0,IF,after,Bn,rfl,Xf⟩:=zim iy;simp only[d_] at G3 rR;obtain⟨G3,sP⟩:=G3;obtain⟨⟨c1,c2⟩,c3⟩:=rR;have sP:d+1<=env.length:=by simpa[Nat.blt,Nat.ble_eq] using sP
     have sP:d<env.length:=sP;obtain⟨_,Ev,rs,cs,hR⟩:=xj _ 0 [] _ _ _ aC (RI.start (⟨env.set d .dW,H,[],df⟩:St)) (by simp)
     have Lm:=h.Ix.uW;have hdt:d<a.tmps.size:=by rw[<- Lm.len];exact sP
     have pS:a.put (some d) a.tmps[d]=a:=by
      unfold Act.put;have:a.tmps.setIfInBounds d a.tmps[d]=a.tmps:=by
       apply Array.ext_getElem?;intro k
       by_cases e:k=d
       ·subst e;simp[hdt]
       ·rw[Array.getElem?_setIfInBounds_ne (λe'=>e e'.symm)]
      simp only[this]
     have eZ:=wV (dst:=some d) (v:=.dW) (cv:=a.tmps[d]) ⟨Lm,.dW _,λ_ _=>trivial,ec _⟩;rw[pS] at eZ;have eH:∀j,¬iO (Array.replicate ops.size false) j:=λj hj=>by
      unfold iO at hj;simp[Array.getElem?_replicate] at hj;split at hj<;>simp_all
     have fq:ops.size=(pre++[De af,De after]).toArray.size:=by rw[<- AJ,Bn];simp
     have hI:=Inv.start hR;rw[<- fq] at hI;exact znP Bn rfl Xf (λo ho=>zg9 G3 o (A7 _ ho)) hR iV (iV.prog ▸ h2) (iV.prog ▸ h3) c2 (eG c3) h1 c1 (eG hlen) rfl ops.size _ _ g a _ Xd hI (by simp[sP]) (eH _) (.inl ⟨eH _,eZ⟩)
    ·cases hc
   ·cases hc
  ·cases hc
 ·cases hc
theorem zlK{s s':St}{ex:Ex}{ops:Array Oper}(iV:oT P cx B)(hc:cx.draw ops s=some (ex,s'))(h:Rel B g s a w):ex=.normal/\wpAny P .any ops (vQ B .normal s') ops.size (Array.replicate ops.size false) a { w with drawn:=w.drawn+1 }:=by
 unfold Cx.draw at hc;split at hc
 ·split at hc
  ·exact zlJ iV hc h
  ·exact zeV iV hc h
 ·exact zeV iV hc h
theorem znQ(oV:P.follows .mixedOrders=true):N4 P cx B:=by
 intro iV id ops s s' ex g a w hc h;obtain⟨rfl,h1⟩:=zlK iV hc h;exact wp_region_any oV h1
theorem Xj{ops:Array Oper}{s:St}{r:Ex×St}(h:cx.drawn ops s=some r)(hl:cx.uq mB=false\/xO ops=none):cx.draw ops s=some r:=by
 unfold Cx.draw;rcases hl with hl|hl<;>rw[hl]
 ·exact h
 ·split<;>exact h
theorem zkz{ops:Array Oper}{s:St}{q:List Oper×Tmp×aB×aW}{r:Ex×St}(hu:cx.uq mB=true)(hq:xO ops=some q)(h:cx.late ops s=some r):cx.draw ops s=some r:=by
 unfold Cx.draw;rw[hu,hq];exact h
end
section
variable{P:aQ}{B:dR}
theorem znR{cx:Cx}:N5 P cx B:=λ_ n f ps as bd s s' ex g a w hc _=>by simp[Cx.code] at hc
theorem yS{gl:Gl}(oV:P.follows .mixedOrders=true)(fQ:yB P)(dP:vd P)(Eg:nM P gl)(n:Nat):xB P gl (zj P gl n) (2 * n) :=
 zg2 fQ dP Eg (λ_ _=>⟨znQ oV,znR⟩) n
end
section
open Go.ChangeShapes Go.WideShapes Go.ChangeAt Go.RowKit
def xD(W:aP):Gh :=
 {M:=λc o=>W.cell? ⟨c,o,none⟩,bO:=λ_=>0,own:=λ_=>none,lk:=λ_ _=>undef,eY:=λ_ _=>none,
  obj:=⟨λk=>match W.cell? ⟨k,0,none⟩ with|some (.iface _ (.pointer (some a)))=>a|_=>⟨0,0,none⟩,λc=>∃cs t,W.heap[c]?=some (.cells cs t (0,0))⟩ }
theorem zlL(W:aP):rj (xD W) [] W :=
 {mem:=λ_ _ _ h=>h,lt:=λb h=>by simp at h,inj:=λb _ h=>by simp at h,apart:=λb h=>by simp at h,eD:=(λc l h=>by cases h),dN:=λb h=>by simp at h,
  ok:=λb x h=>by simp at h,aI:=λb x h=>by simp at h,laid:=λc hc=>⟨hc,rfl,λb hb=>by simp at hb⟩ }
def Oa(U:aB)(ks:bM):Nat->Nat->b_:=λg o=>if Nat.beq o 0 && ks.any (Nat.beq g) then some (.dF U (.obj g)) else none
structure FD(U:aB)(W:aP)(ks:bM):Prop where
 at_:∀k∈ks,∃a,W.cell? ⟨k,0,none⟩=some (.iface U (.pointer (some a)))/\∃cs t,W.heap[a.block]?=some (.cells cs t (0,0))
 two:∀k∈ks,∀k'∈ks,∀a,W.cell? ⟨k,0,none⟩=some (.iface U (.pointer (some a)))->W.cell? ⟨k',0,none⟩=some (.iface U (.pointer (some a)))->k=k'
theorem Xk{U:aB}{ks:bM}{k off:Nat}{v:V}(hv:Oa U ks k off=some v):k∈ks/\off=0/\v=.dF U (.obj k):=by
 unfold Oa at hv;split at hv<;>simp only[bq,reduceCtorEq] at hv;rename_i hb;rw[d_] at hb;obtain⟨x,hx,hkx⟩:=Fc.1 hb.2;have e2:=eG hkx;subst e2;exact⟨hx,eG hb.1,hv.symm⟩
theorem TQ{U:aB}{W:aP}{k:Nat}{a:Addr}(ha:W.cell? ⟨k,0,none⟩=some (.iface U (.pointer (some a)))):(xD W).obj k=a:=by simp only[xD,ha]
theorem znS{P:aQ}{U:aB}{ks:bM}{W:aP}(h:FD U W ks):ij P (Oa U ks) (xD W):=by
 refine⟨?_,λk u j hv=>?_⟩
 rotate_left
 ·obtain⟨hk,_,e⟩:=Xk hv;cases e;obtain⟨a,ha,hc⟩:=h.at_ _ hk;refine⟨by rw[TQ ha];exact hc,λk' u' j' k_ e=>?_⟩
  obtain⟨pM,_,e'⟩:=Xk k_;cases e';obtain⟨a',Hg,_⟩:=h.at_ _ pM;rw[TQ ha,TQ Hg] at e;subst e;exact h.two _ hk _ pM _ ha Hg
 intro k off v hv;obtain⟨hk,rfl,rfl⟩:=Xk hv;obtain⟨a,ha,_⟩:=h.at_ _ hk;refine⟨_,ha,.dF ?_,rfl⟩;rw[<- TQ ha];exact .obj k
theorem zkB{P:aQ}{gl:Gl}(oV:P.follows .mixedOrders=true)(fQ:yB P)(dP:vd P)(Eg:nM P gl){n:Nat}{f:FuncId}{args:aD}{bx:dM}{W:aP}{H':Hp}
  (hc:zj P gl n f args ⟨[],[]⟩=some (.ret (.bool true),H')) (rN:ij P gl (xD W)) (ha:eP (xD W) 0 args bx):Calls P f bx W λe W'=>e=.returned (.bool true)/\Below W.heap.size W W':=by
 refine Calls.mono (yS oV fQ dP Eg n f args ⟨[],[]⟩ _ _ hc (xD W) W bx .ret rN (zlL W) ha) λe W' he=>?_;cases e with
 | returned cv =>
  obtain⟨v,g',h1,h2,h3,_,_⟩:=he;cases h1;cases h3;exact⟨rfl,h2.fr.os,h2.fr.tape,h2.fr.output,h2.fr.size,λc rM=>h2.fr.heap c ⟨rM,λb hb=>by simp at hb,.inl rfl⟩⟩
 | panicked chain =>
  obtain⟨v,cv,g',h1,_⟩:=he;cases h1
 | outgrown=>exact he.elim
theorem zdF{H:Type}{enc:aB×bt->H}{P:aQ}{W W':aP}(hl:laidOutB P=true)(hb:Below W.heap.size W W'):∀{ts:List aB}{vs:dw}{ds:List (DataW H)}{ps:List MemPlace},
  (∀t∈ts,P.readableRec t=true/\t<P.types.size)->DataW.TrodAll enc P W 0 (λ_=>true) true ts vs ds ps->(∀x∈ps,x.block<W.heap.size)->DataW.TrodAll enc P W' 0 (λb=>decide (b<W.heap.size)) true ts vs ds ps
 | [],vs,ds,ps,_,h,_=>by
  cases vs<;>cases ds<;>first|exact h|exact h.elim
 | t::ts,vs,ds,ps,ht,h,bR=>by
  cases vs<;>cases ds<;>first|exact h.elim|skip
  obtain⟨p,q,h1,h2,rfl⟩:=h
  exact⟨p,q,Below.trod hl (ht t (eK ..)).1 (ht t (eK ..)).2 h1 hb λx hx=>bR x (A7 _ hx),
   zdF hl hb (λu hu=>ht u (dU _ hu)) h2 λx hx=>bR x (Dc _ hx),rfl⟩
theorem zlM{H:Type}{enc:aB×bt->H}{P:aQ}{f:Func}{s:ChangeSpec}{apart fresh handsOn:Bool}{W W':aP}{args:dM}{ds gs:List (DataW H)}{before:List MemPlace}{tb:aB}
  (J4:s.vars=[]) (hrt:f.resultTypes=#[tb]) (htb:P.underlying tb=some .bool) (hl:laidOutB P=true) (P7:∀t∈f.params.toList,P.readableRec t=true/\t<P.types.size)
  (LL:s.fn H (ds++[])={ results:=[.lit (.bool true)],args:=ds }) (hW:DataW.Whole enc P f.params.toList s.vars apart W args.toList ds gs before) (hb:Below W.heap.size W W') :
  s.post enc P f apart fresh handsOn false W args (.bool true) W':=by
 have LX:=hW;obtain⟨p,q,hA,hV,rfl,_,_⟩:=hW;rw[J4] at hV;obtain⟨rfl,rfl⟩:gs=[]/\q=[]:=by
  cases gs with
  | nil=>exact⟨rfl,hV⟩
  | cons g r=>exact absurd hV (by intro h;cases h)
 refine⟨ds,[],_,[],p,[],LX,?_,?_,?_,hb.frame _,λh=>by cases h⟩
 ·rw[LL,hrt];exact trodAll_mk1 (shut_bool htb true)
 ·rw[LL];exact zdF hl hb P7 hA λx hx=>LX.lt x (by simpa using hx)
 ·rw[LL,J4];rfl
def TR(P:aQ)(x:String×DataW Unit):Bool :=
 match P.globalNamed x.1,x.2 with
 | some g,.iface nm (.ptr _) =>
  (match (P.globals[g]?).map (·.type) with
  | some t=>match P.underlying t with
   | some (.interface _)=>true
   | _=>false
  | none=>false) && nm == "*errors.errorString"
 | _,_=>false
structure l7(P:aQ)(w:aP)(ps:List MemPlace)(x:String×DataW Unit)(g t:Nat)(cs:dM)(fuel:Nat)(p:List MemPlace):Prop where
 named:P.globalNamed x.1=some g
 type:(P.globals[g]?).map (·.type)=some t
 var:w.var? P x.1=some cs
 trod:DataW.trod (λ_=>()) P w 0 (λ_=>true) false fuel t cs.toList=some (x.2,p)
 row:∀y∈MemPlace.row ⟨g,0,none⟩ cs.size,y∈ps
 sub:∀y∈p,y∈ps
theorem l7.more{P:aQ}{w:aP}{ps ps':List MemPlace}{x:String×DataW Unit}{g t:Nat}{cs:dM}{fuel:Nat}{p:List MemPlace}(h:l7 P w ps x g t cs fuel p)(hs:∀y∈ps,y∈ps'):l7 P w ps' x g t cs fuel p :=
 {h with row:=λy hy=>hs y (h.row y hy),sub:=λy hy=>hs y (h.sub y hy) }
theorem P8{P:aQ}{w:aP}:∀{l:List (String×DataW Unit)}{ps:List MemPlace},DataW.LaidVars P w l ps->∀x∈l,∃g t cs fuel p,l7 P w ps x g t cs fuel p
 | [],_,_,x,hx=>by simp at hx
 | (n,d)::r,ps,h,x,hx=>by
  obtain⟨g,t,cs,fuel,p,q,h1,h2,h3,h4,h5,h6⟩:=h;rcases dG.1 hx with rfl|hx
  ·exact⟨g,t,cs,fuel,p,h1,h2,h3,h4,λy hy=>by rw[h6];exact A7 _ (A7 _ hy),λy hy=>by rw[h6];exact A7 _ (Dc _ hy)⟩
  ·obtain⟨g',t',cs',f',p',a⟩:=P8 h5 x hx;exact⟨g',t',cs',f',p',a.more λy hy=>by rw[h6];exact Dc _ hy⟩
theorem zha{P:aQ}{w:aP}:∀{l:List (String×DataW Unit)}{ps:List MemPlace},DataW.LaidVars P w l ps->ps.Nodup->∀x∈l,∀x'∈l,∃g t cs fuel p g' t' cs' J5 p',l7 P w ps x g t cs fuel p/\l7 P w ps x' g' t' cs' J5 p'/\(g=g'\/∀y∈p,y ∉ p')
 | [],_,_,_,x,hx,_,_=>by simp at hx
 | (n,d)::r,ps,h,hn,x,hx,x',pL=>by
  obtain⟨g,t,cs,fuel,p,q,h1,h2,h3,h4,h5,h6⟩:=h;have hd:l7 P w ps (n,d) g t cs fuel p:=⟨h1,h2,h3,h4,λy hy=>by rw[h6];exact A7 _ (A7 _ hy),λy hy=>by rw[h6];exact A7 _ (Dc _ hy)⟩
  have hq:∀y∈q,y∈ps:=λy hy=>by rw[h6];exact Dc _ hy
  rw[h6] at hn;obtain⟨_,hnq,P9⟩:=List.nodup_append.1 hn;rcases dG.1 hx with rfl|hx<;>rcases dG.1 pL with rfl|pL
  ·exact⟨g,t,cs,fuel,p,g,t,cs,fuel,p,hd,hd,.inl rfl⟩
  ·obtain⟨g',t',cs',f',p',a⟩:=P8 h5 x' pL;exact⟨g,t,cs,fuel,p,g',t',cs',f',p',hd,a.more hq,.inr λy hy Xl=>P9 y (Dc _ hy) y (a.sub y Xl) rfl⟩
  ·obtain⟨g',t',cs',f',p',a⟩:=P8 h5 x hx;exact⟨g',t',cs',f',p',g,t,cs,fuel,p,a.more hq,hd,.inr λy hy Xl=>P9 y (Dc _ Xl) y (a.sub y hy) rfl⟩
  ·obtain⟨g1,t1,Al,f1,p1,g2,t2,Wh,f2,p2,a1,a2,a3⟩:=zha h5 hnq x hx x' pL;exact⟨g1,t1,Al,f1,p1,g2,t2,Wh,f2,p2,a1.more hq,a2.more hq,a3⟩
theorem Xm{P:aQ}{U:aB}{W:aP}{ps:List MemPlace}(ej:∀b off,MemPlace.cell b off∈ps->(∃c t,W.heap[b]?=some (.cells c t (0,0)))/\∀u v,W.cell? ⟨b,off,none⟩=some (.iface u v)->Value.okWide P W .any 0 u v)
  (nN:∀u,P.typeName? 3 u=some "*errors.errorString"->u=U) {e:aB} (hU:P.underlying U=some (.pointer e)) (he:0<P.cellsOf e) {x:String×DataW Unit} {k t:Nat} {cs:dM} {fuel:Nat} {p:List MemPlace} (h:l7 P W ps x k t cs fuel p) (hB:TR P x=true) :
  ∃a,W.cell? ⟨k,0,none⟩=some (.iface U (.pointer (some a)))/\MemPlace.cell a.block a.off∈p:=by
 obtain⟨h1,h2,h3,h4,cj,_⟩:=h;unfold TR at hB;rw[h1] at hB;split at hB<;>try (cases hB;done)
 rename_i g' nm d' NX G6;cases NX;rw[h2] at hB;simp only[d_] at hB;obtain⟨AZ,Dx⟩:=hB;split at AZ<;>try (cases AZ;done)
 rename_i ms hti;have Xn:nm= "*errors.errorString":=by simpa using Dx
 subst Xn;rw[G6] at h4;cases fuel with
 | zero=>simp[DataW.trod] at h4
 | succ fuel =>
  obtain⟨l0⟩:=cs;simp only[DataW.trod,hti] at h4;have key:∃u v,l0=[.iface u v]/\P.typeName? 3 u=some "*errors.errorString"/\∃d2,DataW.trod (λ_=>()) P W 0 (λ_=>true) false fuel u v.cells.toList=some (.ptr d2,p):=by
   match l0,h4 with
   | [.iface u v],h4 =>
    simp only at h4;split at h4<;>try (cases h4;done)
    rename_i name nN;obtain⟨x1,Dp,LY⟩:=mQ.1 h4;simp only[cq,DataW.iface.injEq] at LY;refine⟨u,v,rfl,by rw[nN,LY.1.1],d',?_⟩
    rw[Dp,<- LY.1.2,<- LY.2]
   | [.nilIface],h4=>simp at h4
   | [],h4=>simp at h4
   | _::_::_,h4=>simp at h4
  obtain⟨u,v,rfl,hn,d2,IG⟩:=key;have hu:u=U:=nN u hn;subst hu;have sV:W.cell? ⟨k,0,none⟩=some (.iface u v):=by
   have:=World.var?_cell h1 h3 0;simpa using this
  have hvo:=(ej k 0 (cj _ (by simp[MemPlace.row]))).2 u v sV
  have hva:∃a,v=.pointer (some a):=by
   simp only[Value.okWide,hU,Cell.okWide] at hvo;cases fuel with
   | zero=>simp[DataW.trod] at IG
   | succ fuel =>
    simp only[DataW.trod,hU] at IG;cases v<;>simp[Cell.ok,hU] at hvo;rename_i oa;cases oa with
    | none=>simp[Value.cells] at IG
    | some a=>exact⟨a,rfl⟩
  obtain⟨a,rfl⟩:=hva;refine⟨a,sV,?_⟩;cases fuel with
  | zero=>simp[DataW.trod] at IG
  | succ fuel =>
   have ht3:DataW.trod (λ_=>()) P W 0 (λ_=>true) false (fuel+1) u [.pointer (some a)]=some (.ptr d2,p):=IG;simp only[DataW.trod,hU] at ht3;obtain⟨z,Hj,ES⟩:=mQ.1 ht3;simp only[cq] at ES;rw[<- ES.2];exact A7 _ (by simp only[MemPlace.row,mg,BX];exact⟨0,he,rfl⟩)
theorem zfT{P:aQ}{U:aB}{W:aP}{l:List (String×DataW Unit)}(h:laidMet P l W)(nN:∀u,P.typeName? 3 u=some "*errors.errorString"->u=U) {e:aB} (hU:P.underlying U=some (.pointer e)) (he:0<P.cellsOf e):FD U W ((l.filter (TR P)).filterMap (λx=>P.globalNamed x.1)):=by
 obtain⟨ps,hv,sA,ej⟩:=h;refine⟨λk hk=>?_,λk hk k' pM a ha Hg=>?_⟩
 ·obtain⟨x,pL,LZ⟩:=List.mem_filterMap.1 hk;obtain⟨hx,hB⟩:=D3.1 pL;obtain⟨g,t,cs,fuel,p,h1⟩:=P8 hv x hx;have:=h1.named;rw[this] at LZ;cases LZ;obtain⟨a,h2,h3⟩:=Xm ej nN hU he h1 hB;exact⟨a,h2,(ej _ _ (h1.sub _ h3)).1⟩
 ·obtain⟨x,G5,LZ⟩:=List.mem_filterMap.1 hk;obtain⟨hx,hB⟩:=D3.1 G5;obtain⟨x',Xo,P_⟩:=List.mem_filterMap.1 pM;obtain⟨pL,Hl⟩:=D3.1 Xo;obtain⟨g,t,cs,fuel,p,g',t',cs',J5,p',h1,Ij,h2⟩:=zha hv sA x hx x' pL;have e1:=h1.named;rw[e1] at LZ;cases LZ;have Ie:=Ij.named;rw[Ie] at P_;cases P_;rcases h2 with h2|h2
  ·exact h2
  ·obtain⟨b,c1,c2⟩:=Xm ej nN hU he h1 hB;obtain⟨b',nw,V5⟩:=Xm ej nN hU he Ij Hl;rw[ha] at c1;rw[Hg] at nw;cases c1;cases nw;exact absurd V5 (h2 _ c2)
end
section
open Go.ChangeShapes Go.WideShapes Go.ChangeAt Go.RowKit
def y7(P:aQ)(t:aB):Bool :=
 match P.underlying t with
 | some (.struct _)|some (.array _ _)=>true
 | _=>false
def v5(P:aQ)(e:aB)(cs:aD):V:=if y7 P e then .agg cs else cs.headD .dW
def Oc(P:aQ):Nat->List Field->Nat->Bool
 | off,[],n=>Nat.beq off n
 | off,f::fs,n=>Nat.beq f.offset off && Oc P (off+P.cellsOf f.type) fs n
def TS(P:aQ)(S:List aB)(t:aB):Bool :=
 match P.underlying t with
 | some .bool|some (.int _)|some .string=>Nat.beq (P.cellsOf t) 1
 | some (.slice e)=>Nat.beq (P.cellsOf t) 1 && S.any (Nat.beq e) && Nat.blt 0 (P.cellsOf e)
 | some (.struct fs)=>Oc P 0 fs.toList (P.cellsOf t) && fs.toList.all λf=>S.any (Nat.beq f.type)
 | some (.array n e)=>Nat.beq (n * P.cellsOf e) (P.cellsOf t) && S.any (Nat.beq e)
 | _=>false
def ji(P:aQ):Nat->aB->aD->Prop
 | 0,_,_=>False
 | n+1,t,xs =>
  match P.underlying t with
  | some .bool=>∃b,xs=[.bool b]
  | some (.int k)=>∃z,xs=[.int k z]/\(Lit.int k z).wf=true
  | some .string=>∃s,xs=[.str s]/\(∀b∈s,b<256)/\s.length<=maxLen
  | some (.slice e)=>xs=[.aG]\/∃ys,xs=[.sl (P.cellsOf e) ys .no]/\(ys.length<=maxLen/\ys.length * P.bytesOf e<=reachBytes)/\∀y∈ys,∃cs,ji P n e cs/\y=v5 P e cs
  | some (.struct fs)=>xs.length=P.cellsOf t/\∀f∈fs.toList,ji P n f.type ((xs.drop f.offset).take (P.cellsOf f.type))
  | some (.array m e)=>xs.length=P.cellsOf t/\∀i,i<m->ji P n e ((xs.drop (i * P.cellsOf e)).take (P.cellsOf e))
  | _=>False
def Xp(g:Gh)(x:V)(v:bt):Prop:=x.one=true/\aR g x v/\x.top=0/\∀sz ys e,x≠.sl sz ys (.yes e)
def RC(g:Gh):aD->dw->Prop
 | [],[]=>True
 | x::xs,v::vs=>Xp g x v/\RC g xs vs
 | _,_=>False
theorem RC.append{g:Gh}:∀{xs ys:aD}{vs us:dw},RC g xs vs->RC g ys us->RC g (xs++ys) (vs++us)
 | [],_,[],_,_,h=>h
 | _::_,_,_::_,_,h,k=>⟨h.1,RC.append h.2 k⟩
 | [],_,_::_,_,h,_=>h.elim
 | _::_,_,[],_,h,_=>h.elim
theorem RC.length{g:Gh}:∀{xs:aD}{vs:dw},RC g xs vs->xs.length=vs.length
 | [],[],_=>rfl
 | _::_,_::_,h=>by simp[RC.length h.2]
 | [],_::_,h=>h.elim
 | _::_,[],h=>h.elim
theorem RC.get{g:Gh}:∀{xs:aD}{vs:dw},RC g xs vs->∀(j:Nat)(x:V),xs[j]?=some x->∃v,vs[j]?=some v/\Xp g x v
 | [],[],_,j,x,hx=>by simp at hx
 | y::ys,u::us,h,0,x,hx=>by
  simp only[K2,bq] at hx;subst hx;exact⟨u,rfl,h.1⟩
 | y::ys,u::us,h,j+1,x,hx=>RC.get h.2 j x (by simpa using hx)
 | [],_::_,h,_,_,_=>h.elim
 | _::_,[],h,_,_,_=>h.elim
theorem zin{P:aQ}{e:aB}{cs:aD}{vs:dw}{g:Gh}(h:RC g cs vs)(hlen:y7 P e=false->cs.length=1):(v5 P e cs).cells=cs:=by
 unfold v5;split
 ·rfl
 ·rename_i ha;have:=hlen (by simpa using ha)
  match cs,this with
  | [x],_ =>
   obtain⟨v,_,hx⟩:=RC.get h 0 x rfl;have h1:=hx.1;cases x<;>first|rfl|(simp[V.one,Cv] at h1)
theorem Xq{S:List aB}{e:aB}(h:S.any (Nat.beq e)=true):e∈S:=by
 obtain⟨x,hx,hb⟩:=Fc.1 h;rw[eG hb];exact hx
theorem Xr{α β:Type}{f:α->Option β}:∀{l:List α}{r:List β},l.mapM f=some r->r.length=l.length/\∀(i:Nat)(a:α),l[i]?=some a->∃b,r[i]?=some b/\f a=some b
 | [],r,h=>by
  simp at h;subst h;exact⟨rfl,λi a ha=>by simp at ha⟩
 | x::l,r,h=>by
  simp only[List.mapM_cons,Option.bind_eq_bind,eF,Option.pure_def,bq] at h;obtain⟨b,hb,r',Dl,rfl⟩:=h;obtain⟨h1,h2⟩:=Xr Dl;refine⟨by simp[h1],λi a ha=>?_⟩
  cases i with
  | zero =>
   simp only[K2,bq] at ha;subst ha;exact⟨b,rfl,hb⟩
  | succ i=>exact h2 i a (by simpa using ha)
theorem zdH{W:aP}{base:Nat}{a:Addr}{n:Nat}{cs:dw}(h:W.cells? base a n=some cs):cs.length=n/\∀i,i<n->W.cell? (a.add i)=cs[i]?:=by
 unfold World.cells? at h;split at h<;>try (cases h;done)
 refine⟨?_,λi hi=>?_⟩
 ·have:=(Xr h).1;simpa using this
 ·obtain⟨b,h1,h2⟩:=(Xr h).2 i i (by simp[hi])
  rw[h1,h2]
theorem zhb(a:Addr)(hs:a.spot=none)(n:Nat):a.add n=⟨a.block,a.off+n,none⟩:=by
 obtain⟨b,o,s⟩:=a;subst hs;unfold Addr.add;split
 next h=>subst h;rfl
 ·rfl
theorem zlN(s:ByteArray):bytes (s.data.toList.map UInt8.toNat)=s:=by
 unfold bytes;have:(s.data.toList.map UInt8.toNat).map UInt8.ofNat=s.data.toList:=by
  rw[List.map_map];exact(List.map_congr_left λb _=>by simp).trans (List.map_id _)
 rw[this]
theorem zdI{g:Gh}{W:aP}{P:aQ}{e:aB}{b o c:Nat}{f:Nat->aD}{v:Nat->dw}:∀(len:Nat),(∀i,i<len->(v5 P e (f i)).cells=f i/\RC g (f i) (v i)/\(f i).length=c/\∀r,r<c->W.cell? ⟨b,o+(i * c+r),none⟩=(v i)[r]?) ->
  (zH ((List.range len).map λi=>v5 P e (f i))).length=len * c/\∀j x,(zH ((List.range len).map λi=>v5 P e (f i)))[j]?=some x->∃u,W.cell? ⟨b,o+j,none⟩=some u/\Xp g x u
 | 0,_=>by simp[zH]
 | len+1,h=>by
  obtain⟨h1,h2⟩:=zdI len λi hi=>h i (by omega)
  obtain⟨k1,k2,k3,k4⟩:=h len (by omega)
  have e:zH ((List.range (len+1)).map λi=>v5 P e (f i))=zH ((List.range len).map λi=>v5 P e (f i))++f len:=by
   simp only[List.range_succ,List.map_append,bg,bp,zH,List.flatMap_append,DZ,List.flatMap_nil,m7,k1]
  rw[e];refine⟨by rw[aU,h1,k3,HX],λj x hx=>?_⟩
  by_cases hj:j<len * c
  ·rw[gb (by rw[h1];exact hj)] at hx
   exact h2 j x hx
  ·rw[fI (by rw[h1];omega),h1] at hx
   obtain⟨u,hu,hg⟩:=RC.get k2 _ x hx;have hr:j - len * c<c:=by
    have:=(cZ.1 hx).1;omega
   refine⟨u,?_,hg⟩;rw[<- hu,<- k4 _ hr]
   congr 2
   omega
theorem rB:∀{xs:aD},(∀x∈xs,x.top=0)->aI xs=0
 | [],_=>rfl
 | x::xs,h=>by simp[aI,h x (eK ..),rB λy hy=>h y (dU _ hy)]
theorem zqH{g:Gh}{P:aQ}{n:Nat}{total:Nat}:∀(fs:List Field)(off:Nat)(cs:dw),Oc P off fs total=true->cs.length=total - off->off<=total ->
  (∀f∈fs,∃xs,ji P n f.type xs/\RC g xs ((cs.drop (f.offset - off)).take (P.cellsOf f.type))/\xs.length=P.cellsOf f.type) ->
  ∃ys,RC g ys cs/\ys.length=total - off/\∀f∈fs,off<=f.offset/\ji P n f.type ((ys.drop (f.offset - off)).take (P.cellsOf f.type))
 | [],off,cs,ht,hl,ho,_=>by
  have:=eG ht;have:cs=[]:=NN.1 (by omega)
  subst this;exact⟨[],trivial,by simp;omega,λf hf=>by simp at hf⟩
 | f::fs,off,cs,ht,hl,ho,h=>by
  simp only[Oc,d_] at ht;have hf0:=eG ht.1;obtain⟨xs,x1,x2,x3⟩:=h f (eK ..);rw[hf0,Cu,mu] at x2;have AN:∀(fs:List Field)(o:Nat),Oc P o fs total=true->o<=total/\∀f∈fs,o<=f.offset:=by
   intro fs
   induction fs with
   | nil=>intro o ho;have:=eG ho;exact⟨by omega,λf hf=>by simp at hf⟩
   | cons k ks ih =>
    intro o ho;simp only[Oc,d_] at ho;have h1:=eG ho.1;obtain⟨i1,i2⟩:=ih _ ho.2;refine⟨by omega,λf hf=>?_⟩
    rcases dG.1 hf with rfl|hf
    ·omega
    ·have:=i2 f hf;omega
  obtain⟨g1,g2⟩:=AN fs _ ht.2
  obtain⟨ys,y1,y2,y3⟩:=zqH (g:=g) (n:=n) fs (off+P.cellsOf f.type) (cs.drop (P.cellsOf f.type)) ht.2 (by simp;omega) g1 (λk hk=>by
   obtain⟨zs,z1,z2,z3⟩:=h k (dU _ hk);refine⟨zs,z1,?_,z3⟩;have:=g2 k hk;rw[List.drop_drop];rw[show P.cellsOf f.type+(k.offset - (off+P.cellsOf f.type))=k.offset - off by omega]
   exact z2)
  refine⟨xs++ys,?_,by simp[x3,y2];omega,λk hk=>?_⟩
  ·have:=RC.append x2 y1
   rwa [Co] at this
  ·rcases dG.1 hk with rfl|hk
   ·refine⟨by omega,?_⟩
    rw[hf0,Cu,mu,List.take_append_of_le_length (by omega),<- x3,D1]
    exact x1
   ·obtain⟨a1,a2⟩:=y3 k hk;refine⟨by omega,?_⟩
    rw[show k.offset - off=xs.length+(k.offset - (off+P.cellsOf f.type)) by omega,List.drop_append]
    rw[List.drop_eq_nil_of_le (by omega),aZ]
    rw[show xs.length+(k.offset - (off+P.cellsOf f.type)) - xs.length=k.offset - (off+P.cellsOf f.type) by omega]
    exact a2
theorem zpk{g:Gh}{P:aQ}{n c:Nat}{e:aB}:∀(m:Nat)(cs:dw),cs.length=m * c->(∀i,i<m->∃xs,ji P n e xs/\RC g xs ((cs.drop (i * c)).take c)/\xs.length=c) ->
  ∃ys,RC g ys cs/\ys.length=m * c/\∀i,i<m->ji P n e ((ys.drop (i * c)).take c)
 | 0,cs,hl,_=>by
  have:cs=[]:=NN.1 (by simpa using hl)
  subst this;exact⟨[],trivial,by simp,λi hi=>by omega⟩
 | m+1,cs,hl,h=>by
  have hm:∀i,i<m->i * c+c<=m * c:=λi hi=>by
   have:=K5 c (show i+1<=m from hi)
   rwa [HX] at this
  rw[HX] at hl
  obtain⟨ys,y1,y2,y3⟩:=zpk (g:=g) (P:=P) (n:=n) (c:=c) (e:=e) m (cs.take (m * c)) (by rw[uL];omega) (λi hi=>by
   obtain⟨xs,x1,x2,x3⟩:=h i (by omega)
   refine⟨xs,x1,?_,x3⟩;rw[List.drop_take,List.take_take,Nat.min_eq_left (by have:=hm i hi;omega)]
   exact x2)
  obtain⟨xs,x1,x2,x3⟩:=h m (by omega)
  rw[r9 (by simp;omega)] at x2
  refine⟨ys++xs,?_,by rw[aU,y2,x3,HX],λi hi=>?_⟩
  ·have:=RC.append y1 x2
   rwa [Co] at this
  ·by_cases he:i=m
   ·subst he;rw[<- y2,List.drop_left,<- x3,D1];exact x1
   ·have sx:i<m:=by omega
    have:=hm i sx;rw[List.drop_append_of_le_length (by omega),List.take_append_of_le_length (by simp;omega)]
    exact y3 i sx
theorem yF{H:Type}{P:aQ}{e:aB}{d:DataW H}:∀{l:List (DataW H)},d∈l->∀w∈d.weights P e,w∈DataW.weightsAll P e l
 | x::l,h,w,hw=>by
  simp only[DataW.weightsAll,sw];rcases dG.1 h with rfl|h
  ·exact .inl hw
  ·exact .inr (yF h w hw)
theorem xP{H:Type}{P:aQ}{t:aB}{d:DataW H}:∀{i:Nat}{ts:List aB}{l:List (DataW H)},ts[i]?=some t->l[i]?=some d->∀w∈d.weights P t,w∈DataW.weightsEach P ts l
 | 0,u::ts,x::l,h1,h2,w,hw=>by
  simp only[K2,bq] at h1 h2;subst h1 h2;simp only[DataW.weightsEach,sw];exact .inl hw
 | i+1,u::ts,x::l,h1,h2,w,hw=>by
  simp only[DataW.weightsEach,sw];exact .inr (xP (i:=i) (by simpa using h1) (by simpa using h2) w hw)
theorem zhc{H:Type}{enc:aB×bt->H}{P:aQ}{W:aP}{S:List aB}(hS:S.all (TS P S)=true):∀(n:Nat)(t:aB)(cs:dw)(x:DataW H×List MemPlace),t∈S->DataW.trod enc P W 0 (λ_=>true) true n t cs=some x->(∀w∈x.1.weights P t,w<=reachBytes) ->
  ∃xs,ji P n t xs/\RC (xD W) xs cs/\xs.length=P.cellsOf t
 | 0,_,_,_,_,h,_=>by simp[DataW.trod] at h
 | n+1,t,cs,x,ht,h,tW=>by
  have ih:=zhc (enc:=enc) (W:=W) hS n;have hc:=Cs.1 hS t ht;unfold TS at hc;unfold ji;cases hu:P.underlying t with
  | none=>rw[hu] at hc;cases hc
  | some d =>
   rw[hu] at hc;cases d<;>simp only[fR] at hc
   case bool =>
    have e1:=eG hc;simp only[DataW.trod,hu] at h
    match cs,h with
    | [.bool b],h=>exact⟨[.bool b],⟨b,rfl⟩,⟨⟨rfl,.bool b,rfl,λ_ _ _ e=>by cases e⟩,trivial⟩,e1.symm⟩
   case int k =>
    have e1:=eG hc;simp only[DataW.trod,hu] at h
    match cs,h with
    | [.int k' z],h =>
     simp only at h;split at h<;>try (cases h;done)
     rename_i hk;obtain⟨rfl,hw⟩:=hk;exact⟨[.int k' z],⟨z,rfl,hw⟩,⟨⟨rfl,.int k' z,rfl,λ_ _ _ e=>by cases e⟩,trivial⟩,e1.symm⟩
   case string =>
    have e1:=eG hc;obtain⟨s,rfl,_,fq⟩:=DataW.trod_string hu h;have hb:∀b∈s.data.toList.map UInt8.toNat,b<256:=λb hb=>by
     obtain⟨c,_,rfl⟩:=mg.1 hb;exact c.toNat_lt
    refine⟨[.str (s.data.toList.map UInt8.toNat)],⟨_,rfl,hb,by simpa using fq⟩,⟨⟨rfl,?_,rfl,λ_ _ _ e=>by cases e⟩,trivial⟩,e1.symm⟩
    have:=aR.str (g:=xD W) hb
    rwa [zlN] at this
   case slice e =>
    simp only[d_] at hc;have e1:=eG hc.1.1;have he:=Xq hc.1.2;have sk:0<P.cellsOf e:=by
     have:=hc.2;exact uc (HW 0) (r_ this)
    rcases DataW.trod_slice hu h with⟨rfl,_⟩|⟨a,len,cap,elems,rest,m,hm,rfl,Qa,_,Bc,rq,Pq,dy,_,_⟩
    ·exact⟨[.aG],.inl rfl,⟨⟨rfl,.aG,rfl,λ_ _ _ e=>by cases e⟩,trivial⟩,e1.symm⟩
    ·cases hm;have II:∀w∈DataW.weights P t (.slice (elems.map (·.1)) (rest.map (·.1))),w<=reachBytes:=by rw[Qa] at tW;exact tW
     simp only[DataW.weights,hu] at II;have L0:len * P.bytesOf e<=reachBytes:=by
      refine cN (K5 _ ?_) (II _ (eK ..));simp[Pq]
     have each:∀i,∃(f:aD)(v:dw),i<len->ji P n e f/\RC (xD W) f v/\f.length=P.cellsOf e/\W.cells? 0 (a.add (i * P.cellsOf e)) (P.cellsOf e)=some v:=by
      intro i
      by_cases hi:i<len
      ·have h1:=dy i hi;have h2:∃y,elems[i]?=some y:=⟨elems[i]'(by omega),by simp[Pq,hi]⟩
       obtain⟨y,hy⟩:=h2;rw[hy] at h1;obtain⟨v,hv,IG⟩:=eF.1 h1;obtain⟨xs,x1,x2,x3⟩:=ih e v y he IG λw hw=>II w (dU _ (A7 _ (yF (HQ (f:=(·.1)) (nB hy)) w hw)));exact⟨xs,v,λ_=>⟨x1,x2,x3,hv⟩⟩
      ·exact⟨[],[],λh=>absurd h hi⟩
     have hf:∃f:Nat->aD,∃v:Nat->dw,∀i,i<len->ji P n e (f i)/\RC (xD W) (f i) (v i)/\(f i).length=P.cellsOf e/\W.cells? 0 (a.add (i * P.cellsOf e)) (P.cellsOf e)=some (v i) :=
      ⟨λi=>Classical.choose (each i),λi=>Classical.choose (Classical.choose_spec (each i)),λi=>Classical.choose_spec (Classical.choose_spec (each i))⟩
     obtain⟨f,v,EP⟩:=hf;have pO:y7 P e=false->P.cellsOf e=1:=λha=>by
      have Ah:=Cs.1 hS e he;unfold TS at Ah;unfold y7 at ha;split at Ah<;>simp_all
     have cU:∀i,i<len->(v5 P e (f i)).cells=f i:=λi hi=>zin (EP i hi).2.1 λha=>(EP i hi).2.2.1.trans (pO ha);have J6:0<len->a.spot=none:=λhl=>by
      obtain⟨_,_,_,hv⟩:=EP 0 hl;obtain⟨l1,l2⟩:=zdH hv;have h0:=l2 0 sk;have h3:∃u,(v 0)[0]?=some u:=⟨(v 0)[0]'(by omega),by simp[l1,sk]⟩
      obtain⟨u,Dy⟩:=h3;rw[Dy] at h0;have:(a.add (0 * P.cellsOf e)).add 0=a:=by simp[Addr.add]
      rw[this] at h0;unfold World.cell? at h0;split at h0<;>try (cases h0;done)
      split at h0<;>try (cases h0;done)
      rename_i hs;simpa using hs
     obtain⟨nk,FE⟩:=zdI (g:=xD W) (W:=W) (P:=P) (e:=e) (b:=a.block) (o:=a.off) (c:=P.cellsOf e) (f:=f) (v:=v) len λi hi=>by
      obtain⟨a1,a2,a3,a4⟩:=EP i hi;refine⟨cU i hi,a2,a3,λr hr=>?_⟩;obtain⟨l1,l2⟩:=zdH a4;rw[<- l2 r hr,zhb a (J6 (by omega)) (i * P.cellsOf e),zhb _ rfl r]
      simp[p8]
     refine⟨[.sl (P.cellsOf e) ((List.range len).map λi=>v5 P e (f i)) .no],.inr ⟨_,rfl,⟨by simp;omega,by simpa using L0⟩,λy hy=>?_⟩,⟨⟨rfl,?_,?_,λ_ _ _ e=>by cases e⟩,trivial⟩,e1.symm⟩
     ·obtain⟨i,hi,rfl⟩:=mg.1 hy;exact⟨f i,(EP i (BX.1 hi)).1,rfl⟩
     ·have hl:((List.range len).map λi=>v5 P e (f i)).length=len:=by simp
      have:=aR.sl (g:=xD W) (sz:=P.cellsOf e) (xs:=(List.range len).map λi=>v5 P e (f i)) (ow:=.no) (a:=some a) (cap:=cap) (c:=a.block) (o:=a.off) (λj=>(W.cell? ⟨a.block,a.off+j,none⟩).getD undef)
       (λx hx=>by
        obtain⟨i,hi,rfl⟩:=mg.1 hx;rw[cU i (BX.1 hi)]
        exact(EP i (BX.1 hi)).2.2.1)
       (by rw[hl];exact Bc)
       (λcH=>by
        have:0<len:=by
         rcases HU len with h0|h0
         ·subst h0;simp at cH
         ·exact h0
        have hs:=J6 this;obtain⟨ab,ao,asp⟩:=a;simp only at hs;subst hs
        rfl)
       (λj x hx=>(FE j x hx).elim λu hu=>hu.2.1)
       (λj x hx=>by
        obtain⟨u,Fh,NW⟩:=FE j x hx;show W.cell? _=_
        rw[Fh];rfl)
       (λj x hx=>by
        obtain⟨u,Fh,NW⟩:=FE j x hx;rw[Fh]
        exact NW.2.1)
      rwa [hl] at this
     ·simp only[V.top];refine rB λx hx=>?_;obtain⟨i,hi,rfl⟩:=mg.1 hx;have sx:=BX.1 hi;unfold v5;split
      ·simp only[V.top];refine rB λz hz=>?_;obtain⟨j,hj⟩:=List.mem_iff_getElem?.1 hz;exact(RC.get (EP i sx).2.1 j z hj).elim λu hu=>hu.2.2.2.1
      ·rename_i ha;have sL:=(EP i sx).2.2.1.trans (pO (by simpa using ha))
       match Xs:f i,sL with
       | [z],_ =>
        have:=RC.get (EP i sx).2.1 0 z (by rw[Xs];rfl)
        exact this.elim λu hu=>hu.2.2.2.1
   case struct fs =>
    simp only[d_] at hc;obtain⟨xs,m,hm,Qa,hlen,_,dy⟩:=DataW.trod_struct hu h;cases hm
    obtain⟨ys,y1,y2,y3⟩:=zqH (g:=xD W) (n:=n) (total:=P.cellsOf t) fs.toList 0 cs hc.1 (by simpa using hlen) (ec _) (λf hf=>by
     obtain⟨i,hi⟩:=List.mem_iff_getElem?.1 hf;have h1:=dy i f (by simpa using hi)
     have hfS:=Xq (Cs.1 hc.2 f hf)
     have h2:∃y,xs[i]?=some y:=⟨xs[i]'(by
      have:=(cZ.1 hi).1;simp at this
      omega),by simp⟩
     obtain⟨y,hy⟩:=h2;rw[hy] at h1;have II:∀w∈DataW.weights P t (.agg (xs.map (·.1))),w<=reachBytes:=by rw[Qa] at tW;exact tW
     simp only[DataW.weights,hu] at II
     simpa using ih f.type _ y hfS h1 λw hw=>II w (xP (i:=i) (t:=f.type) (d:=y.1) (by simp at hi ⊢;simp[hi]) (by simp[hy]) w hw))
    refine⟨ys,⟨by simpa using y2,λf hf=>by simpa using (y3 f hf).2⟩,y1,by simpa using y2⟩
   case array m e =>
    simp only[d_] at hc;have hmc:=eG hc.1;have he:=Xq hc.2;obtain⟨xs,k,hk,Qa,hlen,J7,dy⟩:=DataW.trod_array hu h;cases hk
    obtain⟨ys,y1,y2,y3⟩:=zpk (g:=xD W) (n:=n) (P:=P) (e:=e) (c:=P.cellsOf e) m cs (by omega) (λi hi=>by
     have h1:=dy i hi;have h2:∃y,xs[i]?=some y:=⟨xs[i]'(by omega),by simp[J7,hi]⟩
     obtain⟨y,hy⟩:=h2;rw[hy] at h1;have II:∀w∈DataW.weights P t (.agg (xs.map (·.1))),w<=reachBytes:=by rw[Qa] at tW;exact tW
     simp only[DataW.weights,hu] at II
     exact ih e _ y he h1 λw hw=>II w (yF (HQ (f:=(·.1)) (nB hy)) w hw))
    exact⟨ys,⟨by omega,y3⟩,y1,by omega⟩
end
theorem zc5{P:aQ}{f:FuncId}{fn:Func}{e:dM->Sem bt}{args:dM}{w w':aP}{v:bt}(hf:P.funcs[f]?=some fn)(nN:(fn.name == "runtime.NumGoroutine")=false) (hb:fn.body=none) (hn:Extern.findNext fn=none) (he:Extern.find fn=some e)
  (hr:(e args).run P w=.ok v w'):(callFunc f args).run P w=.ok (.value v) w':=by
 unfold callFunc;have cH:¬fn.name= "runtime.NumGoroutine":=by simpa using nN
 simp[hf,cH,hb,hn,he,hr]
theorem idx_eq:∀(s:bM)(c:Nat),(∀b∈s,b<256)->c<256->Lib.indexByte (s.map UInt8.ofNat) c.toUInt8=(match s.findIdx? (λ(b:Nat)=>Nat.beq b c) with|some i=>(i:Int)|none=>-1)
 | [],c,_,_=>rfl
 | b::s,c,hs,hc=>by
  have ih:=idx_eq s c (λx hx=>hs x (dU _ hx)) hc;have hb:=hs b (eK ..);simp only[bg,Lib.indexByte,List.findIdx?_cons];have e:(UInt8.ofNat b == c.toUInt8)=Nat.beq b c:=by
   cases h:Nat.beq b c with
   | true =>
    have:=eG h;subst this;simp
   | false =>
    have:=Nat.ne_of_beq_eq_false h;rw[beq_eq_false_iff_ne];intro he;have:=congrArg UInt8.toNat he;simp at this;omega
  rw[e,ih];cases Nat.beq b c with
  | true=>rfl
  | false =>
   simp only[fR,bw];cases Xs:s.findIdx? (λ(b:Nat)=>Nat.beq b c) with
   | none=>simp
   | some i =>
    simp only[aS];have:((i:Int) == -1)=false:=by rw[beq_eq_false_iff_ne];omega
    rw[this];simp
theorem zkC{P:aQ}{k:FuncId}{fk:Func}(Qb:(List.range P.funcs.size).all (λf=>match P.funcs[f]? with|some fn=>fn.name != "internal/bytealg.IndexByteString" || f == k|none=>true)=true)
  (J8:P.funcs[k]?=some fk) (nN:(fk.name == "runtime.NumGoroutine")=false) (hn:Extern.findNext fk=none) (he:Extern.find fk=some Extern.BytealgIndexByte.indexByte):vd P:=by
 intro f fn args v hf hb hp g n bx w ha;unfold VS at hp;split at hp<;>try (cases hp;done)
 rename_i nm l s c Xn;split at hp<;>try (cases hp;done)
 rename_i hc;simp only[bq] at hp;have bR:f<P.funcs.size:=(tK.1 hf).1;have h1:=Cs.1 Qb f (BX.2 bR);rw[hf] at h1;have Xt:f=k:=by
  simp only[Xn,bne_self_eq_false,uM] at h1;simpa using h1
 subst Xt;rw[hf] at J8;cases J8;obtain⟨al,ar,_,_⟩:=ha
 match bx,al,ar with
 | ⟨[c0,c1]⟩,_,ar =>
  have r0:=ar 0 _ c0 rfl rfl;have r1:=ar 1 _ c1 rfl rfl;cases r1;have hs:∀b∈s,b<256:=by cases r0;assumption
  cases r0;refine⟨_,zc5 hf nN hb hn he (Lib.run_indexByteString (bytes s) c w),?_,by rw[<- hp];rfl,λ_ _=>by rw[<- hp];trivial⟩
  have e1:(bytes s).data.toList=s.map UInt8.ofNat:=by simp[bytes]
  rw[e1,idx_eq s c.toNat hs (by omega),<- hp]
  exact .int _ _
 | ⟨[]⟩,al,_=>simp at al
 | ⟨[_]⟩,al,_=>simp at al
 | ⟨_::_::_::_⟩,al,_=>simp at al
def zro(P:aQ):Bool:=P.funcs.toList.all λfn=>!(fn.name == "runtime.NumGoroutine")
theorem zlO{P:aQ}(h:zro P=true):yB P:=λf fn hf=>by
 have:=Cs.1 h fn (by
  have:=Array.mem_of_getElem? hf
  simpa using this)
 simpa using this
section
open Go.ChangeShapes Go.WideShapes Go.ChangeAt Go.RowKit
theorem zio{d n:Nat}{g:Gh}{w w':aP}(hb:Below w.heap.size w w'):gK d none none n g w g w' :=
 ⟨.refl _ _,λc hc _ _=>hb.block c hc,λ_ _ _=>rfl,λ_ _ _ _=>rfl,hb.size,λ_ _ _=>rfl,λ_ h=>(by cases h),λ_ h=>(by cases h),λ_ _ _ _=>rfl,hb.os,hb.tape,hb.output⟩
theorem zip{w w':aP}(hb:Below w.heap.size w w'){c o:Nat}{v:bt}(h:w.cell? ⟨c,o,none⟩=some v):w'.cell? ⟨c,o,none⟩=some v:=by
 have hc:c<w.heap.size:=by
  rcases eM c w.heap.size with hc|hc
  ·exact hc
  ·have:w.heap[c]?=none:=Array.getElem?_eq_none hc;simp[World.cell?,this] at h
 have:=hb.block c hc;simp only[World.cell?,this] at h ⊢;exact h
theorem zcS{d:Nat}{H:Hp}{g:Gh}{w w':aP}(hw:rj g H.az w)(hb:Below w.heap.size w w'):lX d H g w H g w' where
 cX :=
  {mem:=λc o v h=>zip hb (hw.mem c o v h)
   lt:=λb h=>uc (hw.lt b h) hb.size
   inj:=hw.inj
   apart:=hw.apart
   eD:=λc l h=>uc (hw.eD c l h) hb.size
   dN:=hw.dN
   ok:=λb x hx=>by
    have bR:b<H.az.length:=(cZ.1 hx).1;exact fU.same (d:=d) (zio hb) (by simp) bR (hw.lt b bR) (hw.dN b bR) (λ_ h=>by cases h) (λc h1 h2=>by omega) (hw.aI b x hx) (hw.ok b x hx)
   aI:=hw.aI
   laid:=λc hc=>by
    obtain⟨⟨cs,t,h1⟩,h2⟩:=hw.laid c hc
    exact⟨⟨cs,t,by rw[hb.block c (tK.1 h1).1];exact h1⟩,h2⟩ }
 fr:=⟨.refl _ _,λc hc=>hb.block c hc.1,λ_ _=>rfl,λ_ _ _=>rfl,hb.size,λ_ _ _=>rfl,hb.os,hb.tape,hb.output⟩
 len:=dA _
 dY:=λb h1 h2=>by omega
 bG:=λb x hx=>.inr (.inr ⟨x,hx,dA _⟩)
 Ee:=λ_ h=>h
 lP:=λ_ _ h=>h
end
section
def Gh.bare(g:Gh):Gh:={ g with own:=λ_=>none }
def Gh.over(n:Nat)(g g':Gh):Gh :=
 {M:=λc o=>if c<n then g.M c o else g'.M c o,bO:=g.bO,obj:=g.obj,own:=λc=>if c<n then g.own c else g'.own c,lk:=g.lk,eY:=g.eY }
theorem zbI{w:aP}{c o:Nat}{v:bt}(h:w.cell? ⟨c,o,none⟩=some v):c<w.heap.size:=by
 rcases eM c w.heap.size with hc|hc
 ·exact hc
 ·have:w.heap[c]?=none:=Array.getElem?_eq_none hc;simp[World.cell?,this] at h
variable{P:aQ}{gl:Gl}{d:Nat}{H:Hp}{g g':Gh}{w w':aP}
theorem Xu{bs:List aY}(hw:rj g bs w):rj g.bare [] w :=
 {mem:=hw.mem,lt:=λb h=>by simp at h,inj:=λb _ h=>by simp at h,apart:=λb h=>by simp at h,eD:=(λc l h=>by cases h),dN:=λb h=>by simp at h,ok:=λb x h=>by simp at h,aI:=λb x h=>by simp at h,laid:=λc hc=>⟨(hw.laid c hc).1,rfl,λb hb=>by simp at hb⟩ }
theorem nX:Gh.Le 0 g g.bare:=⟨λ_ _ _ h=>h,λb h=>by omega,rfl,λ_ _ _ h=>by omega⟩
theorem kS{dd:Nat}(hf:Fr dd [] g.bare w g' w'){c:Nat}(hc:c<w.heap.size):w'.heap[c]?=w.heap[c]?/\g'.own c=none/\∀o,g'.M c o=g.M c o:=by
 have hp:si dd ([]:List aY).length g.bare w c:=⟨hc,λb hb=>by simp at hb,.inl rfl⟩
 exact⟨hf.heap c hp,hf.own c hp,hf.M c hp⟩
theorem zlP{dd:Nat}(hf:Fr dd [] g.bare w g' w'):Gh.Le 0 g' (Gh.over w.heap.size g g'):=by
 refine⟨λc o v h=>?_,λb h=>by omega,hf.le.obj.symm,λ_ _ _ h=>by omega⟩
 simp only[Gh.over];split
 next hc=>rw[<- (kS hf hc).2.2 o];exact h
 ·exact h
theorem zeX{n dd:Nat}{bs:List aY}(hw:rj g bs w)(hf:Fr dd [] g.bare w g' w'):gK d none none n g w (Gh.over w.heap.size g g') w':=by
 refine⟨⟨λc o v h=>?_,λ_ _=>rfl,rfl,λ_ _ _ _ h=>h⟩,λc hc _ _=>(kS hf hc).1,λc hc _=>by simp[Gh.over,hc],λc hc _ o=>by simp[Gh.over,hc],hf.size,λ_ _ _=>rfl,λ_ h=>(by cases h),λ_ h=>(by cases h),λ_ _ _ _=>rfl,hf.os,hf.tape,hf.output⟩
 have:=zbI (hw.mem c o v h);simp[Gh.over,this,h]
theorem ziq{dd:Nat}(hw:rj g H.az w){AQ:List aY}(sY:rj g' AQ w')(hf:Fr dd [] g.bare w g' w'):lX d H g w H (Gh.over w.heap.size g g') w' where
 cX :=
  {mem:=λc o v h=>by
    simp only[Gh.over] at h;split at h
    next hc=>have h0:=hw.mem c o v h;simp only[World.cell?,(kS hf hc).1] at h0 ⊢;exact h0
    ·exact sY.mem c o v h
   lt:=λb h=>uc (hw.lt b h) hf.size
   inj:=hw.inj
   apart:=λb h o=>by simp only[Gh.over,hw.lt b h,aF];exact hw.apart b h o
   eD:=λc l h=>by
    simp only[Gh.over] at h;split at h
    ·exact uc (hw.eD c l h) hf.size
    ·exact sY.eD c l h
   dN:=λb h=>by simp only[Gh.over,hw.lt b h,aF];exact hw.dN b h
   ok:=λb x hx=>by
    have bR:b<H.az.length:=(cZ.1 hx).1;exact fU.same (d:=d) (zeX hw hf) (by simp) bR (hw.lt b bR) (hw.dN b bR) (λ_ h=>by cases h) (λc h1 h2=>by omega) (hw.aI b x hx) (hw.ok b x hx)
   aI:=hw.aI
   laid:=λc hc=>by
    obtain⟨⟨cs,t,h1⟩,h2,h3⟩:=hw.laid c hc;have bR:=(tK.1 h1).1
    exact⟨⟨cs,t,by rw[(kS hf bR).1];exact h1⟩,by simp only[Gh.over,bR,aF];exact h2,h3⟩ }
 fr:=⟨(zeX (d:=d) (n:=H.az.length) hw hf).le,λc hc=>(kS hf hc.1).1,λc hc=>by simp[Gh.over,hc.1],λc hc o=>by simp[Gh.over,hc.1],hf.size,λ_ _ _=>rfl,hf.os,hf.tape,hf.output⟩
 len:=dA _
 dY:=λb h1 h2=>by omega
 bG:=λb x hx=>.inr (.inr ⟨x,hx,dA _⟩)
 Ee:=λ_ h=>h
 lP:=λ_ _ h=>h
theorem zlQ{dd:Nat}(hw:rj g H.az w)(hf:Fr dd [] g.bare w g' w'){n:Nat}{l:Loc}{v:V}{cv:bt}(h:cL g' n w' l v cv):cL (Gh.over w.heap.size g g') H.az.length w' l v cv:=by
 unfold cL at *;split
 ·rename_i sz xs e;have h':fO g' n w' l e sz xs.length cv:=h;obtain⟨vs,h1,h2⟩:=h';refine⟨vs,h1,λc hc=>?_⟩;have AN:¬c<w.heap.size:=λbR=>by
   have:=(h2 c hc).1;rw[(kS hf bR).2.1] at this;cases this
  refine⟨by simp only[Gh.over,AN,bw];exact(h2 c hc).1,(h2 c hc).2.1.eq λo=>by simp only[Gh.over,AN,bw],λb hb e=>?_⟩
  have:=hw.lt b hb;rw[show(Gh.over w.heap.size g g').bO b=g.bO b from rfl] at e;omega
 ·trivial
theorem xE(oV:P.follows .mixedOrders=true)(fQ:yB P)(dP:vd P)(Eg:nM P gl){n:Nat}{f:FuncId}{args:aD}{v:V}{H':Hp}
  (hc:zj P gl n f args ⟨[],[]⟩=some (.ret v,H')) (ht:aI args=0) (hv:v.top=0) {bx:dM} {l:Loc} (h1:ij P gl g) (h2:rj g H.az w) (h3:eP g H.az.length args bx) :
  Calls P f bx w (fB d H g w l (.ret v) H):=by
 refine Calls.mono (yS oV fQ dP Eg n f args ⟨[],[]⟩ _ _ hc g.bare w bx l (h1.le nX) (Xu h2) ⟨h3.len,λj x c hx iT=>(h3.rel j x c hx iT).le nX (cN (zn (zv hx)) (by omega)),by simp[ht],h3.no⟩) λe w' he=>?_
 cases e with
 | returned cv =>
  obtain⟨v',g',e1,e2,e3,e4,_⟩:=he;cases e1;exact⟨v,_,rfl,ziq h2 e2.cX e2.fr,e3.le (zlP e2.fr) (by omega),zlQ h2 e2.fr e4,by omega⟩
 | panicked chain =>
  obtain⟨v',cv,g',e1,_⟩:=he;cases e1
 | outgrown=>exact he.elim
abbrev dr:=List (FuncId×aD×V)
def de:dr->FuncId->aD->b_
 | [],_,_=>none
 | (f,xs,v)::r,f',ys=>match Nat.beq f' f with
  | true=>match fj ys xs with
   | true=>some v
   | false=>de r f' ys
  | false=>de r f' ys
def qh(P:aQ)(g0:Nat->Nat->b_)(l:dr):Prop:=nM P { g:=g0,hk:=de l }
theorem xk{g0:Nat->Nat->b_}:qh P g0 []:=⟨λf args v h=>(by cases h),λn f args H out H' h=>(by cases h),λ_ _ _ _ h=>(by cases h)⟩
theorem xl{a b:aD}(h:fj a b=true):a=b:=by
 have:V.same (.br a) (.br b)=true:=h;have:=V.iN this;cases this;rfl
structure L1 where
 n:Nat
 f:FuncId
 args:aD
 H:Hp
 out:Out
 H':Hp
def zpL(a b:Hp):Bool:=mh a.bG b.bG && mV a.az b.az
def Bo:List L1->Nat->FuncId->aD->Hp->Option (Out×Hp)
 | [],_,_,_,_=>none
 | m::r,n,f,args,H=>match Nat.beq f m.f with
  | true=>match Nat.ble m.n (n+1) && (fj args m.args && zpL H m.H) with
   | true=>some (m.out,m.H')
   | false=>Bo r n f args H
  | false=>Bo r n f args H
def zjo(P:aQ)(g0:Nat->Nat->b_)(l:dr)(ms:List L1):Prop:=nM P { g:=g0,hk:=de l,fA:=Bo ms }
theorem zir(oV:P.follows .mixedOrders=true)(fQ:yB P)(dP:vd P){g0:Nat->Nat->b_}{l:dr}{ms:List L1}(hl:zjo P g0 l ms){n:Nat}{f:FuncId}{args:aD}{v:V}{H':Hp}
  {uq:aB->Bool} (hc:zj P { g:=g0,hk:=de l,uq:=uq,fA:=Bo ms } n f args ⟨[],[]⟩=some (.ret v,H')) (ht:aI args=0) (hv:v.top=0) (hit:WZ P uq:=by intro _ _ _ _ h;cases h):zjo P g0 ((f,args,v)::l) ms:=by
 refine⟨λf' Bp v' h d H g w bx lc h1 h2 h3=>?_,hl.heap,hl.it⟩;simp only[de] at h;cases hb:Nat.beq f' f with
 | false=>rw[hb] at h;exact hl.pure f' Bp v' h d H g w bx lc h1 h2 h3
 | true =>
  rw[hb] at h;cases hs:fj Bp args with
  | false=>rw[hs] at h;exact hl.pure f' Bp v' h d H g w bx lc h1 h2 h3
  | true =>
   rw[hs] at h;cases h;have:=eG hb;subst this;have:=xl hs;subst this;exact xE (gl:={ g:=g0,hk:=de l,uq:=uq,fA:=Bo ms }) oV fQ dP ⟨hl.pure,hl.heap,hit⟩ hc ht hv h1 h2 h3
theorem lX.mono{d d':Nat}(h:d<=d'){H H':Hp}{g g':Gh}{w w':aP}(hA:lX d H g w H' g' w'):lX d' H g w H' g' w':={ hA with fr:=hA.fr.mono h }
theorem fB.mono{d d':Nat}(h:d<=d'){H H':Hp}{g:Gh}{w w':aP}{l:Loc}{out:Out}{e:Ending}(hp:fB d H g w l out H' e w'):fB d' H g w l out H' e w':=by
 cases e with
 | returned cv =>
  obtain⟨v,g',h1,h2,h3,h4,h5⟩:=hp;exact⟨v,g',h1,h2.mono h,h3,h4,h5⟩
 | panicked chain =>
  obtain⟨v,cv,g',h1,h2,h3,h4⟩:=hp;exact⟨v,cv,g',h1,h2,h3.mono h,h4⟩
 | outgrown=>exact hp.elim
theorem yG(oV:P.follows .mixedOrders=true)(fQ:yB P)(dP:vd P){g0:Nat->Nat->b_}{l:dr}(hl:qh P g0 l){n:Nat}{f:FuncId}{args:aD}{v:V}{H':Hp}
  {uq:aB->Bool} (hc:zj P { g:=g0,hk:=de l,uq:=uq } n f args ⟨[],[]⟩=some (.ret v,H')) (ht:aI args=0) (hv:v.top=0) (hit:WZ P uq:=by intro _ _ _ _ h;cases h):qh P g0 ((f,args,v)::l) :=
 zir (ms:=[]) oV fQ dP hl hc ht hv hit
end
section
def Gh.uo(n:Nat)(g:Gh)(w':aP):Gh :=
 {M:=λc o=>if c<n then g.M c o else w'.cell? ⟨c,o,none⟩,bO:=g.bO,obj:=g.obj,own:=λc=>if c<n then g.own c else none,lk:=g.lk,eY:=g.eY }
variable{P:aQ}{gl:Gl}{d:Nat}{H:Hp}{g g':Gh}{w w':aP}
theorem Xv{dd:Nat}{AQ:List aY}(sY:rj g' AQ w')(hf:Fr dd [] g.bare w g' w'):Gh.Le 0 g' (Gh.uo w.heap.size g w'):=by
 refine⟨λc o v h=>?_,λb h=>by omega,hf.le.obj.symm,λ_ _ _ h=>by omega⟩
 simp only[Gh.uo];split
 next hc=>rw[<- (kS hf hc).2.2 o];exact h
 ·exact sY.mem c o v h
theorem zhd{n dd:Nat}{bs:List aY}(hw:rj g bs w)(hf:Fr dd [] g.bare w g' w'):gK d none none n g w (Gh.uo w.heap.size g w') w':=by
 refine⟨⟨λc o v h=>?_,λ_ _=>rfl,rfl,λ_ _ _ _ h=>h⟩,λc hc _ _=>(kS hf hc).1,λc hc _=>by simp[Gh.uo,hc],λc hc _ o=>by simp[Gh.uo,hc],hf.size,λ_ _ _=>rfl,λ_ h=>(by cases h),λ_ h=>(by cases h),λ_ _ _ _=>rfl,hf.os,hf.tape,hf.output⟩
 have:=zbI (hw.mem c o v h);simp[Gh.uo,this,h]
theorem zeY{dd:Nat}(hw:rj g H.az w){AQ:List aY}(_hw':rj g' AQ w')(hf:Fr dd [] g.bare w g' w'):lX d H g w H (Gh.uo w.heap.size g w') w' where
 cX :=
  {mem:=λc o v h=>by
    simp only[Gh.uo] at h;split at h
    next hc=>have h0:=hw.mem c o v h;simp only[World.cell?,(kS hf hc).1] at h0 ⊢;exact h0
    ·exact h
   lt:=λb h=>uc (hw.lt b h) hf.size
   inj:=hw.inj
   apart:=λb h o=>by simp only[Gh.uo,hw.lt b h,aF];exact hw.apart b h o
   eD:=λc l h=>by
    simp only[Gh.uo] at h;split at h
    ·exact uc (hw.eD c l h) hf.size
    ·cases h
   dN:=λb h=>by simp only[Gh.uo,hw.lt b h,aF];exact hw.dN b h
   ok:=λb x hx=>by
    have bR:b<H.az.length:=(cZ.1 hx).1;exact fU.same (d:=d) (zhd hw hf) (by simp) bR (hw.lt b bR) (hw.dN b bR) (λ_ h=>by cases h) (λc h1 h2=>by omega) (hw.aI b x hx) (hw.ok b x hx)
   aI:=hw.aI
   laid:=λc hc=>by
    obtain⟨⟨cs,t,h1⟩,h2,h3⟩:=hw.laid c hc;have bR:=(tK.1 h1).1
    exact⟨⟨cs,t,by rw[(kS hf bR).1];exact h1⟩,by simp only[Gh.uo,bR,aF];exact h2,h3⟩ }
 fr:=⟨(zhd (d:=d) (n:=H.az.length) hw hf).le,λc hc=>(kS hf hc.1).1,λc hc=>by simp[Gh.uo,hc.1],λc hc o=>by simp[Gh.uo,hc.1],hf.size,λ_ _ _=>rfl,hf.os,hf.tape,hf.output⟩
 len:=dA _
 dY:=λb h1 h2=>by omega
 bG:=λb x hx=>.inr (.inr ⟨x,hx,dA _⟩)
 Ee:=λ_ h=>h
 lP:=λ_ _ h=>h
inductive mG(H:Hp):V->V->Prop where
 |same {v:V}:v.top=0->mG H v v
 |sr {b off len cap:Nat} {cs:aD} {t:aB}:H.az[b]?=some (.cells cs t)->aI cs=0->off+len<=cs.length->mG H (.sr b off len cap) (.sl 1 ((cs.drop off).take len) .no)
 |ul {b u len:Nat} {cs:aD} {e:aB}:H.az[b]?=some (.ul u 1 cs e)->aI cs=0->mG H (.dB b u len) (.sl 1 cs .no)
 |sl {xs ys:aD} {o:uN}:xs.length=ys.length->(∀(j:Nat)(x:V),xs[j]?=some x->x.cells=[x]/\x.one=true)->(∀(j:Nat)(y:V),ys[j]?=some y->y.cells=[y]/\y.one=true)->(∀(j:Nat)(x y:V),xs[j]?=some x->ys[j]?=some y->mG H x y)->mG H (.sl 1 xs o) (.sl 1 ys .no)
 |agg {xs ys:aD}:xs.length=ys.length->(∀(j:Nat)(y:V),ys[j]?=some y->y.one=true)->(∀(j:Nat)(x y:V),xs[j]?=some x->ys[j]?=some y->mG H x y)->mG H (.agg xs) (.agg ys)
 |br {xs ys:aD}:xs.length=ys.length->(∀(j:Nat)(x y:V),xs[j]?=some x->ys[j]?=some y->mG H x y)->mG H (.br xs) (.br ys)
theorem mH:∀{xs:aD},(∀(j:Nat)(x:V),xs[j]?=some x->x.cells=[x])->zH xs=xs
 | [],_=>rfl
 | x::xs,h=>by
  have h0:=h 0 x rfl;have ih:=mH (xs:=xs) λj y hy=>h (j+1) y hy;simp only[zH,DZ] at ih ⊢;rw[h0,ih];rfl
theorem TT{x:V}(h:x.one=true):x.cells=[x]:=by
 cases x<;>first|rfl|(simp[V.one,Cv] at h)
theorem mG.top{v v':V}(h:mG H v v'):v'.top=0:=by
 have hz:∀{l:aD},(∀y∈l,y.top=0)->aI l=0:=λ{l} hl=>Nat.le_zero.1 (qK λy hy=>by rw[hl y hy];exact dA _)
 induction h with
 | same h=>exact h
 | sr hb hc hl =>
  simp only[V.top];refine hz λy hy=>?_;have:=zn (Cp (Cq hy));omega
 | ul hb hc=>simp only[V.top];exact hc
 | sl hl h1 h2 h3 ih =>
  simp only[V.top];refine hz λy hy=>?_;obtain⟨j,hj,e⟩:=List.getElem_of_mem hy;exact ih j _ y (gj (by omega)) (by rw[gj hj,e])
 | agg hl h1 h2 ih =>
  simp only[V.top];refine hz λy hy=>?_;obtain⟨j,hj,e⟩:=List.getElem_of_mem hy;exact ih j _ y (gj (by omega)) (by rw[gj hj,e])
 | br hl h2 ih =>
  simp only[V.top];refine hz λy hy=>?_;obtain⟨j,hj,e⟩:=List.getElem_of_mem hy;exact ih j _ y (gj (by omega)) (by rw[gj hj,e])
theorem mG.L3{H':Hp}{G:Gh}(sY:rj g' H'.az w')(hle:Gh.Le 0 g' G)(cU:∀b,b<H'.az.length->∀o v,w'.cell? ⟨g'.bO b,o,none⟩=some v->G.M (g'.bO b) o=some v)
  (cj:∀b c,b<H'.az.length->(c=g'.bO b\/g'.own c=some (.cell b 0))->∀o v,w'.cell? ⟨c,o,none⟩=some v->G.M c o=some v) {v v':V} (h:mG H' v v'):∀{cv:bt},aR g' v cv->aR G v' cv:=by
 induction h with
 | same h=>intro cv hr;exact hr.le hle (by omega)
 | sr hb hc hl =>
  rename_i b off len cap cs t;intro cv hr;cases hr with
  | sr oc =>
   have bR:b<H'.az.length:=(cZ.1 hb).1;obtain⟨arr,h1,h2,h3⟩:=sY.ok b _ hb;have hlen:((cs.drop off).take len).length=len:=by simp;omega
   have gG:∀(j:Nat)(x:V),((cs.drop off).take len)[j]?=some x->cs[off+j]?=some x/\j<len:=λj x hx=>by
    rw[AK] at hx;split at hx
    ·rw[HT] at hx;exact⟨hx,by assumption⟩
    ·cases hx
   have pO:∀(j:Nat)(x:V),((cs.drop off).take len)[j]?=some x->x.one=true/\∃a,arr[off+j]?=some a/\aR g' x a:=λj x hx=>by
    obtain⟨e1,e2⟩:=gG j x hx;have hj:off+j<arr.size:=by rw[<- h2];exact(cZ.1 e1).1
    have:=h3 (off+j) x _ e1 (EH hj);exact⟨this.1,_,EH hj,this.2.1⟩
   have nk:zH ((cs.drop off).take len)=(cs.drop off).take len:=mH λj x hx=>TT (pO j x hx).1;have:=aR.sl (g:=G) (sz:=1) (xs:=(cs.drop off).take len) (ow:=.no) (a:=some ⟨g'.bO b,off,none⟩) (cap:=cap) (c:=g'.bO b) (o:=off) (λj=>arr[off+j]?.getD (.bool false))
    (λx hx=>by
     obtain⟨j,hj,e⟩:=List.getElem_of_mem hx
     rw[TT (pO j x (by rw[gj hj,e])).1];rfl)
    (by rw[hlen];exact oc) (λ_=>rfl)
    (λj x hx=>(pO j x (by rwa [nk] at hx)).1)
    (λj x hx=>by
     rw[nk] at hx;obtain⟨_,a,ha,_⟩:=pO j x hx;refine cU b bR _ _ ?_;simp only[World.cell?,h1,ha]
     simp[])
    (λj x hx=>by
     rw[nk] at hx;obtain⟨_,a,ha,hr⟩:=pO j x hx;simp only[ha,fS];refine hr.le hle ?_;have:=zn (Cp (Cq (nB hx)))
     omega)
   rw[hlen] at this;exact this
 | ul hb hc =>
  rename_i b u len cs e;intro cv hr;have bR:b<H'.az.length:=(cZ.1 hb).1;obtain⟨c,l0,cap,vs,hu⟩:=sY.ok b _ hb;cases hr with
  | dB hh =>
   rw[hu.eY] at hh;cases hh;obtain⟨B8,hr|⟨c',oM,cur,hv,h0,lg,h5,h6,h7,h8⟩⟩:=hu.row
   ·cases hr.1
   cases hv;have hlen:cs.length=len:=by rw[hu.len,B8,JN]
   have Fi:∀(j:Nat)(x:V),cs[j]?=some x->∃v,vs[j]?=some v/\x.one=true/\aR g' x v/\w'.cell? ⟨c,j,none⟩=some v:=λj x hx=>by
    have hj:=(cZ.1 hx).1;obtain⟨v0,Od⟩:∃v0,vs[j]?=some v0:=⟨vs[j]'(by rw[<- hu.len];exact hj),gj _⟩
    obtain⟨k1,k2⟩:=hu.cells j x _ hx Od;refine⟨_,Od,k1,k2,?_⟩;rw[<- h8,AK] at Od;split at Od<;>try (cases Od;done)
    rw[cell_of_row w' c j cur e (0,0) lg];simpa using Od
   have nk:zH cs=cs:=mH λj x hx=>TT (Fi j x hx).choose_spec.2.1;rw[<- hlen];refine .sl (sz:=1) (xs:=cs) (ow:=.no) (c:=c) (o:=0) (λj=>vs[j]?.getD (.bool false)) (λx hx=>?_) (by rw[hlen];exact h5) (λ_=>rfl) (λj x hx=>?_) (λj x hx=>?_) (λj x hx=>?_)
   ·obtain⟨j,hj⟩:=List.getElem?_of_mem hx;rw[TT (Fi j x hj).choose_spec.2.1];rfl
   ·rw[nk] at hx;exact(Fi j x hx).choose_spec.2.1
   ·rw[nk] at hx;obtain⟨v,k0,_,_,k3⟩:=Fi j x hx;rw[k0,nY];exact cj b c bR hu.Cw j v k3
   ·rw[nk] at hx;obtain⟨v,k0,_,k2,_⟩:=Fi j x hx;rw[k0];exact k2.le hle (by have:=zn (zv hx);omega)
 | sl hl h1 h2 h3 ih =>
  rename_i xs ys o;intro cv hr;have hfx:zH xs=xs:=mH λj x hx=>(h1 j x hx).1;have Xw:zH ys=ys:=mH λj y hy=>(h2 j y hy).1;cases hr with
  | sl f e1 e2 e3 e4 e5 e6 =>
   rw[hfx] at e4 e5 e6;rw[hl];have hx:∀(j:Nat)(y:V),ys[j]?=some y->∃x,xs[j]?=some x:=λj y hy=>⟨_,gj (by rw[hl];exact(cZ.1 hy).1)⟩
   refine .sl f (λy hy=>?_) (by rw[<- hl];exact e2) (λcH=>e3 λe=>cH (HO (by rw[<- hl,e];rfl))) (λj y hy=>?_) (λj y hy=>?_) (λj y hy=>?_)
   ·obtain⟨j,hj,e⟩:=List.getElem_of_mem hy;rw[(h2 j y (by rw[gj hj,e])).1];rfl
   ·rw[Xw] at hy;exact(h2 j y hy).2
   ·rw[Xw] at hy;obtain⟨x,hx⟩:=hx j y hy;exact hle.M _ _ _ (e5 j x hx)
   ·rw[Xw] at hy;obtain⟨x,hx⟩:=hx j y hy;exact ih j x y hx hy (e6 j x hx)
 | agg hl h1 h2 ih =>
  rename_i xs ys;intro cv hr;cases hr with
  | agg e1 e2 e3 =>
   refine .agg (by rw[<- hl,e1]) (λj y hy=>h1 j y hy) λj y v hy hv=>?_
   have Qc:xs[j]?=some (xs[j]'(by rw[hl];exact(cZ.1 hy).1)):=gj _
   exact ih j _ y Qc hy (e3 j _ v Qc hv)
 | br hl h2 ih =>
  rename_i xs ys;intro cv hr;cases hr with
  | br e1 e3 =>
   refine .br (by rw[<- hl,e1]) λj y v hy hv=>?_
   have Qc:xs[j]?=some (xs[j]'(by rw[hl];exact(cZ.1 hy).1)):=gj _
   exact ih j _ y Qc hy (e3 j _ v Qc hv)
theorem mG.rel{dd:Nat}{H':Hp}(sY:rj g' H'.az w')(hf:Fr dd [] g.bare w g' w')(dX:∀b,b<H'.az.length->w.heap.size<=g'.bO b){v v':V}(h:mG H' v v'){cv:bt}(hr:aR g' v cv):aR (Gh.uo w.heap.size g w') v' cv:=by
 refine h.L3 sY (Xv sY hf) (λb hb o v hv=>?_) (λb c hb hc o v hv=>?_) hr
 ·simp only[Gh.uo,if_neg (Nat.not_lt.2 (dX b hb))];exact hv
 ·have AN:¬c<w.heap.size:=λbR=>by
   rcases hc with e|e
   ·have:=dX b hb;omega
   ·rw[(kS hf bR).2.1] at e;cases e
  simp only[Gh.uo,if_neg AN];exact hv
theorem Qd(oV:P.follows .mixedOrders=true)(fQ:yB P)(dP:vd P)(Eg:nM P gl){n:Nat}{f:FuncId}{args:aD}{v v':V}{H':Hp}
  (hc:zj P gl n f args ⟨[],[]⟩=some (.ret v,H')) (ht:aI args=0) (hv:mG H' v v') (eH:∀sz xs e,v'≠.sl sz xs (.yes e)) {bx:dM} {l:Loc} (h1:ij P gl g) (h2:rj g H.az w) (h3:eP g H.az.length args bx) :
  Calls P f bx w (fB d H g w l (.ret v') H):=by
 refine Calls.mono (yS oV fQ dP Eg n f args ⟨[],[]⟩ _ _ hc g.bare w bx l (h1.le nX) (Xu h2) ⟨h3.len,λj x c hx iT=>(h3.rel j x c hx iT).le nX (cN (zn (zv hx)) (by omega)),by simp[ht],h3.no⟩) λe w' he=>?_
 cases e with
 | returned cv =>
  obtain⟨u,g',e1,e2,e3,e4,_⟩:=he;cases e1;refine⟨v',_,rfl,zeY h2 e2.cX e2.fr,hv.rel e2.cX e2.fr (λb hb=>e2.dY b (ec _) hb) e3,?_,by rw[hv.top];exact ec _⟩
  unfold cL;split
  next sz xs e=>exact absurd rfl (eH sz xs e)
  ·trivial
 | panicked chain =>
  obtain⟨u,cv,g',e1,_⟩:=he;cases e1
 | outgrown=>exact he.elim
end
section
variable{cx:Cx}{n:Nat}{all:Array Oper}{takes:cg}
def W(cx:Cx)(n:Nat)(c:Code)(s:St)(Q:Ex->St->Prop):Prop:=∃ex s',cx.code n c s=some (ex,s')/\Q ex s'
def O(cx:Cx)(all:Array Oper)(takes:cg)(ops:List Oper)(s:St)(Q:Ex->St->Prop):Prop:=∃ex s',cx.ops all takes ops s=some (ex,s')/\Q ex s'
theorem J9{α β:Type}{a:α}{b:β}{Q:α->β->Prop}:(∃x y,(a=x/\b=y)/\Q x y) ↔ Q a b :=
 ⟨λ⟨_,_,⟨h1,h2⟩,h⟩=>by subst h1 h2;exact h,λh=>⟨_,_,⟨rfl,rfl⟩,h⟩⟩
def IJ(K:St->Prop)(Q:Ex->St->Prop):Ex->St->Prop
 | .normal,s=>K s
 | ex,s=>Q ex s
@[simp] theorem aN {K:St->Prop} {Q:Ex->St->Prop} {s:St}:IJ K Q .normal s=K s:=rfl
@[simp] theorem bI {K:St->Prop} {Q:Ex->St->Prop} {s:St} {i:Nat}:IJ K Q (.exit i) s=Q (.exit i) s:=rfl
@[simp] theorem l8 {K:St->Prop} {Q:Ex->St->Prop} {s:St}:IJ K Q .ret s=Q .ret s:=rfl
@[simp] theorem TU {K:St->Prop} {Q:Ex->St->Prop} {s:St} {v:V}:IJ K Q (.p9 v) s=Q (.p9 v) s:=rfl
@[simp] theorem Qe {K:St->Prop} {Q:Ex->St->Prop} {s:St} {i:Nat}:IJ K Q (.goto i) s=Q (.goto i) s:=rfl
def bO(id:Nat)(Q:Ex->St->Prop):Ex->St->Prop
 | .exit i,s=>Q (if Nat.beq i id then .normal else .exit i) s
 | ex,s=>Q ex s
@[simp] theorem L4 {id:Nat} {Q:Ex->St->Prop} {s:St}:bO id Q .normal s=Q .normal s:=rfl
@[simp] theorem Qf {id i:Nat} {Q:Ex->St->Prop} {s:St}:bO id Q (.exit i) s=Q (if Nat.beq i id then .normal else .exit i) s:=rfl
@[simp] theorem TV {id:Nat} {Q:Ex->St->Prop} {s:St}:bO id Q .ret s=Q .ret s:=rfl
@[simp] theorem TW {id:Nat} {Q:Ex->St->Prop} {s:St} {v:V}:bO id Q (.p9 v) s=Q (.p9 v) s:=rfl
@[simp] theorem Qg {id i:Nat} {Q:Ex->St->Prop} {s:St}:bO id Q (.goto i) s=Q (.goto i) s:=rfl
theorem zpM{s:St}{Q:Ex->St->Prop}:W cx n .skip s Q ↔ Q .normal s:=by
 unfold W;simp[Cx.code,J9]
theorem zqI{s:St}{Q:Ex->St->Prop}:W cx n .ret s Q ↔ Q .ret s:=by
 unfold W;simp[Cx.code,J9]
theorem zpN{s:St}{i:Nat}{Q:Ex->St->Prop}:W cx n (.exit i) s Q ↔ Q (.exit i) s:=by
 unfold W;simp[Cx.code,J9]
theorem zqJ{a b:Code}{s:St}{Q:Ex->St->Prop}:W cx n (.seq a b) s Q ↔ W cx n a s (IJ (λs=>W cx n b s Q) Q):=by
 unfold W;simp only[Cx.code];cases h:cx.code n a s with
 | none=>simp
 | some r =>
  obtain⟨ex,s1⟩:=r;cases ex<;>simp[J9]
theorem znT{id:Nat}{c:Code}{s:St}{Q:Ex->St->Prop}:W cx n (.block id c) s Q ↔ W cx n c s (bO id Q):=by
 unfold W;simp only[Cx.code];cases h:cx.code n c s with
 | none=>simp
 | some r =>
  obtain⟨ex,s1⟩:=r;cases ex<;>simp[J9]
theorem zlR{id:Nat}{ops:Array Oper}{env:aD}{H:Hp}{lk:aO}{df:bP}{Q:Ex->St->Prop} :
  W cx n (.region id ops false) ⟨env,H,lk,df⟩ Q ↔ O cx ops (jM ops) ops.toList ⟨env,H,[],df⟩ Q:=by
 unfold W O;simp only[Cx.code]
theorem zqK{s:St}{Q:Ex->St->Prop}:O cx all takes [] s Q ↔ Q .normal s:=by
 unfold O;simp[Cx.ops,J9]
def FF(dst:fJ)(K:St->Prop)(Q:Ex->St->Prop):Option (OR×St)->Prop
 | some (.val v,⟨env,H,lk,df⟩)=>K ⟨aq env dst v,H,lk,df⟩
 | some (.skip,⟨env,H,lk,df⟩)=>K ⟨aq env dst (.br []),H,lk,df⟩
 | some (.p9 v,s)=>Q (.p9 v) s
 | none=>False
@[simp] theorem aM {dst:fJ} {K:St->Prop} {Q:Ex->St->Prop} {v:V} {env:aD} {H:Hp} {lk:aO} {df:bP}:FF dst K Q (some (.val v,⟨env,H,lk,df⟩))=K ⟨aq env dst v,H,lk,df⟩:=rfl
@[simp] theorem bu {dst:fJ} {K:St->Prop} {Q:Ex->St->Prop} {env:aD} {H:Hp} {lk:aO} {df:bP}:FF dst K Q (some (.skip,⟨env,H,lk,df⟩))=K ⟨aq env dst (.br []),H,lk,df⟩:=rfl
@[simp] theorem TX {dst:fJ} {K:St->Prop} {Q:Ex->St->Prop} {v:V} {s:St}:FF dst K Q (some (.p9 v,s))=Q (.p9 v) s:=rfl
@[simp] theorem Qh {dst:fJ} {K:St->Prop} {Q:Ex->St->Prop}:FF dst K Q none=False:=rfl
theorem znU{dst:fJ}{op:Op}{type:aB}{pos:String}{after:Array Edge}{os:List Oper}{env:aD}{H:Hp}{lk:aO}{df:bP}{Q:Ex->St->Prop} :
  O cx all takes (⟨dst,op,type,pos,after,none⟩::os) ⟨env,H,lk,df⟩ Q ↔ FF dst (λs=>O cx all takes os s Q) Q (cx.op takes ⟨dst,op,type,pos,after,none⟩ env H lk df):=by
 unfold O;simp only[Cx.ops,zY];cases h:cx.op takes ⟨dst,op,type,pos,after,none⟩ env H lk df with
 | none=>simp
 | some r =>
  obtain⟨r,s1⟩:=r;obtain⟨cK,H1,eB,eA⟩:=s1;cases r<;>simp[jN,J9]
end
section
variable{cx:Cx}{takes:cg}{P:aQ}{gl:Nat->Nat->b_}{dst:fJ}{type:aB}{pos:String}{after:Array Edge}{guard:pI}{env:aD}{H:Hp}{lk:aO}{df:bP}
def iz(env:aD)(H:Hp)(lk:aO)(df:bP):b_->Option (OR×St)
 | some v=>some (.val v,⟨env,H,lk,df⟩)
 | none=>none
theorem zr{v:V}:iz env H lk df (some v)=some (.val v,⟨env,H,lk,df⟩):=rfl
theorem vS{x y:b_}:x=y->(match x with|none=>none|some v=>some (OR.val v,(⟨env,H,lk,df⟩:St)))=iz env H lk df y:=by
 rintro rfl;cases x<;>rfl
def qF(env:aD)(t:Nat):b_->Option (V×aD)
 | some (.sl sz xs (.yes e))=>some (.sl sz xs (.yes e),env.set t (.sl sz xs .no))
 | some v=>some (aV v,env)
 | none=>none
theorem zL{t:Nat}:take env (.tmp t)=qF env t (nth env t):=by
 simp only[take,qF,fm];rfl
theorem qG{v:bt}:take env (.const v)=(aj v).map (·,env):=rfl
theorem qq{t:Nat}{k:IntKind}{n:Int}:qF env t (some (.int k n))=some (.int k n,env):=rfl
theorem jn{t:Nat}{b:Bool}:qF env t (some (.bool b))=some (.bool b,env):=rfl
theorem qU{t:Nat}{s:aD}:qF env t (some (.agg s))=some (.agg s,env):=rfl
theorem jI{t b o:Nat}:qF env t (some (.ptr b o))=some (.ptr b o,env):=rfl
theorem jf{t:Nat}:qF env t (some .aG)=some (.aG,env):=rfl
theorem ko{t sz:Nat}{xs:aD}:qF env t (some (.sl sz xs .no))=some (.sl sz xs .no,env):=rfl
theorem Xx{t:Nat}:qF env t (some .bN)=some (.bN,env):=rfl
theorem zeZ{t:Nat}{u:aB}{v:V}:qF env t (some (.dF u v))=some (.dF u v,env):=rfl
theorem zjp{d:Tmp}{x:aW}(h:takes.any (Nat.beq d)=false):cx.op takes ⟨some d,.move x,type,pos,after,guard⟩ env H lk df=iz env H lk df (ak env x):=by
 simp only[Cx.op,h];exact vS rfl
def TY(H:Hp)(lk:aO)(df:bP):Option (V×aD)->Option (OR×St)
 | some (v,env)=>some (.val v,⟨env,H,lk,df⟩)
 | none=>none
theorem qd{v:V}:TY H lk df (some (v,env))=some (.val v,⟨env,H,lk,df⟩):=rfl
theorem zlS{d:Tmp}{x:aW}(h:takes.any (Nat.beq d)=true):cx.op takes ⟨some d,.move x,type,pos,after,guard⟩ env H lk df=TY H lk df (take env x):=by
 simp only[Cx.op,h];cases take env x<;>rfl
theorem z7{x:aW}:cx.op takes ⟨dst,.assign x,type,pos,after,guard⟩ env H lk df=TY H lk df (take env x):=by
 simp only[Cx.op];cases take env x<;>rfl
def Xy(a b:b_):b_->b_
 | some (.bool true)=>a
 | some (.bool false)=>b
 | _=>none
theorem kX{c a b:aW}:cx.op takes ⟨dst,.pick c a b,type,pos,after,guard⟩ env H lk df=iz env H lk df (Xy (ak env a) (ak env b) (ak env c)):=by
 simp only[Cx.op];refine vS ?_;simp only[je];cases h:ak env c with
 | none=>rfl
 | some v=>cases v<;>first|rfl|(rename_i t;cases t<;>rfl)
theorem kp{t:aB}{ps:Array (Nat×aW)}:cx.op takes ⟨dst,.build t ps,type,pos,after,guard⟩ env H lk df=iz env H lk df (ky cx.P t ps env):=by
 simp only[Cx.op];exact vS rfl
theorem TZ{d:Tmp}{t:aB}{a:aW}(h:takes.any (Nat.beq d)=false):cx.op takes ⟨some d,.load t a,type,pos,after,guard⟩ env H lk df=iz env H lk df (((ak env a).bind (zk cx.P H cx.gl t)).map aV):=by
 simp only[Cx.op,h];refine vS ?_;simp only[je];cases ak env a with
 | none=>rfl
 | some v=>cases h:zk cx.P H cx.gl t v<;>simp[h]
theorem zG{x:aW}:cx.op takes ⟨dst,.nilCheck x,type,pos,after,guard⟩ env H lk df=iz env H lk df ((ak env x).bind aa):=by
 simp only[Cx.op];exact vS rfl
def qL(P:aQ)(op:BinOp)(t:aB)(x y:aW):b_->b_->b_
 | some u,some v=>if ju P op t x y u v then w9 P op t u v else none
 | _,_=>none
theorem zV{o:BinOp}{t u:aB}{x y:aW}:cx.op takes ⟨dst,.binOp o t x y u,type,pos,after,guard⟩ env H lk df=iz env H lk df (qL cx.P o t x y (ak env x) (ak env y)):=by
 simp only[Cx.op];refine vS ?_;simp only[je];cases ak env x<;>cases ak env y<;>rfl
theorem kN{o:UnOp}{t:aB}{x:aW}:cx.op takes ⟨dst,.unOp o t x,type,pos,after,guard⟩ env H lk df=iz env H lk df ((ak env x).bind (iH o)):=by
 simp only[Cx.op];exact vS rfl
theorem vT{a b:aB}{x:aW}(hu:cx.uq (vi a)=false)(hm:Nat.beq a b=false):cx.op takes ⟨dst,.convert a b x,type,pos,after,guard⟩ env H lk df=iz env H lk df ((ak env x).bind (vy cx.P a b)):=by
 have hk:v7 cx.P a b x env=none:=by
  unfold v7;rw[hm]
 simp only[Cx.op,hk,hu];exact vS rfl
theorem kY{x:aW}{i:Nat}:cx.op takes ⟨dst,.extract x i,type,pos,after,guard⟩ env H lk df=iz env H lk df ((ak env x).bind λv=>match v with|.br vs=>(nth vs i).map aV|_=>none):=by
 simp only[Cx.op];refine vS ?_;simp only[je];cases ak env x with
 | none=>rfl
 | some v=>cases v<;>first|rfl|(rename_i vs;cases h:nth vs i<;>simp[h])
def ah(off:Nat):V->b_
 | .ptr b o=>some (.ptr b (o+off))
 | .eT g o=>some (.eT g (o+off))
 | .gh b u k=>some (.gh b u (k+off))
 | .vp cs=>some (.vp (cs.drop off))
 | _=>none
theorem zfX{t:aB}{x:aW}{f:Nat}{fs:Array Field}{fd:Field}{sz:Nat}(h1:cx.P.underlying t=some (.struct fs))(h2:fs[f]?=some fd)(h3:z4 cx.P fd.type=some sz)(h4:Nat.beq sz 0=false) :
  cx.op takes ⟨dst,.fieldAddr t x f,type,pos,after,guard⟩ env H lk df=iz env H lk df ((ak env x).bind (ah fd.offset)):=by
 simp only[Cx.op];refine vS ?_;simp only[je,h1];have h5:¬sz=0:=Nat.ne_of_beq_eq_false h4;simp[h2,h3,h5];cases ak env x with
 | none=>rfl
 | some v=>cases v<;>rfl
def aE(f:V->Int->b_):b_->b_->b_
 | some x,some (.int _ i)=>f x i
 | _,_=>none
theorem zT{t:aB}{x i:aW}:cx.op takes ⟨dst,.indexAddr t x i,type,pos,after,guard⟩ env H lk df=iz env H lk df (aE (zp cx.P t) (ak env x) (ak env i)):=by
 simp only[Cx.op];refine vS ?_;simp only[je];cases h:ak env i with
 | none=>cases ak env x<;>rfl
 | some v=>cases v<;>cases ak env x<;>rfl
theorem zlU{t:aB}{x i:aW}:cx.op takes ⟨dst,.index t x i,type,pos,after,guard⟩ env H lk df=iz env H lk df (aE (Pg cx.P t) (ak env x) (ak env i)):=by
 simp only[Cx.op];refine vS ?_;simp only[je];cases h:ak env i with
 | none=>cases ak env x<;>rfl
 | some v=>cases v<;>cases ak env x<;>rfl
def T1(t:aB)(H:Hp)(lk:aO)(df:bP):Option (V×aD)->Option (OR×St)
 | some (v,env)=>if !dz v then none else some (.val (.ptr H.az.length 0),⟨env,H.push (.cells v.laid t),lk,df⟩)
 | none=>none
theorem wH{t:aB}{x:aW}:cx.op takes ⟨dst,.box t x,type,pos,after,guard⟩ env H lk df=T1 t H lk df (take env x):=by
 simp only[Cx.op,T1,qp,c_,qn];cases take env x<;>rfl
theorem z8{t:aB}{v:V}(h:dz v=true):T1 t H lk df (some (v,env))=some (.val (.ptr H.az.length 0),⟨env,H.push (.cells v.laid t),lk,df⟩):=by
 simp[T1,h]
def Qi(n:Nat)(H:Hp)(lk:aO)(df:bP):b_->Option (V×aD)->Option (OR×St)
 | some (.ptr b off),some (v,env)=>match H.get b with
  | some (.cells cs ty)=>if dz v && Nat.beq v.laid.length n && Nat.ble (off+n) cs.length && wz lk b off n (cs.drop off) then some (.skip,⟨env,(H.set b (.cells (storeCells cs off v.laid) ty)).bQ b v,lk,df⟩) else none
  | _=>none
 | _,_=>none
theorem zlV{t:aB}{a x:aW}{n:Nat}(hn:z4 cx.P t=some n)(P5:∀b u k,ak env a≠some (.gh b u k)):cx.op takes ⟨dst,.store t a x,type,pos,after,guard⟩ env H lk df=Qi n H lk df (ak env a) (take env x):=by
 simp only[Cx.op,qp,c_,eC,jd,hn];cases ha:ak env a with
 | none=>rfl
 | some p =>
  cases p<;>try rfl
  case gh b u k=>exact absurd ha (P5 b u k)
  rename_i b off;cases take env x with
  | none=>rfl
  | some q =>
   simp only[Qi];cases H.get b with
   | none=>rfl
   | some y=>cases y<;>rfl
def aA(lk:aO)(df:bP)(env:aD):Option (OR×Hp)->Option (OR×St)
 | some (r,H)=>some (r,⟨env,H,lk,df⟩)
 | none=>none
theorem zO{r:OR}:aA lk df env (some (r,H))=some (r,⟨env,H,lk,df⟩):=rfl
def Xz(cx:Cx)(f:FuncId)(H:Hp)(lk:aO)(df:bP)(env:aD):Option aD->Option (OR×St)
 | some args=>aA lk df env (cx.bB f (args.map aV) H)
 | none=>none
theorem qM{f:FuncId}{args:aD}:Xz cx f H lk df env (some args)=aA lk df env (cx.bB f (args.map aV) H):=rfl
theorem kf{f:FuncId}{args:sg}{ts:Array aB}:cx.op takes ⟨dst,.call ⟨.value (.func f),args,ts⟩,type,pos,after,guard⟩ env H lk df=Xz cx f H lk df env (av env args.toList):=by
 simp only[Cx.op,ak];cases av env args.toList with
 | none=>rfl
 | some l=>simp only[Cx.mz,eC,aZ,m7,Xz];cases cx.bB f (l.map aV) H<;>rfl
theorem zu{P:aQ}{gl:Nat->Nat->b_}{uq:aB->Bool}{call:FuncId->aD->Hp->Option (Out×Hp)}{f:FuncId}{fn:Func}{body:Code}{args:aD}{v:V}{H':Hp}(hf:P.funcs[f]?=some fn)(hb:fn.body=some body)(hc:call f args H=some (.ret v,H')) :
  Cx.bB ⟨P,gl,call,uq⟩ f args H=some (.val v,H'):=by
 simp only[Cx.bB,hf,hb,hc,H_]
theorem kz{x:aW}{t:aB}:cx.op takes ⟨dst,.call ⟨.builtin .len,#[x],#[t]⟩,type,pos,after,guard⟩ env H lk df=iz env H lk df (((ak env x).bind (qX cx.P H t)).map (.int .i64)):=by
 simp only[Cx.op,Cx.builtin];cases ak env x with
 | none=>rfl
 | some v=>cases h:qX cx.P H t v<;>simp[h,iz]
def xR(P:aQ)(H:Hp)(t:aB)(lk:aO)(df:bP)(y:b_):Option (V×aD)->Option (OR×St)
 | some (v,env)=>match y.bind (j9 P H t v) with
  | some u=>some (.val u,⟨env,H,lk,df⟩)
  | none=>none
 | none=>none
theorem jT{x y:aW}{t:aB}(hu:p_ cx.P cx.uq t=false):cx.op takes ⟨dst,.call ⟨.builtin .append,#[x,y],#[t,t]⟩,type,pos,after,guard⟩ env H lk df=xR cx.P H t lk df (ak env y) (take env x):=by
 simp only[Cx.op,Cx.builtin,hu,lK,mo,fR,bw];cases hy:ak env y with
 | none=>cases hx:take env x<;>simp[xR]
 | some v =>
  cases hx:take env x with
  | none=>simp[xR]
  | some p =>
   obtain⟨u,e⟩:=p;cases h:j9 cx.P H t u v<;>simp[xR,h]
end
section
variable{P:aQ}{gl:Gl}
def Fin(P:aQ)(rs:List ResultVar)(n0:Nat)(es:aO)(out:Out)(H':Hp):Ex->St->Prop
 | .normal,⟨env,H,_,df⟩|.ret,⟨env,H,_,df⟩=>df=[]/\∃vs,zx P H env rs=some vs/\out=.ret (iY vs)/\H'=zW n0 es (iY vs).top H
 | .p9 v,⟨_,H,_,df⟩=>df=[]/\out=.p9 v/\H'=zW n0 es v.top H
 | _,_=>False
theorem XA{n:Nat}{f:FuncId}{fn:Func}{body:Code}{args:aD}{bs:List aY}{es:aO}{out:Out}{H':Hp}(hk:gl.hk f args=none)(fA:∀H,gl.fA n f args H=none)(hf:P.funcs[f]?=some fn)(hb:fn.body=some body)
  (h:W ⟨P,gl,zj P gl n,gl.uq⟩ n body ⟨args++List.replicate (fn.ntmps - args.length) (.br []),⟨bs++[],[]⟩,[],[]⟩ (Fin P fn.results.toList bs.length es out H')):zj P gl (n+1) f args ⟨bs,es⟩=some (out,H'):=by
 obtain⟨ex,⟨env,H,lk,df⟩,h1,h2⟩:=h;rw[m7] at h1;simp only[zj,hk,fA,hf,hb,qA,eC,h1];cases ex<;>simp only[Fin] at h2
 ·obtain⟨rfl,vs,h3,h4,h5⟩:=h2;simp[Ba,Tk,vl,h3,h4,h5,qp,kW]
 ·obtain⟨rfl,vs,h3,h4,h5⟩:=h2;simp[Ba,Tk,vl,h3,h4,h5,qp,kW]
 ·obtain⟨rfl,h4,h5⟩:=h2;simp[Ba,Tk,vl,h4,h5,kW]
theorem z9{bs ls:List aY}{es:aO}{t:Nat}(ht:t<=bs.length):zW bs.length es t ⟨bs++ls,[]⟩=⟨bs,es⟩:=by
 have:Nat.ble t bs.length=true:=K3 ht;simp[zW,this]
theorem get_at{bs ls:List aY}{es:aO}{k:Nat}:Hp.get ⟨bs++ls,es⟩ (bs.length+k)=nth ls k:=by
 simp only[Hp.get,zg];rw[fI (by omega)]
 congr 1
 omega
theorem zd{α:Type}{x:α}{xs:List α}:nth (x::xs) 0=some x:=rfl
theorem ze{α:Type}{x:α}{xs:List α}{n:Nat}:nth (x::xs) (n+1)=nth xs n:=rfl
end
section
variable{takes:cg}
end
section
variable{cx:Cx}{n:Nat}{takes:cg}{P:aQ}{gl:Nat->Nat->b_}{dst:fJ}{type:aB}{pos:String}{after:Array Edge}{guard:pI}{env:aD}{H:Hp}{lk:aO}{df:bP}
def zB(P:aQ)(t:aB)(f:Nat):Option Nat :=
 match P.underlying t with
 | some (.struct fs)=>match fs[f]? with
  | some fd=>match z4 P fd.type with
   | some m=>if Nat.beq m 0 then none else some fd.offset
   | none=>none
  | none=>none
 | _=>none
def J_(v:b_):Option Nat->b_
 | some off=>v.bind (ah off)
 | none=>none
theorem zS{v:b_}{off:Nat}:J_ v (some off)=v.bind (ah off):=rfl
theorem zA{t:aB}{x:aW}{f:Nat}:cx.op takes ⟨dst,.fieldAddr t x f,type,pos,after,guard⟩ env H lk df=iz env H lk df (J_ (ak env x) (zB cx.P t f)):=by
 unfold zB;cases h1:cx.P.underlying t with
 | none=>simp[Cx.op,je,h1,J_,iz]
 | some d =>
  cases d<;>try (simp[Cx.op,je,h1,J_,iz];done)
  rename_i fs;cases h2:fs[f]? with
  | none=>simp[Cx.op,je,h1,h2,J_,iz]
  | some fd =>
   cases h3:z4 cx.P fd.type with
   | none=>simp[Cx.op,je,h1,h2,h3,J_,iz]
   | some m =>
    cases m with
    | zero=>simp[Cx.op,je,h1,h2,h3,J_,iz]
    | succ m=>rw[zfX h1 h2 h3 rfl];simp[J_,h2,h3]
def fieldAt(P:aQ)(t:aB)(f:Nat):Option (aB×Nat) :=
 match P.underlying t with
 | some (.struct fs)=>(fs[f]?).map λfd=>(fd.type,fd.offset)
 | _=>none
def wT(cs:aD)(off:Nat):Option Bool->Option Nat->b_
 | some true,some n=>if off+n<=cs.length then some (.agg ((cs.drop off).take n)) else none
 | some false,_=>nth cs off
 | _,_=>none
theorem qu{t:aB}{cs:aD}{off:Nat}:wg P t cs off=wT cs off (qz P t) (z4 P t):=by
 unfold wg;cases qz P t with
 | none=>rfl
 | some b =>
  cases b with
  | false=>simp[wT]
  | true=>cases z4 P t<;>simp[wT]
theorem T4{cs:aD}{off:Nat}{s:Option Nat}:wT cs off (some false) s=nth cs off:=by cases s<;>rfl
theorem Oe{cs:aD}{off n:Nat}:wT cs off (some true) (some n)=if off+n<=cs.length then some (.agg ((cs.drop off).take n)) else none:=rfl
def T5(P:aQ)(t:aB)(off:Nat):Option aY->b_
 | some (.cells cs _)=>wg P t cs off
 | _=>none
theorem jx{t u:aB}{off:Nat}{cs:aD}:T5 P t off (some (.cells cs u))=wg P t cs off:=rfl
theorem jU{t:aB}{b off:Nat}:zk P H gl t (.ptr b off)=T5 P t off (H.get b):=by
 cases h:H.get b with
 | none=>simp[zk,h,T5]
 | some x=>cases x<;>simp[zk,h,T5]
theorem zpO{c:Code}{s:St}{Q:Ex->St->Prop}(Inv:Nat->St->Prop)(k:Nat)(hk:k<n)(h0:Inv k s)(mF:∀j s,Inv j s->W cx n c s (IJ (λs'=>∃i,i<j/\Inv i s') Q)):W cx n (.loop c) s Q:=by
 unfold W;simp only[Cx.code];have key:∀(m:Nat)(s:St)(j:Nat),j<m->Inv j s->∃ex s',Lh (cx.code n c) m s=some (ex,s')/\Q ex s':=by
  intro m
  induction m with
  | zero=>intro s j h;omega
  | succ m ih =>
   intro s j hj hI;obtain⟨ex,s1,h1,h2⟩:=mF j s hI;simp only[Lh,h1];cases ex with
   | normal =>
    obtain⟨i,hi,um⟩:=h2;exact ih s1 i (by omega) um
   | _=>exact⟨_,_,rfl,h2⟩
 exact key n s k hk h0
end
section
variable{cx:Cx}{n:Nat}{all:Array Oper}{takes:cg}{dst:fJ}{op:Op}{type:aB}{pos:String}{after:Array Edge}{os:List Oper}{env cK bH:aD}{H H1:Hp}{lk eB:aO}{df eA:bP}{v:V}{Q:Ex->St->Prop}
theorem kg{P:aQ}{t:aB}{x y:aW}{k:IntKind}{a b:Int}:qL P .add t x y (some (.int k a)) (some (.int k b))=some (.int k (k.wrap (a+b))):=by simp[qL,ju,w9,jY]
theorem kD{P:aQ}{t:aB}{x y:aW}{k:IntKind}{a b:Int}:qL P .sub t x y (some (.int k a)) (some (.int k b))=some (.int k (k.wrap (a - b))):=by simp[qL,ju,w9,jY]
theorem znW{P:aQ}{t:aB}{x y:aW}{k:IntKind}{a b:Int}:qL P .mul t x y (some (.int k a)) (some (.int k b))=some (.int k (k.wrap (a * b))):=by simp[qL,ju,w9,jY]
theorem wO{P:aQ}{t:aB}{x y:aW}{k:IntKind}{a b:Int}:qL P .eql t x y (some (.int k a)) (some (.int k b))=some (.bool (a == b)):=by simp[qL,ju,v4,w9,jY]
theorem Qj{P:aQ}{t:aB}{x y:aW}{k:IntKind}{a b:Int}:qL P .neq t x y (some (.int k a)) (some (.int k b))=some (.bool (a != b)):=by simp[qL,ju,v4,w9,jY]
theorem qT{P:aQ}{t:aB}{x y:aW}{k:IntKind}{a b:Int}:qL P .lss t x y (some (.int k a)) (some (.int k b))=some (.bool (a<b)):=by simp[qL,ju,w9,jY]
theorem Of{P:aQ}{t:aB}{x y:aW}{k:IntKind}{a b:Int}:qL P .leq t x y (some (.int k a)) (some (.int k b))=some (.bool (a<=b)):=by simp[qL,ju,w9,jY]
theorem w6{P:aQ}{t:aB}{x y:aW}{k:IntKind}{a b:Int}:qL P .gtr t x y (some (.int k a)) (some (.int k b))=some (.bool (a > b)):=by simp[qL,ju,w9,jY]
theorem T6{P:aQ}{t:aB}{x y:aW}{k:IntKind}{a b:Int}:qL P .geq t x y (some (.int k a)) (some (.int k b))=some (.bool (a ≥ b)):=by simp[qL,ju,w9,jY]
theorem zlX{P:aQ}{t:aB}{x y:aW}{a b:bM}:qL P .neq t x y (some (.str a)) (some (.str b))=some (.bool (!(n6 a b))):=by simp[qL,ju,v4,w9,Pf]
theorem qw{d:Tmp}{t:aB}{a:aW}{guard:pI}:cx.op [] ⟨some d,.load t a,type,pos,after,guard⟩ env H lk df=iz env H lk df (((ak env a).bind (zk cx.P H cx.gl t)).map aV):=TZ rfl
theorem zK{d:Tmp}{x:aW}{guard:pI}:cx.op [] ⟨some d,.move x,type,pos,after,guard⟩ env H lk df=iz env H lk df (ak env x):=zjp rfl
theorem zR{k:IntKind}{n:Int}:aV (.int k n)=.int k n:=rfl
theorem qQ{b:Bool}:aV (.bool b)=.bool b:=rfl
theorem kO{s:bM}:aV (.str s)=.str s:=rfl
theorem qW{s:aD}:aV (.agg s)=.agg s:=rfl
theorem wW{s:aD}:aV (.vp s)=.vp s:=rfl
theorem dZ{s:aD}:aV (.br s)=.br s:=rfl
theorem ql{a b:Nat}:aV (.ptr a b)=.ptr a b:=rfl
theorem zlY{a b:Nat}:aV (.eT a b)=.eT a b:=rfl
theorem dg:aV .aG=.aG:=rfl
theorem mJ:aV .bN=.bN:=rfl
theorem kZ{sz:Nat}{xs:aD}{o:uN}:aV (.sl sz xs o)=.sl sz xs .no:=rfl
theorem Og{a b c d:Nat}:aV (.sr a b c d)=.sr a b c d:=rfl
theorem zjr{t:aB}{v:V}:aV (.dF t v)=.dF t v:=rfl
end
def Oh(g:Nat):List (Nat×aD)->Option aD
 | []=>none
 | (k,vs)::r=>match Nat.beq g k with
  | true=>some vs
  | false=>Oh g r
def IK(U:aB)(ks:bM)(T:List (Nat×aD)):Nat->Nat->b_:=λg o=>match Oh g T with
 | some vs=>nth vs o
 | none=>Oa U ks g o
def XB(W:aP)(x:Nat×aD):Prop:=∀(o:Nat)(v:V),x.2[o]?=some v->v.top=0/\∃cv,W.cell? ⟨x.1,o,none⟩=some cv/\∀g,aR g v cv
theorem XC{g:Nat}{vs:aD}:∀{T:List (Nat×aD)},Oh g T=some vs->(g,vs)∈T
 | [],h=>by simp[Oh] at h
 | (k,us)::r,h=>by
  simp only[Oh] at h;split at h
  next hb=>simp only[bq] at h;rw[eG hb,h];exact eK ..
  ·exact dU _ (XC h)
theorem zis{W:aP}{x:Nat×aD}(h:XB W x){o:Nat}{U:aB}{j:Nat}:x.2[o]?≠some (.dF U (.obj j)):=by
 intro hv;obtain⟨_,cv,_,h3⟩:=h o _ hv;have k1:∀a,cv=.iface U (.pointer (some a)):=λa=>by
  have:=h3 { xD W with obj:=⟨λ_=>a,λ_=>True⟩ };cases this with
  | dF h2 =>
   cases h2 with
   | obj k=>rfl
 have:=(k1 ⟨0,0,none⟩).symm.trans (k1 ⟨1,0,none⟩);simp at this
theorem zpP{P:aQ}{U:aB}{ks:bM}{T:List (Nat×aD)}{W:aP}(h:FD U W ks)(hT:∀x∈T,XB W x):ij P (IK U ks T) (xD W):=by
 have GX:∀k u j,IK U ks T k 0=some (.dF u (.obj j))->Oa U ks k 0=some (.dF u (.obj j)):=λk u j hv=>by
  unfold IK at hv;split at hv
  next vs LN=>rw[zg] at hv;exact absurd hv (zis (hT _ (XC LN)))
  ·exact hv
 have h0:=znS (P:=P) h;refine⟨?_,λk u j hv=>⟨(h0.2 k u j (GX k u j hv)).1,λk' u' j' k_ e=>(h0.2 k u j (GX k u j hv)).2 k' u' j' (GX k' u' j' k_) e⟩⟩;intro k off v hv;unfold IK at hv;split at hv
 next vs LN=>rw[zg] at hv;obtain⟨h1,cv,h2,h3⟩:=hT _ (XC LN) off v hv;exact⟨cv,h2,h3 _,h1⟩
 ·exact h0.1 k off v hv
theorem zhe{α β:Type}{f:α->Option β}:∀{l:List α}{xs:List β},l.mapM f=some xs->xs.length=l.length/\∀(i:Nat)(a:α)(x:β),l[i]?=some a->xs[i]?=some x->f a=some x
 | [],xs,h=>by
  simp only[List.mapM_nil,Option.pure_def,bq] at h;subst h;exact⟨rfl,λi a x h=>by simp at h⟩
 | a::l,xs,h=>by
  simp only[List.mapM_cons,Option.pure_def,Option.bind_eq_bind,eF,bq] at h;obtain⟨y,hy,ys,tQ,rfl⟩:=h;obtain⟨h1,h2⟩:=zhe tQ;refine⟨by simp[h1],λi b x hb hx=>?_⟩
  cases i with
  | zero=>simp at hb hx;subst hb;subst hx;exact hy
  | succ i=>exact h2 i b x (by simpa using hb) (by simpa using hx)
theorem zhf{P:aQ}{W:aP}{l:List (String×DataW Unit)}(h:laidMet P l W){nm:String}{ns:List Int}{k:IntKind}(hx:(nm,DataW.agg (ns.map λm=>.lit (.int k m)))∈l){g t n e:Nat}(hg:P.globalNamed nm=some g)(hgt:(P.globals[g]?).map (·.type)=some t)
  (ht:P.underlying t=some (.array n e)) (he:P.underlying e=some (.int k)) (hc:P.cellsOf e=1) (hn:P.cellsOf t=n):XB W (g,ns.map (V.int k)):=by
 obtain⟨ps,hv,_,ej⟩:=h;obtain⟨g',t',cs,fuel,p,h1,h2,h3,h4,cj,_⟩:=P8 hv _ hx;rw[hg] at h1;cases h1;rw[hgt] at h2;cases h2;cases fuel with
 | zero=>simp[DataW.trod] at h4
 | succ fuel =>
  have Bc:∀i,i<cs.size->W.cell? ⟨g,i,none⟩=cs[i]?:=λi hi=>by
   have:=World.var?_cell hg h3 i;simpa using this
  obtain⟨l0⟩:=cs;simp only[DataW.trod,ht] at h4;split at h4<;>try (cases h4;done)
  rename_i hl;simp only[mQ,cq,DataW.agg.injEq] at h4;obtain⟨xs,pz,e1,_⟩:=h4;obtain⟨m1,m2⟩:=zhe pz;have lf:ns.length=n:=by
   have:=congrArg List.length e1;simp only[gk,m1,List.length_range] at this;exact this.symm
  intro o v hov;simp only[iX,mQ] at hov;obtain⟨m,hm,rfl⟩:=hov;have ho:o<n:=by rw[<- lf];exact(cZ.1 hm).1
  have hox:o<xs.length:=by rw[m1];simpa using ho
  have hxo:xs[o]?=some xs[o]:=gj hox;have hr:=m2 o o xs[o] (by simp[ho]) hxo
  have hd:xs[o].1=.lit (.int k m):=by
   have:=congrArg (λl=>l[o]?) e1;simp only[iX,hxo,hm,aS,bq] at this;exact this
  refine⟨rfl,?_⟩;have Ec:o<l0.length:=by rw[hl,hn];exact ho
  have iy:l0[o]?=some l0[o]:=gj Ec;have mq:(l0.drop (o * P.cellsOf e)).take (P.cellsOf e)=[l0[o]]:=by
   rw[hc,JN,GO Ec];rfl
  rw[mq] at hr;cases fuel with
  | zero=>simp[DataW.trod] at hr
  | succ fuel =>
   generalize sV:l0[o]=c at hr iy;refine⟨c,?_,λg=>?_⟩
   ·rw[Bc o (by simpa using Ec)];simpa using iy
   ·generalize xs[o]=y at hr hd;obtain⟨y1,y2⟩:=y;simp only at hd;subst hd;simp only[DataW.trod,he] at hr;cases c<;>simp at hr;obtain⟨⟨rfl,_⟩,rfl,_⟩:=hr;exact .int _ _
section
variable{cx:Cx}{n:Nat}
def au(cx:Cx)(o:Oper)(env:aD)(lk:aO):Bool :=
 match o.op with
 | .load t a=>match qz cx.P t with
  | some false=>true
  | _=>match ak env a with
   | some (.ptr b _)=>lk.all λp=>!(Nat.beq p.1 b)
   | _=>true
 | _=>true
def Cx.rC(cx:Cx)(all:Array Oper)(takes:cg):List Oper->St->Option St
 | [],s=>some s
 | o::os,⟨env,H,lk,df⟩=>match zY all o env with
  | none=>none
  | some false=>cx.rC all takes os ⟨aq env o.dst (.br []),H,lk,df⟩
  | some true=>match au cx o env lk with
   | false=>none
   | true=>match cx.op takes o env H lk df with
    | some (.val v,⟨env,H,lk,df⟩)=>cx.rC all takes os ⟨aq env o.dst v,H,lk,df⟩
    | some (.skip,⟨env,H,lk,df⟩)=>cx.rC all takes os ⟨aq env o.dst (.br []),H,lk,df⟩
    | _=>none
inductive It where
 |c (c:Code)|eb (id:Nat)|os (all:Array Oper) (takes:cg) (l:List Oper)|on (all:Array Oper) (takes:cg) (l:List Oper)
def go(cx:Cx)(n:Nat)(Q:Ex->St->Prop):List It->Ex->St->Prop
 | [],ex,s=>Q ex s
 | .c c::k,.normal,s=>W cx n c s (go cx n Q k)
 | .c _::k,ex,s=>go cx n Q k ex s
 | .eb id::k,.exit i,s=>go cx n Q k (if Nat.beq i id then .normal else .exit i) s
 | .eb _::k,ex,s=>go cx n Q k ex s
 | .os all takes l::k,.normal,s=>O cx all takes l s (go cx n Q k)
 | .os _ _ _::k,ex,s=>go cx n Q k ex s
 | .on all takes l::k,.normal,s=>∃s',cx.rC all takes l s=some s'/\go cx n Q k .normal s'
 | .on _ _ _::k,ex,s=>go cx n Q k ex s
variable{Q:Ex->St->Prop}{k:List It}{s:St}{env:aD}{H:Hp}{lk:aO}{df:bP}{all:Array Oper}{takes:cg}{os:List Oper}
theorem T7{c:Code}(h:go cx n Q [.c c] .normal s):W cx n c s Q:=by
 have:(go cx n Q [])=Q:=by funext ex s;simp[go]
 simpa[go,this] using h
theorem zq{ex:Ex}:go cx n Q [] ex s ↔ Q ex s:=by simp[go]
theorem bz:go cx n Q (.c .skip::k) .normal s ↔ go cx n Q k .normal s:=by simp only[go];exact zpM
theorem zh{a b:Code}:go cx n Q (.c (.seq a b)::k) .normal s ↔ go cx n Q (.c a::.c b::k) .normal s:=by
 simp only[go,zqJ];have:(IJ (λs=>W cx n b s (go cx n Q k)) (go cx n Q k))=go cx n Q (.c b::k):=by
  funext ex s;cases ex<;>simp[go]
 rw[this]
theorem zw{id:Nat}{c:Code}:go cx n Q (.c (.block id c)::k) .normal s ↔ go cx n Q (.c c::.eb id::k) .normal s:=by
 simp only[go,znT];have:bO id (go cx n Q k)=go cx n Q (.eb id::k):=by
  funext ex s;cases ex<;>simp[go]
 rw[this]
theorem go_ret:go cx n Q (.c .ret::k) .normal s ↔ go cx n Q k .ret s:=by simp only[go];exact zqI
theorem qm{i:Nat}:go cx n Q (.c (.exit i)::k) .normal s ↔ go cx n Q k (.exit i) s:=by simp only[go];exact zpN
theorem qD{id:Nat}:go cx n Q (.eb id::k) .normal s ↔ go cx n Q k .normal s:=by simp[go]
theorem zD{id i:Nat}:go cx n Q (.eb id::k) (.exit i) s ↔ go cx n Q k (if Nat.beq i id then .normal else .exit i) s:=by simp[go]
theorem wm{id:Nat}:go cx n Q (.eb id::k) .ret s ↔ go cx n Q k .ret s:=by simp[go]
theorem zN{c:Code}{i:Nat}:go cx n Q (.c c::k) (.exit i) s ↔ go cx n Q k (.exit i) s:=by simp[go]
theorem wh{c:Code}:go cx n Q (.c c::k) .ret s ↔ go cx n Q k .ret s:=by simp[go]
def IL(a b:Prop):b_->Prop
 | some (.bool true)=>a
 | some (.bool false)=>b
 | _=>False
theorem qR{c:aW}{a b:Code}:go cx n Q (.c (.cond c a b)::k) .normal ⟨env,H,lk,df⟩ ↔ IL (go cx n Q (.c a::k) .normal ⟨env,H,lk,df⟩) (go cx n Q (.c b::k) .normal ⟨env,H,lk,df⟩) (ak env c):=by
 simp only[go];unfold W;simp only[Cx.code];cases ak env c with
 | none=>simp[IL]
 | some v =>
  cases v with
  | bool t=>cases t<;>simp[IL]
  | _=>simp[IL]
theorem qi{a b:Prop}{t:Bool}:IL a b (some (.bool t)) ↔ (t=true/\a\/t=false/\b):=by cases t<;>simp[IL]
theorem zjs{a b:Prop}:IL a b (some (.bool true)) ↔ a:=Iff.rfl
theorem zjt{a b:Prop}:IL a b (some (.bool false)) ↔ b:=Iff.rfl
theorem Ej{id:Nat}{ops:Array Oper}:go cx n Q (.c (.region id ops false)::k) .normal ⟨env,H,lk,df⟩ ↔ go cx n Q (.os ops (jM ops) ops.toList::k) .normal ⟨env,H,[],df⟩:=by
 simp only[go];exact zlR
theorem aH:go cx n Q (.os all takes []::k) .normal s ↔ go cx n Q k .normal s:=by simp only[go];exact zqK
theorem qx{dst:fJ}{op:Op}{type:aB}{pos:String}{after:Array Edge} :
  go cx n Q (.os all takes (⟨dst,op,type,pos,after,none⟩::os)::k) .normal ⟨env,H,lk,df⟩ ↔ FF dst (λs=>go cx n Q (.os all takes os::k) .normal s) (go cx n Q k) (cx.op takes ⟨dst,op,type,pos,after,none⟩ env H lk df):=by
 simp only[go];exact znU
def Ho(a b:Prop):Option Bool->Prop
 | some true=>a
 | some false=>b
 | none=>False
theorem jZ{dst:fJ}{op:Op}{type:aB}{pos:String}{after:Array Edge}{g:Nat×Bool} :
  go cx n Q (.os all takes (⟨dst,op,type,pos,after,some g⟩::os)::k) .normal ⟨env,H,lk,df⟩ ↔
   Ho (FF dst (λs=>go cx n Q (.os all takes os::k) .normal s) (go cx n Q k) (cx.op takes ⟨dst,op,type,pos,after,some g⟩ env H lk df)) (go cx n Q (.os all takes os::k) .normal ⟨aq env dst (.br []),H,lk,df⟩) (zY all ⟨dst,op,type,pos,after,some g⟩ env):=by
 simp only[go];unfold O;simp only[Cx.ops];cases zY all ⟨dst,op,type,pos,after,some g⟩ env with
 | none=>simp[Ho]
 | some b =>
  cases b with
  | false=>simp[Ho,jN]
  | true =>
   simp only[Ho];cases h:cx.op takes ⟨dst,op,type,pos,after,some g⟩ env H lk df with
   | none=>simp
   | some r =>
    obtain⟨r,s1⟩:=r;obtain⟨cK,H1,eB,eA⟩:=s1;cases r<;>simp[jN,J9]
theorem bk:go cx n Q (.on all takes []::k) .normal s ↔ go cx n Q k .normal s:=by simp[go,Cx.rC]
theorem jV{dst:fJ}{op:Op}{type:aB}{pos:String}{after:Array Edge} :
  go cx n Q (.on all takes (⟨dst,op,type,pos,after,none⟩::os)::k) .normal ⟨env,H,lk,df⟩ ↔ (au cx ⟨dst,op,type,pos,after,none⟩ env lk=true/\FF dst (λs=>go cx n Q (.on all takes os::k) .normal s) (λ_ _=>False) (cx.op takes ⟨dst,op,type,pos,after,none⟩ env H lk df)):=by
 simp only[go,Cx.rC,zY];cases au cx ⟨dst,op,type,pos,after,none⟩ env lk with
 | false=>simp
 | true =>
  cases h:cx.op takes ⟨dst,op,type,pos,after,none⟩ env H lk df with
  | none=>simp
  | some r =>
   obtain⟨r,s1⟩:=r;obtain⟨cK,H1,eB,eA⟩:=s1;cases r<;>simp
theorem j4{dst:fJ}{op:Op}{type:aB}{pos:String}{after:Array Edge}{g:Nat×Bool} :
  go cx n Q (.on all takes (⟨dst,op,type,pos,after,some g⟩::os)::k) .normal ⟨env,H,lk,df⟩ ↔
   Ho (au cx ⟨dst,op,type,pos,after,some g⟩ env lk=true/\FF dst (λs=>go cx n Q (.on all takes os::k) .normal s) (λ_ _=>False) (cx.op takes ⟨dst,op,type,pos,after,some g⟩ env H lk df)) (go cx n Q (.on all takes os::k) .normal ⟨aq env dst (.br []),H,lk,df⟩) (zY all ⟨dst,op,type,pos,after,some g⟩ env):=by
 simp only[go,Cx.rC];cases zY all ⟨dst,op,type,pos,after,some g⟩ env with
 | none=>simp[Ho]
 | some b =>
  cases b with
  | false=>simp[Ho]
  | true =>
   simp only[Ho];cases au cx ⟨dst,op,type,pos,after,some g⟩ env lk with
   | false=>simp
   | true =>
    cases h:cx.op takes ⟨dst,op,type,pos,after,some g⟩ env H lk df with
    | none=>simp
    | some r =>
     obtain⟨r,s1⟩:=r;obtain⟨cK,H1,eB,eA⟩:=s1;cases r<;>simp
def IM(want:Bool):b_->Option Bool
 | some (.bool b)=>some (b == want)
 | some (.br _)=>some false
 | _=>none
theorem zkE{dst:fJ}{op:Op}{type:aB}{pos:String}{after:Array Edge}{j:Nat}{want:Bool}{d:Tmp}(hd:(all[j]?).bind (·.dst)=some d):zY all ⟨dst,op,type,pos,after,some (j,want)⟩ env=IM want (nth env d):=by
 unfold zY IM;simp only[hd];cases nth env d with
 | none=>rfl
 | some v=>cases v<;>rfl
theorem qj{c:Code}(Inv:Nat->St->Prop)(j:Nat)(hj:j<n)(h0:Inv j s)(mF:∀j s,Inv j s->go cx n (IJ (λs'=>∃i,i<j/\Inv i s') (go cx n Q k)) [.c c] .normal s):go cx n Q (.c (.loop c)::k) .normal s:=by
 simp only[go];exact zpO Inv j hj h0 λj s h=>T7 (mF j s h)
theorem zl0{P:aQ}{gl:Gl}{f:FuncId}{fn:Func}{body:Code}{args:aD}{bs:List aY}{es:aO}{out:Out}{H':Hp}(hk:gl.hk f args=none)(fA:∀H,gl.fA n f args H=none)(hf:P.funcs[f]?=some fn)(hb:fn.body=some body)
  (h:go ⟨P,gl,zj P gl n,gl.uq⟩ n (Fin P fn.results.toList bs.length es out H') [.c body] .normal ⟨args++List.replicate (fn.ntmps - args.length) (.br []),⟨bs,[]⟩,[],[]⟩):zj P gl (n+1) f args ⟨bs,es⟩=some (out,H') :=
 XA hk fA hf hb (by rw[m7];exact T7 h)
def Fx(P:aQ)(rs:List ResultVar)(ur:V->Hp->Prop):Ex->St->Prop
 | .normal,⟨env,H,_,df⟩|.ret,⟨env,H,_,df⟩=>df=[]/\∃vs,zx P H env rs=some vs/\ur (iY vs) H
 | _,_=>False
theorem zQ{P:aQ}{gl:Gl}{f:FuncId}{fn:Func}{body:Code}{args:aD}{bs:List aY}{es:aO}{ur:V->Hp->Prop}(hk:gl.hk f args=none)(fA:∀H,gl.fA n f args H=none)(hf:P.funcs[f]?=some fn)(hb:fn.body=some body)
  (h:go ⟨P,gl,zj P gl n,gl.uq⟩ n (Fx P fn.results.toList ur) [.c body] .normal ⟨args++List.replicate (fn.ntmps - args.length) (.br []),⟨bs,[]⟩,[],[]⟩):∃v H1,zj P gl (n+1) f args ⟨bs,es⟩=some (.ret v,zW bs.length es v.top H1)/\ur v H1:=by
 obtain⟨ex,⟨env,H,lk,df⟩,h1,h2⟩:=T7 h;cases ex<;>simp only[Fx] at h2
 ·obtain⟨rfl,vs,h3,h4⟩:=h2;exact⟨_,H,XA hk fA hf hb ⟨.normal,_,by rw[m7];exact h1,⟨rfl,vs,h3,rfl,rfl⟩⟩,h4⟩
 ·obtain⟨rfl,vs,h3,h4⟩:=h2;exact⟨_,H,XA hk fA hf hb ⟨.ret,_,by rw[m7];exact h1,⟨rfl,vs,h3,rfl,rfl⟩⟩,h4⟩
theorem wX{x:aY}{b:Nat}:(H.push x).get b=match H.get b with|some y=>some y|none=>if b=H.az.length then some x else none:=by
 simp only[Hp.get,Hp.push,zg,List.getElem?_append];split
 next h=>rw[gj h]
 ·rename_i h;have:H.az[b]?=none:=uI (by omega)
  rw[this]
  by_cases e:b=H.az.length
  ·subst e;simp
  ·rw[if_neg e];simp;omega
theorem jy{x:aY}{b c:Nat}:(H.set b x).get c=match H.get c with|some y=>some (if c=b then x else y)|none=>none:=by
 simp only[Hp.get,Hp.set,zg,List.getElem?_set']
 by_cases e:b=c
 ·subst e;cases h:H.az[b]?<;>simp
 ·rw[if_neg e];cases h:H.az[c]?<;>simp[Ne.symm e]
theorem bU{b c:Nat}{v:V}:(H.bQ b v).get c=H.get c:=by
 unfold Hp.bQ;split<;>rfl
theorem jk{x:aY}:(H.push x).az.length=H.az.length+1:=by simp[Hp.push]
theorem wv{x:aY}{b:Nat}:(H.set b x).az.length=H.az.length:=by simp[Hp.set]
theorem xm{b:Nat}{v:V}:(H.bQ b v).az.length=H.az.length:=by
 unfold Hp.bQ;split<;>rfl
theorem kJ{b:Nat}{x:aY}(h:H.get b=some x):b<H.az.length:=by
 simp only[Hp.get,zg] at h;exact(cZ.1 h).1
theorem IN:H.get H.az.length=none:=by simp[Hp.get,zg]
theorem zl1{b:Nat}(h:H.az.length<=b):H.get b=none:=by simp[Hp.get,zg,h]
end
section
structure SR where
 idx:Nat
 m:Nat
 tm:Nat
 lm:Nat
 hp:Bool
 lk:Bool
 al:Bool
 ld:Bool
 tk:Bool
def vI(o:Oper):Bool:=match o.op with|.alloc _=>true|_=>false
def kK(takes:cg)(o:Oper):Bool :=
 match o.op with
 | .load ..=>match o.dst with
  | some d=>takes.any (Nat.beq d)
  | none=>false
 | _=>false
def Ek(takes:cg)(o:Oper):Bool :=
 match o.op with
 | .load ..=>match o.dst with
  | some d=>!(takes.any (Nat.beq d))
  | none=>false
 | .call ⟨.builtin .len,⟨[_]⟩,⟨[_]⟩⟩=>true
 | _=>false
def sC:List SR->Nat->Option Nat
 | [],_=>none
 | r::rs,j=>if Nat.beq r.idx j then some r.m else sC rs j
def Oi(rs:List SR):List Edge->Option Nat
 | []=>some 0
 | e::es=>match Region.binds .any e with
  | false=>Oi rs es
  | true=>match sC rs e.on with
   | none=>none
   | some m=>match Oi rs es with
    | none=>none
    | some k=>some (Nat.lor k (Nat.lor m (Nat.pow 2 e.on)))
def T8(r q:SR):Bool :=
 match bit r.m q.idx with
 | true=>true
 | false=>Nat.beq (Nat.land q.tm r.lm) 0 && Nat.beq (Nat.land r.tm q.lm) 0
def XD(r q:SR):Bool :=
 match bit r.m q.idx with
 | true=>true
 | false=>!(r.hp && q.hp) && (!(q.hp && r.lk) || (q.tk && r.ld)) && (!(r.hp && q.lk) || (r.al && q.ld))
def J'(P:aQ)(uq:aB->Bool)(all:Array Oper)(takes:cg):Nat->List SR->List Oper->Bool
 | _,_,[]=>true
 | i,rs,o::os=>match Oi rs o.after.toList with
  | none=>false
  | some m =>
   let r:SR:=⟨i,m,m8 takes o,Nat.lor (m8 takes o) (ug all o),q9 P uq takes o,kV P uq o,vI o,Ek takes o,kK takes o⟩
   (!r.tk || kB (λq=>!q.tk) rs) && kB (T8 r) rs && (kB (XD r) rs && J' P uq all takes (i+1) (r::rs) os)
variable{cx:Cx}{all:Array Oper}{takes:cg}
structure L5(cx:Cx)(takes:cg)(q:Rec)(t:SR):Prop where
 idx:q.idx=t.idx
 m:q.m=t.m
 tm:q.tm=t.tm
 lm:q.lm=t.lm
 hp:q.hp=true->t.hp=true
 lk:q.hp=false->q.free=false->t.lk=true
 ld:t.ld=Ek takes q.o
 tk:t.tk=kK takes q.o
inductive L6(cx:Cx)(takes:cg):List Rec->List SR->Prop where
 |nil:L6 cx takes [] []
 |cons {q:Rec} {t:SR} {rs:List Rec} {ts:List SR} (h:L5 cx takes q t) (r:L6 cx takes rs ts):L6 cx takes (q::rs) (t::ts)
theorem ze1{rs:List Rec}{ts:List SR}(h:L6 cx takes rs ts):∀(es:List Edge),wB rs es=Oi ts es:=by
 have N0:∀j,maskAt rs j=sC ts j:=by
  intro j
  induction h with
  | nil=>rfl
  | cons a _ ih=>simp only[maskAt,sC,a.idx,a.m,ih]
 intro es
 induction es with
 | nil=>rfl
 | cons e es ih=>simp only[wB,Oi,N0,ih];rfl
theorem zhh{rs:List Rec}{ts:List SR}(h:L6 cx takes rs ts){f:Rec->Bool}{g:SR->Bool}(hfg:∀q t,L5 cx takes q t->g t=true->f q=true)(hg:kB g ts=true):kB f rs=true:=by
 induction h with
 | nil=>rfl
 | cons a _ ih =>
  simp only[kB] at hg ⊢;split at hg
  next h1=>rw[hfg _ _ a h1];exact ih hg
  ·cases hg
theorem wc{α:Type}{f:α->Bool}:∀{l:List α},(∀x∈l,f x=true)->kB f l=true
 | [],_=>rfl
 | y::l,h=>by simp only[kB,h y (eK ..)];exact wc λx hx=>h x (dU _ hx)
theorem yT{rs:List Rec}{ts:List SR}(h:L6 cx takes rs ts){g:SR->Bool}(hg:kB g ts=true):∀q∈rs,∃t,L5 cx takes q t/\g t=true:=by
 induction h with
 | nil=>intro q hq;simp at hq
 | cons a _ ih =>
  simp only[kB] at hg;split at hg<;>try (cases hg;done)
  rename_i h1;intro q hq;rcases dG.1 hq with rfl|hq
  ·exact⟨_,a,h1⟩
  ·exact ih hg q hq
theorem zM{H:Hp}{b:Nat}{x y:aY}(h:H.get b=some y):(H.push x).get b=some y:=by rw[wX,h]
theorem zit{P:aQ}{gl:Nat->Nat->b_}{H:Hp}{x:aY}{t:aB}{p v:V}(h:zk P H gl t p=some v):zk P (H.push x) gl t p=some v:=by
 cases p<;>simp only[zk] at h ⊢<;>first|exact h|skip
 ·rename_i b off;cases hb:H.get b with
  | none=>simp[hb] at h
  | some y=>rw[zM hb];simpa[hb] using h
 ·rename_i b u k;cases hb:H.get b with
  | none=>simp[hb] at h
  | some y=>rw[zM hb];simpa[hb] using h
theorem zkF{P:aQ}{H:Hp}{x:aY}{t:aB}{p:V}{v:Int}(h:qX P H t p=some v):qX P (H.push x) t p=some v:=by
 unfold qX at h ⊢;split at h<;>try (simp only[*];done)
 ·rename_i hu;split at h<;>try (cases h;done)
  rename_i es hb;simp only[zM hb];exact h
theorem ze2{o:Oper}(gx:Ek takes o=true){env:aD}{v:V}{D:Nat}{H:Hp}{x:aY}{lk:aO}{df:bP}(h:cx.eX takes o env v ⟨D,H,lk,df⟩=true):cx.eX takes o env v ⟨D,H.push x,lk,df⟩=true:=by
 obtain⟨dst,op,type,pos,after,guard⟩:=o;unfold Ek at gx;split at gx<;>try (cases gx;done)
 ·rename_i t a aC;simp only at aC;subst aC;cases dst with
  | none=>simp at gx
  | some d =>
   have ht:takes.any (Nat.beq d)=false:=by simpa using gx
   simp only[Cx.eX,Cx.ee,TZ ht] at h ⊢;cases hp:ak env a with
   | none=>simp[hp,iz] at h
   | some p =>
    cases hl:zk cx.P H cx.gl t p with
    | none=>simp[hp,hl,iz] at h
    | some u=>simpa[hp,hl,zit hl,iz] using h
 ·rename_i x0 t0 aC;simp only at aC;subst aC;have hh:∀H',cx.op takes ⟨dst,.call ⟨.builtin .len,#[x0],#[t0]⟩,type,pos,after,guard⟩ env H' lk df=iz env H' lk df (((ak env x0).bind (qX cx.P H' t0)).map (.int .i64)):=λH'=>kz;simp only[Cx.eX,Cx.ee] at h ⊢;rw[show(⟨[x0]⟩:sg)=#[x0] from rfl,show(⟨[t0]⟩:Array aB)=#[t0] from rfl] at *;rw[hh] at h ⊢;cases hp:ak env x0 with
  | none=>simp[hp,iz] at h
  | some p =>
   cases hl:qX cx.P H t0 p with
   | none=>simp[hp,hl,iz] at h
   | some u=>simpa[hp,hl,zkF hl,iz] using h
end
section
variable{cx:Cx}{takes:cg}{P:aQ}{gl:Nat->Nat->b_}{dst:fJ}{type:aB}{pos:String}{after:Array Edge}{guard:pI}{env:aD}{H:Hp}{lk:aO}{df:bP}
def Qk(P:aQ)(t:aB)(env:aD)(H:Hp)(lk:aO)(df:bP)(y x:b_):Option (OR×St):=do
 let .slice e <- P.underlying t|none
 let n <- z4 P e
 let i <- P.info? e
 let z <- i.zero
 let ys <- wA P H e (<- y)
 if !Nat.beq z.cells.size n || Nat.beq n 0 then none else
 match <- x with
 | .aG=>match ys with
  | []=>some (.val .aG,⟨env,H,lk,df⟩)
  | _=>if kx ys.length i.bytes then some (.val (.dB H.az.length 0 ys.length),⟨env,H.push (.ul 0 n (bY ys) e),lk,df⟩) else none
 | .dB b u len=>match H.get b with
  | some (.ul eI sz cs e') =>
   if Nat.beq e e' && Nat.beq n sz && Nat.beq eI u && kx (len+ys.length) i.bytes then
    some (.val (.dB b (eI+1) (len+ys.length)),⟨env,(H.set b (.ul (eI+1) sz (cs++bY ys) e)).bQ b (.br ys),lk,df⟩)
   else none
  | _=>none
 | .sr b off len cap=>match H.get b with
  | some (.cells cs ty) =>
   if Nat.beq off 0 && Nat.beq n 1 && Nat.beq ty e && Nat.beq ((bY ys).map aV).length ys.length && Nat.ble (len+ys.length) cap && Nat.ble (len+ys.length) cs.length && wz lk b len ys.length (cs.drop len) then
    some (.val (.sr b 0 (len+ys.length) cap),⟨env,(H.set b (.cells (storeCells cs len ((bY ys).map aV)) ty)).bQ b (.br ((bY ys).map aV)),lk,df⟩)
   else match wA P H e (.sr b off len cap) with
    | some xs =>
     if Nat.beq xs.length len && Nat.ble 1 len && Nat.ble (cap+1) (len+ys.length) && kx (len+ys.length) i.bytes then
      some (.val (.dB H.az.length 0 (len+ys.length)),⟨env,H.push (.ul 0 n (bY xs++bY ys) e),lk,df⟩)
     else none
    | none=>none
  | _=>none
 | _=>none
theorem XE{x y:aW}{t:aB}(hu:p_ cx.P cx.uq t=true):cx.op takes ⟨dst,.call ⟨.builtin .append,#[x,y],#[t,t]⟩,type,pos,after,guard⟩ env H lk df=Qk cx.P t env H lk df (ak env y) (ak env x):=by
 simp only[Cx.op,hu,lK,aF];simp only[Cx.mU,Qk,c_,qA,qn,jd]
 congr 1
theorem znX{t e n:Nat}{i:TypeInfo}{z:bt}(h1:P.underlying t=some (.slice e))(h2:z4 P e=some n)(h3:P.info? e=some i)(h4:i.zero=some z)(h5:z.cells.size=n)(h6:n≠0){xs:aD}{o:uN}{x:b_} :
  Qk P t env H lk df (some (.sl n xs o)) x=match x with
   | some .aG=>(match xs with
    | []=>some (.val .aG,⟨env,H,lk,df⟩)
    | _=>if kx xs.length i.bytes then some (.val (.dB H.az.length 0 xs.length),⟨env,H.push (.ul 0 n (bY xs) e),lk,df⟩) else none)
   | some (.dB b u len)=>(match H.get b with
    | some (.ul eI sz cs e')=>if (e=e'/\n=sz/\eI=u/\kx (len+xs.length) i.bytes=true) then
      some (.val (.dB b (eI+1) (len+xs.length)),⟨env,(H.set b (.ul (eI+1) sz (cs++bY xs) e)).bQ b (.br xs),lk,df⟩) else none
    | _=>none)
   | some (.sr b off len cap)=>(match H.get b with
    | some (.cells cs ty)=>if Nat.beq off 0 && Nat.beq n 1 && Nat.beq ty e && Nat.beq ((bY xs).map aV).length xs.length && Nat.ble (len+xs.length) cap && Nat.ble (len+xs.length) cs.length && wz lk b len xs.length (cs.drop len) then
      some (.val (.sr b 0 (len+xs.length) cap),⟨env,(H.set b (.cells (storeCells cs len ((bY xs).map aV)) ty)).bQ b (.br ((bY xs).map aV)),lk,df⟩) else match wA P H e (.sr b off len cap) with
       | some zs=>if Nat.beq zs.length len && Nat.ble 1 len && Nat.ble (cap+1) (len+xs.length) && kx (len+xs.length) i.bytes then
         some (.val (.dB H.az.length 0 (len+xs.length)),⟨env,H.push (.ul 0 n (bY zs++bY xs) e),lk,df⟩) else none
       | none=>none
    | _=>none)
   | _=>none:=by
 have h7:(!Nat.beq z.cells.size n || Nat.beq n 0)=false:=by
  rw[h5];cases n with
  | zero=>exact absurd rfl h6
  | succ n=>simp[Nat.beq]
 simp only[Qk,h1,h2,h3,h4,wA,Option.bind_eq_bind,aT,h7,aF,fR,bw];cases x with
 | none=>rfl
 | some v =>
  cases v<;>try rfl
  rename_i b u len;simp only[aT];cases H.get b with
  | none=>rfl
  | some y =>
   cases y<;>try rfl
   rename_i eI sz cs e';simp only[d_,Nat.beq_eq,and_assoc]
def Oj(P:aQ)(t:aB)(env:aD)(H:Hp)(lk:aO)(df:bP):b_->Option b_->Option b_->Option (OR×St)
 | some (.dB b u len),some none,some (some (.int _ h))=>match P.underlying t,H.get b with
  | some (.slice e'),some (.ul eI sz cs e)=>match z4 P e' with
   | some _=>if eI=u/\0<=h/\h.toNat<=len then some (.val (.dB b (eI+1) h.toNat),⟨env,(H.set b (.ul (eI+1) sz (cs.take (h.toNat * sz)) e)).bQ b .fT,lk,df⟩) else none
   | none=>none
  | _,_=>none
 | some (.sr b off len cap),some lo,some hi=>match yX P t (.sr b off len cap) lo hi with
  | some v=>some (.val v,⟨env,H,lk,df⟩)
  | none=>none
 | _,_,_=>none
theorem ze3{x:aW}{hi:Option aW}:xA takes x none hi=false:=by cases x<;>rfl
theorem zdN{x:aW}{t:aB}{lo hi:Option aW}(hu:p_ cx.P cx.uq t=true)(hf:xA takes x lo hi=false):cx.op takes ⟨dst,.slice t x lo hi none,type,pos,after,guard⟩ env H lk df=Oj cx.P t env H lk df (ak env x) (cQ env lo) (cQ env hi):=by
 simp only[Cx.op,hf,hu];simp only[Cx.oK,eC,qA,jd];unfold Oj;cases hx:ak env x with
 | none=>split<;>simp_all
 | some v =>
  by_cases TE:∃b off len cap,v=.sr b off len cap
  ·obtain⟨b,off,len,cap,rfl⟩:=TE;cases cQ env lo with
   | none=>split<;>simp_all
   | some lo=>cases cQ env hi with
    | none=>split<;>simp_all
    | some hi=>cases cx.P.underlying t with
     | none=>rfl
     | some d=>cases d<;>rfl
  cases v<;>(try (split<;>simp_all;done))
  rename_i b u len;cases hl:cQ env lo with
  | none=>split<;>simp_all
  | some l =>
   cases l with
   | some l=>split<;>simp_all
   | none =>
    cases hh:cQ env hi with
    | none=>split<;>simp_all
    | some h =>
     cases h with
     | none=>split<;>simp_all
     | some h =>
      cases h<;>(try (split<;>simp_all;done))
      rename_i k h;cases hP:cx.P.underlying t with
      | none=>simp
      | some d =>
       cases d<;>simp only<;>try rfl
       rename_i e';cases H.get b with
       | none=>simp
       | some y =>
        cases y<;>simp only<;>try (cases z4 cx.P e'<;>rfl)
        rename_i eI sz cs e;cases z4 cx.P e' with
        | none=>rfl
        | some m=>simp only[d_,Nat.beq_eq,decide_eq_true_eq,Nat.ble_eq,and_assoc]
def qr(P:aQ)(t:aB)(H:Hp)(lk:aO)(df:bP)(x:Option (V×aD)):b_->Option (OR×St)
 | some (.ptr b off)=>match z4 P t with
  | some n=>Qi n H lk df (some (.ptr b off)) x
  | none=>none
 | some (.gh b u k)=>match x,z4 P t,H.get b with
  | some (x,env),some n,some (.ul eI sz cs e)=>if eI=u/\dz (aV x)=true/\(aV x).cells.length=n/\k+n<=cs.length then
    some (.skip,⟨env,(H.set b (.ul eI sz (storeCells cs k (aV x).cells) e)).bQ b (aV x),lk,df⟩) else none
  | _,_,_=>none
 | _=>none
theorem zU{t:aB}{a x:aW}:cx.op takes ⟨dst,.store t a x,type,pos,after,guard⟩ env H lk df=qr cx.P t H lk df (take env x) (ak env a):=by
 cases ha:ak env a with
 | none=>simp[Cx.op,ha,qr]
 | some p =>
  cases p<;>try (simp[Cx.op,ha,qr];done)
  ·rename_i b off;cases hn:z4 cx.P t with
   | none =>
    simp only[Cx.op,ha,hn,qr];cases take env x<;>rfl
   | some n =>
    rw[zlV hn (λ_ _ _=>by rw[ha];simp)]
    simp only[qr,hn,ha]
  ·rename_i b u k;simp only[Cx.op,ha,qr,qp,eC,jd];cases take env x with
   | none=>rfl
   | some q =>
    obtain⟨x,cW⟩:=q;cases z4 cx.P t with
    | none=>rfl
    | some n =>
     cases H.get b with
     | none=>rfl
     | some y =>
      cases y<;>try rfl
      simp only[d_,Nat.beq_eq,Nat.ble_eq,and_assoc]
def vU(P:aQ)(t:aB)(env:aD)(H:Hp)(lk:aO)(df:bP):b_->Option (OR×St)
 | some (.ptr b off)=>match qz P t with
  | some false=>match H.get b with
   | some (.cells cs ty)=>match nth cs off with
    | some (.sl sz xs (.yes e))=>some (.val (.sl sz xs (.yes e)),⟨env,(H.set b (.cells (cs.set off (.sl sz xs .lock)) ty)).bQ b .fT,(b,off)::lk,df⟩)
    | some .aG=>some (.val .aG,⟨env,H,lk,df⟩)
    | some (.dB c u n)=>some (.val (.dB c u n),⟨env,H,lk,df⟩)
    | _=>none
   | _=>none
  | _=>none
 | _=>none
theorem xn{d:Tmp}{t:aB}{a:aW}(h:takes.any (Nat.beq d)=true):cx.op takes ⟨some d,.load t a,type,pos,after,guard⟩ env H lk df=vU cx.P t env H lk df (ak env a):=by
 simp only[Cx.op,h,fm,jd];unfold vU;cases ha:ak env a with
 | none=>cases qz cx.P t with
  | none=>rfl
  | some b=>cases b<;>rfl
 | some p =>
  cases p<;>cases qz cx.P t<;>(try rfl)<;>rename_i g<;>cases g<;>rfl
def T9(t:aB)(env:aD)(H:Hp)(lk:aO)(df:bP):b_->Option (OR×St)
 | some z=>if dz z=true then some (.val (.ptr H.az.length 0),⟨env,H.push (.cells z.cells t),lk,df⟩) else none
 | none=>none
theorem qO{t:aB}:cx.op takes ⟨dst,.alloc t,type,pos,after,guard⟩ env H lk df=T9 t env H lk df (qP cx.P t):=by
 simp only[Cx.op,T9];cases qP cx.P t with
 | none=>rfl
 | some z=>cases hz:dz z<;>simp[qp,qn,hz]
theorem zJ{t:aB}{z:V}(h:dz z=true):T9 t env H lk df (some z)=some (.val (.ptr H.az.length 0),⟨env,H.push (.cells z.cells t),lk,df⟩):=by simp[T9,h]
theorem zqL{d t:Nat}(h:d≠t):[t].any (Nat.beq d)=false:=by
 cases hb:Nat.beq d t with
 | false=>simp[hb]
 | true=>exact absurd (eG hb) h
theorem jz{t d:Tmp}{x:aW}(h:d≠t):cx.op [t] ⟨some d,.move x,type,pos,after,guard⟩ env H lk df=iz env H lk df (ak env x):=zjp (zqL h)
theorem jA{t d:Tmp}{ty:aB}{a:aW}(h:d≠t):cx.op [t] ⟨some d,.load ty a,type,pos,after,guard⟩ env H lk df=iz env H lk df (((ak env a).bind (zk cx.P H cx.gl ty)).map aV):=TZ (zqL h)
theorem jp{d:Tmp}{t:aB}{a:aW}:cx.op [d] ⟨some d,.load t a,type,pos,after,guard⟩ env H lk df=vU cx.P t env H lk df (ak env a):=xn (by simp)
theorem jq{d:Tmp}{x:aW}:cx.op [d] ⟨some d,.move x,type,pos,after,guard⟩ env H lk df=TY H lk df (take env x):=zlS (by simp)
def Ql(P:aQ)(t:aB):b_->b_
 | some v=>match P.underlying t with
  | some (.slice e)=>match z4 P e,qP P e with
   | some n,some z=>if n≠0/\n<=16777216/\z.cells.length=n/\dz z=true/\dz v=true/\v.cells.length=n then some (.sl n [v] (.yes e)) else none
   | _,_=>none
  | _=>none
 | none=>none
theorem jO{t:aB}{x:aW}:cx.op takes ⟨dst,.buildSlice t 1 #[(0,x)],type,pos,after,guard⟩ env H lk df=iz env H lk df (Ql cx.P t (ak env x)):=by
 simp only[Cx.op];refine vS ?_;simp only[je,Ql];cases h1:cx.P.underlying t with
 | none=>cases ak env x<;>rfl
 | some d =>
  cases d<;>(try (cases ak env x<;>rfl))
  rename_i e;cases h2:z4 cx.P e with
  | none=>cases ak env x<;>simp[h2]
  | some n =>
   cases h3:qP cx.P e with
   | none=>cases ak env x<;>simp[h2,h3]
   | some z =>
    simp only[h2,h3,Option.bind_eq_bind,aT];cases hx:ak env x with
    | none=>simp[EJ,hx]
    | some v =>
     simp only[EJ,hx,Option.bind_eq_bind,aT,qp,fm,Nat.one_mul]
     by_cases c0:n=0
     ·subst c0;simp[Nat.beq]
     ·have Ol:Nat.beq n 0=false:=by cases n with
       | zero=>exact absurd rfl c0
       | succ n=>rfl
      by_cases c1:n<=16777216
      ·have nw:Nat.blt 16777216 n=false:=by
        cases hb:Nat.blt 16777216 n with
        | false=>rfl
        | true=>have:=r_ hb;omega
       by_cases c2:z.cells.length=n
       ·cases c3:dz z with
        | false=>simp[Ol,nw,c2]
        | true =>
         cases c4:dz v with
         | false=>simp[Ol,nw,c2]
         | true =>
          by_cases c5:v.cells.length=n
          ·simp[Ol,c2,c5,c0,c1,Nat.blt];omega
          ·simp[Ol,nw,c2,c5]
       ·simp[Ol,nw,c2]
      ·have nw:Nat.blt 16777216 n=true:=K3 (by omega)
       simp[Ol,nw,c1]
theorem znZ{P:aQ}{t e n:Nat}{z v:V}(h1:P.underlying t=some (.slice e))(h2:z4 P e=some n)(h3:qP P e=some z)(h4:(n≠0/\n<=16777216/\z.cells.length=n/\dz z=true))(h5:dz v=true)(h6:v.cells.length=n):Ql P t (some v)=some (.sl n [v] (.yes e)):=by
 obtain⟨a,b,c,d⟩:=h4;simp[Ql,h1,h2,h3,a,b,c,d,h5,h6]
end
section
variable{cx:Cx}{all:Array Oper}{takes:cg}
def IP(c:ew)(s:St):Prop :=
 (c.H=s.H/\c.lk=s.lk/\c.df=s.defers)\/∃b off cs ty sz xs e,c.H.get b=some (.cells cs ty)/\nth cs off=some (.sl sz xs (.yes e))/\s.H=(c.H.set b (.cells (cs.set off (.sl sz xs .lock)) ty)).bQ b .fT/\s.lk=(b,off)::c.lk/\s.defers=c.df
theorem zju{o:Oper}(h:kK takes o=true){env:aD}{H:Hp}{lk:aO}{df:bP}{v:V}{D:Nat}{s1:St}(aC:cx.op takes o env H lk df=some (.val v,s1)):IP ⟨D,H,lk,df⟩ s1:=by
 obtain⟨dst,op,type,pos,after,guard⟩:=o;unfold kK at h;split at h<;>try (cases h;done)
 rename_i t a lu;simp only at lu;subst lu;cases dst with
 | none=>cases h
 | some d =>
  simp only at h;rw[xn h] at aC;unfold vU at aC;split at aC<;>try (cases aC;done)
  split at aC<;>try (cases aC;done)
  split at aC<;>try (cases aC;done)
  rename_i cs ty hb;split at aC<;>try (cases aC;done)
  next sz xs e hn=>cases aC;exact .inr ⟨_,_,cs,ty,sz,xs,e,hb,hn,rfl,rfl,rfl⟩
  ·cases aC;exact .inl ⟨rfl,rfl,rfl⟩
  ·cases aC;exact .inl ⟨rfl,rfl,rfl⟩
theorem zkH{P:aQ}{c:ew}{s:St}(h:IP c s){t:aB}{p:V}{v:Int}(hl:qX P s.H t p=some v):qX P c.H t p=some v:=by
 rcases h with⟨h,_⟩|⟨b,off,cs,ty,sz,xs,e,hb,hn,hs,_⟩
 ·rw[h];exact hl
 ·unfold qX at hl ⊢;split at hl<;>try (simp only[*];done)
  rename_i m hu;split at hl<;>try (cases hl;done)
  rename_i es hm;rw[hs,bU,jy] at hm;split at hm<;>try (cases hm;done)
  rename_i y hy;split at hm
  ·cases hm
  ·cases hm;simp only[hy];exact hl
theorem ziu{P:aQ}{gl:Nat->Nat->b_}{c:ew}{s:St}(h:IP c s){t:aB}{p u:V}(hk:qz P t=some false\/∀b off,p=.ptr b off->s.lk.all (λq=>!(Nat.beq q.1 b))=true)(hl:zk P s.H gl t p=some u):∃u',zk P c.H gl t p=some u'/\aV u'=aV u:=by
 rcases h with⟨h,_⟩|⟨b,off,cs,ty,sz,xs,e,hb,hn,hs,q_,_⟩
 ·rw[h];exact⟨u,hl,rfl⟩
 ·cases p<;>(try (exact⟨u,hl,rfl⟩))
  ·rename_i b' off';simp only[zk,hs,bU,jy] at hl ⊢
   by_cases Lw:b'=b
   ·subst Lw;rcases hk with hk|hk
    ·simp only[hb,aF,Option.bind_eq_bind,aT,wg,hk] at hl ⊢;rw[zg,List.getElem?_set'] at hl
     by_cases ho:off=off'
     ·subst ho;rw[zg] at hn;simp only[aF,hn,aS,Function.const,Option.map_eq_map] at hl;cases hl;exact⟨.sl sz xs (.yes e),by simp[zg,hn],rfl⟩
     ·rw[if_neg ho] at hl;exact⟨u,by rw[zg];exact hl,rfl⟩
    ·have:=hk b' off' rfl;rw[q_] at this;simp at this
   ·cases hg:c.H.get b' with
    | none=>simp[hg] at hl
    | some y=>simp only[hg,if_neg Lw] at hl;exact⟨u,by simpa[hg] using hl,rfl⟩
  ·rename_i b' u' k;simp only[zk,hs,bU,jy] at hl ⊢
   by_cases Lw:b'=b
   ·subst Lw;simp[hb] at hl
   ·cases hg:c.H.get b' with
    | none=>simp[hg] at hl
    | some y=>simp only[hg,if_neg Lw] at hl;exact⟨u,by simpa[hg] using hl,rfl⟩
theorem ze4{o:Oper}(gx:Ek takes o=true){env:aD}{v:V}{c:ew}{s s1:St}(hL:IP c s)(hk:au cx o env s.lk=true)(aC:cx.op takes o env s.H s.lk s.defers=some (.val v,s1)):cx.eX takes o env v c=true:=by
 obtain⟨dst,op,type,pos,after,guard⟩:=o;unfold Ek at gx;split at gx<;>try (cases gx;done)
 ·rename_i t a lu;simp only at lu;subst lu;cases dst with
  | none=>simp at gx
  | some d =>
   have ht:takes.any (Nat.beq d)=false:=by simpa using gx
   simp only[Cx.eX,Cx.ee,TZ ht] at aC ⊢;cases hp:ak env a with
   | none=>simp[hp,iz] at aC
   | some p =>
    cases hl:zk cx.P s.H cx.gl t p with
    | none=>simp[hp,hl,iz] at aC
    | some u =>
     obtain⟨u',h1,h2⟩:=ziu hL (by
      simp only[au] at hk;split at hk
      next h=>exact .inl h
      ·refine .inr λb off e=>?_;rw[hp,e] at hk
       exact hk) hl
     simp only[hp,hl,iz,aT,aS,bq,cq,OR.val.injEq] at aC;simp only[aT,h1,aS,iz,h2,aC.1,V.dh]
 ·rename_i x0 t0 lu;simp only at lu;subst lu;have hh:∀H' Iv Iw,cx.op takes ⟨dst,.call ⟨.builtin .len,#[x0],#[t0]⟩,type,pos,after,guard⟩ env H' Iv Iw=iz env H' Iv Iw (((ak env x0).bind (qX cx.P H' t0)).map (.int .i64)):=λH' Iv Iw=>kz;rw[show(⟨[x0]⟩:sg)=#[x0] from rfl,show(⟨[t0]⟩:Array aB)=#[t0] from rfl,hh] at aC;simp only[Cx.eX,Cx.ee]
  rw[show(⟨[x0]⟩:sg)=#[x0] from rfl,show(⟨[t0]⟩:Array aB)=#[t0] from rfl,hh];cases hp:ak env x0 with
  | none=>simp[hp,iz] at aC
  | some p =>
   cases hl:qX cx.P s.H t0 p with
   | none=>simp[hp,hl,iz] at aC
   | some u =>
    simp only[hp,hl,iz,aT,aS,bq,cq,OR.val.injEq] at aC;simp only[aT,zkH hL hl,aS,iz,aC.1,V.dh]
structure T_(cx:Cx)(takes:cg)(i:Nat)(rs:List Rec)(ts:List SR)(c0:ew)(rest:List ew)(s:St):Prop where
 pr:L6 cx takes rs ts
 lt:∀q∈rs,q.idx<i
 cD:∀b,bit c0.D b=true ↔ ∃q∈rs,q.hp=true/\q.idx=b
 c0:c0.H=s.H/\c0.lk=s.lk/\c0.df=s.defers
 rD:∀c∈rest,∀b,bit c.D b=true->∃q∈rs,q.idx=b
 rest:∀c∈rest,(∃q∈rs,q.hp=true/\kK takes q.o=false/\bit c.D q.idx=false)\/((∃q∈rs,q.hp=true/\kK takes q.o=true/\bit c.D q.idx=false)/\IP c s)
 IQ:∀q∈rs,q.hp=false->q.free=false->(∃c∈rs,c.hp=true/\bit c.m q.idx=true)\/(∀D,cx.eX takes q.o q.env q.v ⟨D,s.H,s.lk,s.defers⟩=true)
theorem zjv{rs:List Rec}{c0 c1:ew}{rest:List ew}{r:Rec}{k:List ew->Option (Ex×St)}
  (lR:r.hp=true->∀c∈rest,vN (Nat.land r.m (eJ rs)) c.D=false)
  (sW:r.hp=false->r.free=false->∀c∈rest,vN (Nat.land r.m (eJ rs)) c.D=false\/cx.eX takes r.o r.env r.v c=true)
  (nu:∀b,(∃q∈rs,q.hp=true/\q.idx=b)->bit c1.D b=true)
  (oB:r.hp=true->∀q∈rs,q.hp=false->q.free=false->bit r.m q.idx=true\/(∃c∈rs,c.hp=true/\bit c.m q.idx=true)\/cx.eX takes q.o q.env q.v c1=true) :
  cx.fN takes rs r c0 c1 rest k=k (bif r.hp then c1::c0::rest else c0::rest):=by
 unfold Cx.fN;cases hh:r.hp with
 | false =>
  have:(r.free || kB (λc=>match vN (Nat.land r.m (eJ rs)) c.D with|true=>cx.eX takes r.o r.env r.v c|false=>true) rest)=true:=by
   cases hf:r.free with
   | true=>rfl
   | false =>
    simp only[uM];exact wc λc hc=>by
     rcases sW hh hf c hc with h|h
     ·simp only[h]
     ·split
      ·exact h
      ·rfl
  show(match r.free || kB (λc=>match vN (Nat.land r.m (eJ rs)) c.D with|true=>cx.eX takes r.o r.env r.v c|false=>true) rest with|true=>k (c0::rest)|false=>none)=k (c0::rest)
  rw[this]
 | true =>
  simp only[mS];have cw:∀l:List ew,(∀c∈l,vN (Nat.land r.m (eJ rs)) c.D=false)->cx.iA takes r.o r.env r.v (Nat.land r.m (eJ rs)) (Nat.pow 2 r.idx) l=some []:=by
   intro l
   induction l with
   | nil=>intro _;rfl
   | cons c l ih=>intro h;simp only[Cx.iA,h c (eK ..)];exact ih λc hc=>h c (dU _ hc)
  rw[cw rest (lR hh)];have dX:cx.fM takes rs (eJ rs) r (c1::c0::rest) c1=true:=by
   unfold Cx.fM;refine wc λq hq=>?_;split
   ·rfl
   ·cases l6:q.hp with
    | true =>
     simp only;rw[nu q.idx ⟨q,hq,l6,rfl⟩]
    | false =>
     simp only;cases pE:q.free with
     | true=>rfl
     | false =>
      rcases oB hh q hq l6 pE with h|⟨c,hc,h1,h2⟩|h
      ·simp[h]
      ·have:Lf c1.D q rs=true:=by
        have hx:∀l:List Rec,c∈l->Lf c1.D q l=true:=by
         intro l
         induction l with
         | nil=>intro h;simp at h
         | cons d l ih =>
          intro h;simp only[Lf,p7,d_];rcases dG.1 h with rfl|h
          ·exact .inl ⟨⟨h1,nu _ ⟨c,hc,h1,rfl⟩⟩,h2⟩
          ·exact .inr (ih h)
        exact hx rs hc
       simp[this]
      ·simp[h]
  have Qm:cx.fM takes rs (eJ rs) r ([c1]++c0::rest) c1=true:=dX;simp only[kB,Qm];rfl
theorem zhi{o:Oper}(h:vI o=true){env:aD}{H:Hp}{lk:aO}{df:bP}{v:V}{s1:St}(aC:cx.op takes o env H lk df=some (.val v,s1)):∃x,s1=⟨env,H.push x,lk,df⟩:=by
 obtain⟨dst,op,type,pos,after,guard⟩:=o;unfold vI at h;split at h<;>try (cases h;done)
 rename_i t lu;simp only at lu;subst lu;simp only[Cx.op] at aC;split at aC<;>try (cases aC;done)
 split at aC<;>try (cases aC;done)
 simp only[qp,qn,bq,cq] at aC;exact⟨_,aC.2.symm⟩
theorem XF{s':St}:∀(os:List Oper)(i:Nat)(rs:List Rec)(ts:List SR)(c0:ew)(rest:List ew)(s:St),T_ cx takes i rs ts c0 rest s->J' cx.P cx.uq all takes i ts os=true->cx.rC all takes os s=some s'->cx.eN all takes i rs (c0::rest) os s=some (.normal,s')
 | [],i,rs,ts,c0,rest,s,_,_,hc=>by
  simp only[Cx.rC,bq] at hc;simp only[Cx.eN,hc]
 | o::os,i,rs,ts,c0,rest,⟨env,H,lk,df⟩,hI,eZ,hc=>by
  simp only[J'] at eZ;split at eZ<;>try (cases eZ;done)
  rename_i m hm;simp only[d_] at eZ;obtain⟨⟨mq,IE⟩,L7,eZ⟩:=eZ;have sX:∀(hp free:Bool)(v:V),kB (kw ⟨i,o,m,m8 takes o,Nat.lor (m8 takes o) (ug all o),hp,free,env,v⟩) rs=true:=λhp free v =>
   zhh hI.pr (λq t uk hg=>by simp only[T8] at hg;simp only[kw,uk.idx,uk.tm,uk.lm];exact hg) IE
  have key:∀(hp free:Bool)(v:V)(H1:Hp)(eB:aO)(eA:bP)(cK:aD),
    (hp=true->q9 cx.P cx.uq takes o=true)->(hp=false->free=false->kV cx.P cx.uq o=true) ->
    (hp=false->H1=H/\eB=lk/\eA=df)->(hp=false->free=false->∀D,cx.eX takes o env v ⟨D,H,lk,df⟩=true) ->
    (hp=true->vI o=true->∃x,H1=H.push x/\eB=lk/\eA=df) ->
    (hp=true->kK takes o=true->∀D,IP ⟨D,H,lk,df⟩ ⟨cK,H1,eB,eA⟩) ->
    (hp=false->free=false->Ek takes o=true->∀c,IP c ⟨env,H,lk,df⟩->cx.eX takes o env v c=true) ->
    cx.rC all takes os ⟨cK,H1,eB,eA⟩=some s' ->
    (match kB (kw ⟨i,o,m,m8 takes o,Nat.lor (m8 takes o) (ug all o),hp,free,env,v⟩) rs,c0::rest with
     | true,c0::cs=>cx.fN takes rs ⟨i,o,m,m8 takes o,Nat.lor (m8 takes o) (ug all o),hp,free,env,v⟩ c0 ⟨Nat.lor c0.D (Nat.pow 2 i),H1,eB,eA⟩ cs λcs =>
      cx.eN all takes (i+1) (⟨i,o,m,m8 takes o,Nat.lor (m8 takes o) (ug all o),hp,free,env,v⟩::rs) cs os ⟨cK,H1,eB,eA⟩
     | _,_=>none)=some (.normal,s'):=by
   intro hp free v H1 eB eA cK h1 h2 h3 h4 h5 XG XH h6;rw[sX];simp only;have bR:∀q∈rs,q.idx≠i:=λq hq e=>by have:=hI.lt q hq;omega
   have nu:∀b,(∃q∈rs,q.hp=true/\q.idx=b)->bit (Nat.lor c0.D (Nat.pow 2 i)) b=true:=λb hb=>by rw[vf,(hI.cD b).2 hb];rfl
   have Bq:=yT hI.pr L7;have oB:hp=true->∀q∈rs,q.hp=false->q.free=false->bit m q.idx=true\/(∃c∈rs,c.hp=true/\bit c.m q.idx=true)\/∀D,cx.eX takes q.o q.env q.v ⟨D,H1,eB,eA⟩=true:=λhr q hq l6 pE=>by
    obtain⟨t,ht,hg⟩:=Bq q hq;simp only[XD] at hg;split at hg
    next hb=>exact .inl (by rw[ht.idx];exact hb)
    ·rw[h1 hr,ht.lk l6 pE] at hg;simp only[tP,mo,uM,d_] at hg;obtain⟨_,sQ,gx⟩:=hg;rcases hI.IQ q hq l6 pE with h|h
     ·exact .inr (.inl h)
     ·obtain⟨x,e1,e2,e3⟩:=h5 hr sQ;subst e1 e2 e3;rw[ht.ld] at gx;exact .inr (.inr λD=>ze2 gx (h D))
   have FG:kK takes o=true->∀q∈rs,kK takes q.o=false:=λht q hq=>by
    rw[ht] at mq;simp only[mo,uM] at mq;obtain⟨t,h7,h8⟩:=yT hI.pr mq q hq;rw[<- h7.tk];simpa using h8
   have iE:(hp=true\/(hp=false/\free=false))->∀q∈rs,q.hp=true->bit m q.idx=true\/(hp=false/\kK takes q.o=true/\Ek takes o=true):=λhr q hq l6=>by
    obtain⟨t,ht,hg⟩:=Bq q hq;simp only[XD] at hg;split at hg
    next hb=>exact .inl (by rw[ht.idx];exact hb)
    ·rw[ht.hp l6] at hg;simp only[Bool.and_true,tP,d_,Dd] at hg;obtain⟨⟨g1,g2⟩,_⟩:=hg;rcases hr with hr|⟨hr,hf⟩
     ·rw[h1 hr] at g1;cases g1
     ·rw[h2 hr hf] at g2;simp only[mo,uM,d_] at g2;exact .inr ⟨hr,by rw[<- ht.tk];exact g2.1,g2.2⟩
   have sZ:∀c:ew,(∃q∈rs,q.hp=true/\bit m q.idx=true/\bit c.D q.idx=false)->vN (Nat.land m (eJ rs)) c.D=false:=λc hc=>by
    obtain⟨q,hq,e1,e2,e3⟩:=hc;cases hs:vN (Nat.land m (eJ rs)) c.D with
    | false=>rfl
    | true =>
     have:=rA.1 hs q.idx (by rw[N8,e2,lp.2 ⟨q,hq,e1,rfl⟩];rfl)
     rw[this] at e3;cases e3
   have Qn:∀c:ew,(∀b,bit c.D b=true->∃q∈rs,q.idx=b)->bit c.D i=false:=λc hc=>by
    cases hb:bit c.D i with
    | false=>rfl
    | true =>
     obtain⟨q,hq,e⟩:=hc i hb;exact absurd e (bR q hq)
   rw[zjv (r:=⟨i,o,m,m8 takes o,Nat.lor (m8 takes o) (ug all o),hp,free,env,v⟩) ?_ ?_ nu ?_]
   ·have FH:T_ cx takes (i+1) (⟨i,o,m,m8 takes o,Nat.lor (m8 takes o) (ug all o),hp,free,env,v⟩::rs) (⟨i,m,m8 takes o,Nat.lor (m8 takes o) (ug all o),q9 cx.P cx.uq takes o,kV cx.P cx.uq o,vI o,Ek takes o,kK takes o⟩::ts)
      (bif hp then ⟨Nat.lor c0.D (Nat.pow 2 i),H1,eB,eA⟩ else c0) (bif hp then c0::rest else rest) ⟨cK,H1,eB,eA⟩:=by
     refine⟨.cons ⟨rfl,rfl,rfl,rfl,h1,h2,rfl,rfl⟩ hI.pr,?_,?_,?_,?_,?_,?_⟩
     ·intro q hq;rcases dG.1 hq with rfl|hq
      ·exact HW _
      ·have:=hI.lt q hq;omega
     ·intro b;cases hp with
      | false =>
       simp only[oJ];rw[hI.cD];constructor
       ·rintro⟨q,hq,e⟩;exact⟨q,dU _ hq,e⟩
       ·rintro⟨q,hq,e1,e2⟩;rcases dG.1 hq with rfl|hq
        ·cases e1
        ·exact⟨q,hq,e1,e2⟩
      | true =>
       simp only[mS];rw[vf,p7,hI.cD,yc,decide_eq_true_eq];constructor
       ·rintro(⟨q,hq,e⟩|rfl)
        ·exact⟨q,dU _ hq,e⟩
        ·exact⟨_,eK ..,rfl,rfl⟩
       ·rintro⟨q,hq,e1,e2⟩;rcases dG.1 hq with rfl|hq
        ·exact .inr e2
        ·exact .inl ⟨q,hq,e1,e2⟩
     ·cases hp with
      | false=>obtain⟨e1,e2,e3⟩:=h3 rfl;subst e1 e2 e3;exact hI.c0
      | true=>exact⟨rfl,rfl,rfl⟩
     ·intro c ei b hb;cases hp with
      | false=>obtain⟨q,hq,e⟩:=hI.rD c ei b hb;exact⟨q,dU _ hq,e⟩
      | true =>
       rcases dG.1 ei with rfl|ei
       ·obtain⟨q,hq,_,e⟩:=(hI.cD b).1 hb;exact⟨q,dU _ hq,e⟩
       ·obtain⟨q,hq,e⟩:=hI.rD c ei b hb;exact⟨q,dU _ hq,e⟩
     ·intro c ei;cases hp with
      | false =>
       obtain⟨e1,e2,e3⟩:=h3 rfl;subst e1 e2 e3;rcases hI.rest c ei with⟨q,hq,e⟩|⟨⟨q,hq,e⟩,hL⟩
       ·exact .inl ⟨q,dU _ hq,e⟩
       ·exact .inr ⟨⟨q,dU _ hq,e⟩,hL⟩
      | true =>
       have FI:bit c0.D i=false:=Qn c0 λb hb=>by obtain⟨q,hq,_,e⟩:=(hI.cD b).1 hb;exact⟨q,hq,e⟩
       cases Ai:kK takes o with
       | false =>
        rcases dG.1 ei with rfl|ei
        ·exact .inl ⟨_,eK ..,rfl,Ai,FI⟩
        ·exact .inl ⟨_,eK ..,rfl,Ai,Qn c (hI.rD c ei)⟩
       | true =>
        rcases dG.1 ei with rfl|ei
        ·refine .inr ⟨⟨_,eK ..,rfl,Ai,FI⟩,?_⟩;obtain⟨D0,H0,Hh,df0⟩:=c;obtain⟨e1,e2,e3⟩:=hI.c0;simp only at e1 e2 e3;subst e1 e2 e3;exact XG rfl Ai D0
        ·rcases hI.rest c ei with⟨q,hq,e⟩|⟨⟨q,hq,e1,e2,_⟩,_⟩
         ·exact .inl ⟨q,dU _ hq,e⟩
         ·rw[FG Ai q hq] at e2;cases e2
     ·intro q hq l6 pE;rcases dG.1 hq with rfl|CO
      ·obtain⟨e1,e2,e3⟩:=h3 l6;subst e1 e2 e3;exact .inr (h4 l6 pE)
      ·clear hq;cases hp with
       | false =>
        obtain⟨e1,e2,e3⟩:=h3 rfl;subst e1 e2 e3;rcases hI.IQ q CO l6 pE with⟨c,hc,e⟩|h
        ·exact .inl ⟨c,dU _ hc,e⟩
        ·exact .inr h
       | true =>
        rcases oB rfl q CO l6 pE with h|⟨c,hc,e⟩|h
        ·exact .inl ⟨_,eK ..,rfl,h⟩
        ·exact .inl ⟨c,dU _ hc,e⟩
        ·exact .inr h
    have:=XF os _ _ _ _ _ _ FH eZ h6;cases hp<;>exact this
   ·intro hr c ei;refine sZ c ?_;rcases hI.rest c ei with⟨q,hq,e1,_,e2⟩|⟨⟨q,hq,e1,_,e2⟩,_⟩
    ·rcases iE (.inl hr) q hq e1 with h|⟨h,_⟩
     ·exact⟨q,hq,e1,h,e2⟩
     ·exact absurd (hr.symm.trans h) (by simp)
    ·rcases iE (.inl hr) q hq e1 with h|⟨h,_⟩
     ·exact⟨q,hq,e1,h,e2⟩
     ·exact absurd (hr.symm.trans h) (by simp)
   ·intro hr hf c ei;rcases hI.rest c ei with⟨q,hq,e1,e3,e2⟩|⟨⟨q,hq,e1,e3,e2⟩,hL⟩
    ·rcases iE (.inr ⟨hr,hf⟩) q hq e1 with h|⟨_,h,_⟩
     ·exact .inl (sZ c ⟨q,hq,e1,h,e2⟩)
     ·rw[e3] at h;cases h
    ·rcases iE (.inr ⟨hr,hf⟩) q hq e1 with h|⟨_,_,h⟩
     ·exact .inl (sZ c ⟨q,hq,e1,h,e2⟩)
     ·exact .inr (XH hr hf h c hL)
   ·intro hr q hq l6 pE;rcases oB hr q hq l6 pE with h|h|h
    ·exact .inl h
    ·exact .inr (.inl h)
    ·exact .inr (.inr (h _))
  simp only[Cx.eN,ze1 hI.pr,hm,qA,qp,jN];simp only[Cx.rC] at hc;split at hc<;>try (cases hc;done)
  next hw=>simp only[hw];exact key false true (.br []) H lk df _ (λh=>nomatch h) (λ_ h=>nomatch h) (λ_=>⟨rfl,rfl,rfl⟩) (λ_ h=>nomatch h) (λh=>nomatch h) (λh=>nomatch h) (λ_ h=>nomatch h) hc
  ·rename_i hw;simp only[hw];split at hc<;>try (cases hc;done)
   rename_i oQ;split at hc<;>try (cases hc;done)
   ·rename_i v cK H1 eB eA aC;simp only[aC];refine key _ _ v H1 eB eA _ (λh=>h) (λ_ h=>by simpa using h) (λhf=>?_) (λhf _ D=>?_) (λ_ ha=>?_) (λ_ ht D=>?_) (λ_ _ hl c hL=>ze4 hl hL oQ aC) hc
    ·obtain⟨v',_,e2,_⟩:=yd hf aC;cases e2;exact⟨rfl,rfl,rfl⟩
    ·simp[Cx.eX,Cx.ee,aC,V.dh]
    ·obtain⟨x,e⟩:=zhi ha aC;cases e;exact⟨x,rfl,rfl,rfl⟩
    ·rcases zju (D:=D) ht aC with h|h
     ·exact .inl h
     ·exact .inr h
   ·rename_i cK H1 eB eA aC;simp only[aC];have Ca:q9 cx.P cx.uq takes o=true:=by
     cases hb:q9 cx.P cx.uq takes o with
     | true=>rfl
     | false=>obtain⟨v',e1,_⟩:=yd hb aC;cases e1
    rw[Ca];refine key true false (.br []) H1 eB eA _ (λ_=>Ca) (λh=>nomatch h) (λh=>nomatch h) (λh=>nomatch h) (λ_ ha=>?_) (λ_ ht=>?_) (λh=>nomatch h) hc
    ·obtain⟨dst,op,type,pos,after,guard⟩:=o;unfold vI at ha;split at ha<;>try (cases ha;done)
     rename_i t lu;simp only at lu;subst lu;simp only[Cx.op] at aC;split at aC<;>try (cases aC;done)
     split at aC<;>try (cases aC;done)
     simp[qp,qn] at aC
    ·obtain⟨dst,op,type,pos,after,guard⟩:=o;unfold kK at ht;split at ht<;>try (cases ht;done)
     rename_i t a lu;simp only at lu;subst lu;cases dst with
     | none=>cases ht
     | some d =>
      simp only at ht;rw[xn ht] at aC;unfold vU at aC;split at aC<;>try (cases aC;done)
      split at aC<;>try (cases aC;done)
      split at aC<;>try (cases aC;done)
      split at aC<;>cases aC
theorem zl4{ops:Array Oper}{env:aD}{H:Hp}{lk:aO}{df:bP}{s':St}(eZ:J' cx.P cx.uq ops (jM ops) 0 [] ops.toList=true)(hc:cx.rC ops (jM ops) ops.toList ⟨env,H,[],df⟩=some s')(hl:cx.uq mB=false\/xO ops=none):cx.draw ops ⟨env,H,lk,df⟩=some (.normal,s'):=by
 refine Xj ?_ hl;unfold Cx.drawn;exact XF _ _ _ _ _ _ _ ⟨.nil,λq hq=>by simp at hq,λb=>by simp[yD],⟨rfl,rfl,rfl⟩,λc hc=>by simp at hc,λc hc=>by simp at hc,λq hq=>by simp at hq⟩ eZ hc
theorem zn0{n id:Nat}{Q:Ex->St->Prop}{k:List It}{ops:Array Oper}{env:aD}{H:Hp}{lk:aO}{df:bP}(eZ:J' cx.P cx.uq ops (jM ops) 0 [] ops.toList=true)
  (h:go cx n Q (.on ops (jM ops) ops.toList::k) .normal ⟨env,H,[],df⟩) (hl:cx.uq mB=false\/xO ops=none:=by first|exact .inl rfl|exact .inr (by kernel_rfl)):go cx n Q (.c (.region id ops true)::k) .normal ⟨env,H,lk,df⟩:=by
 simp only[go] at h ⊢;obtain⟨s',h1,h2⟩:=h;exact⟨.normal,s',by simp only[Cx.code];exact zl4 eZ h1 hl,h2⟩
theorem ja{n id:Nat}{Q:Ex->St->Prop}{k:List It}{ops:Array Oper}{env:aD}{H:Hp}{lk:aO}{df:bP}{tk:cg}(ht:jM ops=tk)(eZ:J' cx.P cx.uq ops tk 0 [] ops.toList=true)
  (h:go cx n Q (.on ops tk ops.toList::k) .normal ⟨env,H,[],df⟩) (hl:cx.uq mB=false\/xO ops=none:=by first|exact .inl rfl|exact .inr (by kernel_rfl)):go cx n Q (.c (.region id ops true)::k) .normal ⟨env,H,lk,df⟩:=by
 subst ht;exact zn0 eZ h hl
theorem ww{n id:Nat}{Q:Ex->St->Prop}{k:List It}{ops:Array Oper}{env:aD}{H:Hp}{lk:aO}{df:bP}{tk:cg}(ht:jM ops=tk)
  (h:go cx n Q (.os ops tk ops.toList::k) .normal ⟨env,H,[],df⟩):go cx n Q (.c (.region id ops false)::k) .normal ⟨env,H,lk,df⟩:=by
 subst ht;exact Ej.2 h
theorem zi{n id:Nat}{Q:Ex->St->Prop}{k:List It}{ops:Array Oper}{env:aD}{H:Hp}{lk:aO}{df:bP}(h:go cx n Q (.os ops [] ops.toList::k) .normal ⟨env,H,[],df⟩)(ht:jM ops=[]:=by kernel_rfl):go cx n Q (.c (.region id ops false)::k) .normal ⟨env,H,lk,df⟩:=ww ht h
end
end Go.Vm
