/- Vm: one operation more. Conditions: none but those named. -/
import Derived.Orders
import Derived.Carry
import Derived.OpenShut
import Derived.ProofKit
import Derived.LaidLaws
import Derived.LaidMore
import Derived.FnData
import Derived.ChangeArms
import Derived.Lib.Bytealg
import Derived.Test.YthohlnmcjkjeiaaGreatDoorVmB
namespace Go.Vm
open Go
section
variable{cx:Cx}{all:Array Oper}{takes:cg}
theorem zeK{o:Oper}{env:aC}{v:V}{c:eD}(h:cx.fu takes o env v c=true):∃c2,cx.ej takes o env c 0=some (v,c2):=by
 unfold Cx.fu at h;split at h
 next u c2 hr=>rw[V.iY h] at hr;exact⟨c2,hr⟩
 ·cases h
theorem RI.start(s:St):RI cx all takes s (λ_=>s.env) 0 [] [⟨0,s.H,s.lk,s.defers⟩] s :=
 {ex:=λj hj=>by omega,lt:=λr hr=>by simp at hr,uniq:=λr hr=>by simp at hr,get:=λr hr=>by simp at hr,tm:=λr hr=>by simp at hr,lm:=λr hr=>by simp at hr,
  bQ:=λr hr=>by simp at hr,mlt:=λr hr=>by simp at hr,mask:=λr hr=>by simp at hr,slots:=λr hr=>by simp at hr,ev:=λr hr=>by simp at hr,TF:=rfl,TG:=rfl,
  PU:=λr hr=>by simp at hr,
  off:=λr hr=>by simp at hr,calm:=λr hr=>by simp at hr,free:=λr hr=>by simp at hr,
  c0:=⟨_,eT ..,rfl,rfl,rfl,rfl⟩,top:=⟨_,[],rfl,rfl,rfl,rfl,rfl⟩,
  cD:=λc hc b hb=>by simp only[mF] at hc;subst hc;rw[yE] at hb;exact absurd hb (by simp),
  uO:=λc hc d hd _=>by simp only[mF] at hc hd;rw[hc,hd],g1:=λc _ q hq=>by simp at hq,g2:=λc _ q hq=>by simp at hq }
theorem zgN{o:Oper}{t:Nat}(h:t∈o.looksAt all):bit (ud all o) t=true:=by
 rw[ud,vb,tX];rcases oM.1 h with h|h
 ·left
  obtain⟨x,hx,Ea⟩:=List.mem_filterMap.1 h;split at Ea<;>simp only[bu,reduceCtorEq] at Ea;subst Ea;exact vh hx
 ·right
  unfold zeB;split at h
  next g b hg=>rw[hg];simp only;rw[Option.mem_toList] at h;rw[show(all[g]?).bind (·.dst)=some t from h];simp only[yg,decide_true]
  ·simp at h
theorem zfy{o:Oper}{t:Nat}(h:o.dst=some t\/ko takes o=some (.tmp t)) :
  bit (m9 takes o) t=true:=by
 unfold m9;rcases h with h|h
 ·rw[h];simp only[vb,yg,decide_true,Bool.true_or]
 ·rw[h];have:bit (gz [Operand.tmp t]) t=true:=vh (eT ..);split
  ·simp only[vb,this,Bool.or_true]
  ·exact this
structure LV(cx:Cx)(takes:cg)(s0:St)(rs:List Rec)(cs:List eD)(s:St):Prop where
 c0:∃c∈cs,c.D=0/\c.H=s0.H/\c.lk=s0.lk/\c.df=s0.defers
 top:∃c cs',cs=c::cs'/\c.D=eP rs/\c.H=s.H/\c.lk=s.lk/\c.df=s.defers
 cD:∀c∈cs,∀b,bit c.D b=true->∃q∈rs,q.hp=true/\q.idx=b
 uO:∀c∈cs,∀d∈cs,c.D=d.D->c=d
 g1:∀c∈cs,∀q∈rs,q.hp=true->bit c.D q.idx=false->yR rs q c.D->∃c3∈cs,c3.D=Nat.lor c.D (Nat.pow 2 q.idx)/\cx.ej takes q.o q.env c c3.D=some (q.v,c3)
 g2:∀c∈cs,∀q∈rs,q.hp=false->q.free=false->yR rs q c.D->(∀d∈rs,d.hp=true->bit c.D d.idx=true->bit d.m q.idx=false)->∃c2,cx.ej takes q.o q.env c 0=some (q.v,c2)
theorem zkd{s0:St}{rs:List Rec}{cs:List eD}{s s1:St}{r:Rec}{i:Nat}(hG:LV cx takes s0 rs cs s)(bR:∀q∈rs,q.idx<i)(_huq:∀r∈rs,∀q∈rs,r.idx=q.idx->r=q)(_hmlt:∀q∈rs,∀b,bit q.m b=true->b<q.idx)(rR:r.idx=i)(Fs:∀b,bit r.m b=true->b<i)
  (LW:r.hp=false->s1.H=s.H/\s1.lk=s.lk/\s1.defers=s.defers) (sS:r.hp=false->r.free=false->∃c2,∀D,cx.ej takes r.o r.env ⟨D,s.H,s.lk,s.defers⟩ 0=some (r.v,c2))
  (TH:r.hp=true->∀D D',cx.ej takes r.o r.env ⟨D,s.H,s.lk,s.defers⟩ D'=some (r.v,⟨D',s1.H,s1.lk,s1.defers⟩))
  {k:List eD->Option (Ex×St)} {res:Ex×St} {c0:eD} {Ai:List eD} (ek:cs=c0::Ai) (hk:cx.fS takes rs r c0 ⟨Nat.lor c0.D (Nat.pow 2 i),s1.H,s1.lk,s1.defers⟩ Ai k=some res) :
  ∃cs',k cs'=some res/\LV cx takes s0 (r::rs) cs' s1:=by
 subst ek;obtain⟨g0,gt,gD,gu,g1,g2⟩:=hG;obtain⟨ct,cs',he,Bs,ES,gE,tQ⟩:=gt;simp only[List.cons.injEq] at he;obtain⟨rfl,rfl⟩:=he;have Iz:∀c∈c0::Ai,bit c.D i=false:=λc hc=>by
  cases h:bit c.D i with
  | false=>rfl
  | true =>
   obtain⟨q,hq,_,he⟩:=gD c hc i h;have:=bR q hq;omega
 unfold Cx.fS at hk;cases hp:r.hp with
 | false =>
  simp only[hp] at hk;split at hk<;>try (cases hk;done)
  rename_i hv;obtain⟨e1,e2,e3⟩:=LW hp;have ha:∀q D,yR (r::rs) q D->yR rs q D:=λq D h d hd=>h d (d_ _ hd);refine⟨_,hk,⟨g0,⟨c0,Ai,rfl,?_,by rw[e1,ES],by rw[e2,gE],by rw[e3,tQ]⟩,λc hc b hb=>?_,gu,?_,?_⟩⟩
  ·simp only[eP,hp];exact Bs
  ·obtain⟨q,hq,hh⟩:=gD c hc b hb;exact⟨q,d_ _ hq,hh⟩
  ·intro c hc q hq mj G7 JR;rcases dN.1 hq with rfl|hq
   ·rw[hp] at mj;cases mj
   ·exact g1 c hc q hq mj G7 (ha q _ JR)
  ·intro c hc q hq mj pI JR PV;rcases dN.1 hq with rfl|hq
   ·rw[pI,z_] at hv;rcases dN.1 hc with rfl|hc
    ·obtain⟨c2,h2⟩:=sS hp pI;refine⟨c2,?_⟩;rw[<- h2 c.D,<- ES,<- gE,<- tQ]
    ·have h1:=yo hv c hc;rw[mK.2 (ha q _ JR)] at h1;exact zeK h1
   ·exact g2 c hc q hq mj pI (ha q _ JR) λd hd=>PV d (d_ _ hd)
 | true =>
  simp only[hp] at hk;split at hk<;>try (cases hk;done)
  rename_i l hl;split at hk<;>try (cases hk;done)
  rename_i eu;obtain⟨l1,l2⟩:=WU hl;have eu:=yo eu;have hN:∀c2,c2∈(⟨Nat.lor c0.D (Nat.pow 2 i),s1.H,s1.lk,s1.defers⟩:eD)::l->∃c∈c0::Ai,yR rs r c.D/\c2.D=Nat.lor c.D (Nat.pow 2 i)/\cx.ej takes r.o r.env c c2.D=some (r.v,c2):=by
   intro c2 sx;rcases dN.1 sx with rfl|sx
   ·refine⟨c0,eT ..,λd hd hh _=>?_,rfl,?_⟩
    ·rw[Bs];exact lJ.2 ⟨d,hd,hh,rfl⟩
    ·have:=TH hp c0.D (Nat.lor c0.D (Nat.pow 2 i));rw[<- ES,<- gE,<- tQ] at this;exact this
   ·obtain⟨c,hc,hs,hD,hr⟩:=l2 c2 sx;rw[rR] at hD;exact⟨c,d_ _ hc,mK.1 hs,hD,hr⟩
  have hN':∀c∈c0::Ai,yR rs r c.D->∃c2∈(⟨Nat.lor c0.D (Nat.pow 2 i),s1.H,s1.lk,s1.defers⟩:eD)::l,c2.D=Nat.lor c.D (Nat.pow 2 i)/\cx.ej takes r.o r.env c c2.D=some (r.v,c2):=by
   intro c hc ha;rcases dN.1 hc with rfl|hc
   ·refine⟨_,eT ..,rfl,?_⟩;have:=TH hp c.D (Nat.lor c.D (Nat.pow 2 i));rw[<- ES,<- gE,<- tQ] at this;exact this
   ·obtain⟨c2,sx,hD,hr⟩:=l1 c hc (mK.2 ha);rw[rR] at hD;exact⟨c2,d_ _ sx,hD,hr⟩
  have eS:∀(c:eD)(b:Nat),bit (Nat.lor c.D (Nat.pow 2 i)) b=true ↔ bit c.D b=true\/b=i:=λc b=>by
   rw[vb,yg,tX,decide_eq_true_eq];exact⟨λh=>h.imp id Eq.symm,λh=>h.imp id Eq.symm⟩
  have dG:∀c,c∈(⟨Nat.lor c0.D (Nat.pow 2 i),s1.H,s1.lk,s1.defers⟩:eD)::l++c0::Ai ↔ c∈(⟨Nat.lor c0.D (Nat.pow 2 i),s1.H,s1.lk,s1.defers⟩:eD)::l\/c∈c0::Ai:=λc=>oM;refine⟨_,hk,⟨?_,⟨_,_,rfl,?_,rfl,rfl,rfl⟩,?_,?_,?_,?_⟩⟩
  ·obtain⟨c,hc,h⟩:=g0;exact⟨c,(dG c).2 (.inr hc),h⟩
  ·simp only[eP,hp,rR];rw[Bs];exact xA λb=>by rw[vb,vb,Bool.or_comm]
  ·intro c hc b hb;rcases (dG c).1 hc with hc|hc
   ·obtain⟨d,hd,_,hD,_⟩:=hN c hc;rw[hD,eS] at hb;rcases hb with hb|rfl
    ·obtain⟨q,hq,hh⟩:=gD d hd b hb;exact⟨q,d_ _ hq,hh⟩
    ·exact⟨r,eT ..,hp,rR⟩
   ·obtain⟨q,hq,hh⟩:=gD c hc b hb;exact⟨q,d_ _ hq,hh⟩
  ·have key:∀c∈c0::Ai,∀d∈c0::Ai,Nat.lor c.D (Nat.pow 2 i)=Nat.lor d.D (Nat.pow 2 i)->c=d:=by
    intro c hc d hd he;refine gu c hc d hd (xA λb=>?_)
    by_cases hb:b=i
    ·rw[hb,Iz c hc,Iz d hd]
    ·have h1:=eS c b;have h2:=eS d b;rw[he] at h1;simp only[hb,Bc] at h1 h2;exact Fc.2 (h1.symm.trans h2)
   intro c hc d hd he;rcases (dG c).1 hc with hc|hc<;>rcases (dG d).1 hd with hd|hd
   ·obtain⟨c',ey,_,LX,G5⟩:=hN c hc;obtain⟨d',G2,_,LY,e_⟩:=hN d hd;have:=key c' ey d' G2 (by rw[<- LX,<- LY,he])
    subst this;rw[he,e_] at G5;simp only[bu,cw,lU] at G5;exact G5.symm
   ·obtain⟨c',ey,_,LX,G5⟩:=hN c hc;have h1:=Iz d hd;rw[<- he,LX,(eS c' i).2 (.inr rfl)] at h1;cases h1
   ·obtain⟨d',G2,_,LY,e_⟩:=hN d hd;have h1:=Iz c hc;rw[he,LY,(eS d' i).2 (.inr rfl)] at h1;cases h1
   ·exact gu c hc d hd he
  ·
   intro c hc q hq mj G7 JR;have El:yR rs q c.D:=λd hd=>JR d (d_ _ hd);rcases (dG c).1 hc with hc|hc
   ·rcases dN.1 hq with rfl|hq
    ·obtain⟨d,hd,_,hD,_⟩:=hN c hc;rw[hD,rR,(eS d i).2 (.inr rfl)] at G7;cases G7
    ·have h1:=yo (eu c hc) q hq;rw[mK.2 El] at h1;simp only[mj,G7] at h1;split at h1
     next u c2 c3 hr hf=>rw[ei] at h1;obtain⟨h1,h2⟩:=h1;have hu:=V.iY h1;subst hu;obtain⟨e1,e2,e3⟩:=zh5 h2;obtain⟨f1,f2⟩:=zby hf;refine⟨c3,f1,f2,?_⟩;have:=(zlk hr c3.D).2;rw[this,e1,e2,e3]
     ·cases h1
   ·rcases dN.1 hq with rfl|hq
    ·have:yR rs q c.D:=El;obtain⟨c2,sx,hD,hr⟩:=hN' c hc this;exact⟨c2,(dG c2).2 (.inl sx),by rw[rR];exact hD,hr⟩
    ·obtain⟨c3,Cf,hD,hr⟩:=g1 c hc q hq mj G7 El;exact⟨c3,(dG c3).2 (.inr Cf),hD,hr⟩
  ·intro c hc q hq mj pI JR PV;have El:yR rs q c.D:=λd hd=>JR d (d_ _ hd);rcases dN.1 hq with rfl|hq
   ·rw[hp] at mj;cases mj
   rcases (dG c).1 hc with hc|hc
   ·have h1:=yo (eu c hc) q hq;rw[mK.2 El] at h1;simp only[mj,pI,z_] at h1
    have IA:bit r.m q.idx=false:=PV r (eT ..) hp (by
     obtain⟨d,hd,_,hD,_⟩:=hN c hc;rw[hD,rR]
     exact(eS d i).2 (.inr rfl))
    rw[IA,zcI λd hd=>PV d (d_ _ hd),z_,z_] at h1;exact zeK h1
   ·exact g2 c hc q hq mj pI El λd hd=>PV d (d_ _ hd)
end
section
variable{cx:Cx}{all:Array Oper}{takes:cg}
theorem RI.WV{s0:St}{Ev:Nat->aC}{i:Nat}{rs:List Rec}{cs:List eD}{s:St}(h:RI cx all takes s0 Ev i rs cs s):LV cx takes s0 rs cs s:=⟨h.c0,h.top,h.cD,h.uO,h.g1,h.g2⟩
theorem RI.step{s0:St}{Ev:Nat->aC}{i:Nat}{rs:List Rec}{cs:List eD}{s s1:St}(h:RI cx all takes s0 Ev i rs cs s){r:Rec}(rR:r.idx=i)(cQ:all[i]?=some r.o)(hm:wA rs r.o.after.toList=some r.m)(lC:r.env=s.env)
  (htm:r.tm=m9 takes r.o)
  (PW:r.lm=Nat.lor r.tm (ud all r.o))
  (sU:kE (kz r) rs=true) (hE:s1.env=G6 all takes r)
  (PX:z0 all r.o r.env≠some true->z0 all r.o r.env=some false/\r.hp=false/\r.v=.br []/\r.free=true)
  (uR:z0 all r.o r.env=some true->r.hp=q9 cx.P cx.uq takes r.o/\(q9 cx.P cx.uq takes r.o=false->∃H lk df s1,cx.op takes r.o r.env H lk df=some (.val r.v,s1)))
  (PY:z0 all r.o r.env=some true->r.free=true->kV cx.P cx.uq r.o=false)
  (LW:r.hp=false->s1.H=s.H/\s1.lk=s.lk/\s1.defers=s.defers) (sS:r.hp=false->r.free=false->∃c2,∀D,cx.ej takes r.o r.env ⟨D,s.H,s.lk,s.defers⟩ 0=some (r.v,c2))
  (TH:r.hp=true->∀D D',cx.ej takes r.o r.env ⟨D,s.H,s.lk,s.defers⟩ D'=some (r.v,⟨D',s1.H,s1.lk,s1.defers⟩))
  {k:List eD->Option (Ex×St)} {res:Ex×St} {c0:eD} {Ai:List eD} (ek:cs=c0::Ai) (hk:cx.fS takes rs r c0 ⟨Nat.lor c0.D (Nat.pow 2 i),s1.H,s1.lk,s1.defers⟩ Ai k=some res) :
  ∃cs' TI,k cs'=some res/\RI cx all takes s0 TI (i+1) (r::rs) cs' s1:=by
 obtain⟨m1,m2⟩:=WT hm;have Fs:∀b,bit r.m b=true->b<i:=λb hb=>by
  obtain⟨e,he,IB,Aj⟩:=m2 b hb;rcases Aj with rfl|⟨q,hq,Iy,G7⟩
  ·obtain⟨q,hq,Iy⟩:=m1 e he IB;rw[<- Iy];exact h.lt q hq
  ·exact Nat.lt_trans (h.mlt q hq b G7) (h.lt q hq)
 obtain⟨cs',od,hG⟩:=zkd h.WV h.lt h.uniq h.mlt rR Fs LW sS TH ek hk;refine⟨cs',λj=>if j<=i then Ev j else s1.env,od,?_⟩
 have dG:∀{q:Rec},q∈r::rs->q=r\/q∈rs:=λhq=>dN.1 hq;refine { ex:=?_,lt:=?_,uniq:=?_,get:=?_,tm:=?_,lm:=?_,bQ:=?_,mlt:=?_,mask:=?_,slots:=?_,ev:=?_,TF:=?_,TG:=?_,PU:=?_,off:=?_,calm:=?_,free:=?_,c0:=hG.c0,top:=hG.top,cD:=hG.cD,uO:=hG.uO,g1:=hG.g1,g2:=hG.g2 }
 ·intro j hj
  by_cases CO:j=i
  ·exact⟨r,eT ..,by rw[rR,CO]⟩
  ·obtain⟨q,hq,hqj⟩:=h.ex j (by omega)
   exact⟨q,d_ _ hq,hqj⟩
 ·intro q hq;rcases dG hq with rfl|hq
  ·omega
  ·have:=h.lt q hq;omega
 ·intro a ha b hb he;rcases dG ha with rfl|G8<;>rcases dG hb with rfl|dg
  ·rfl
  ·have:=h.lt b dg;omega
  ·have:=h.lt a G8;omega
  ·exact h.uniq a G8 b dg he
 ·intro q hq;rcases dG hq with rfl|hq
  ·rw[rR];exact cQ
  ·exact h.get q hq
 ·intro q hq t ht;rcases dG hq with rfl|hq
  ·rw[htm];exact zfy ht
  ·exact h.tm q hq t ht
 ·intro q hq t ht;rcases dG hq with rfl|hq
  ·rw[PW,vb,tX];rcases ht with ht|ht
   ·exact .inl ht
   ·exact .inr (zgN ht)
  ·exact h.lm q hq t ht
 ·intro q hq e he hb;rcases dG hq with rfl|hq
  ·obtain⟨p,hp,hpi⟩:=m1 e (by simpa using he) hb
   rw[<- hpi,rR];exact h.lt p hp
  ·exact h.bQ q hq e he hb
 ·intro q hq b hb;rcases dG hq with rfl|hq
  ·rw[rR];exact Fs b hb
  ·exact h.mlt q hq b hb
 ·intro q hq b hb;rcases dG hq with rfl|hq
  ·obtain⟨e,he,IB,Aj⟩:=m2 b hb;refine⟨e,by simpa using he,IB,Aj.imp id ?_⟩
   rintro⟨p,hp,hh⟩;exact⟨p,d_ _ hp,hh⟩
  ·obtain⟨e,he,IB,Aj⟩:=h.mask q hq b hb;refine⟨e,he,IB,Aj.imp id ?_⟩;rintro⟨p,hp,hh⟩;exact⟨p,d_ _ hp,hh⟩
 ·intro a ha b hb bR;rcases dG ha with rfl|G8<;>rcases dG hb with rfl|dg
  ·omega
  ·exact yo sU b dg
  ·have:=h.lt a G8;omega
  ·exact h.slots a G8 b dg bR
 ·intro q hq;rcases dG hq with rfl|hq
  ·rw[rR,if_pos (dB _),h.TG,lC]
  ·rw[if_pos (Nat.le_of_lt (h.lt q hq))];exact h.ev q hq
 ·rw[if_pos (dU _)];exact h.TF
 ·rw[if_neg (by omega)]
 ·intro q hq;rcases dG hq with rfl|hq
  ·rw[rR,if_neg (by omega)];exact hE
  ·have:=h.lt q hq;rw[if_pos (by omega)];exact h.PU q hq
 ·intro q hq hw;rcases dG hq with rfl|hq
  ·obtain⟨a,b,c,_⟩:=PX hw;exact⟨a,b,c⟩
  ·exact h.off q hq hw
 ·intro q hq hw;rcases dG hq with rfl|hq
  ·exact uR hw
  ·exact h.calm q hq hw
 ·intro q hq hw hf;rcases dG hq with rfl|hq
  ·exact PY hw hf
  ·exact h.free q hq hw hf
theorem xi{s0:St}{ex:Ex}{s':St}:∀(os:List Oper)(i:Nat)(rs:List Rec)(cs:List eD)(s:St)(Ev:Nat->aC),cx.eU all takes i rs cs os s=some (ex,s')->RI cx all takes s0 Ev i rs cs s->os=all.toList.drop i ->
  ex=.normal/\∃Ev rs cs,RI cx all takes s0 Ev all.size rs cs s'
 | [],i,rs,cs,s,Ev,hc,h,ho=>by
  simp only[Cx.eU,bu,cw] at hc;obtain⟨rfl,rfl⟩:=hc;refine⟨rfl,Ev,rs,cs,?_⟩;have h1:all.size<=i:=by
   have:=congrArg List.length ho;simp at this;omega
  have h2:i<=all.size:=by
   rcases eI all.size i with h3|h3
   ·obtain⟨r,hr,he⟩:=h.ex all.size h3;have:=h.get r hr;rw[he] at this;simp at this
   ·exact h3
  rw[Nat.le_antisymm h1 h2];exact h
 | o::os,i,rs,cs,⟨env,H,lk,df⟩,Ev,hc,h,ho=>by
  have cQ:all[i]?=some o:=by
   have:=congrArg (·[0]?) ho;simp at this;exact this.symm
  have pP:os=all.toList.drop (i+1):=by
   have:=congrArg List.tail ho;simpa using this
  simp only[Cx.eU] at hc;split at hc<;>try (cases hc;done)
  rename_i m hm;simp only[qA] at hc;split at hc<;>try (cases hc;done)
  ·
   rename_i hw;simp only[qm,jN] at hc;split at hc<;>try (cases hc;done)
   rename_i c0 Ai IC;obtain⟨cs',TI,hk,PZ⟩:=h.step (r:=⟨i,o,m,_,_,false,true,env,.br []⟩) (s1:=⟨aq env o.dst (.br []),H,lk,df⟩) rfl cQ hm rfl rfl rfl IC (by simp[G6,hw]) (λ_=>⟨hw,rfl,rfl,rfl⟩) (λhh=>by rw[hw] at hh;cases hh) (λhh=>by rw[hw] at hh;cases hh)
    (λ_=>⟨rfl,rfl,rfl⟩) (λ_ hf=>nomatch hf) (λhf=>nomatch hf) rfl hc
   exact xi os (i+1) _ _ _ _ hk PZ pP
  ·rename_i hw;split at hc<;>try (cases hc;done)
   ·rename_i v s1 aD;obtain⟨cM,H1,eG,eF⟩:=s1;simp only[qm,jN] at hc;split at hc<;>try (cases hc;done)
    rename_i c0 Ai IC;have he:cM=ou env (ko takes o):=(PR (bI:=env) (λt _=>rfl) aD).1;obtain⟨cs',TI,hk,PZ⟩:=h.step (r:=⟨i,o,m,_,_,q9 cx.P cx.uq takes o,!kV cx.P cx.uq o,env,v⟩) (s1:=⟨aq cM o.dst v,H1,eG,eF⟩) rfl cQ hm rfl rfl rfl IC (by simp[G6,hw,he]) (λhh=>absurd hw hh) (λ_=>⟨rfl,λ_=>⟨_,_,_,_,aD⟩⟩) (λ_ hf=>by simpa using hf)
     (λhf=>by
      obtain⟨v',e1,e2,e3⟩:=yh hf aD;cases e2
      exact⟨rfl,rfl,rfl⟩)
     (λhf _=>by
      refine⟨⟨0,H1,eG,eF⟩,λD=>?_⟩
      simp only[Cx.ej,aD])
     (λhf D D'=>by simp only[Cx.ej,aD]) rfl hc
    exact xi os (i+1) _ _ _ _ hk PZ pP
   ·rename_i s1 aD;obtain⟨cM,H1,eG,eF⟩:=s1;simp only[qm,jN] at hc;split at hc<;>try (cases hc;done)
    rename_i c0 Ai IC;have he:cM=ou env (ko takes o):=(PR (bI:=env) (λt _=>rfl) aD).1;have Cj:q9 cx.P cx.uq takes o=true:=by
     cases hb:q9 cx.P cx.uq takes o with
     | true=>rfl
     | false=>obtain⟨v',e1,_⟩:=yh hb aD;cases e1
    obtain⟨cs',TI,hk,PZ⟩:=h.step (r:=⟨i,o,m,_,_,q9 cx.P cx.uq takes o,false,env,.br []⟩) (s1:=⟨aq cM o.dst (.br []),H1,eG,eF⟩) rfl cQ hm rfl rfl rfl IC (by simp[G6,hw,he]) (λhh=>absurd hw hh) (λ_=>⟨rfl,λhf=>by rw[Cj] at hf;cases hf⟩) (λ_ hf=>nomatch hf)
     (λhf=>by simp only[Cj,Pf] at hf) (λhf=>by simp only[Cj,Pf] at hf) (λhf D D'=>by simp only[Cx.ej,aD]) rfl hc
    exact xi os (i+1) _ _ _ _ hk PZ pP
end
section
variable{cx:Cx}{all:Array Oper}{takes:cg}
abbrev iZ(l:Array Bool)(j:Nat):Prop:=l.getD j false=true
def TJ(all:Array Oper)(l:Array Bool):Prop:=∀(j:Nat)(o:Oper),all[j]?=some o->iZ l j->∀e∈o.after,Region.binds .any e=true->iZ l e.on
def JS(rs:List Rec)(t j:Nat):Prop:=∃r∈rs,r.idx=j/\bit r.tm t=true
structure Inv(all:Array Oper)(rs:List Rec)(cs:List eD)(Ev:Nat->aC)(l:Array Bool)(s:St):Prop where
 down:TJ all l
 size:l.size=all.size
 env:∀t m,m<=all.size->(∀j,j<m->JS rs t j->iZ l j)->(∀j,m<=j->JS rs t j->¬iZ l j)->s.env[t]?=(Ev m)[t]?
 mem:∃c∈cs,(∀b,bit c.D b=true ↔ ∃q∈rs,q.hp=true/\q.idx=b/\iZ l b)/\s.H=c.H/\s.lk=c.lk/\s.defers=c.df
section
variable{s0 s' s:St}{Ev:Nat->aC}{rs:List Rec}{cs:List eD}{l:Array Bool}
theorem vS(hR:RI cx all takes s0 Ev all.size rs cs s')(hd:TJ all l):∀(n:Nat)(r:Rec),r∈rs->r.idx<=n->(∀e∈r.o.after,Region.binds .any e=true->iZ l e.on)->∀b,bit r.m b=true->iZ l b
 | 0,r,hr,hn,_,b,hb=>by
  have:=hR.mlt r hr b hb;omega
 | n+1,r,hr,hn,he,b,hb=>by
  obtain⟨e,h1,h2,h3⟩:=hR.mask r hr b hb;rcases h3 with rfl|⟨q,hq,Iy,G7⟩
  ·exact he e h1 h2
  ·have hl:=he e h1 h2;rw[<- Iy] at hl;have:=hR.bQ r hr e h1 h2;exact vS hR hd n q hq (by omega) (hd q.idx q.o (hR.get q hq) hl) b G7
theorem yF(hR:RI cx all takes s0 Ev all.size rs cs s')(hd:TJ all l){r:Rec}(hr:r∈rs)(hl:iZ l r.idx){b:Nat}(hb:bit r.m b=true):iZ l b :=
 vS hR hd r.idx r hr (dB _) (hd r.idx r.o (hR.get r hr) hl) b hb
theorem WW(hR:RI cx all takes s0 Ev all.size rs cs s'){q r:Rec}(hq:q∈rs)(hr:r∈rs)(bR:q.idx<r.idx){t:Nat}(h:(bit q.tm t=true/\bit r.lm t=true)\/(bit r.tm t=true/\bit q.lm t=true)):bit r.m q.idx=true:=by
 have hs:=hR.slots r hr q hq bR;unfold kz at hs;split at hs
 ·assumption
 ·rw[ei] at hs;rcases h with h|h
  ·exact(zgM hs.1 h.1 h.2).elim
  ·exact(zgM hs.2 h.1 h.2).elim
theorem zdw{env bI:aC}{dst:fJ}{v:V}{t:Nat}(h:env[t]?=bI[t]?):(aq env dst v)[t]?=(aq bI dst v)[t]?:=by
 cases dst with
 | none=>exact h
 | some d=>simp only[aq,List.getElem?_set',h]
theorem N8{env:aC}{dst:fJ}{v:V}{t:Nat}(h:dst≠some t):(aq env dst v)[t]?=env[t]?:=by
 cases dst with
 | none=>rfl
 | some d =>
  have:d≠t:=λe=>h (by rw[e])
  simp only[aq,tC,this,bz]
theorem zgO(env:aC)(x:aX):kp env x=env\/∃u sz xs e,x=.tmp u/\env[u]?=some (.sl sz xs (.yes e))/\kp env x=env.set u (.sl sz xs .no):=by
 cases x with
 | tmp t =>
  simp only[kp];split
  next sz xs e h=>exact .inr ⟨t,sz,xs,e,rfl,h,rfl⟩
  ·exact .inl rfl
 | _=>exact .inl rfl
theorem WX{env:aC}{k:Option aX}{t:Nat}(h:k≠some (.tmp t)):(ou env k)[t]?=env[t]?:=by
 cases k with
 | none=>rfl
 | some x =>
  simp only[ou];rcases zgO env x with h1|⟨u,sz,xs,e,rfl,_,h1⟩
  ·rw[h1]
  ·have:u≠t:=λe=>h (by rw[e])
   rw[h1];simp only[tC,this,bz]
theorem zke{env bI:aC}{k:Option aX}{t:Nat}(h:env[t]?=bI[t]?)(hk:∀u,k=some (.tmp u)->env[u]?=bI[u]?):(ou env k)[t]?=(ou bI k)[t]?:=by
 cases k with
 | none=>exact h
 | some x =>
  cases x with
  | tmp u =>
   have hu:=hk u rfl;simp only[ou,kp,hu];split
   ·simp only[List.getElem?_set',h]
   ·exact h
  | _=>exact h
theorem zll{r:Rec}{t:Nat}(h1:r.o.dst≠some t)(h2:ko takes r.o≠some (.tmp t)):(G6 all takes r)[t]?=r.env[t]?:=by
 unfold G6;split
 ·rw[N8 h1,WX h2]
 ·rw[N8 h1]
theorem WY(hR:RI cx all takes s0 Ev all.size rs cs s'){t a:Nat}:∀{b:Nat},a<=b->b<=all.size->(∀j,a<=j->j<b->¬JS rs t j)->(Ev b)[t]?=(Ev a)[t]?
 | 0,h,_,_=>by rw[Nat.le_zero.1 h]
 | b+1,h,hb,hT=>by
  by_cases e:a=b+1
  ·rw[e]
  ·have Tt:a<=b:=by omega
   rw[<- WY hR Tt (by omega) λj h1 h2=>hT j h1 (by omega)]
   obtain⟨r,hr,rR⟩:=hR.ex b (by omega)
   have h1:=hR.PU r hr;have h2:=hR.ev r hr;rw[rR] at h1 h2;have eH:bit r.tm t=false:=by
    cases hb:bit r.tm t with
    | false=>rfl
    | true=>exact(hT b Tt (by omega) ⟨r,hr,rR,hb⟩).elim
   have hd:r.o.dst≠some t:=λe=>by rw[hR.tm r hr t (.inl e)] at eH;cases eH
   have hk:ko takes r.o≠some (.tmp t):=λe=>by rw[hR.tm r hr t (.inr e)] at eH;cases eH
   rw[h1,h2,zll hd hk]
theorem Inv.P0(hR:RI cx all takes s0 Ev all.size rs cs s')(hI:Inv all rs cs Ev l s){r:Rec}(hr:r∈rs)(uh:¬iZ l r.idx)(gH:∀e∈r.o.after,Region.binds .any e=true->iZ l e.on){t:Nat}(ht:bit r.lm t=true):s.env[t]?=r.env[t]?:=by
 have hb:=vS hR hI.down r.idx r hr (dB _) gH;rw[<- hR.ev r hr];refine hI.env t r.idx (Nat.le_of_lt (hR.lt r hr)) ?_ ?_
 ·rintro j hj ⟨q,hq,rfl,uj⟩;exact hb q.idx (WW hR hq hr hj (.inl ⟨uj,ht⟩))
 ·rintro j hj ⟨q,hq,rfl,uj⟩ hl;rcases eI r.idx q.idx with h|h
  ·exact uh (yF hR hI.down hq hl (WW hR hr hq h (.inr ⟨uj,ht⟩)))
  ·have:=hR.uniq q hq r hr (Nat.le_antisymm h hj);subst this;exact uh hl
theorem zh7{o:Oper}{t:Nat}(h:Operand.tmp t∈o.op.operands.toList):t∈o.looksAt all :=
 w_ _ (List.mem_filterMap.2 ⟨.tmp t,h,rfl⟩)
theorem zfA{o:Oper}{env bI:aC}(h:∀t∈o.looksAt all,env[t]?=bI[t]?):z0 all o env=z0 all o bI:=by
 unfold z0;cases hg:o.guard with
 | none=>rfl
 | some jw =>
  obtain⟨j,want⟩:=jw;simp only;cases hd:(all[j]?).bind (·.dst) with
  | none=>rfl
  | some d =>
   have:d∈o.looksAt all:=by
    refine Ba _ ?_;rw[hg];simp[hd]
   simp only[zg,h d this]
theorem kg{i j:Nat}(hs:i<l.size):iZ (l.setIfInBounds i true) j ↔ j=i\/iZ l j:=by
 unfold iZ
 by_cases h:i=j
 ·subst h;simp[hs]
 ·rw[getD_set_ne false h];constructor
  ·exact .inr
  ·rintro(rfl|h')
   ·exact(h rfl).elim
   ·exact h'
theorem Inv.Dy(hR:RI cx all takes s0 Ev all.size rs cs s')(hI:Inv all rs cs Ev l s){r:Rec}(hr:r∈rs)(uh:¬iZ l r.idx)(gH:∀e∈r.o.after,Region.binds .any e=true->iZ l e.on){E:aC}
  (b_:∀t,bit r.tm t=false->E[t]?=s.env[t]?) (hto:∀t,bit r.tm t=true->E[t]?=(G6 all takes r)[t]?) :
  ∀t m,m<=all.size->(∀j,j<m->JS rs t j->iZ (l.setIfInBounds r.idx true) j)->(∀j,m<=j->JS rs t j->¬iZ (l.setIfInBounds r.idx true) j)->E[t]?=(Ev m)[t]?:=by
 intro t m hm h1 h2;have bR:=hR.lt r hr;have fK:r.idx<l.size:=by rw[hI.size];exact bR
 cases hb:bit r.tm t with
 | false =>
  rw[b_ t hb];have eH:¬JS rs t r.idx:=by
   rintro⟨q,hq,Iy,uj⟩;have:=hR.uniq q hq r hr Iy;subst this;rw[hb] at uj;cases uj
  refine hI.env t m hm (λj hj ht=>?_) (λj hj ht hl=>h2 j hj ht ((kg fK).2 (.inr hl)));rcases (kg fK).1 (h1 j hj ht) with rfl|h
  ·exact(eH ht).elim
  ·exact h
 | true =>
  rw[hto t hb,<- hR.PU r hr];have him:r.idx<m:=by
   rcases eI r.idx m with h|h
   ·exact h
   ·exact(h2 r.idx h ⟨r,hr,rfl,hb⟩ ((kg fK).2 (.inl rfl))).elim
  refine(WY hR (a:=r.idx+1) (b:=m) him hm λj hj WZ=>?_).symm;rintro⟨q,hq,rfl,uj⟩;rcases (kg fK).1 (h1 q.idx WZ ⟨q,hq,rfl,uj⟩) with h|h
  ·omega
  ·exact uh (yF hR hI.down hq h (WW hR hr hq (by omega) (.inr ⟨uj,hR.lm r hr t (.inl hb)⟩)))
theorem Inv.Fz(hI:Inv all rs cs Ev l s){r:Rec}(cQ:all[r.idx]?=some r.o)(gH:∀e∈r.o.after,Region.binds .any e=true->iZ l e.on):TJ all (l.setIfInBounds r.idx true):=by
 have bR:r.idx<all.size:=(sH.1 cQ).1;have fK:r.idx<l.size:=by rw[hI.size];exact bR
 intro j o ho hl e he hb;refine(kg fK).2 (.inr ?_);rcases (kg fK).1 hl with rfl|h
 ·rw[cQ] at ho;cases ho;exact gH e he hb
 ·exact hI.down j o ho h e he hb
theorem Inv.step(hR:RI cx all takes s0 Ev all.size rs cs s')(hI:Inv all rs cs Ev l s){r:Rec}(hr:r∈rs)(uh:¬iZ l r.idx)(gH:∀e∈r.o.after,Region.binds .any e=true->iZ l e.on) :
  (z0 all r.o s.env=some false/\Inv all rs cs Ev (l.setIfInBounds r.idx true) { s with env:=aq s.env r.o.dst (.br []) }) \/
  (z0 all r.o s.env=some true/\∃res s2,cx.op takes r.o s.env s.H s.lk s.defers=some (res,s2)/\(res=.val r.v\/res=.skip/\r.v=.br [])/\Inv all rs cs Ev (l.setIfInBounds r.idx true) { s2 with env:=aq s2.env r.o.dst r.v }):=by
 have bR:=hR.lt r hr;have fK:r.idx<l.size:=by rw[hI.size];exact bR
 have Ef:=λt ht=>Inv.P0 hR hI hr uh gH (t:=t) ht;have oI:∀t∈r.o.looksAt all,s.env[t]?=r.env[t]?:=λt ht=>Ef t (hR.lm r hr t (.inr ht));have hw:=zfA oI;have P3:∀t,bit r.tm t=false->r.o.dst≠some t:=λt h e=>by rw[hR.tm r hr t (.inl e)] at h;cases h
 have mH:∀t,bit r.tm t=false->ko takes r.o≠some (.tmp t):=λt h e=>by rw[hR.tm r hr t (.inr e)] at h;cases h
 have Dz:=hI.Fz (hR.get r hr) gH;obtain⟨c,hc,Bs,ES,gE,tQ⟩:=hI.mem;have same:r.hp=false->∀b,(∃q∈rs,q.hp=true/\q.idx=b/\iZ l b) ↔ ∃q∈rs,q.hp=true/\q.idx=b/\iZ (l.setIfInBounds r.idx true) b:=by
  intro hh b;constructor
  ·rintro⟨q,h1,h2,h3,h4⟩;exact⟨q,h1,h2,h3,(kg fK).2 (.inr h4)⟩
  ·rintro⟨q,h1,h2,h3,h4⟩;rcases (kg fK).1 h4 with h5|h5
   ·have:=hR.uniq q h1 r hr (h3.trans h5);subst this;rw[hh] at h2;cases h2
   ·exact⟨q,h1,h2,h3,h5⟩
 by_cases tR:z0 all r.o r.env=some true
 ·right
  have LZ:∀{H lk df res s1},cx.op takes r.o r.env H lk df=some (res,s1)->s1.env=ou r.env (ko takes r.o)/\cx.op takes r.o s.env H lk df=some (res,{ s1 with env:=ou s.env (ko takes r.o) }):=λh=>PR (λt ht=>(oI t (zh7 ht)).symm) h
  have lC:∀t m,m<=all.size->(∀j,j<m->JS rs t j->iZ (l.setIfInBounds r.idx true) j)->(∀j,m<=j->JS rs t j->¬iZ (l.setIfInBounds r.idx true) j)->(aq (ou s.env (ko takes r.o)) r.o.dst r.v)[t]?=(Ev m)[t]?:=by
   refine Inv.Dy hR hI hr uh gH (λt ht=>by rw[N8 (P3 t ht),WX (mH t ht)]) (λt ht=>?_)
   rw[G6,if_pos tR];exact zdw (zke (Ef t (hR.lm r hr t (.inl ht))) λu hu=>Ef u (hR.lm r hr u (.inl (hR.tm r hr u (.inr hu)))))
  refine⟨hw.trans tR,?_⟩;cases Cj:r.hp with
  | true =>
   have hb:bit c.D r.idx=false:=by
    cases h:bit c.D r.idx with
    | false=>rfl
    | true=>obtain⟨q,_,_,_,h4⟩:=(Bs r.idx).1 h;exact(uh h4).elim
   have ha:yR rs r c.D:=λd hd TK Em=>(Bs d.idx).2 ⟨d,hd,TK,rfl,vS hR hI.down r.idx r hr (dB _) gH d.idx Em⟩;obtain⟨c3,Cf,hD3,cj⟩:=hR.g1 c hc r hr Cj hb ha;have JT:∀b,bit c3.D b=true ↔ ∃q∈rs,q.hp=true/\q.idx=b/\iZ (l.setIfInBounds r.idx true) b:=by
    intro b;rw[hD3,vb,yg,tX,decide_eq_true_eq,Bs];constructor
    ·rintro(⟨q,h1,h2,h3,h4⟩|rfl)
     ·exact⟨q,h1,h2,h3,(kg fK).2 (.inr h4)⟩
     ·exact⟨r,hr,Cj,rfl,(kg fK).2 (.inl rfl)⟩
    ·rintro⟨q,h1,h2,h3,h4⟩;rcases (kg fK).1 h4 with h5|h5
     ·exact .inr h5.symm
     ·exact .inl ⟨q,h1,h2,h3,h5⟩
   unfold Cx.ej at cj;split at cj<;>simp only[bu,reduceCtorEq,cw] at cj
   ·rename_i v s1 aD;obtain⟨rfl,e2⟩:=cj;rw[<- ES,<- gE,<- tQ] at aD;refine⟨_,_,(LZ aD).2,.inl rfl,⟨Dz,by simpa using hI.size,lC,c3,Cf,JT,?_⟩⟩
    rw[<- e2];exact⟨rfl,rfl,rfl⟩
   ·rename_i s1 aD;obtain⟨e1,e2⟩:=cj;rw[<- ES,<- gE,<- tQ] at aD;refine⟨_,_,(LZ aD).2,.inr ⟨rfl,e1.symm⟩,⟨Dz,by simpa using hI.size,lC,c3,Cf,JT,?_⟩⟩
    rw[<- e2];exact⟨rfl,rfl,rfl⟩
  | false =>
   obtain⟨hh,hex⟩:=hR.calm r hr tR;have uR:q9 cx.P cx.uq takes r.o=false:=by rw[<- hh];exact Cj
   obtain⟨H0,G9,df0,s1,W0⟩:=hex uR;have sS:∃s2,cx.op takes r.o r.env s.H s.lk s.defers=some (.val r.v,s2):=by
    cases PT:r.free with
    | true=>exact zns uR (hR.free r hr tR PT) W0 s.lk s.defers
    | false =>
     have ha:yR rs r c.D:=λd hd TK Em=>(Bs d.idx).2 ⟨d,hd,TK,rfl,vS hR hI.down r.idx r hr (dB _) gH d.idx Em⟩
     obtain⟨c2,cj⟩:=hR.g2 c hc r hr Cj PT ha (λd hd TK Em=>by
      cases h:bit d.m r.idx with
      | false=>rfl
      | true =>
       obtain⟨q,_,_,_,h4⟩:=(Bs d.idx).1 Em
       exact(uh (yF hR hI.down hd h4 h)).elim)
     unfold Cx.ej at cj;rw[<- ES,<- gE,<- tQ] at cj;split at cj<;>simp only[bu,reduceCtorEq,cw] at cj
     next v s2 aD=>obtain⟨rfl,_⟩:=cj;exact⟨s2,aD⟩
     next s2 aD=>obtain⟨v',e1,_⟩:=yh uR aD;cases e1
   obtain⟨s2,aD⟩:=sS;obtain⟨v',e1,e2,_⟩:=yh uR aD;refine⟨_,_,(LZ aD).2,.inl rfl,⟨Dz,by simpa using hI.size,lC,c,hc,λb=>(Bs b).trans (same Cj b),?_⟩⟩
   rw[e2];exact⟨ES,gE,tQ⟩
 ·left
  obtain⟨h1,h2,h3⟩:=hR.off r hr tR;refine⟨hw.trans h1,⟨Dz,by simpa using hI.size,?_,c,hc,λb=>(Bs b).trans (same h2 b),ES,gE,tQ⟩⟩
  refine Inv.Dy hR hI hr uh gH (λt ht=>by rw[N8 (P3 t ht)]) (λt ht=>?_)
  rw[G6,if_neg tR,h3];exact zdw (Ef t (hR.lm r hr t (.inl ht)))
theorem Inv.final(hR:RI cx all takes s0 Ev all.size rs cs s')(hI:Inv all rs cs Ev l s)(dH:∀j,j<all.size->iZ l j):s=s':=by
 have lC:s.env=s'.env:=by
  apply Fa;intro t;rw[<- hR.TG];refine hI.env t all.size (dB _) (λj hj _=>dH j hj) ?_;rintro j hj ⟨q,hq,rfl,_⟩;have:=hR.lt q hq;omega
 obtain⟨c,hc,Bs,ES,gE,tQ⟩:=hI.mem;obtain⟨c1,Ai,rfl,h1,h2,h3,h4⟩:=hR.top;have:c=c1:=by
  refine hR.uO c hc c1 (eT ..) (xA λb=>?_);rw[h1];refine Fc.2 ((Bs b).trans (Iff.trans ?_ lJ.symm));constructor
  ·rintro⟨q,a1,a2,a3,_⟩;exact⟨q,a1,a2,a3⟩
  ·rintro⟨q,a1,a2,rfl⟩;exact⟨q,a1,a2,rfl,dH _ (hR.lt q a1)⟩
 subst this;obtain⟨e,H,lk,df⟩:=s;obtain⟨e',H',Ir,Is⟩:=s';simp only at *;simp only[lC,ES,gE,tQ,h2,h3,h4]
theorem Inv.start(hR:RI cx all takes s0 Ev all.size rs cs s'):Inv all rs cs Ev (Array.replicate all.size false) s0:=by
 have eH:∀j,¬iZ (Array.replicate all.size false) j:=λj h=>by
  unfold iZ at h;simp[Array.getElem?_replicate] at h;split at h<;>simp_all
 refine⟨λj o _ hl=>(eH j hl).elim,by simp,λt m hm h1 _=>?_,?_⟩
 ·rw[<- hR.TF];refine(WY hR (dU m) hm λj _ hj hT=>eH j (h1 j hj hT)).symm
 ·obtain⟨c,hc,h0,h1,h2,h3⟩:=hR.c0;refine⟨c,hc,λb=>?_,h1.symm,h2.symm,h3.symm⟩;rw[h0,yE];constructor
  ·intro h;cases h
  ·rintro⟨_,_,_,_,h⟩;exact(eH b h).elim
end
end
section
variable{P:aQ}{cx:Cx}{all:Array Oper}{takes:cg}{B:dY}{g:Gh}{s:St}{a:Act}{w:aP}
def left(l:Array Bool):Nat->Nat
 | 0=>0
 | k+1=>left l k+if l.getD k false=true then 0 else 1
theorem zcK{l:Array Bool}{i:Nat}:∀k,left (l.setIfInBounds i true) k<=left l k
 | 0=>dB _
 | k+1=>by
  have ih:=zcK (l:=l) (i:=i) k;simp only[left]
  by_cases h:l.getD k false=true
  ·rw[if_pos (getD_set_true h),if_pos h];exact ih
  ·rw[if_neg h];split<;>omega
theorem W1{l:Array Bool}{i:Nat}(hi:i<l.size)(hl:¬iZ l i):∀{k},i<k->left (l.setIfInBounds i true) k+1<=left l k
 | 0,h=>by omega
 | k+1,h=>by
  simp only[left]
  by_cases e:i=k
  ·subst e;have h1:=zcK (l:=l) (i:=i) i;have h2:(l.setIfInBounds i true).getD i false=true:=(kg hi).2 (.inl rfl);rw[if_pos h2,if_neg hl];omega
  ·have h1:=W1 hi hl (k:=k) (by omega)
   rw[getD_set_ne false e];omega
theorem W4{l:Array Bool}:∀{k},left l k=0->∀j,j<k->iZ l j
 | 0,_,j,hj=>by omega
 | k+1,h,j,hj=>by
  simp only[left] at h
  by_cases e:j=k
  ·subst e
   by_cases hl:l.getD j false=true
   ·exact hl
   ·rw[if_neg hl] at h;omega
  ·exact W4 (k:=k) (by omega) j (by omega)
theorem W5{n:Nat}:∀{k},left (Array.replicate n false) k<=k
 | 0=>dB _
 | k+1=>by have:=W5 (n:=n) (k:=k);simp only[left];split<;>omega
theorem Rel.uS(h:Rel B g s a w):Rel B g s a { w with drawn:=w.drawn+1 }:=by
 refine h.lE (b0:=none) (l0:=none) (g':=g) (s':=s) (w':={ w with drawn:=w.drawn+1 }) ⟨.refl _ _,λ_ _ _ _=>rfl,λ_ _ _=>rfl,λ_ _ _ _=>rfl,dB _,λ_ _ _=>rfl,λ_ h=>(by cases h),λ_ h=>(by cases h),λ_ _ _ _=>rfl,rfl,rfl,rfl⟩ (dB _) (λ_ _ _=>rfl) ?_ ?_ ?_ ?_ ?_ ?_ rfl rfl ?_ h.bC h.lV h.oB ?_
 ·intro b x hb hx;rcases hb with hb|hb
  ·cases hb
  ·have:=(cP.1 hx).1;omega
 ·intro b h1 h2;omega
 ·intro b b' h1 h2;omega
 ·exact h.de.mem
 ·exact h.de.eo
 ·intro _ _ h;cases h
 ·intro t x hx;exact⟨x,hx,.inl ⟨rfl,by simp⟩⟩
 ·intro t h;cases h
theorem znu{s0 s':St}{Ev:Nat->aC}{rs:List Rec}{cs:List eD}(hR:RI cx all takes s0 Ev all.size rs cs s')(lg:oX P cx B) :
  ∀(fuel:Nat)(l:Array Bool)(s:St)(g:Gh)(a:Act)(w:aP),left l all.size<=fuel->Inv all rs cs Ev l s->Rel B g s a w->wpAny P .any all (vR B .normal s') fuel l a w:=by
 have fin:∀(l:Array Bool)(s:St)(g:Gh)(a:Act)(w:aP),Inv all rs cs Ev l s->Rel B g s a w->(∀j,j<all.size->iZ l j)->vR B .normal s' .normal a w:=by
  intro l s g a w hI h dH;have:=hI.final hR dH;subst this;exact⟨g,h,trivial⟩
 have nil:∀(l:Array Bool)(s:St),Inv all rs cs Ev l s->Region.ready .any all l=[]->∀j,j<all.size->iZ l j:=by
  intro l s hI hr j
  induction j using Nat.strongRecOn with
  | ind j ih =>
   intro hj;cases hl:l.getD j false with
   | true=>exact hl
   | false =>
    obtain⟨r,oY,L0⟩:=hR.ex j hj;have cQ:=hR.get r oY
    have:j∈Region.ready .any all l:=mem_ready.2 ⟨by
     have:j<l.size:=by rw[hI.size];exact hj
     simp[this] at hl ⊢
     exact hl,r.o,by rw[<- L0];exact cQ,λe he hb=>ih e.on (by rw[<- L0];exact hR.bQ r oY e he hb) (by
      have h1:=hR.bQ r oY e he hb
      omega)⟩
    rw[hr] at this;cases this
 intro fuel
 induction fuel with
 | zero =>
  intro l s g a w hle hI h;have dH:=W4 (l:=l) (k:=all.size) (by omega)
  refine⟨?_,fin l s g a w hI h dH⟩;cases hr:Region.ready .any all l with
  | nil=>rfl
  | cons x xs =>
   have hx:x∈Region.ready .any all l:=by rw[hr];exact eT ..
   obtain⟨h1,o,ho,_⟩:=mem_ready.1 hx;have bR:x<all.size:=(sH.1 ho).1;have h2:=dH x bR;have:x<l.size:=by rw[hI.size];exact bR
   unfold iZ at h2;simp[this] at h1 h2;rw[h1] at h2;cases h2
 | succ fuel ih =>
  intro l s g a w hle hI h;refine⟨λhr=>fin l s g a w hI h (nil l s hI hr),λi hi=>?_⟩;obtain⟨h1,o,ho,gH⟩:=mem_ready.1 hi;have bR:i<all.size:=(sH.1 ho).1;have fK:i<l.size:=by rw[hI.size];exact bR
  have uh:¬iZ l i:=by
   unfold iZ;simp[fK] at h1 ⊢;exact h1
  obtain⟨r,oY,rfl⟩:=hR.ex i bR;have cQ:=hR.get r oY;rw[cQ] at ho;cases ho;have mU:=W1 fK uh bR;unfold wpOp;simp only[cQ];rcases Inv.step hR hI oY uh gH with⟨hw,uk⟩|⟨hw,res,s2,aD,l7,uk⟩
  ·rw[if_neg (by rw[yn h hw];simp)]
   exact ih _ _ g _ w (by omega) uk (wX (yD h r.o))
  ·rw[if_pos (yn h hw)]
   left
   refine Iq lg h aD ⟨λv' hv g' cv a' w' hk=>?_,λhv g' a' w' hk=>?_,λv' hv=>?_⟩
   ·rcases l7 with rfl|⟨rfl,_⟩
    ·cases hv;exact ih _ _ g' _ w' (by omega) uk (wX hk)
    ·cases hv
   ·rcases l7 with rfl|⟨_,he⟩
    ·cases hv
    ·rw[he] at uk;exact ih _ _ g' _ w' (by omega) uk (wX (yD hk r.o))
   ·rcases l7 with rfl|⟨rfl,_⟩<;>cases hv
theorem zeL{s s':St}{ex:Ex}{ops:Array Oper}(lg:oX P cx B)(hc:cx.drawn ops s=some (ex,s'))(h:Rel B g s a w):ex=.normal/\wpAny P .any ops (vR B .normal s') ops.size (Array.replicate ops.size false) a { w with drawn:=w.drawn+1 }:=by
 obtain⟨env,H,lk,df⟩:=s;unfold Cx.drawn at hc;obtain⟨rfl,Ev,rs,cs,hR⟩:=xi ops.toList 0 [] _ _ _ hc (RI.start (⟨env,H,[],df⟩:St)) (by simp)
 exact⟨rfl,znu hR lg ops.size _ _ g a _ W5 (Inv.start hR) h.Iu.uS⟩
end
section
variable{P:aQ}{cx:Cx}{B:dY}{g:Gh}{s:St}{a:Act}{w:aP}
def TL(T t sz N:Nat):Lp:=⟨T,.sl sz [] (.yes t),.slice (some ⟨N,0,none⟩) 0 1,none⟩
abbrev dY.late(B:dY)(T t sz N:Nat):dY:={ B with cY:=TL T t sz N::B.cY }
theorem og{T t sz N b off:Nat}:D9 (B.late T t sz N) b off ↔ D9 B b off:=by
 unfold D9;constructor
 ·rintro(h|⟨q,hq,h⟩)
  ·exact .inl h
  ·rcases dN.1 hq with rfl|hq
   ·cases h
   ·exact .inr ⟨q,hq,h⟩
 ·rintro(h|⟨q,hq,h⟩)
  ·exact .inl h
  ·exact .inr ⟨q,d_ _ hq,h⟩
theorem Rel.CP{T t sz N:Nat}(h:Rel (B.late T t sz N) g s a w):Rel B g s a w :=
 {de:=h.de,len:=h.len,env:=h.env,dS:=h.dS,n0:=h.n0,bC:=h.bC,dV:=h.dV,fr:=h.fr,lV:=λb off hb=>h.lV b off (og.2 hb),oB:=λp hp hb=>h.oB p hp (og.2 hb),cY:=λp hp=>h.cY p (d_ _ hp),eK:=h.eK,defers:=h.defers,marks:=h.marks,nM:=h.nM }
theorem zfB{T t N n:Nat}(h:Rel (B.late T t n N) g s a w)(hT:∀p∈B.cY,p.t≠T)(hN:B.w.heap.size<=N){p x:aX}{v:V}{cZ:aC}(hp:a.eval p=.pointer (some ⟨N,0,none⟩))(ht:take s.env x=some (v,cZ))
  (hn:z8 P t=some n) (eE:dD v=true) (hl:v.laid.length=n) :
  ∃g' w',(Instr.storeAt t (a.eval p) (a.eval x)).run P w=.ok () w'/\Rel B g' { s with env:=cZ,H:=s.H.push (.cells v.laid t) } a w'/\aR g' (.ptr s.H.au.length 0) (.pointer (some ⟨N,0,none⟩)):=by
 obtain⟨g1,h1,v1,v2,v3,sM⟩:=vH h ht (.cell s.H.au.length 0);obtain⟨l1,l2,l3⟩:=V9 v1 eE v2 (yZ ht) v3;obtain⟨p1,_,p3,_,_⟩:=h1.cY (TL T t n N) (eT ..);obtain⟨xs,⟨_,bZ⟩,hc⟩:=p3;rcases bZ with⟨e,_⟩|⟨c,o,cap,cur,e,lI,_,_,fK,_⟩
 ·cases e
 cases e;obtain⟨o1,o2,o3⟩:=hc N rfl;have fK:cur.size=n:=by rcases fK with h0|h0<;>simp at h0;exact h0
 have W6:N<w.heap.size:=(sH.1 lI).1;have nR:(a.eval x).cells.size=n:=by rw[<- hl,l1.len];simp
 have hM:∀o,g1.M N o=none:=by
  intro o;cases hm:g1.M N o with
  | none=>rfl
  | some u =>
   have hu:=h1.de.mem N o u hm;have ho:o<n:=by
    rw[<- fK];simp only[World.cell?,lI] at hu;exact(sH.1 (by simpa using hu)).1
   have:=o2 o (by simp) (by simpa using ho)
   rw[this] at hm;cases hm
 have cj:(Instr.storeAt t (.pointer (some ⟨N,0,none⟩)) (a.eval x)).run P w=.ok () (w.setRow N (a.eval x).cells):=by
  have fe:=run_storeCells_at P N 0 t (a.eval x).cells.toList 0 cur w lI (by simp[nR,fK]) (λu hu=>by
   obtain⟨j,hj⟩:=List.getElem?_of_mem hu;have pN:j<v.laid.length:=by rw[l1.len];exact(cP.1 hj).1
   have hx:=fQ pN
   exact(l1.rel j _ u hx hj).n_ (l1.one j _ hx))
  have ny:cur.toList.take (0+0)++(a.eval x).cells.toList++cur.toList.drop (0+0+(a.eval x).cells.toList.length)=(a.eval x).cells.toList:=by
   rw[List.drop_of_length_le (by simp[nR,fK])];simp
  rw[ny] at fe;unfold Instr.storeAt storeVar;simp[Instr.sureAddr,jx hn,nR,fe]
 have mU:(s.H.push (.cells v.laid t)).au.length=s.H.au.length+1:=by simp[Hp.push]
 have cQ:∀b,b<s.H.au.length->(s.H.push (.cells v.laid t)).au[b]?=s.H.au[b]?:=λb hb=>by simp only[Hp.push];rw[fI hb]
 have rP:(s.H.push (.cells v.laid t)).au[s.H.au.length]?=some (.cells v.laid t):=by simp[Hp.push]
 let g2:Gh:={ g1 with bO:=λb=>if b=s.H.au.length then N else g1.bO b,own:=λc=>if c=N then none else g1.own c }
 have Ak:g2.bO s.H.au.length=N:=if_pos rfl;have b_:∀c,(∀l,some (Loc.slot B.d T)=some l->g1.own c≠some l)->c≠N:=λc hc e=>hc _ rfl (e ▸ o1);have hs:gV B.d none (some (.slot B.d T)) s.H.au.length g1 w g2 (w.setRow N (a.eval x).cells) :=
  ⟨⟨λ_ _ _ h=>h,λb hb=>if_neg (by omega),rfl,λ_ _ _ _ h=>h⟩,λc _ _ hc=>setRow_other w N c _ (b_ c hc),λc _ hc=>if_neg (b_ c hc),λ_ _ _ _=>rfl,by simp[World.setRow],λ_ _ _=>rfl,λl hl=>.inl ⟨T,by cases hl;rfl⟩,λ_ hb=>(by cases hb),λ_ _ _ _=>rfl,rfl,rfl,rfl⟩
 have eu:∀b,s.H.au.length<=b->b<s.H.au.length+1->NS g1 (some (.slot B.d T)) w (g2.bO b):=λb q1 q2=>by
  have:b=s.H.au.length:=by omega
  subst this;rw[Ak];exact .inr ⟨_,rfl,o1⟩
 have oC:(w.setRow N (a.eval x).cells).heap[g2.bO s.H.au.length]?=some (.cells (a.eval x).cells t (0,0)):=by
  rw[Ak];exact setRow_heap w N cur _ t _ lI
 refine⟨g2,_,by rw[hp];exact cj,h1.CP.Dk (s':={ s with env:=cZ,H:=s.H.push (.cells v.laid t) }) hs (by simp only[mU];omega) (λb hb _=>cQ b hb) (λb y hb hy=>?_) (λb q1 q2=>?_) (λb b' q1 q2 q3 q4 _=>?_) (λc o u hu=>?_) (λc l hc=>?_)
  (λb j e=>by cases e) rfl rfl (λk y hy=>⟨y,hy,.inl ⟨rfl,λe=>?_⟩⟩) ?_ (λb off ri=>vJ cQ (h1.CP.lV b off ri)) h1.CP.oB (λk e p hp=>by cases e;exact hT p hp),?_⟩
 ·have dg:b=s.H.au.length:=by
   rcases hb with hb|hb
   ·cases hb
   ·have:=(cP.1 hy).1;simp only[mU] at this;simp only at hb;omega
  subst dg;rw[show({ s with env:=cZ,H:=s.H.push (.cells v.laid t) }:St).H.au[s.H.au.length]?=some (.cells v.laid t) from rP] at hy;cases hy;simp only[mU];refine⟨⟨_,oC,by simpa using l1.len,λj y u hy hu=>⟨l1.one j y hy,(l1.rel j y u hy (by simpa using hu)).le hs.le (cU (zn (zv hy)) l2),?_,?_⟩⟩,La l2⟩
  ·have:=(l3 j y u hy hu).1;rw[nI] at this;exact cN.nN hs (λe=>by cases e) eu this
  ·have:=(l3 j y u hy hu).2;cases y with
   | sl sz xs o=>cases o with
    | lock=>exact absurd rfl (this sz xs)
    | _=>trivial
   | _=>trivial
 ·simp only[mU] at q2;have e:b=s.H.au.length:=by simp only at q1;omega
  subst e;refine⟨⟨eu _ (dB _) (by omega),by rw[Ak];exact hN⟩,by rw[Ak];simpa[World.setRow] using W6,by rw[Ak];exact if_pos rfl,λo=>by rw[Ak];exact hM o⟩
 ·simp only[mU] at q2 q4;simp only at q1 q3;omega
 ·have nG:g1.M c o=some u:=hu;have:c≠N:=λe=>by rw[e,hM o] at nG;cases nG
  rw[yA (setRow_other w N c _ this)];exact h1.de.mem c o u nG
 ·have ey:(if c=N then none else g1.own c)=some l:=hc
  split at ey
  ·cases ey
  ·have:=h1.de.eo c l ey;simpa[World.setRow] using this
 ·simp only[bu,Loc.slot.injEq,lU] at e;have:=(cP.1 hy).1;have p1':cZ.length<T:=p1;simp only at this;omega
 ·intro b y hy;rcases eI b s.H.au.length with q1|q1
  ·rw[show({ s with env:=cZ,H:=s.H.push (.cells v.laid t) }:St).H.au[b]?=s.H.au[b]? from cQ b q1] at hy;exact h1.bC b y hy
  ·have dg:b=s.H.au.length:=by
    have:=(cP.1 hy).1;simp only[mU] at this;omega
   subst dg;rw[show({ s with env:=cZ,H:=s.H.push (.cells v.laid t) }:St).H.au[s.H.au.length]?=some (.cells v.laid t) from rP] at hy;cases hy;exact .inl (La l2)
 ·have:=aR.ptr (g:=g2) s.H.au.length 0;rw[Ak] at this;exact this
theorem znv{o:Oper}{K:Act->aP->Prop}{Q:Exit->Act->aP->Prop}{d:Tmp}(hd:o.dst≠some d)(h:o.wp P a w K Q):o.wp P a w (λa' w'=>K a' w'/\a'.tmps[d]?=a.tmps[d]?) Q:=by
 have CQ:∀(b:Act) v,b.tmps=a.tmps->(b.put o.dst v).tmps[d]?=a.tmps[d]?:=by
  intro b v hb;unfold Act.put;split
  ·rename_i k hk;have b_:k≠d:=λe=>hd (by rw[hk,e])
   simp only[hb,Array.getElem?_setIfInBounds_ne b_]
  ·rw[hb]
 unfold Oper.wp at *;generalize (execOp a.eval o).run P w=r at *;cases r with
 | ok n w' =>
  cases n<;>simp only[Oper.upon] at h ⊢ <;>
   first
    |exact⟨h,CQ _ _ rfl⟩
    | exact Calls.mono h (λe w'' he=>by cases e<;>first|exact⟨he,CQ _ _ rfl⟩|exact he)
    | exact Rows.mono h (λ_ _ he=>⟨he,CQ _ _ rfl⟩)
 | halt x w'=>cases x<;>simp only[Oper.upon] at h ⊢<;>exact h
theorem zh8{ops:Array Oper}{os:List Oper}{d:Tmp}{t:aB}{x:aX}(h:xO ops=some (os,d,t,x)):∃pre JU JV af JW ID after,ops.toList=pre++[⟨some d,.alloc t,JU,JV,af,none⟩,⟨none,.store t (.tmp d) x,JW,ID,after,none⟩] /\
  os=pre++[Di af,Di after]/\∀j,j<pre.length+1->∃e∈after,e.on=j/\Region.binds .any e=true:=by
 unfold xO at h;split at h
 ·rename_i t' d' x' JW ID after e u JU JV af rest hr;split at h
  ·rename_i hc;simp only[bu,cw] at h;obtain⟨rfl,rfl,rfl,rfl⟩:=h;simp only[ei] at hc;obtain⟨⟨c1,c2⟩,c3⟩:=hc;cases eR c1;cases eR c2;have dH:∀n,Td after.toList n=true->∀j,j<n->∃e∈after,e.on=j/\Region.binds .any e=true:=by
    intro n
    induction n with
    | zero=>intro _ j hj;omega
    | succ n ih =>
     intro ha j hj;simp only[Td,ei,List.any_eq_true] at ha;rcases eI j n with h1|h1
     ·exact ih ha.2 j h1
     ·obtain⟨e,he,h2,h3⟩:=ha.1;exact⟨e,Array.mem_toList_iff.1 he,by have:=eR h2;omega,h3⟩
   have hl:=congrArg List.reverse hr;rw[List.reverse_reverse] at hl;refine⟨rest.reverse,JU,JV,af,JW,ID,after,by rw[hl];simp,by simp,λj hj=>dH _ c3 j (by simpa using hj)⟩
  ·cases h
 ·cases h
theorem zgP{α:Type}{f:α->Bool}:∀{l:List α},kE f l=true->∀x∈l,f x=true
 | [],_,x,hx=>by cases hx
 | q::qs,h,x,hx=>by
  simp only[kE] at h;split at h
  ·rename_i hq;rcases dN.1 hx with rfl|hx
   ·exact hq
   ·exact zgP h x hx
  ·cases h
theorem zln{takes:cg}{af:Array Edge}{env:aC}{H:Hp}{lk:aN}{df:bP}{r:OR}{s2:St}(h:cx.op takes (Di af) env H lk df=some (r,s2)):s2=⟨env,H,lk,df⟩:=by
 obtain⟨_,_,h1,_⟩:=yh (by rfl) h
 rw[h1];rfl
theorem znw{pre:List Oper}{JU JW:aB}{JV ID:String}{af after:Array Edge}{d:Tmp}{t:aB}{x:aX}{ops sj:Array Oper}{takes:cg}{s0 s1 s':St}{Ev:Nat->aC}{rs:List Rec}{cs:List eD}{n:Nat}{z:V}{v:V}{cM:aC}
  (Bt:ops.toList=pre++[⟨some d,.alloc t,JU,JV,af,none⟩,⟨none,.store t (.tmp d) x,JW,ID,after,none⟩]) (pP:sj=(pre++[Di af,Di after]).toArray) (W7:∀j,j<pre.length+1->∃e∈after,e.on=j/\Region.binds .any e=true)
  (uL:∀o∈pre,Te takes d o=true) (hR:RI cx sj takes s0 Ev sj.size rs cs s1) (lg:oX P cx B)
  (hn:z8 P t=some n) (hz:qP P t=some z) (hzk:dD z=true) (Wn:z.cells.length=n) (ht:take s1.env x=some (v,cM)) (eE:dD v=true) (hl:v.laid.length=n) (hs':s'={ s1 with env:=cM.set d (.ptr s1.H.au.length 0),H:=s1.H.push (.cells v.laid t) }) :
  ∀(fuel:Nat)(l:Array Bool)(s:St)(g:Gh)(a:Act)(w:aP),left l ops.size<=fuel->Inv sj rs cs Ev l s->s.env[d]?=some .ee->¬iZ l (pre.length+1) ->
   ((¬iZ l pre.length/\Rel B g s a w)\/(iZ l pre.length/\∃T N,(∀p∈B.cY,p.t≠T)/\B.w.heap.size<=N/\a.tmps[d]?=some (.pointer (some ⟨N,0,none⟩))/\Rel (B.late T t n N) g s a w))->wpAny P .any ops (vR B .normal s') fuel l a w:=by
 have fK:ops.size=pre.length+2:=by rw[<- AM,Bt];simp
 have CF:sj.size=pre.length+2:=by rw[pP];simp
 have aD:∀j,j<pre.length->ops[j]?=sj[j]?:=λj hj=>by
  rw[<- E9,Bt,pP,List.getElem?_toArray,fI hj,fI hj]
 have hk:ops[pre.length]?=some ⟨some d,.alloc t,JU,JV,af,none⟩:=by rw[<- E9,Bt];simp
 have od:sj[pre.length]?=some (Di af):=by rw[pP];simp
 have Ee:ops[pre.length+1]?=some ⟨none,.store t (.tmp d) x,JW,ID,after,none⟩:=by rw[<- E9,Bt];simp
 have P4:sj[pre.length+1]?=some (Di after):=by rw[pP];simp
 have iN:∀(j:Nat)(o r:Oper),ops[j]?=some o->sj[j]?=some r->r.after=o.after:=by
  intro j o r ho hr;rcases eI j pre.length with h1|h1
  ·rw[aD j h1,hr] at ho;cases ho;rfl
  ·rcases eI j (pre.length+1) with h2|h2
   ·have:j=pre.length:=by omega
    subst this;rw[hk] at ho;rw[od] at hr;cases ho;cases hr;rfl
   ·have:j=pre.length+1:=by
     have:=(sH.1 ho).1;omega
    subst this;rw[Ee] at ho;rw[P4] at hr;cases ho;cases hr;rfl
 have nil:∀(l:Array Bool)(s:St),Inv sj rs cs Ev l s->Region.ready .any ops l=[]->∀j,j<ops.size->iZ l j:=by
  intro l s hI hr j
  induction j using Nat.strongRecOn with
  | ind j ih =>
   intro hj;cases hl:l.getD j false with
   | true=>exact hl
   | false =>
    obtain⟨r,oY,L0⟩:=hR.ex j (by rw[CF,<- fK];exact hj)
    have cQ:=hR.get r oY;have ho:=EJ hj;have AZ:=iN j _ r.o ho (by rw[<- L0];exact cQ)
    have:j∈Region.ready .any ops l:=mem_ready.2 ⟨by
     have:j<l.size:=by rw[hI.size,CF,<- fK];exact hj
     simp[this] at hl ⊢;exact hl,_,ho,λe he hb=>by
      have Ix:e∈r.o.after:=by rw[AZ];exact he
      have h1:=hR.bQ r oY e Ix hb
      exact ih e.on (by omega) (by omega)⟩
    rw[hr] at this;cases this
 intro fuel
 induction fuel with
 | zero =>
  intro l s g a w hle hI hj uh h;exact absurd (W4 (l:=l) (k:=ops.size) (by omega) _ (by omega)) uh
 | succ fuel ih =>
  intro l s g a w hle hI hj uh h;refine⟨λhr=>absurd (nil l s hI hr _ (by omega)) uh,λi hi=>?_⟩
  obtain⟨h1,o,ho,gH⟩:=mem_ready.1 hi;have bR:i<ops.size:=(sH.1 ho).1;have A0:i<l.size:=by rw[hI.size,CF,<- fK];exact bR
  have L1:¬iZ l i:=by
   unfold iZ;simp[A0] at h1 ⊢;exact h1
  obtain⟨r,oY,rR⟩:=hR.ex i (by rw[CF,<- fK];exact bR)
  have cQ:=hR.get r oY;rw[rR] at cQ;have P5:∀e∈r.o.after,Region.binds .any e=true->iZ l e.on:=λe he hb=>gH e (by rw[<- iN i o r.o ho cQ];exact he) hb
  have mU:=W1 A0 L1 bR;have mL:=Inv.step hR hI oY (by rw[rR];exact L1) P5
  rw[rR] at mL;unfold wpOp;simp only[ho];have hg:o.guard=none->Region.wanted o (yielded ops a.tmps)=true:=λh=>by unfold Region.wanted;rw[h]
  rcases eI i pre.length with Ag|Ag
  ·
   have Aj:r.o=o:=by
    have:=aD i Ag;rw[ho,cQ] at this;cases this;rfl
   have dG:o∈pre:=by
    have:pre[i]?=some o:=by
     rw[<- ho,<- E9,Bt,fI Ag]
    exact m8 this
   have N9:=uL o dG;simp only[Te,ei] at N9;obtain⟨⟨hd,mH⟩,P6⟩:=N9;have hd:o.dst≠some d:=λe=>by rw[e] at hd;simp at hd
   have mH:ko takes o≠some (.tmp d):=λe=>by rw[e] at mH;simp at mH
   have P6:o.guard=none:=by cases hh:o.guard with
    | none=>rfl
    | some _=>rw[hh] at P6;cases P6
   rw[Aj] at mL;rcases mL with⟨hw,_⟩|⟨hw,res,s2,CR,l7,uk⟩
   ·unfold z0 at hw;rw[P6] at hw;cases hw
   rw[if_pos (hg P6)]
   left
   have Ix:=(PR (bI:=s.env) (λ_ _=>rfl) CR).1;have pN:(aq s2.env o.dst r.v)[d]?=some .ee:=by rw[N8 hd,Ix,WX mH];exact hj
   have P7:¬iZ (l.setIfInBounds i true) (pre.length+1):=λe=>by
    rcases (kg A0).1 e with e|e
    ·omega
    ·exact uh e
   have JX:∀(B':dY)(K:Act->aP->Prop),(∀g' a' w',Rel B' g' { s2 with env:=aq s2.env o.dst r.v } a' w'->K a' w')->Ends P B' o res s2 K (vR B .normal s'):=λB' K hK=>by
    refine⟨λv' hv g' cv a' w' hk=>?_,λhv g' a' w' hk=>?_,λv' hv=>?_⟩
    ·rcases l7 with rfl|⟨rfl,_⟩
     ·cases hv;exact hK _ _ _ (wX hk)
     ·cases hv
    ·rcases l7 with rfl|⟨_,he⟩
     ·cases hv
     ·rw[he] at hK;exact hK _ _ _ (wX (yD hk o))
    ·rcases l7 with rfl|⟨rfl,_⟩<;>cases hv
   rcases h with⟨P8,h⟩|⟨P8,T,N,hT,hN,hp,h⟩
   ·refine Iq lg h CR (JX B _ λg' a' w' hk=>ih _ _ g' _ w' (by omega) uk pN P7 (.inl ⟨λe=>?_,hk⟩))
    rcases (kg A0).1 e with e|e
    ·omega
    ·exact P8 e
   ·have W8:oX P cx (B.late T t n N):=⟨lg.prog,lg.num,lg.Ww,lg.gl,lg.calls⟩;have key:=Iq W8 h CR (JX (B.late T t n N) (λa' w'=>∃g',Rel (B.late T t n N) g' { s2 with env:=aq s2.env o.dst r.v } a' w') λg' a' w' hk=>⟨g',hk⟩);refine Oper.wp_mono (λa' w' hk=>?_) (znv hd key);obtain⟨⟨g',hk⟩,N9⟩:=hk
    exact ih _ _ g' _ w' (by omega) uk pN P7 (.inr ⟨(kg A0).2 (.inr P8),T,N,hT,hN,N9.trans hp,hk⟩)
  ·rcases eI i (pre.length+1) with TM|TM
   ·
    have P9:i=pre.length:=by omega
    subst P9;rw[hk] at ho;cases ho;rw[od] at cQ;have Eh:r.o=Di af:=(D5 cQ).symm;rw[Eh] at mL;rcases mL with⟨hw,_⟩|⟨hw,res,s2,CR,l7,uk⟩
    ·cases hw
    have e2:=zln CR;subst e2;have uk:Inv sj rs cs Ev (l.setIfInBounds pre.length true) s:=uk;rcases h with⟨_,h⟩|⟨h0,_⟩
    ·rw[if_pos (hg rfl)]
     left
     obtain⟨cz,z1,z2,z3,_,z5⟩:=yy (g:=g) hz w;have ek:=vq z2 hzk;have cj:(execOp a.eval ⟨some d,.alloc t,JU,JV,af,none⟩).run P w=.ok (.value (.pointer (some ⟨w.heap.size,0,none⟩))) (w.alloc (.cells cz.cells t)):=by simp[execOp,Instr.alloc,z1,newVar,newRow]
     unfold Oper.wp;rw[cj,Oper.upon_value];obtain⟨T,hT1,hT2⟩:∃T,s.env.length<T/\∀p∈B.cY,p.t<T:=by
      have:∀ps:List Lp,∃T,s.env.length<T/\∀p∈ps,p.t<T:=by
       intro ps
       induction ps with
       | nil=>exact⟨s.env.length+1,by omega,λp hp=>by cases hp⟩
       | cons q qs ih =>
        obtain⟨T,t1,t2⟩:=ih;refine⟨T+q.t+1,by omega,λp hp=>?_⟩
        rcases dN.1 hp with rfl|hp
        ·omega
        ·have:=t2 p hp;omega
      exact this B.cY
     have hr0:=h.settle [] (some (.slot B.d T)) (w':=w.alloc (.cells cz.cells t)) (by simp) (λj hj=>by first|exact Go.heap_alloc_old w _ hj|exact Go.heap_alloc_old w _ _ hj) (λ_ _ e=>by simp at e) rfl rfl rfl
     have oY:Rel B (g.row w.heap.size [] (some (.slot B.d T))) { s with env:=aq s.env (some d) .ee } (a.put (some d) (.pointer (some ⟨w.heap.size,0,none⟩))) (w.alloc (.cells cz.cells t)) :=
      wX (dst:=some d) ⟨hr0,.ee _,λ_ _=>trivial,dU _⟩
     have lC:aq s.env (some d) .ee=s.env:=by
      apply Fa;intro k
      by_cases e:k=d
      ·subst e;rw[hj];have:=(cP.1 hj).1;simp[aq,this]
      ·exact N8 (λe'=>e (by cases e';rfl))
     rw[lC] at oY;have W9:d<a.tmps.size:=by rw[<- h.len];exact(cP.1 hj).1
     refine ih _ s (g.row w.heap.size [] (some (.slot B.d T))) _ _ (by omega) uk hj (λe=>?_) (.inr ⟨(kg A0).2 (.inl rfl),T,w.heap.size,λp hp e=>by have:=hT2 p hp;omega,h.fr.size,?_,?_⟩)
     ·rcases (kg A0).1 e with e|e
      ·omega
      ·exact uh e
     ·simp[Act.put,W9]
     ·refine { de:=oY.de,len:=oY.len,env:=oY.env,dS:=oY.dS,n0:=oY.n0,bC:=oY.bC,dV:=oY.dV,fr:=oY.fr,lV:=λb off hb=>oY.lV b off (og.1 hb),oB:=λp hp hb=>oY.oB p hp (og.1 hb),cY:=λp hp=>?_,eK:=oY.eK,defers:=oY.defers,marks:=oY.marks,nM:=oY.nM };rcases dN.1 hp with rfl|hp
      ·refine⟨hT1,?_,?_,dU _,λb off e=>by cases e⟩
       ·exact .sl (c:=w.heap.size) (o:=0) (λ_=>.nilFunc) (λ_ e=>by simp at e) (dU _) (λe=>absurd rfl e) (λ_ _ e=>by simp[zw] at e) (λ_ _ e=>by simp[zw] at e) (λ_ _ e=>by simp[zw] at e)
       ·have Cg:cz.cells.size=n:=by have:=ek.len;rw[Wn] at this;simpa using this.symm
        refine⟨[],⟨by simp,.inr ⟨w.heap.size,0,1,cz.cells,rfl,heap_alloc_new w _,dU _,by decide,.inr (by rw[Cg];omega),by simp⟩⟩,λc' ey=>?_⟩
        simp only[Value.ownBlock,TL,bu] at ey;subst ey;refine⟨by simp[Gh.row,TL],λo' _ _=>by simp[Gh.row],λb hb e=>?_⟩
        have:=h.de.lt b hb;simp only[Gh.row] at e;omega
      ·exact oY.cY p hp
    ·exact absurd h0 L1
   ·
    have P9:i=pre.length+1:=by omega
    subst P9;rw[Ee] at ho;cases ho;rw[P4] at cQ;have Eh:r.o=Di after:=(D5 cQ).symm;rw[Eh] at mL;have JY:∀j,j<pre.length+1->iZ l j:=λj hj=>by
     obtain⟨e,he,rfl,hb⟩:=W7 j hj;exact gH e he hb
    rcases mL with⟨hw,_⟩|⟨hw,res,s2,CR,l7,uk⟩
    ·cases hw
    have e2:=zln CR;subst e2;have uk:Inv sj rs cs Ev (l.setIfInBounds (pre.length+1) true) s:=uk;have JZ:∀j,j<ops.size->iZ (l.setIfInBounds (pre.length+1) true) j:=λj hj=>by
     rcases eI j (pre.length+1) with q|q
     ·exact(kg A0).2 (.inr (JY j q))
     ·exact(kg A0).2 (.inl (by omega))
    have iM:s=s1:=uk.final hR (λj hj=>JZ j (by omega))
    subst iM;rcases h with⟨h0,_⟩|⟨_,T,N,hT,hN,hp,h⟩
    ·exact absurd (JY _ (by omega)) h0
    rw[if_pos (hg rfl)]
    left
    have hev:a.eval (.tmp d)=.pointer (some ⟨N,0,none⟩):=by simp[Act.eval,hp]
    obtain⟨g',w',q1,q2,q3⟩:=zfB h hT hN hev ht hn eE hl;have cj:(execOp a.eval ⟨none,.store t (.tmp d) x,JW,ID,after,none⟩).run P w=.ok .skip w':=by simp[execOp,q1]
    unfold Oper.wp;rw[cj,Oper.upon_skip];have CQ:a.put (some d) (.pointer (some ⟨N,0,none⟩))=a:=by
     unfold Act.put;have:a.tmps.setIfInBounds d (.pointer (some ⟨N,0,none⟩))=a.tmps:=by
      apply Array.ext_getElem?;intro k
      by_cases e:k=d
      ·subst e;have bR:=(sH.1 hp).1;rw[hp];simp[bR]
      ·rw[Array.getElem?_setIfInBounds_ne (λe'=>e e'.symm)]
     simp only[this]
    have iM:=wX (dst:=some d) (v:=.ptr s.H.au.length 0) (cv:=.pointer (some ⟨N,0,none⟩)) ⟨q2,q3,λ_ _=>trivial,by simp[V.top,Hp.push]⟩
    rw[CQ] at iM;have hQ:vR B .normal s' .normal a w':=⟨g',by rw[hs'];exact iM,trivial⟩
    have WJ:Region.ready .any ops (l.setIfInBounds (pre.length+1) true)=[]:=by
     apply List.eq_nil_iff_forall_not_mem.2;intro j hj;obtain⟨j1,o,ho,_⟩:=mem_ready.1 hj;have A1:=(sH.1 ho).1;have h2:=JZ j A1;have:j<(l.setIfInBounds (pre.length+1) true).size:=by rw[uk.size,CF,<- fK];exact A1
     unfold iZ at h2;simp only[Array.getD_eq_getD_getElem?,EJ this,ga] at j1 h2;rw[j1] at h2;cases h2
    show wpAny P .any ops (vR B .normal s') fuel _ a w';cases fuel with
    | zero=>exact⟨WJ,hQ⟩
    | succ f=>exact⟨λ_=>hQ,λj hj=>by rw[WJ] at hj;cases hj⟩
theorem zlo{s s':St}{ex:Ex}{ops:Array Oper}(lg:oX P cx B)(hc:cx.late ops s=some (ex,s'))(h:Rel B g s a w):ex=.normal/\wpAny P .any ops (vR B .normal s') ops.size (Array.replicate ops.size false) a { w with drawn:=w.drawn+1 }:=by
 obtain⟨env,H,lk,df⟩:=s;unfold Cx.late at hc;simp only at hc;split at hc
 ·cases hc
 rename_i os d t x iB;split at hc
 ·cases hc
 rename_i G0;split at hc
 ·rename_i ex1 bI H2 AX AY aD;split at hc
  ·rename_i v akl n z h1 h2 h3;split at hc
   ·rename_i rQ;simp only[qm,di] at hc;split at hc
    ·rename_i hlen;rw[qn] at hc;simp only[bu,cw] at hc;obtain⟨rfl,rfl⟩:=hc;refine⟨rfl,?_⟩;obtain⟨pre,JU,JV,af,JW,ID,after,Bt,rfl,W7⟩:=zh8 iB;simp only[ei] at G0 rQ;obtain⟨G0,tL⟩:=G0;obtain⟨⟨c1,c2⟩,c3⟩:=rQ;have tL:d+1<=env.length:=by simpa[Nat.blt,Nat.ble_eq] using tL
     have tL:d<env.length:=tL;obtain⟨_,Ev,rs,cs,hR⟩:=xi _ 0 [] _ _ _ aD (RI.start (⟨env.set d .ee,H,[],df⟩:St)) (by simp)
     have GP:=h.Iu.uS;have hdt:d<a.tmps.size:=by rw[<- GP.len];exact tL
     have CQ:a.put (some d) a.tmps[d]=a:=by
      unfold Act.put;have:a.tmps.setIfInBounds d a.tmps[d]=a.tmps:=by
       apply Array.ext_getElem?;intro k
       by_cases e:k=d
       ·subst e;simp[hdt]
       ·rw[Array.getElem?_setIfInBounds_ne (λe'=>e e'.symm)]
      simp only[this]
     have fe:=wX (dst:=some d) (v:=.ee) (cv:=a.tmps[d]) ⟨GP,.ee _,λ_ _=>trivial,dU _⟩;rw[CQ] at fe;have eH:∀j,¬iZ (Array.replicate ops.size false) j:=λj hj=>by
      unfold iZ at hj;simp[Array.getElem?_replicate] at hj;split at hj<;>simp_all
     have fK:ops.size=(pre++[Di af,Di after]).toArray.size:=by rw[<- AM,Bt];simp
     have hI:=Inv.start hR;rw[<- fK] at hI;exact znw Bt rfl W7 (λo ho=>zgP G0 o (w_ _ ho)) hR lg (lg.prog ▸ h2) (lg.prog ▸ h3) c2 (eR c3) h1 c1 (eR hlen) rfl ops.size _ _ g a _ W5 hI (by simp[tL]) (eH _) (.inl ⟨eH _,fe⟩)
    ·cases hc
   ·cases hc
  ·cases hc
 ·cases hc
theorem zlp{s s':St}{ex:Ex}{ops:Array Oper}(lg:oX P cx B)(hc:cx.draw ops s=some (ex,s'))(h:Rel B g s a w):ex=.normal/\wpAny P .any ops (vR B .normal s') ops.size (Array.replicate ops.size false) a { w with drawn:=w.drawn+1 }:=by
 unfold Cx.draw at hc;split at hc
 ·split at hc
  ·exact zlo lg hc h
  ·exact zeL lg hc h
 ·exact zeL lg hc h
theorem znx(oZ:P.follows .mixedOrders=true):N3 P cx B:=by
 intro lg id ops s s' ex g a w hc h;obtain⟨rfl,h1⟩:=zlp lg hc h;exact wp_region_any oZ h1
theorem W_{ops:Array Oper}{s:St}{r:Ex×St}(h:cx.drawn ops s=some r)(hl:cx.uq mJ=false\/xO ops=none):cx.draw ops s=some r:=by
 unfold Cx.draw;rcases hl with hl|hl<;>rw[hl]
 ·exact h
 ·split<;>exact h
theorem zkf{ops:Array Oper}{s:St}{q:List Oper×Tmp×aB×aX}{r:Ex×St}(hu:cx.uq mJ=true)(hq:xO ops=some q)(h:cx.late ops s=some r):cx.draw ops s=some r:=by
 unfold Cx.draw;rw[hu,hq];exact h
end
section
variable{P:aQ}{B:dY}
theorem zny{cx:Cx}:N4 P cx B:=λ_ n f ps as bd s s' ex g a w hc _=>by simp[Cx.code] at hc
theorem yS{gl:Gl}(oZ:P.follows .mixedOrders=true)(fX:yC P)(dW:va P)(Ek:mX P gl)(n:Nat):xz P gl (zk P gl n) (2 * n) :=
 zgI fX dW Ek (λ_ _=>⟨znx oZ,zny⟩) n
end
section
open Go.ChangeShapes Go.WideShapes Go.ChangeAt Go.RowKit
def xB(W:aP):Gh :=
 {M:=λc o=>W.cell? ⟨c,o,none⟩,bO:=λ_=>0,own:=λ_=>none,lk:=λ_ _=>undef,e_:=λ_ _=>none,
  obj:=⟨λk=>match W.cell? ⟨k,0,none⟩ with|some (.iface _ (.pointer (some a)))=>a|_=>⟨0,0,none⟩,λc=>∃cs t,W.heap[c]?=some (.cells cs t (0,0))⟩ }
theorem zlq(W:aP):nu (xB W) [] W :=
 {mem:=λ_ _ _ h=>h,lt:=λb h=>by simp at h,inj:=λb _ h=>by simp at h,apart:=λb h=>by simp at h,eo:=(λc l h=>by cases h),dj:=λb h=>by simp at h,
  ok:=λb x h=>by simp at h,aI:=λb x h=>by simp at h,laid:=λc hc=>⟨hc,rfl,λb hb=>by simp at hb⟩ }
def P_(U:aB)(ks:bL):Nat->Nat->bY:=λg o=>if Nat.beq o 0 && ks.any (Nat.beq g) then some (.ec U (.obj g)) else none
structure FA(U:aB)(W:aP)(ks:bL):Prop where
 at_:∀k∈ks,∃a,W.cell? ⟨k,0,none⟩=some (.iface U (.pointer (some a)))/\∃cs t,W.heap[a.block]?=some (.cells cs t (0,0))
 two:∀k∈ks,∀k'∈ks,∀a,W.cell? ⟨k,0,none⟩=some (.iface U (.pointer (some a)))->W.cell? ⟨k',0,none⟩=some (.iface U (.pointer (some a)))->k=k'
theorem Xa{U:aB}{ks:bL}{k off:Nat}{v:V}(hv:P_ U ks k off=some v):k∈ks/\off=0/\v=.ec U (.obj k):=by
 unfold P_ at hv;split at hv<;>simp only[bu,reduceCtorEq] at hv;rename_i hb;rw[ei] at hb;obtain⟨x,hx,hkx⟩:=List.any_eq_true.1 hb.2;have e2:=eR hkx;subst e2;exact⟨hx,eR hb.1,hv.symm⟩
theorem TN{U:aB}{W:aP}{k:Nat}{a:Addr}(ha:W.cell? ⟨k,0,none⟩=some (.iface U (.pointer (some a)))):(xB W).obj k=a:=by simp only[xB,ha]
theorem znz{P:aQ}{U:aB}{ks:bL}{W:aP}(h:FA U W ks):gF P (P_ U ks) (xB W):=by
 refine⟨?_,λk u j hv=>?_⟩
 rotate_left
 ·obtain⟨hk,_,e⟩:=Xa hv;cases e;obtain⟨a,ha,hc⟩:=h.at_ _ hk;refine⟨by rw[TN ha];exact hc,λk' u' j' lX e=>?_⟩
  obtain⟨od,_,e'⟩:=Xa lX;cases e';obtain⟨a',G8,_⟩:=h.at_ _ od;rw[TN ha,TN G8] at e;subst e;exact h.two _ hk _ od _ ha G8
 intro k off v hv;obtain⟨hk,rfl,rfl⟩:=Xa hv;obtain⟨a,ha,_⟩:=h.at_ _ hk;refine⟨_,ha,.ec ?_,rfl⟩;rw[<- TN ha];exact .obj k
theorem zkg{P:aQ}{gl:Gl}(oZ:P.follows .mixedOrders=true)(fX:yC P)(dW:va P)(Ek:mX P gl){n:Nat}{f:FuncId}{args:aC}{bp:dF}{W:aP}{H':Hp}
  (hc:zk P gl n f args ⟨[],[]⟩=some (.ret (.bool true),H')) (rm:gF P gl (xB W)) (ha:dI (xB W) 0 args bp):Calls P f bp W λe W'=>e=.returned (.bool true)/\Below W.heap.size W W':=by
 refine Calls.mono (yS oZ fX dW Ek n f args ⟨[],[]⟩ _ _ hc (xB W) W bp .ret rm (zlq W) ha) λe W' he=>?_;cases e with
 | returned cv =>
  obtain⟨v,g',h1,h2,h3,_,_⟩:=he;cases h1;cases h3;exact⟨rfl,h2.fr.os,h2.fr.tape,h2.fr.output,h2.fr.size,λc rj=>h2.fr.heap c ⟨rj,λb hb=>by simp at hb,.inl rfl⟩⟩
 | panicked chain =>
  obtain⟨v,cv,g',h1,_⟩:=he;cases h1
 | outgrown=>exact he.elim
theorem zdx{H:Type}{enc:aB×bw->H}{P:aQ}{W W':aP}(hl:laidOutB P=true)(hb:Below W.heap.size W W'):∀{ts:List aB}{vs:dA}{ds:List (DataW H)}{ps:List MemPlace},
  (∀t∈ts,P.readableRec t=true/\t<P.types.size)->DataW.TrodAll enc P W 0 (λ_=>true) true ts vs ds ps->(∀x∈ps,x.block<W.heap.size)->DataW.TrodAll enc P W' 0 (λb=>decide (b<W.heap.size)) true ts vs ds ps
 | [],vs,ds,ps,_,h,_=>by
  cases vs<;>cases ds<;>first|exact h|exact h.elim
 | t::ts,vs,ds,ps,ht,h,bR=>by
  cases vs<;>cases ds<;>first|exact h.elim|skip
  obtain⟨p,q,h1,h2,rfl⟩:=h
  exact⟨p,q,Below.trod hl (ht t (eT ..)).1 (ht t (eT ..)).2 h1 hb λx hx=>bR x (w_ _ hx),
   zdx hl hb (λu hu=>ht u (d_ _ hu)) h2 λx hx=>bR x (Ba _ hx),rfl⟩
theorem zls{H:Type}{enc:aB×bw->H}{P:aQ}{f:Func}{s:ChangeSpec}{apart fresh handsOn:Bool}{W W':aP}{args:dF}{ds gs:List (DataW H)}{before:List MemPlace}{tb:aB}
  (J0:s.vars=[]) (hrt:f.resultTypes=#[tb]) (htb:P.underlying tb=some .bool) (hl:laidOutB P=true) (Qa:∀t∈f.params.toList,P.readableRec t=true/\t<P.types.size)
  (LR:s.fn H (ds++[])={ results:=[.lit (.bool true)],args:=ds }) (hW:DataW.Whole enc P f.params.toList s.vars apart W args.toList ds gs before) (hb:Below W.heap.size W W') :
  s.post enc P f apart fresh handsOn false W args (.bool true) W':=by
 have L3:=hW;obtain⟨p,q,hA,hV,rfl,_,_⟩:=hW;rw[J0] at hV;obtain⟨rfl,rfl⟩:gs=[]/\q=[]:=by
  cases gs with
  | nil=>exact⟨rfl,hV⟩
  | cons g r=>exact absurd hV (by intro h;cases h)
 refine⟨ds,[],_,[],p,[],L3,?_,?_,?_,hb.frame _,λh=>by cases h⟩
 ·rw[LR,hrt];exact trodAll_mk1 (shut_bool htb true)
 ·rw[LR];exact zdx hl hb Qa hA λx hx=>L3.lt x (by simpa using hx)
 ·rw[LR,J0];rfl
def TO(P:aQ)(x:String×DataW Unit):Bool :=
 match P.globalNamed x.1,x.2 with
 | some g,.iface nm (.ptr _) =>
  (match (P.globals[g]?).map (·.type) with
  | some t=>match P.underlying t with
   | some (.interface _)=>true
   | _=>false
  | none=>false) && nm == "*errors.errorString"
 | _,_=>false
structure mo(P:aQ)(w:aP)(ps:List MemPlace)(x:String×DataW Unit)(g t:Nat)(cs:dF)(fuel:Nat)(p:List MemPlace):Prop where
 named:P.globalNamed x.1=some g
 type:(P.globals[g]?).map (·.type)=some t
 var:w.var? P x.1=some cs
 trod:DataW.trod (λ_=>()) P w 0 (λ_=>true) false fuel t cs.toList=some (x.2,p)
 row:∀y∈MemPlace.row ⟨g,0,none⟩ cs.size,y∈ps
 sub:∀y∈p,y∈ps
theorem mo.more{P:aQ}{w:aP}{ps ps':List MemPlace}{x:String×DataW Unit}{g t:Nat}{cs:dF}{fuel:Nat}{p:List MemPlace}(h:mo P w ps x g t cs fuel p)(hs:∀y∈ps,y∈ps'):mo P w ps' x g t cs fuel p :=
 {h with row:=λy hy=>hs y (h.row y hy),sub:=λy hy=>hs y (h.sub y hy) }
theorem Qb{P:aQ}{w:aP}:∀{l:List (String×DataW Unit)}{ps:List MemPlace},DataW.LaidVars P w l ps->∀x∈l,∃g t cs fuel p,mo P w ps x g t cs fuel p
 | [],_,_,x,hx=>by simp at hx
 | (n,d)::r,ps,h,x,hx=>by
  obtain⟨g,t,cs,fuel,p,q,h1,h2,h3,h4,h5,h6⟩:=h;rcases dN.1 hx with rfl|hx
  ·exact⟨g,t,cs,fuel,p,h1,h2,h3,h4,λy hy=>by rw[h6];exact w_ _ (w_ _ hy),λy hy=>by rw[h6];exact w_ _ (Ba _ hy)⟩
  ·obtain⟨g',t',cs',f',p',a⟩:=Qb h5 x hx;exact⟨g',t',cs',f',p',a.more λy hy=>by rw[h6];exact Ba _ hy⟩
theorem zgQ{P:aQ}{w:aP}:∀{l:List (String×DataW Unit)}{ps:List MemPlace},DataW.LaidVars P w l ps->ps.Nodup->∀x∈l,∀x'∈l,∃g t cs fuel p g' t' cs' J1 p',mo P w ps x g t cs fuel p/\mo P w ps x' g' t' cs' J1 p'/\(g=g'\/∀y∈p,y ∉ p')
 | [],_,_,_,x,hx,_,_=>by simp at hx
 | (n,d)::r,ps,h,hn,x,hx,x',pO=>by
  obtain⟨g,t,cs,fuel,p,q,h1,h2,h3,h4,h5,h6⟩:=h;have hd:mo P w ps (n,d) g t cs fuel p:=⟨h1,h2,h3,h4,λy hy=>by rw[h6];exact w_ _ (w_ _ hy),λy hy=>by rw[h6];exact w_ _ (Ba _ hy)⟩
  have hq:∀y∈q,y∈ps:=λy hy=>by rw[h6];exact Ba _ hy
  rw[h6] at hn;obtain⟨_,hnq,Qc⟩:=List.nodup_append.1 hn;rcases dN.1 hx with rfl|hx<;>rcases dN.1 pO with rfl|pO
  ·exact⟨g,t,cs,fuel,p,g,t,cs,fuel,p,hd,hd,.inl rfl⟩
  ·obtain⟨g',t',cs',f',p',a⟩:=Qb h5 x' pO;exact⟨g,t,cs,fuel,p,g',t',cs',f',p',hd,a.more hq,.inr λy hy Xb=>Qc y (Ba _ hy) y (a.sub y Xb) rfl⟩
  ·obtain⟨g',t',cs',f',p',a⟩:=Qb h5 x hx;exact⟨g',t',cs',f',p',g,t,cs,fuel,p,a.more hq,hd,.inr λy hy Xb=>Qc y (Ba _ Xb) y (a.sub y hy) rfl⟩
  ·obtain⟨g1,t1,Ai,f1,p1,g2,t2,Wa,f2,p2,a1,a2,a3⟩:=zgQ h5 hnq x hx x' pO;exact⟨g1,t1,Ai,f1,p1,g2,t2,Wa,f2,p2,a1.more hq,a2.more hq,a3⟩
theorem Xc{P:aQ}{U:aB}{W:aP}{ps:List MemPlace}(eE:∀b off,MemPlace.cell b off∈ps->(∃c t,W.heap[b]?=some (.cells c t (0,0)))/\∀u v,W.cell? ⟨b,off,none⟩=some (.iface u v)->Value.okWide P W .any 0 u v)
  (nS:∀u,P.typeName? 3 u=some "*errors.errorString"->u=U) {e:aB} (hU:P.underlying U=some (.pointer e)) (he:0<P.cellsOf e) {x:String×DataW Unit} {k t:Nat} {cs:dF} {fuel:Nat} {p:List MemPlace} (h:mo P W ps x k t cs fuel p) (hB:TO P x=true) :
  ∃a,W.cell? ⟨k,0,none⟩=some (.iface U (.pointer (some a)))/\MemPlace.cell a.block a.off∈p:=by
 obtain⟨h1,h2,h3,h4,bZ,_⟩:=h;unfold TO at hB;rw[h1] at hB;split at hB<;>try (cases hB;done)
 rename_i g' nm d' NX G2;cases NX;rw[h2] at hB;simp only[ei] at hB;obtain⟨A3,DA⟩:=hB;split at A3<;>try (cases A3;done)
 rename_i ms hti;have Xd:nm= "*errors.errorString":=by simpa using DA
 subst Xd;rw[G2] at h4;cases fuel with
 | zero=>simp[DataW.trod] at h4
 | succ fuel =>
  obtain⟨l0⟩:=cs;simp only[DataW.trod,hti] at h4;have key:∃u v,l0=[.iface u v]/\P.typeName? 3 u=some "*errors.errorString"/\∃d2,DataW.trod (λ_=>()) P W 0 (λ_=>true) false fuel u v.cells.toList=some (.ptr d2,p):=by
   match l0,h4 with
   | [.iface u v],h4 =>
    simp only at h4;split at h4<;>try (cases h4;done)
    rename_i name nS;obtain⟨x1,Du,L4⟩:=mA.1 h4;simp only[cw,DataW.iface.injEq] at L4;refine⟨u,v,rfl,by rw[nS,L4.1.1],d',?_⟩
    rw[Du,<- L4.1.2,<- L4.2]
   | [.nilIface],h4=>simp at h4
   | [],h4=>simp at h4
   | _::_::_,h4=>simp at h4
  obtain⟨u,v,rfl,hn,d2,IE⟩:=key;have hu:u=U:=nS u hn;subst hu;have sR:W.cell? ⟨k,0,none⟩=some (.iface u v):=by
   have:=World.var?_cell h1 h3 0;simpa using this
  have hvo:=(eE k 0 (bZ _ (by simp[MemPlace.row]))).2 u v sR
  have hva:∃a,v=.pointer (some a):=by
   simp only[Value.okWide,hU,Cell.okWide] at hvo;cases fuel with
   | zero=>simp[DataW.trod] at IE
   | succ fuel =>
    simp only[DataW.trod,hU] at IE;cases v<;>simp[Cell.ok,hU] at hvo;rename_i oa;cases oa with
    | none=>simp[Value.cells] at IE
    | some a=>exact⟨a,rfl⟩
  obtain⟨a,rfl⟩:=hva;refine⟨a,sR,?_⟩;cases fuel with
  | zero=>simp[DataW.trod] at IE
  | succ fuel =>
   have ht3:DataW.trod (λ_=>()) P W 0 (λ_=>true) false (fuel+1) u [.pointer (some a)]=some (.ptr d2,p):=IE;simp only[DataW.trod,hU] at ht3;obtain⟨z,ET,G_⟩:=mA.1 ht3;simp only[cw] at G_;rw[<- G_.2];exact w_ _ (by simp only[MemPlace.row,iH,Cd];exact⟨0,he,rfl⟩)
theorem zfD{P:aQ}{U:aB}{W:aP}{l:List (String×DataW Unit)}(h:laidMet P l W)(nS:∀u,P.typeName? 3 u=some "*errors.errorString"->u=U) {e:aB} (hU:P.underlying U=some (.pointer e)) (he:0<P.cellsOf e):FA U W ((l.filter (TO P)).filterMap (λx=>P.globalNamed x.1)):=by
 obtain⟨ps,hv,sy,eE⟩:=h;refine⟨λk hk=>?_,λk hk k' od a ha G8=>?_⟩
 ·obtain⟨x,pO,L5⟩:=List.mem_filterMap.1 hk;obtain⟨hx,hB⟩:=List.mem_filter.1 pO;obtain⟨g,t,cs,fuel,p,h1⟩:=Qb hv x hx;have:=h1.named;rw[this] at L5;cases L5;obtain⟨a,h2,h3⟩:=Xc eE nS hU he h1 hB;exact⟨a,h2,(eE _ _ (h1.sub _ h3)).1⟩
 ·obtain⟨x,G1,L5⟩:=List.mem_filterMap.1 hk;obtain⟨hx,hB⟩:=List.mem_filter.1 G1;obtain⟨x',Xe,Qd⟩:=List.mem_filterMap.1 od;obtain⟨pO,He⟩:=List.mem_filter.1 Xe;obtain⟨g,t,cs,fuel,p,g',t',cs',J1,p',h1,Ig,h2⟩:=zgQ hv sy x hx x' pO;have e1:=h1.named;rw[e1] at L5;cases L5;have Ia:=Ig.named;rw[Ia] at Qd;cases Qd;rcases h2 with h2|h2
  ·exact h2
  ·obtain⟨b,c1,c2⟩:=Xc eE nS hU he h1 hB;obtain⟨b',nF,V1⟩:=Xc eE nS hU he Ig He;rw[ha] at c1;rw[G8] at nF;cases c1;cases nF;exact absurd V1 (h2 _ c2)
end
section
open Go.ChangeShapes Go.WideShapes Go.ChangeAt Go.RowKit
def y5(P:aQ)(t:aB):Bool :=
 match P.underlying t with
 | some (.struct _)|some (.array _ _)=>true
 | _=>false
def v9(P:aQ)(e:aB)(cs:aC):V:=if y5 P e then .agg cs else cs.headD .ee
def N_(P:aQ):Nat->List Field->Nat->Bool
 | off,[],n=>Nat.beq off n
 | off,f::fs,n=>Nat.beq f.offset off && N_ P (off+P.cellsOf f.type) fs n
def TP(P:aQ)(S:List aB)(t:aB):Bool :=
 match P.underlying t with
 | some .bool|some (.int _)|some .string=>Nat.beq (P.cellsOf t) 1
 | some (.slice e)=>Nat.beq (P.cellsOf t) 1 && S.any (Nat.beq e) && Nat.blt 0 (P.cellsOf e)
 | some (.struct fs)=>N_ P 0 fs.toList (P.cellsOf t) && fs.toList.all λf=>S.any (Nat.beq f.type)
 | some (.array n e)=>Nat.beq (n * P.cellsOf e) (P.cellsOf t) && S.any (Nat.beq e)
 | _=>false
def jk(P:aQ):Nat->aB->aC->Prop
 | 0,_,_=>False
 | n+1,t,xs =>
  match P.underlying t with
  | some .bool=>∃b,xs=[.bool b]
  | some (.int k)=>∃z,xs=[.int k z]/\(Lit.int k z).wf=true
  | some .string=>∃s,xs=[.str s]/\(∀b∈s,b<256)/\s.length<=maxLen
  | some (.slice e)=>xs=[.aG]\/∃ys,xs=[.sl (P.cellsOf e) ys .no]/\(ys.length<=maxLen/\ys.length * P.bytesOf e<=reachBytes)/\∀y∈ys,∃cs,jk P n e cs/\y=v9 P e cs
  | some (.struct fs)=>xs.length=P.cellsOf t/\∀f∈fs.toList,jk P n f.type ((xs.drop f.offset).take (P.cellsOf f.type))
  | some (.array m e)=>xs.length=P.cellsOf t/\∀i,i<m->jk P n e ((xs.drop (i * P.cellsOf e)).take (P.cellsOf e))
  | _=>False
def Xf(g:Gh)(x:V)(v:bw):Prop:=x.one=true/\aR g x v/\x.top=0/\∀sz ys e,x≠.sl sz ys (.yes e)
def RC(g:Gh):aC->dA->Prop
 | [],[]=>True
 | x::xs,v::vs=>Xf g x v/\RC g xs vs
 | _,_=>False
theorem RC.append{g:Gh}:∀{xs ys:aC}{vs us:dA},RC g xs vs->RC g ys us->RC g (xs++ys) (vs++us)
 | [],_,[],_,_,h=>h
 | _::_,_,_::_,_,h,k=>⟨h.1,RC.append h.2 k⟩
 | [],_,_::_,_,h,_=>h.elim
 | _::_,_,[],_,h,_=>h.elim
theorem RC.length{g:Gh}:∀{xs:aC}{vs:dA},RC g xs vs->xs.length=vs.length
 | [],[],_=>rfl
 | _::_,_::_,h=>by simp[RC.length h.2]
 | [],_::_,h=>h.elim
 | _::_,[],h=>h.elim
theorem RC.get{g:Gh}:∀{xs:aC}{vs:dA},RC g xs vs->∀(j:Nat)(x:V),xs[j]?=some x->∃v,vs[j]?=some v/\Xf g x v
 | [],[],_,j,x,hx=>by simp at hx
 | y::ys,u::us,h,0,x,hx=>by
  simp only[K7,bu] at hx;subst hx;exact⟨u,rfl,h.1⟩
 | y::ys,u::us,h,j+1,x,hx=>RC.get h.2 j x (by simpa using hx)
 | [],_::_,h,_,_,_=>h.elim
 | _::_,[],h,_,_,_=>h.elim
theorem zh9{P:aQ}{e:aB}{cs:aC}{vs:dA}{g:Gh}(h:RC g cs vs)(hlen:y5 P e=false->cs.length=1):(v9 P e cs).cells=cs:=by
 unfold v9;split
 ·rfl
 ·rename_i ha;have:=hlen (by simpa using ha)
  match cs,this with
  | [x],_ =>
   obtain⟨v,_,hx⟩:=RC.get h 0 x rfl;have h1:=hx.1;cases x<;>first|rfl|(simp[V.one,Cz] at h1)
theorem Xg{S:List aB}{e:aB}(h:S.any (Nat.beq e)=true):e∈S:=by
 obtain⟨x,hx,hb⟩:=List.any_eq_true.1 h;rw[eR hb];exact hx
theorem Xh{α β:Type}{f:α->Option β}:∀{l:List α}{r:List β},l.mapM f=some r->r.length=l.length/\∀(i:Nat)(a:α),l[i]?=some a->∃b,r[i]?=some b/\f a=some b
 | [],r,h=>by
  simp at h;subst h;exact⟨rfl,λi a ha=>by simp at ha⟩
 | x::l,r,h=>by
  simp only[List.mapM_cons,Option.bind_eq_bind,eL,Option.pure_def,bu] at h;obtain⟨b,hb,r',Dr,rfl⟩:=h;obtain⟨h1,h2⟩:=Xh Dr;refine⟨by simp[h1],λi a ha=>?_⟩
  cases i with
  | zero =>
   simp only[K7,bu] at ha;subst ha;exact⟨b,rfl,hb⟩
  | succ i=>exact h2 i a (by simpa using ha)
theorem zdz{W:aP}{base:Nat}{a:Addr}{n:Nat}{cs:dA}(h:W.cells? base a n=some cs):cs.length=n/\∀i,i<n->W.cell? (a.add i)=cs[i]?:=by
 unfold World.cells? at h;split at h<;>try (cases h;done)
 refine⟨?_,λi hi=>?_⟩
 ·have:=(Xh h).1;simpa using this
 ·obtain⟨b,h1,h2⟩:=(Xh h).2 i i (by simp[hi])
  rw[h1,h2]
theorem zgR(a:Addr)(hs:a.spot=none)(n:Nat):a.add n=⟨a.block,a.off+n,none⟩:=by
 obtain⟨b,o,s⟩:=a;subst hs;unfold Addr.add;split
 next h=>subst h;rfl
 ·rfl
theorem zlt(s:ByteArray):bytes (s.data.toList.map UInt8.toNat)=s:=by
 unfold bytes;have:(s.data.toList.map UInt8.toNat).map UInt8.ofNat=s.data.toList:=by
  rw[List.map_map];exact(List.map_congr_left λb _=>by simp).trans (List.map_id _)
 rw[this]
theorem zdA{g:Gh}{W:aP}{P:aQ}{e:aB}{b o c:Nat}{f:Nat->aC}{v:Nat->dA}:∀(len:Nat),(∀i,i<len->(v9 P e (f i)).cells=f i/\RC g (f i) (v i)/\(f i).length=c/\∀r,r<c->W.cell? ⟨b,o+(i * c+r),none⟩=(v i)[r]?) ->
  (zw ((List.range len).map λi=>v9 P e (f i))).length=len * c/\∀j x,(zw ((List.range len).map λi=>v9 P e (f i)))[j]?=some x->∃u,W.cell? ⟨b,o+j,none⟩=some u/\Xf g x u
 | 0,_=>by simp[zw]
 | len+1,h=>by
  obtain⟨h1,h2⟩:=zdA len λi hi=>h i (by omega)
  obtain⟨k1,k2,k3,k4⟩:=h len (by omega)
  have e:zw ((List.range (len+1)).map λi=>v9 P e (f i))=zw ((List.range len).map λi=>v9 P e (f i))++f len:=by
   simp only[List.range_succ,List.map_append,a_,bt,zw,List.flatMap_append,D3,List.flatMap_nil,mT,k1]
  rw[e];refine⟨by rw[aV,h1,k3,HU],λj x hx=>?_⟩
  by_cases hj:j<len * c
  ·rw[fI (by rw[h1];exact hj)] at hx
   exact h2 j x hx
  ·rw[eM (by rw[h1];omega),h1] at hx
   obtain⟨u,hu,hg⟩:=RC.get k2 _ x hx;have hr:j - len * c<c:=by
    have:=(cP.1 hx).1;omega
   refine⟨u,?_,hg⟩;rw[<- hu,<- k4 _ hr]
   congr 2
   omega
theorem rC:∀{xs:aC},(∀x∈xs,x.top=0)->aI xs=0
 | [],_=>rfl
 | x::xs,h=>by simp[aI,h x (eT ..),rC λy hy=>h y (d_ _ hy)]
theorem zqv{g:Gh}{P:aQ}{n:Nat}{total:Nat}:∀(fs:List Field)(off:Nat)(cs:dA),N_ P off fs total=true->cs.length=total - off->off<=total ->
  (∀f∈fs,∃xs,jk P n f.type xs/\RC g xs ((cs.drop (f.offset - off)).take (P.cellsOf f.type))/\xs.length=P.cellsOf f.type) ->
  ∃ys,RC g ys cs/\ys.length=total - off/\∀f∈fs,off<=f.offset/\jk P n f.type ((ys.drop (f.offset - off)).take (P.cellsOf f.type))
 | [],off,cs,ht,hl,ho,_=>by
  have:=eR ht;have:cs=[]:=K6.1 (by omega)
  subst this;exact⟨[],trivial,by simp;omega,λf hf=>by simp at hf⟩
 | f::fs,off,cs,ht,hl,ho,h=>by
  simp only[N_,ei] at ht;have TQ:=eR ht.1;obtain⟨xs,x1,x2,x3⟩:=h f (eT ..);rw[TQ,Bb,iW] at x2;have Aa:∀(fs:List Field)(o:Nat),N_ P o fs total=true->o<=total/\∀f∈fs,o<=f.offset:=by
   intro fs
   induction fs with
   | nil=>intro o ho;have:=eR ho;exact⟨by omega,λf hf=>by simp at hf⟩
   | cons k ks ih =>
    intro o ho;simp only[N_,ei] at ho;have h1:=eR ho.1;obtain⟨i1,i2⟩:=ih _ ho.2;refine⟨by omega,λf hf=>?_⟩
    rcases dN.1 hf with rfl|hf
    ·omega
    ·have:=i2 f hf;omega
  obtain⟨g1,g2⟩:=Aa fs _ ht.2
  obtain⟨ys,y1,y2,y3⟩:=zqv (g:=g) (n:=n) fs (off+P.cellsOf f.type) (cs.drop (P.cellsOf f.type)) ht.2 (by simp;omega) g1 (λk hk=>by
   obtain⟨zs,z1,z2,z3⟩:=h k (d_ _ hk);refine⟨zs,z1,?_,z3⟩;have:=g2 k hk;rw[List.drop_drop];rw[show P.cellsOf f.type+(k.offset - (off+P.cellsOf f.type))=k.offset - off by omega]
   exact z2)
  refine⟨xs++ys,?_,by simp[x3,y2];omega,λk hk=>?_⟩
  ·have:=RC.append x2 y1
   rwa [Cu] at this
  ·rcases dN.1 hk with rfl|hk
   ·refine⟨by omega,?_⟩
    rw[TQ,Bb,iW,List.take_append_of_le_length (by omega),<- x3,Dh]
    exact x1
   ·obtain⟨a1,a2⟩:=y3 k hk;refine⟨by omega,?_⟩
    rw[show k.offset - off=xs.length+(k.offset - (off+P.cellsOf f.type)) by omega,List.drop_append]
    rw[List.drop_eq_nil_of_le (by omega),bg]
    rw[show xs.length+(k.offset - (off+P.cellsOf f.type)) - xs.length=k.offset - (off+P.cellsOf f.type) by omega]
    exact a2
theorem zoW{g:Gh}{P:aQ}{n c:Nat}{e:aB}:∀(m:Nat)(cs:dA),cs.length=m * c->(∀i,i<m->∃xs,jk P n e xs/\RC g xs ((cs.drop (i * c)).take c)/\xs.length=c) ->
  ∃ys,RC g ys cs/\ys.length=m * c/\∀i,i<m->jk P n e ((ys.drop (i * c)).take c)
 | 0,cs,hl,_=>by
  have:cs=[]:=K6.1 (by simpa using hl)
  subst this;exact⟨[],trivial,by simp,λi hi=>by omega⟩
 | m+1,cs,hl,h=>by
  have hm:∀i,i<m->i * c+c<=m * c:=λi hi=>by
   have:=K9 c (show i+1<=m from hi)
   rwa [HU] at this
  rw[HU] at hl
  obtain⟨ys,y1,y2,y3⟩:=zoW (g:=g) (P:=P) (n:=n) (c:=c) (e:=e) m (cs.take (m * c)) (by rw[uJ];omega) (λi hi=>by
   obtain⟨xs,x1,x2,x3⟩:=h i (by omega)
   refine⟨xs,x1,?_,x3⟩;rw[List.drop_take,List.take_take,Nat.min_eq_left (by have:=hm i hi;omega)]
   exact x2)
  obtain⟨xs,x1,x2,x3⟩:=h m (by omega)
  rw[rM (by simp;omega)] at x2
  refine⟨ys++xs,?_,by rw[aV,y2,x3,HU],λi hi=>?_⟩
  ·have:=RC.append y1 x2
   rwa [Cu] at this
  ·by_cases he:i=m
   ·subst he;rw[<- y2,List.drop_left,<- x3,Dh];exact x1
   ·have uc:i<m:=by omega
    have:=hm i uc;rw[List.drop_append_of_le_length (by omega),List.take_append_of_le_length (by simp;omega)]
    exact y3 i uc
theorem yG{H:Type}{P:aQ}{e:aB}{d:DataW H}:∀{l:List (DataW H)},d∈l->∀w∈d.weights P e,w∈DataW.weightsAll P e l
 | x::l,h,w,hw=>by
  simp only[DataW.weightsAll,oM];rcases dN.1 h with rfl|h
  ·exact .inl hw
  ·exact .inr (yG h w hw)
theorem xP{H:Type}{P:aQ}{t:aB}{d:DataW H}:∀{i:Nat}{ts:List aB}{l:List (DataW H)},ts[i]?=some t->l[i]?=some d->∀w∈d.weights P t,w∈DataW.weightsEach P ts l
 | 0,u::ts,x::l,h1,h2,w,hw=>by
  simp only[K7,bu] at h1 h2;subst h1 h2;simp only[DataW.weightsEach,oM];exact .inl hw
 | i+1,u::ts,x::l,h1,h2,w,hw=>by
  simp only[DataW.weightsEach,oM];exact .inr (xP (i:=i) (by simpa using h1) (by simpa using h2) w hw)
theorem zgS{H:Type}{enc:aB×bw->H}{P:aQ}{W:aP}{S:List aB}(hS:S.all (TP P S)=true):∀(n:Nat)(t:aB)(cs:dA)(x:DataW H×List MemPlace),t∈S->DataW.trod enc P W 0 (λ_=>true) true n t cs=some x->(∀w∈x.1.weights P t,w<=reachBytes) ->
  ∃xs,jk P n t xs/\RC (xB W) xs cs/\xs.length=P.cellsOf t
 | 0,_,_,_,_,h,_=>by simp[DataW.trod] at h
 | n+1,t,cs,x,ht,h,tR=>by
  have ih:=zgS (enc:=enc) (W:=W) hS n;have hc:=Cy.1 hS t ht;unfold TP at hc;unfold jk;cases hu:P.underlying t with
  | none=>rw[hu] at hc;cases hc
  | some d =>
   rw[hu] at hc;cases d<;>simp only[f_] at hc
   case bool =>
    have e1:=eR hc;simp only[DataW.trod,hu] at h
    match cs,h with
    | [.bool b],h=>exact⟨[.bool b],⟨b,rfl⟩,⟨⟨rfl,.bool b,rfl,λ_ _ _ e=>by cases e⟩,trivial⟩,e1.symm⟩
   case int k =>
    have e1:=eR hc;simp only[DataW.trod,hu] at h
    match cs,h with
    | [.int k' z],h =>
     simp only at h;split at h<;>try (cases h;done)
     rename_i hk;obtain⟨rfl,hw⟩:=hk;exact⟨[.int k' z],⟨z,rfl,hw⟩,⟨⟨rfl,.int k' z,rfl,λ_ _ _ e=>by cases e⟩,trivial⟩,e1.symm⟩
   case string =>
    have e1:=eR hc;obtain⟨s,rfl,_,fK⟩:=DataW.trod_string hu h;have hb:∀b∈s.data.toList.map UInt8.toNat,b<256:=λb hb=>by
     obtain⟨c,_,rfl⟩:=iH.1 hb;exact c.toNat_lt
    refine⟨[.str (s.data.toList.map UInt8.toNat)],⟨_,rfl,hb,by simpa using fK⟩,⟨⟨rfl,?_,rfl,λ_ _ _ e=>by cases e⟩,trivial⟩,e1.symm⟩
    have:=aR.str (g:=xB W) hb
    rwa [zlt] at this
   case slice e =>
    simp only[ei] at hc;have e1:=eR hc.1.1;have he:=Xg hc.1.2;have si:0<P.cellsOf e:=by
     have:=hc.2;exact r9 (HT 0) (r8 this)
    rcases DataW.trod_slice hu h with⟨rfl,_⟩|⟨a,len,cap,elems,rest,m,hm,rfl,Qe,_,Bi,pH,Lx,cQ,_,_⟩
    ·exact⟨[.aG],.inl rfl,⟨⟨rfl,.aG,rfl,λ_ _ _ e=>by cases e⟩,trivial⟩,e1.symm⟩
    ·cases hm;have IF:∀w∈DataW.weights P t (.slice (elems.map (·.1)) (rest.map (·.1))),w<=reachBytes:=by rw[Qe] at tR;exact tR
     simp only[DataW.weights,hu] at IF;have L6:len * P.bytesOf e<=reachBytes:=by
      refine cU (K9 _ ?_) (IF _ (eT ..));simp[Lx]
     have each:∀i,∃(f:aC)(v:dA),i<len->jk P n e f/\RC (xB W) f v/\f.length=P.cellsOf e/\W.cells? 0 (a.add (i * P.cellsOf e)) (P.cellsOf e)=some v:=by
      intro i
      by_cases hi:i<len
      ·have h1:=cQ i hi;have h2:∃y,elems[i]?=some y:=⟨elems[i]'(by omega),by simp[Lx,hi]⟩
       obtain⟨y,hy⟩:=h2;rw[hy] at h1;obtain⟨v,hv,IE⟩:=eL.1 h1;obtain⟨xs,x1,x2,x3⟩:=ih e v y he IE λw hw=>IF w (d_ _ (w_ _ (yG (HP (f:=(·.1)) (m8 hy)) w hw)));exact⟨xs,v,λ_=>⟨x1,x2,x3,hv⟩⟩
      ·exact⟨[],[],λh=>absurd h hi⟩
     have hf:∃f:Nat->aC,∃v:Nat->dA,∀i,i<len->jk P n e (f i)/\RC (xB W) (f i) (v i)/\(f i).length=P.cellsOf e/\W.cells? 0 (a.add (i * P.cellsOf e)) (P.cellsOf e)=some (v i) :=
      ⟨λi=>Classical.choose (each i),λi=>Classical.choose (Classical.choose_spec (each i)),λi=>Classical.choose_spec (Classical.choose_spec (each i))⟩
     obtain⟨f,v,ER⟩:=hf;have pQ:y5 P e=false->P.cellsOf e=1:=λha=>by
      have Af:=Cy.1 hS e he;unfold TP at Af;unfold y5 at ha;split at Af<;>simp_all
     have dL:∀i,i<len->(v9 P e (f i)).cells=f i:=λi hi=>zh9 (ER i hi).2.1 λha=>(ER i hi).2.2.1.trans (pQ ha);have J2:0<len->a.spot=none:=λhl=>by
      obtain⟨_,_,_,hv⟩:=ER 0 hl;obtain⟨l1,l2⟩:=zdz hv;have h0:=l2 0 si;have h3:∃u,(v 0)[0]?=some u:=⟨(v 0)[0]'(by omega),by simp[l1,si]⟩
      obtain⟨u,DB⟩:=h3;rw[DB] at h0;have:(a.add (0 * P.cellsOf e)).add 0=a:=by simp[Addr.add]
      rw[this] at h0;unfold World.cell? at h0;split at h0<;>try (cases h0;done)
      split at h0<;>try (cases h0;done)
      rename_i hs;simpa using hs
     obtain⟨oc,FB⟩:=zdA (g:=xB W) (W:=W) (P:=P) (e:=e) (b:=a.block) (o:=a.off) (c:=P.cellsOf e) (f:=f) (v:=v) len λi hi=>by
      obtain⟨a1,a2,a3,a4⟩:=ER i hi;refine⟨dL i hi,a2,a3,λr hr=>?_⟩;obtain⟨l1,l2⟩:=zdz a4;rw[<- l2 r hr,zgR a (J2 (by omega)) (i * P.cellsOf e),zgR _ rfl r]
      simp[oO]
     refine⟨[.sl (P.cellsOf e) ((List.range len).map λi=>v9 P e (f i)) .no],.inr ⟨_,rfl,⟨by simp;omega,by simpa using L6⟩,λy hy=>?_⟩,⟨⟨rfl,?_,?_,λ_ _ _ e=>by cases e⟩,trivial⟩,e1.symm⟩
     ·obtain⟨i,hi,rfl⟩:=iH.1 hy;exact⟨f i,(ER i (Cd.1 hi)).1,rfl⟩
     ·have hl:((List.range len).map λi=>v9 P e (f i)).length=len:=by simp
      have:=aR.sl (g:=xB W) (sz:=P.cellsOf e) (xs:=(List.range len).map λi=>v9 P e (f i)) (ow:=.no) (a:=some a) (cap:=cap) (c:=a.block) (o:=a.off) (λj=>(W.cell? ⟨a.block,a.off+j,none⟩).getD undef)
       (λx hx=>by
        obtain⟨i,hi,rfl⟩:=iH.1 hx;rw[dL i (Cd.1 hi)]
        exact(ER i (Cd.1 hi)).2.2.1)
       (by rw[hl];exact Bi)
       (λb_=>by
        have:0<len:=by
         rcases JD len with h0|h0
         ·subst h0;simp at b_
         ·exact h0
        have hs:=J2 this;obtain⟨ab,ao,asp⟩:=a;simp only at hs;subst hs
        rfl)
       (λj x hx=>(FB j x hx).elim λu hu=>hu.2.1)
       (λj x hx=>by
        obtain⟨u,Fh,NW⟩:=FB j x hx;show W.cell? _=_
        rw[Fh];rfl)
       (λj x hx=>by
        obtain⟨u,Fh,NW⟩:=FB j x hx;rw[Fh]
        exact NW.2.1)
      rwa [hl] at this
     ·simp only[V.top];refine rC λx hx=>?_;obtain⟨i,hi,rfl⟩:=iH.1 hx;have uc:=Cd.1 hi;unfold v9;split
      ·simp only[V.top];refine rC λz hz=>?_;obtain⟨j,hj⟩:=List.mem_iff_getElem?.1 hz;exact(RC.get (ER i uc).2.1 j z hj).elim λu hu=>hu.2.2.2.1
      ·rename_i ha;have uf:=(ER i uc).2.2.1.trans (pQ (by simpa using ha))
       match Xi:f i,uf with
       | [z],_ =>
        have:=RC.get (ER i uc).2.1 0 z (by rw[Xi];rfl)
        exact this.elim λu hu=>hu.2.2.2.1
   case struct fs =>
    simp only[ei] at hc;obtain⟨xs,m,hm,Qe,hlen,_,cQ⟩:=DataW.trod_struct hu h;cases hm
    obtain⟨ys,y1,y2,y3⟩:=zqv (g:=xB W) (n:=n) (total:=P.cellsOf t) fs.toList 0 cs hc.1 (by simpa using hlen) (dU _) (λf hf=>by
     obtain⟨i,hi⟩:=List.mem_iff_getElem?.1 hf;have h1:=cQ i f (by simpa using hi)
     have hfS:=Xg (Cy.1 hc.2 f hf)
     have h2:∃y,xs[i]?=some y:=⟨xs[i]'(by
      have:=(cP.1 hi).1;simp at this
      omega),by simp⟩
     obtain⟨y,hy⟩:=h2;rw[hy] at h1;have IF:∀w∈DataW.weights P t (.agg (xs.map (·.1))),w<=reachBytes:=by rw[Qe] at tR;exact tR
     simp only[DataW.weights,hu] at IF
     simpa using ih f.type _ y hfS h1 λw hw=>IF w (xP (i:=i) (t:=f.type) (d:=y.1) (by simp at hi ⊢;simp[hi]) (by simp[hy]) w hw))
    refine⟨ys,⟨by simpa using y2,λf hf=>by simpa using (y3 f hf).2⟩,y1,by simpa using y2⟩
   case array m e =>
    simp only[ei] at hc;have Xj:=eR hc.1;have he:=Xg hc.2;obtain⟨xs,k,hk,Qe,hlen,J3,cQ⟩:=DataW.trod_array hu h;cases hk
    obtain⟨ys,y1,y2,y3⟩:=zoW (g:=xB W) (n:=n) (P:=P) (e:=e) (c:=P.cellsOf e) m cs (by omega) (λi hi=>by
     have h1:=cQ i hi;have h2:∃y,xs[i]?=some y:=⟨xs[i]'(by omega),by simp[J3,hi]⟩
     obtain⟨y,hy⟩:=h2;rw[hy] at h1;have IF:∀w∈DataW.weights P t (.agg (xs.map (·.1))),w<=reachBytes:=by rw[Qe] at tR;exact tR
     simp only[DataW.weights,hu] at IF
     exact ih e _ y he h1 λw hw=>IF w (yG (HP (f:=(·.1)) (m8 hy)) w hw))
    exact⟨ys,⟨by omega,y3⟩,y1,by omega⟩
end
theorem zcV{P:aQ}{f:FuncId}{fn:Func}{e:dF->Sem bw}{args:dF}{w w':aP}{v:bw}(hf:P.funcs[f]?=some fn)(nS:(fn.name == "runtime.NumGoroutine")=false) (hb:fn.body=none) (hn:Extern.findNext fn=none) (he:Extern.find fn=some e)
  (hr:(e args).run P w=.ok v w'):(callFunc f args).run P w=.ok (.value v) w':=by
 unfold callFunc;have b_:¬fn.name= "runtime.NumGoroutine":=by simpa using nS
 simp[hf,b_,hb,hn,he,hr]
theorem idx_eq:∀(s:bL)(c:Nat),(∀b∈s,b<256)->c<256->Lib.indexByte (s.map UInt8.ofNat) c.toUInt8=(match s.findIdx? (λ(b:Nat)=>Nat.beq b c) with|some i=>(i:Int)|none=>-1)
 | [],c,_,_=>rfl
 | b::s,c,hs,hc=>by
  have ih:=idx_eq s c (λx hx=>hs x (d_ _ hx)) hc;have hb:=hs b (eT ..);simp only[a_,Lib.indexByte,List.findIdx?_cons];have e:(UInt8.ofNat b == c.toUInt8)=Nat.beq b c:=by
   cases h:Nat.beq b c with
   | true =>
    have:=eR h;subst this;simp
   | false =>
    have:=Nat.ne_of_beq_eq_false h;rw[beq_eq_false_iff_ne];intro he;have:=congrArg UInt8.toNat he;simp at this;omega
  rw[e,ih];cases Nat.beq b c with
  | true=>rfl
  | false =>
   simp only[f_,bz];cases Xi:s.findIdx? (λ(b:Nat)=>Nat.beq b c) with
   | none=>simp
   | some i =>
    simp only[aS];have:((i:Int) == -1)=false:=by rw[beq_eq_false_iff_ne];omega
    rw[this];simp
theorem zkh{P:aQ}{k:FuncId}{fk:Func}(Qf:(List.range P.funcs.size).all (λf=>match P.funcs[f]? with|some fn=>fn.name != "internal/bytealg.IndexByteString" || f == k|none=>true)=true)
  (J4:P.funcs[k]?=some fk) (nS:(fk.name == "runtime.NumGoroutine")=false) (hn:Extern.findNext fk=none) (he:Extern.find fk=some Extern.BytealgIndexByte.indexByte):va P:=by
 intro f fn args v hf hb hp g n bp w ha;unfold VO at hp;split at hp<;>try (cases hp;done)
 rename_i nm l s c Xd;split at hp<;>try (cases hp;done)
 rename_i hc;simp only[bu] at hp;have bR:f<P.funcs.size:=(sH.1 hf).1;have h1:=Cy.1 Qf f (Cd.2 bR);rw[hf] at h1;have Xk:f=k:=by
  simp only[Xd,bne_self_eq_false,z_] at h1;simpa using h1
 subst Xk;rw[hf] at J4;cases J4;obtain⟨al,ar,_,_⟩:=ha
 match bp,al,ar with
 | ⟨[c0,c1]⟩,_,ar =>
  have r0:=ar 0 _ c0 rfl rfl;have r1:=ar 1 _ c1 rfl rfl;cases r1;have hs:∀b∈s,b<256:=by cases r0;assumption
  cases r0;refine⟨_,zcV hf nS hb hn he (Lib.run_indexByteString (bytes s) c w),?_,by rw[<- hp];rfl,λ_ _=>by rw[<- hp];trivial⟩
  have e1:(bytes s).data.toList=s.map UInt8.ofNat:=by simp[bytes]
  rw[e1,idx_eq s c.toNat hs (by omega),<- hp]
  exact .int _ _
 | ⟨[]⟩,al,_=>simp at al
 | ⟨[_]⟩,al,_=>simp at al
 | ⟨_::_::_::_⟩,al,_=>simp at al
def zq4(P:aQ):Bool:=P.funcs.toList.all λfn=>!(fn.name == "runtime.NumGoroutine")
theorem zlu{P:aQ}(h:zq4 P=true):yC P:=λf fn hf=>by
 have:=Cy.1 h fn (by
  have:=Array.mem_of_getElem? hf
  simpa using this)
 simpa using this
section
open Go.ChangeShapes Go.WideShapes Go.ChangeAt Go.RowKit
theorem zia{d n:Nat}{g:Gh}{w w':aP}(hb:Below w.heap.size w w'):gV d none none n g w g w' :=
 ⟨.refl _ _,λc hc _ _=>hb.block c hc,λ_ _ _=>rfl,λ_ _ _ _=>rfl,hb.size,λ_ _ _=>rfl,λ_ h=>(by cases h),λ_ h=>(by cases h),λ_ _ _ _=>rfl,hb.os,hb.tape,hb.output⟩
theorem zib{w w':aP}(hb:Below w.heap.size w w'){c o:Nat}{v:bw}(h:w.cell? ⟨c,o,none⟩=some v):w'.cell? ⟨c,o,none⟩=some v:=by
 have hc:c<w.heap.size:=by
  rcases eI c w.heap.size with hc|hc
  ·exact hc
  ·have:w.heap[c]?=none:=Array.getElem?_eq_none hc;simp[World.cell?,this] at h
 have:=hb.block c hc;simp only[World.cell?,this] at h ⊢;exact h
theorem zgT{d:Nat}{H:Hp}{g:Gh}{w w':aP}(hw:nu g H.au w)(hb:Below w.heap.size w w'):iS d H g w H g w' where
 de :=
  {mem:=λc o v h=>zib hb (hw.mem c o v h)
   lt:=λb h=>r9 (hw.lt b h) hb.size
   inj:=hw.inj
   apart:=hw.apart
   eo:=λc l h=>r9 (hw.eo c l h) hb.size
   dj:=hw.dj
   ok:=λb x hx=>by
    have bR:b<H.au.length:=(cP.1 hx).1;exact fU.same (d:=d) (zia hb) (by simp) bR (hw.lt b bR) (hw.dj b bR) (λ_ h=>by cases h) (λc h1 h2=>by omega) (hw.aI b x hx) (hw.ok b x hx)
   aI:=hw.aI
   laid:=λc hc=>by
    obtain⟨⟨cs,t,h1⟩,h2⟩:=hw.laid c hc
    exact⟨⟨cs,t,by rw[hb.block c (sH.1 h1).1];exact h1⟩,h2⟩ }
 fr:=⟨.refl _ _,λc hc=>hb.block c hc.1,λ_ _=>rfl,λ_ _ _=>rfl,hb.size,λ_ _ _=>rfl,hb.os,hb.tape,hb.output⟩
 len:=dB _
 dV:=λb h1 h2=>by omega
 bC:=λb x hx=>.inr (.inr ⟨x,hx,dB _⟩)
 CI:=λ_ h=>h
 lV:=λ_ _ h=>h
end
section
def Gh.bare(g:Gh):Gh:={ g with own:=λ_=>none }
def Gh.over(n:Nat)(g g':Gh):Gh :=
 {M:=λc o=>if c<n then g.M c o else g'.M c o,bO:=g.bO,obj:=g.obj,own:=λc=>if c<n then g.own c else g'.own c,lk:=g.lk,e_:=g.e_ }
theorem xC{w:aP}{c o:Nat}{v:bw}(h:w.cell? ⟨c,o,none⟩=some v):c<w.heap.size:=by
 rcases eI c w.heap.size with hc|hc
 ·exact hc
 ·have:w.heap[c]?=none:=Array.getElem?_eq_none hc;simp[World.cell?,this] at h
variable{P:aQ}{gl:Gl}{d:Nat}{H:Hp}{g g':Gh}{w w':aP}
theorem Xl{bs:List aT}(hw:nu g bs w):nu g.bare [] w :=
 {mem:=hw.mem,lt:=λb h=>by simp at h,inj:=λb _ h=>by simp at h,apart:=λb h=>by simp at h,eo:=(λc l h=>by cases h),dj:=λb h=>by simp at h,ok:=λb x h=>by simp at h,aI:=λb x h=>by simp at h,laid:=λc hc=>⟨(hw.laid c hc).1,rfl,λb hb=>by simp at hb⟩ }
theorem oh:Gh.Le 0 g g.bare:=⟨λ_ _ _ h=>h,λb h=>by omega,rfl,λ_ _ _ h=>by omega⟩
theorem jS{dd:Nat}(hf:Fr dd [] g.bare w g' w'){c:Nat}(hc:c<w.heap.size):w'.heap[c]?=w.heap[c]?/\g'.own c=none/\∀o,g'.M c o=g.M c o:=by
 have hp:rq dd ([]:List aT).length g.bare w c:=⟨hc,λb hb=>by simp at hb,.inl rfl⟩
 exact⟨hf.heap c hp,hf.own c hp,hf.M c hp⟩
theorem zlv{dd:Nat}(hf:Fr dd [] g.bare w g' w'):Gh.Le 0 g' (Gh.over w.heap.size g g'):=by
 refine⟨λc o v h=>?_,λb h=>by omega,hf.le.obj.symm,λ_ _ _ h=>by omega⟩
 simp only[Gh.over];split
 next hc=>rw[<- (jS hf hc).2.2 o];exact h
 ·exact h
theorem zeN{n dd:Nat}{bs:List aT}(hw:nu g bs w)(hf:Fr dd [] g.bare w g' w'):gV d none none n g w (Gh.over w.heap.size g g') w':=by
 refine⟨⟨λc o v h=>?_,λ_ _=>rfl,rfl,λ_ _ _ _ h=>h⟩,λc hc _ _=>(jS hf hc).1,λc hc _=>by simp[Gh.over,hc],λc hc _ o=>by simp[Gh.over,hc],hf.size,λ_ _ _=>rfl,λ_ h=>(by cases h),λ_ h=>(by cases h),λ_ _ _ _=>rfl,hf.os,hf.tape,hf.output⟩
 have:=xC (hw.mem c o v h);simp[Gh.over,this,h]
theorem zic{dd:Nat}(hw:nu g H.au w){sL:List aT}(tT:nu g' sL w')(hf:Fr dd [] g.bare w g' w'):iS d H g w H (Gh.over w.heap.size g g') w' where
 de :=
  {mem:=λc o v h=>by
    simp only[Gh.over] at h;split at h
    next hc=>have h0:=hw.mem c o v h;simp only[World.cell?,(jS hf hc).1] at h0 ⊢;exact h0
    ·exact tT.mem c o v h
   lt:=λb h=>r9 (hw.lt b h) hf.size
   inj:=hw.inj
   apart:=λb h o=>by simp only[Gh.over,hw.lt b h,aF];exact hw.apart b h o
   eo:=λc l h=>by
    simp only[Gh.over] at h;split at h
    ·exact r9 (hw.eo c l h) hf.size
    ·exact tT.eo c l h
   dj:=λb h=>by simp only[Gh.over,hw.lt b h,aF];exact hw.dj b h
   ok:=λb x hx=>by
    have bR:b<H.au.length:=(cP.1 hx).1;exact fU.same (d:=d) (zeN hw hf) (by simp) bR (hw.lt b bR) (hw.dj b bR) (λ_ h=>by cases h) (λc h1 h2=>by omega) (hw.aI b x hx) (hw.ok b x hx)
   aI:=hw.aI
   laid:=λc hc=>by
    obtain⟨⟨cs,t,h1⟩,h2,h3⟩:=hw.laid c hc;have bR:=(sH.1 h1).1
    exact⟨⟨cs,t,by rw[(jS hf bR).1];exact h1⟩,by simp only[Gh.over,bR,aF];exact h2,h3⟩ }
 fr:=⟨(zeN (d:=d) (n:=H.au.length) hw hf).le,λc hc=>(jS hf hc.1).1,λc hc=>by simp[Gh.over,hc.1],λc hc o=>by simp[Gh.over,hc.1],hf.size,λ_ _ _=>rfl,hf.os,hf.tape,hf.output⟩
 len:=dB _
 dV:=λb h1 h2=>by omega
 bC:=λb x hx=>.inr (.inr ⟨x,hx,dB _⟩)
 CI:=λ_ h=>h
 lV:=λ_ _ h=>h
theorem zlw{dd:Nat}(hw:nu g H.au w)(hf:Fr dd [] g.bare w g' w'){n:Nat}{l:Loc}{v:V}{cv:bw}(h:cN g' n w' l v cv):cN (Gh.over w.heap.size g g') H.au.length w' l v cv:=by
 unfold cN at *;split
 ·rename_i sz xs e;have h':fT g' n w' l e sz xs.length cv:=h;obtain⟨vs,h1,h2⟩:=h';refine⟨vs,h1,λc hc=>?_⟩;have Aa:¬c<w.heap.size:=λbR=>by
   have:=(h2 c hc).1;rw[(jS hf bR).2.1] at this;cases this
  refine⟨by simp only[Gh.over,Aa,bz];exact(h2 c hc).1,(h2 c hc).2.1.eq λo=>by simp only[Gh.over,Aa,bz],λb hb e=>?_⟩
  have:=hw.lt b hb;rw[show(Gh.over w.heap.size g g').bO b=g.bO b from rfl] at e;omega
 ·trivial
theorem Oa(oZ:P.follows .mixedOrders=true)(fX:yC P)(dW:va P)(Ek:mX P gl){n:Nat}{f:FuncId}{args:aC}{v:V}{H':Hp}
  (hc:zk P gl n f args ⟨[],[]⟩=some (.ret v,H')) (ht:aI args=0) (hv:v.top=0) {bp:dF} {l:Loc} (h1:gF P gl g) (h2:nu g H.au w) (h3:dI g H.au.length args bp) :
  Calls P f bp w (ef d H g w l (.ret v) H):=by
 refine Calls.mono (yS oZ fX dW Ek n f args ⟨[],[]⟩ _ _ hc g.bare w bp l (h1.le oh) (Xl h2) ⟨h3.len,λj x c hx lf=>(h3.rel j x c hx lf).le oh (cU (zn (zv hx)) (by omega)),by simp[ht],h3.no⟩) λe w' he=>?_
 cases e with
 | returned cv =>
  obtain⟨v',g',e1,e2,e3,e4,_⟩:=he;cases e1;exact⟨v,_,rfl,zic h2 e2.de e2.fr,e3.le (zlv e2.fr) (by omega),zlw h2 e2.fr e4,by omega⟩
 | panicked chain =>
  obtain⟨v',cv,g',e1,_⟩:=he;cases e1
 | outgrown=>exact he.elim
abbrev dM:=List (FuncId×aC×V)
def dK:dM->FuncId->aC->bY
 | [],_,_=>none
 | (f,xs,v)::r,f',ys=>match Nat.beq f' f with
  | true=>match fB ys xs with
   | true=>some v
   | false=>dK r f' ys
  | false=>dK r f' ys
def ju(P:aQ)(g0:Nat->Nat->bY)(l:dM):Prop:=mX P { g:=g0,hk:=dK l }
theorem xj{g0:Nat->Nat->bY}:ju P g0 []:=⟨λf args v h=>(by cases h),λn f args H out H' h=>(by cases h),λ_ _ _ _ h=>(by cases h)⟩
theorem xk{a b:aC}(h:fB a b=true):a=b:=by
 have:V.same (.br a) (.br b)=true:=h;have:=V.iY this;cases this;rfl
structure L7 where
 n:Nat
 f:FuncId
 args:aC
 H:Hp
 out:Out
 H':Hp
def zpv(a b:Hp):Bool:=mB a.bC b.bC && mW a.au b.au
def Bu:List L7->Nat->FuncId->aC->Hp->Option (Out×Hp)
 | [],_,_,_,_=>none
 | m::r,n,f,args,H=>match Nat.beq f m.f with
  | true=>match Nat.ble m.n (n+1) && (fB args m.args && zpv H m.H) with
   | true=>some (m.out,m.H')
   | false=>Bu r n f args H
  | false=>Bu r n f args H
def zi6(P:aQ)(g0:Nat->Nat->bY)(l:dM)(ms:List L7):Prop:=mX P { g:=g0,hk:=dK l,eV:=Bu ms }
theorem zid(oZ:P.follows .mixedOrders=true)(fX:yC P)(dW:va P){g0:Nat->Nat->bY}{l:dM}{ms:List L7}(hl:zi6 P g0 l ms){n:Nat}{f:FuncId}{args:aC}{v:V}{H':Hp}
  {uq:aB->Bool} (hc:zk P { g:=g0,hk:=dK l,uq:=uq,eV:=Bu ms } n f args ⟨[],[]⟩=some (.ret v,H')) (ht:aI args=0) (hv:v.top=0) (hit:WN P uq:=by intro _ _ _ _ h;cases h):zi6 P g0 ((f,args,v)::l) ms:=by
 refine⟨λf' mq v' h d H g w bp lc h1 h2 h3=>?_,hl.heap,hl.it⟩;simp only[dK] at h;cases hb:Nat.beq f' f with
 | false=>rw[hb] at h;exact hl.pure f' mq v' h d H g w bp lc h1 h2 h3
 | true =>
  rw[hb] at h;cases hs:fB mq args with
  | false=>rw[hs] at h;exact hl.pure f' mq v' h d H g w bp lc h1 h2 h3
  | true =>
   rw[hs] at h;cases h;have:=eR hb;subst this;have:=xk hs;subst this;exact Oa (gl:={ g:=g0,hk:=dK l,uq:=uq,eV:=Bu ms }) oZ fX dW ⟨hl.pure,hl.heap,hit⟩ hc ht hv h1 h2 h3
theorem iS.mono{d d':Nat}(h:d<=d'){H H':Hp}{g g':Gh}{w w':aP}(hA:iS d H g w H' g' w'):iS d' H g w H' g' w':={ hA with fr:=hA.fr.mono h }
theorem ef.mono{d d':Nat}(h:d<=d'){H H':Hp}{g:Gh}{w w':aP}{l:Loc}{out:Out}{e:Ending}(hp:ef d H g w l out H' e w'):ef d' H g w l out H' e w':=by
 cases e with
 | returned cv =>
  obtain⟨v,g',h1,h2,h3,h4,h5⟩:=hp;exact⟨v,g',h1,h2.mono h,h3,h4,h5⟩
 | panicked chain =>
  obtain⟨v,cv,g',h1,h2,h3,h4⟩:=hp;exact⟨v,cv,g',h1,h2,h3.mono h,h4⟩
 | outgrown=>exact hp.elim
theorem yH(oZ:P.follows .mixedOrders=true)(fX:yC P)(dW:va P){g0:Nat->Nat->bY}{l:dM}(hl:ju P g0 l){n:Nat}{f:FuncId}{args:aC}{v:V}{H':Hp}
  {uq:aB->Bool} (hc:zk P { g:=g0,hk:=dK l,uq:=uq } n f args ⟨[],[]⟩=some (.ret v,H')) (ht:aI args=0) (hv:v.top=0) (hit:WN P uq:=by intro _ _ _ _ h;cases h):ju P g0 ((f,args,v)::l) :=
 zid (ms:=[]) oZ fX dW hl hc ht hv hit
end
section
def Gh.Bv(n:Nat)(g:Gh)(w':aP):Gh :=
 {M:=λc o=>if c<n then g.M c o else w'.cell? ⟨c,o,none⟩,bO:=g.bO,obj:=g.obj,own:=λc=>if c<n then g.own c else none,lk:=g.lk,e_:=g.e_ }
variable{P:aQ}{gl:Gl}{d:Nat}{H:Hp}{g g':Gh}{w w':aP}
theorem znA{dd:Nat}{sL:List aT}(tT:nu g' sL w')(hf:Fr dd [] g.bare w g' w'):Gh.Le 0 g' (Gh.Bv w.heap.size g w'):=by
 refine⟨λc o v h=>?_,λb h=>by omega,hf.le.obj.symm,λ_ _ _ h=>by omega⟩
 simp only[Gh.Bv];split
 next hc=>rw[<- (jS hf hc).2.2 o];exact h
 ·exact tT.mem c o v h
theorem zgU{n dd:Nat}{bs:List aT}(hw:nu g bs w)(hf:Fr dd [] g.bare w g' w'):gV d none none n g w (Gh.Bv w.heap.size g w') w':=by
 refine⟨⟨λc o v h=>?_,λ_ _=>rfl,rfl,λ_ _ _ _ h=>h⟩,λc hc _ _=>(jS hf hc).1,λc hc _=>by simp[Gh.Bv,hc],λc hc _ o=>by simp[Gh.Bv,hc],hf.size,λ_ _ _=>rfl,λ_ h=>(by cases h),λ_ h=>(by cases h),λ_ _ _ _=>rfl,hf.os,hf.tape,hf.output⟩
 have:=xC (hw.mem c o v h);simp[Gh.Bv,this,h]
theorem zki{dd:Nat}(hw:nu g H.au w){sL:List aT}(_hw':nu g' sL w')(hf:Fr dd [] g.bare w g' w'):iS d H g w H (Gh.Bv w.heap.size g w') w' where
 de :=
  {mem:=λc o v h=>by
    simp only[Gh.Bv] at h;split at h
    next hc=>have h0:=hw.mem c o v h;simp only[World.cell?,(jS hf hc).1] at h0 ⊢;exact h0
    ·exact h
   lt:=λb h=>r9 (hw.lt b h) hf.size
   inj:=hw.inj
   apart:=λb h o=>by simp only[Gh.Bv,hw.lt b h,aF];exact hw.apart b h o
   eo:=λc l h=>by
    simp only[Gh.Bv] at h;split at h
    ·exact r9 (hw.eo c l h) hf.size
    ·cases h
   dj:=λb h=>by simp only[Gh.Bv,hw.lt b h,aF];exact hw.dj b h
   ok:=λb x hx=>by
    have bR:b<H.au.length:=(cP.1 hx).1;exact fU.same (d:=d) (zgU hw hf) (by simp) bR (hw.lt b bR) (hw.dj b bR) (λ_ h=>by cases h) (λc h1 h2=>by omega) (hw.aI b x hx) (hw.ok b x hx)
   aI:=hw.aI
   laid:=λc hc=>by
    obtain⟨⟨cs,t,h1⟩,h2,h3⟩:=hw.laid c hc;have bR:=(sH.1 h1).1
    exact⟨⟨cs,t,by rw[(jS hf bR).1];exact h1⟩,by simp only[Gh.Bv,bR,aF];exact h2,h3⟩ }
 fr:=⟨(zgU (d:=d) (n:=H.au.length) hw hf).le,λc hc=>(jS hf hc.1).1,λc hc=>by simp[Gh.Bv,hc.1],λc hc o=>by simp[Gh.Bv,hc.1],hf.size,λ_ _ _=>rfl,hf.os,hf.tape,hf.output⟩
 len:=dB _
 dV:=λb h1 h2=>by omega
 bC:=λb x hx=>.inr (.inr ⟨x,hx,dB _⟩)
 CI:=λ_ h=>h
 lV:=λ_ _ h=>h
inductive nh(H:Hp):V->V->Prop where
 |same {v:V}:v.top=0->nh H v v
 |sr {b off len cap:Nat} {cs:aC} {t:aB}:H.au[b]?=some (.cells cs t)->aI cs=0->off+len<=cs.length->nh H (.sr b off len cap) (.sl 1 ((cs.drop off).take len) .no)
 |ul {b u len:Nat} {cs:aC} {e:aB}:H.au[b]?=some (.ul u 1 cs e)->aI cs=0->nh H (.dw b u len) (.sl 1 cs .no)
 |sl {xs ys:aC} {o:tG}:xs.length=ys.length->(∀(j:Nat)(x:V),xs[j]?=some x->x.cells=[x]/\x.one=true)->(∀(j:Nat)(y:V),ys[j]?=some y->y.cells=[y]/\y.one=true)->(∀(j:Nat)(x y:V),xs[j]?=some x->ys[j]?=some y->nh H x y)->nh H (.sl 1 xs o) (.sl 1 ys .no)
 |agg {xs ys:aC}:xs.length=ys.length->(∀(j:Nat)(y:V),ys[j]?=some y->y.one=true)->(∀(j:Nat)(x y:V),xs[j]?=some x->ys[j]?=some y->nh H x y)->nh H (.agg xs) (.agg ys)
 |br {xs ys:aC}:xs.length=ys.length->(∀(j:Nat)(x y:V),xs[j]?=some x->ys[j]?=some y->nh H x y)->nh H (.br xs) (.br ys)
theorem gw:∀{xs:aC},(∀(j:Nat)(x:V),xs[j]?=some x->x.cells=[x])->zw xs=xs
 | [],_=>rfl
 | x::xs,h=>by
  have h0:=h 0 x rfl;have ih:=gw (xs:=xs) λj y hy=>h (j+1) y hy;simp only[zw,D3] at ih ⊢;rw[h0,ih];rfl
theorem TR{x:V}(h:x.one=true):x.cells=[x]:=by
 cases x<;>first|rfl|(simp[V.one,Cz] at h)
theorem nh.top{v v':V}(h:nh H v v'):v'.top=0:=by
 have hz:∀{l:aC},(∀y∈l,y.top=0)->aI l=0:=λ{l} hl=>Nat.le_zero.1 (qq λy hy=>by rw[hl y hy];exact dB _)
 induction h with
 | same h=>exact h
 | sr hb hc hl =>
  simp only[V.top];refine hz λy hy=>?_;have:=zn (Cv (Cw hy));omega
 | ul hb hc=>simp only[V.top];exact hc
 | sl hl h1 h2 h3 ih =>
  simp only[V.top];refine hz λy hy=>?_;obtain⟨j,hj,e⟩:=List.getElem_of_mem hy;exact ih j _ y (fQ (by omega)) (by rw[fQ hj,e])
 | agg hl h1 h2 ih =>
  simp only[V.top];refine hz λy hy=>?_;obtain⟨j,hj,e⟩:=List.getElem_of_mem hy;exact ih j _ y (fQ (by omega)) (by rw[fQ hj,e])
 | br hl h2 ih =>
  simp only[V.top];refine hz λy hy=>?_;obtain⟨j,hj,e⟩:=List.getElem_of_mem hy;exact ih j _ y (fQ (by omega)) (by rw[fQ hj,e])
theorem nh.Qg{H':Hp}{G:Gh}(tT:nu g' H'.au w')(hle:Gh.Le 0 g' G)(dL:∀b,b<H'.au.length->∀o v,w'.cell? ⟨g'.bO b,o,none⟩=some v->G.M (g'.bO b) o=some v)
  (bZ:∀b c,b<H'.au.length->(c=g'.bO b\/g'.own c=some (.cell b 0))->∀o v,w'.cell? ⟨c,o,none⟩=some v->G.M c o=some v) {v v':V} (h:nh H' v v'):∀{cv:bw},aR g' v cv->aR G v' cv:=by
 induction h with
 | same h=>intro cv hr;exact hr.le hle (by omega)
 | sr hb hc hl =>
  rename_i b off len cap cs t;intro cv hr;cases hr with
  | sr nw =>
   have bR:b<H'.au.length:=(cP.1 hb).1;obtain⟨arr,h1,h2,h3⟩:=tT.ok b _ hb;have hlen:((cs.drop off).take len).length=len:=by simp;omega
   have gE:∀(j:Nat)(x:V),((cs.drop off).take len)[j]?=some x->cs[off+j]?=some x/\j<len:=λj x hx=>by
    rw[AN] at hx;split at hx
    ·rw[HR] at hx;exact⟨hx,by assumption⟩
    ·cases hx
   have pQ:∀(j:Nat)(x:V),((cs.drop off).take len)[j]?=some x->x.one=true/\∃a,arr[off+j]?=some a/\aR g' x a:=λj x hx=>by
    obtain⟨e1,e2⟩:=gE j x hx;have hj:off+j<arr.size:=by rw[<- h2];exact(cP.1 e1).1
    have:=h3 (off+j) x _ e1 (EJ hj);exact⟨this.1,_,EJ hj,this.2.1⟩
   have oc:zw ((cs.drop off).take len)=(cs.drop off).take len:=gw λj x hx=>TR (pQ j x hx).1;have:=aR.sl (g:=G) (sz:=1) (xs:=(cs.drop off).take len) (ow:=.no) (a:=some ⟨g'.bO b,off,none⟩) (cap:=cap) (c:=g'.bO b) (o:=off) (λj=>arr[off+j]?.getD (.bool false))
    (λx hx=>by
     obtain⟨j,hj,e⟩:=List.getElem_of_mem hx
     rw[TR (pQ j x (by rw[fQ hj,e])).1];rfl)
    (by rw[hlen];exact nw) (λ_=>rfl)
    (λj x hx=>(pQ j x (by rwa [oc] at hx)).1)
    (λj x hx=>by
     rw[oc] at hx;obtain⟨_,a,ha,_⟩:=pQ j x hx;refine dL b bR _ _ ?_;simp only[World.cell?,h1,ha]
     simp[])
    (λj x hx=>by
     rw[oc] at hx;obtain⟨_,a,ha,hr⟩:=pQ j x hx;simp only[ha,ga];refine hr.le hle ?_;have:=zn (Cv (Cw (m8 hx)))
     omega)
   rw[hlen] at this;exact this
 | ul hb hc =>
  rename_i b u len cs e;intro cv hr;have bR:b<H'.au.length:=(cP.1 hb).1;obtain⟨c,l0,cap,vs,hu⟩:=tT.ok b _ hb;cases hr with
  | dw hh =>
   rw[hu.e_] at hh;cases hh;obtain⟨Ch,hr|⟨c',oR,cur,hv,h0,lI,h5,h6,h7,h8⟩⟩:=hu.row
   ·cases hr.1
   cases hv;have hlen:cs.length=len:=by rw[hu.len,Ch,JI]
   have Fi:∀(j:Nat)(x:V),cs[j]?=some x->∃v,vs[j]?=some v/\x.one=true/\aR g' x v/\w'.cell? ⟨c,j,none⟩=some v:=λj x hx=>by
    have hj:=(cP.1 hx).1;obtain⟨v0,Oc⟩:∃v0,vs[j]?=some v0:=⟨vs[j]'(by rw[<- hu.len];exact hj),fQ _⟩
    obtain⟨k1,k2⟩:=hu.cells j x _ hx Oc;refine⟨_,Oc,k1,k2,?_⟩;rw[<- h8,AN] at Oc;split at Oc<;>try (cases Oc;done)
    rw[cell_of_row w' c j cur e (0,0) lI];simpa using Oc
   have oc:zw cs=cs:=gw λj x hx=>TR (Fi j x hx).choose_spec.2.1;rw[<- hlen];refine .sl (sz:=1) (xs:=cs) (ow:=.no) (c:=c) (o:=0) (λj=>vs[j]?.getD (.bool false)) (λx hx=>?_) (by rw[hlen];exact h5) (λ_=>rfl) (λj x hx=>?_) (λj x hx=>?_) (λj x hx=>?_)
   ·obtain⟨j,hj⟩:=List.getElem?_of_mem hx;rw[TR (Fi j x hj).choose_spec.2.1];rfl
   ·rw[oc] at hx;exact(Fi j x hx).choose_spec.2.1
   ·rw[oc] at hx;obtain⟨v,k0,_,_,k3⟩:=Fi j x hx;rw[k0,nI];exact bZ b c bR hu.CA j v k3
   ·rw[oc] at hx;obtain⟨v,k0,_,k2,_⟩:=Fi j x hx;rw[k0];exact k2.le hle (by have:=zn (zv hx);omega)
 | sl hl h1 h2 h3 ih =>
  rename_i xs ys o;intro cv hr;have hfx:zw xs=xs:=gw λj x hx=>(h1 j x hx).1;have Xm:zw ys=ys:=gw λj y hy=>(h2 j y hy).1;cases hr with
  | sl f e1 e2 e3 e4 e5 e6 =>
   rw[hfx] at e4 e5 e6;rw[hl];have hx:∀(j:Nat)(y:V),ys[j]?=some y->∃x,xs[j]?=some x:=λj y hy=>⟨_,fQ (by rw[hl];exact(cP.1 hy).1)⟩
   refine .sl f (λy hy=>?_) (by rw[<- hl];exact e2) (λb_=>e3 λe=>b_ (HM (by rw[<- hl,e];rfl))) (λj y hy=>?_) (λj y hy=>?_) (λj y hy=>?_)
   ·obtain⟨j,hj,e⟩:=List.getElem_of_mem hy;rw[(h2 j y (by rw[fQ hj,e])).1];rfl
   ·rw[Xm] at hy;exact(h2 j y hy).2
   ·rw[Xm] at hy;obtain⟨x,hx⟩:=hx j y hy;exact hle.M _ _ _ (e5 j x hx)
   ·rw[Xm] at hy;obtain⟨x,hx⟩:=hx j y hy;exact ih j x y hx hy (e6 j x hx)
 | agg hl h1 h2 ih =>
  rename_i xs ys;intro cv hr;cases hr with
  | agg e1 e2 e3 =>
   refine .agg (by rw[<- hl,e1]) (λj y hy=>h1 j y hy) λj y v hy hv=>?_
   have FC:xs[j]?=some (xs[j]'(by rw[hl];exact(cP.1 hy).1)):=fQ _
   exact ih j _ y FC hy (e3 j _ v FC hv)
 | br hl h2 ih =>
  rename_i xs ys;intro cv hr;cases hr with
  | br e1 e3 =>
   refine .br (by rw[<- hl,e1]) λj y v hy hv=>?_
   have FC:xs[j]?=some (xs[j]'(by rw[hl];exact(cP.1 hy).1)):=fQ _
   exact ih j _ y FC hy (e3 j _ v FC hv)
theorem nh.rel{dd:Nat}{H':Hp}(tT:nu g' H'.au w')(hf:Fr dd [] g.bare w g' w')(eu:∀b,b<H'.au.length->w.heap.size<=g'.bO b){v v':V}(h:nh H' v v'){cv:bw}(hr:aR g' v cv):aR (Gh.Bv w.heap.size g w') v' cv:=by
 refine h.Qg tT (znA tT hf) (λb hb o v hv=>?_) (λb c hb hc o v hv=>?_) hr
 ·simp only[Gh.Bv,if_neg (Nat.not_lt.2 (eu b hb))];exact hv
 ·have Aa:¬c<w.heap.size:=λbR=>by
   rcases hc with e|e
   ·have:=eu b hb;omega
   ·rw[(jS hf bR).2.1] at e;cases e
  simp only[Gh.Bv,if_neg Aa];exact hv
theorem Xn(oZ:P.follows .mixedOrders=true)(fX:yC P)(dW:va P)(Ek:mX P gl){n:Nat}{f:FuncId}{args:aC}{v v':V}{H':Hp}
  (hc:zk P gl n f args ⟨[],[]⟩=some (.ret v,H')) (ht:aI args=0) (hv:nh H' v v') (eH:∀sz xs e,v'≠.sl sz xs (.yes e)) {bp:dF} {l:Loc} (h1:gF P gl g) (h2:nu g H.au w) (h3:dI g H.au.length args bp) :
  Calls P f bp w (ef d H g w l (.ret v') H):=by
 refine Calls.mono (yS oZ fX dW Ek n f args ⟨[],[]⟩ _ _ hc g.bare w bp l (h1.le oh) (Xl h2) ⟨h3.len,λj x c hx lf=>(h3.rel j x c hx lf).le oh (cU (zn (zv hx)) (by omega)),by simp[ht],h3.no⟩) λe w' he=>?_
 cases e with
 | returned cv =>
  obtain⟨u,g',e1,e2,e3,e4,_⟩:=he;cases e1;refine⟨v',_,rfl,zki h2 e2.de e2.fr,hv.rel e2.de e2.fr (λb hb=>e2.dV b (dU _) hb) e3,?_,by rw[hv.top];exact dU _⟩
  unfold cN;split
  next sz xs e=>exact absurd rfl (eH sz xs e)
  ·trivial
 | panicked chain =>
  obtain⟨u,cv,g',e1,_⟩:=he;cases e1
 | outgrown=>exact he.elim
end
section
variable{cx:Cx}{n:Nat}{all:Array Oper}{takes:cg}
def W(cx:Cx)(n:Nat)(c:Code)(s:St)(Q:Ex->St->Prop):Prop:=∃ex s',cx.code n c s=some (ex,s')/\Q ex s'
def O(cx:Cx)(all:Array Oper)(takes:cg)(ops:List Oper)(s:St)(Q:Ex->St->Prop):Prop:=∃ex s',cx.ops all takes ops s=some (ex,s')/\Q ex s'
theorem J5{α β:Type}{a:α}{b:β}{Q:α->β->Prop}:(∃x y,(a=x/\b=y)/\Q x y) ↔ Q a b :=
 ⟨λ⟨_,_,⟨h1,h2⟩,h⟩=>by subst h1 h2;exact h,λh=>⟨_,_,⟨rfl,rfl⟩,h⟩⟩
def IG(K:St->Prop)(Q:Ex->St->Prop):Ex->St->Prop
 | .normal,s=>K s
 | ex,s=>Q ex s
@[simp] theorem aO {K:St->Prop} {Q:Ex->St->Prop} {s:St}:IG K Q .normal s=K s:=rfl
@[simp] theorem bJ {K:St->Prop} {Q:Ex->St->Prop} {s:St} {i:Nat}:IG K Q (.exit i) s=Q (.exit i) s:=rfl
@[simp] theorem mu {K:St->Prop} {Q:Ex->St->Prop} {s:St}:IG K Q .ret s=Q .ret s:=rfl
@[simp] theorem TS {K:St->Prop} {Q:Ex->St->Prop} {s:St} {v:V}:IG K Q (.p_ v) s=Q (.p_ v) s:=rfl
@[simp] theorem Qh {K:St->Prop} {Q:Ex->St->Prop} {s:St} {i:Nat}:IG K Q (.goto i) s=Q (.goto i) s:=rfl
def bO(id:Nat)(Q:Ex->St->Prop):Ex->St->Prop
 | .exit i,s=>Q (if Nat.beq i id then .normal else .exit i) s
 | ex,s=>Q ex s
@[simp] theorem L8 {id:Nat} {Q:Ex->St->Prop} {s:St}:bO id Q .normal s=Q .normal s:=rfl
@[simp] theorem Qi {id i:Nat} {Q:Ex->St->Prop} {s:St}:bO id Q (.exit i) s=Q (if Nat.beq i id then .normal else .exit i) s:=rfl
@[simp] theorem TU {id:Nat} {Q:Ex->St->Prop} {s:St}:bO id Q .ret s=Q .ret s:=rfl
@[simp] theorem TV {id:Nat} {Q:Ex->St->Prop} {s:St} {v:V}:bO id Q (.p_ v) s=Q (.p_ v) s:=rfl
@[simp] theorem Qj {id i:Nat} {Q:Ex->St->Prop} {s:St}:bO id Q (.goto i) s=Q (.goto i) s:=rfl
theorem zpw{s:St}{Q:Ex->St->Prop}:W cx n .skip s Q ↔ Q .normal s:=by
 unfold W;simp[Cx.code,J5]
theorem zqw{s:St}{Q:Ex->St->Prop}:W cx n .ret s Q ↔ Q .ret s:=by
 unfold W;simp[Cx.code,J5]
theorem zpx{s:St}{i:Nat}{Q:Ex->St->Prop}:W cx n (.exit i) s Q ↔ Q (.exit i) s:=by
 unfold W;simp[Cx.code,J5]
theorem zqx{a b:Code}{s:St}{Q:Ex->St->Prop}:W cx n (.seq a b) s Q ↔ W cx n a s (IG (λs=>W cx n b s Q) Q):=by
 unfold W;simp only[Cx.code];cases h:cx.code n a s with
 | none=>simp
 | some r =>
  obtain⟨ex,s1⟩:=r;cases ex<;>simp[J5]
theorem znB{id:Nat}{c:Code}{s:St}{Q:Ex->St->Prop}:W cx n (.block id c) s Q ↔ W cx n c s (bO id Q):=by
 unfold W;simp only[Cx.code];cases h:cx.code n c s with
 | none=>simp
 | some r =>
  obtain⟨ex,s1⟩:=r;cases ex<;>simp[J5]
theorem zlx{id:Nat}{ops:Array Oper}{env:aC}{H:Hp}{lk:aN}{df:bP}{Q:Ex->St->Prop} :
  W cx n (.region id ops false) ⟨env,H,lk,df⟩ Q ↔ O cx ops (jM ops) ops.toList ⟨env,H,[],df⟩ Q:=by
 unfold W O;simp only[Cx.code]
theorem zqy{s:St}{Q:Ex->St->Prop}:O cx all takes [] s Q ↔ Q .normal s:=by
 unfold O;simp[Cx.ops,J5]
def FD(dst:fJ)(K:St->Prop)(Q:Ex->St->Prop):Option (OR×St)->Prop
 | some (.val v,⟨env,H,lk,df⟩)=>K ⟨aq env dst v,H,lk,df⟩
 | some (.skip,⟨env,H,lk,df⟩)=>K ⟨aq env dst (.br []),H,lk,df⟩
 | some (.p_ v,s)=>Q (.p_ v) s
 | none=>False
@[simp] theorem aM {dst:fJ} {K:St->Prop} {Q:Ex->St->Prop} {v:V} {env:aC} {H:Hp} {lk:aN} {df:bP}:FD dst K Q (some (.val v,⟨env,H,lk,df⟩))=K ⟨aq env dst v,H,lk,df⟩:=rfl
@[simp] theorem bx {dst:fJ} {K:St->Prop} {Q:Ex->St->Prop} {env:aC} {H:Hp} {lk:aN} {df:bP}:FD dst K Q (some (.skip,⟨env,H,lk,df⟩))=K ⟨aq env dst (.br []),H,lk,df⟩:=rfl
@[simp] theorem TW {dst:fJ} {K:St->Prop} {Q:Ex->St->Prop} {v:V} {s:St}:FD dst K Q (some (.p_ v,s))=Q (.p_ v) s:=rfl
@[simp] theorem Qk {dst:fJ} {K:St->Prop} {Q:Ex->St->Prop}:FD dst K Q none=False:=rfl
theorem znC{dst:fJ}{op:Op}{type:aB}{pos:String}{after:Array Edge}{os:List Oper}{env:aC}{H:Hp}{lk:aN}{df:bP}{Q:Ex->St->Prop} :
  O cx all takes (⟨dst,op,type,pos,after,none⟩::os) ⟨env,H,lk,df⟩ Q ↔ FD dst (λs=>O cx all takes os s Q) Q (cx.op takes ⟨dst,op,type,pos,after,none⟩ env H lk df):=by
 unfold O;simp only[Cx.ops,z0];cases h:cx.op takes ⟨dst,op,type,pos,after,none⟩ env H lk df with
 | none=>simp
 | some r =>
  obtain⟨r,s1⟩:=r;obtain⟨cM,H1,eG,eF⟩:=s1;cases r<;>simp[jN,J5]
end
section
variable{cx:Cx}{takes:cg}{P:aQ}{gl:Nat->Nat->bY}{dst:fJ}{type:aB}{pos:String}{after:Array Edge}{guard:oP}{env:aC}{H:Hp}{lk:aN}{df:bP}
def iF(env:aC)(H:Hp)(lk:aN)(df:bP):bY->Option (OR×St)
 | some v=>some (.val v,⟨env,H,lk,df⟩)
 | none=>none
theorem zt{v:V}:iF env H lk df (some v)=some (.val v,⟨env,H,lk,df⟩):=rfl
theorem vT{x y:bY}:x=y->(match x with|none=>none|some v=>some (OR.val v,(⟨env,H,lk,df⟩:St)))=iF env H lk df y:=by
 rintro rfl;cases x<;>rfl
def qE(env:aC)(t:Nat):bY->Option (V×aC)
 | some (.sl sz xs (.yes e))=>some (.sl sz xs (.yes e),env.set t (.sl sz xs .no))
 | some v=>some (aW v,env)
 | none=>none
theorem zM{t:Nat}:take env (.tmp t)=qE env t (nth env t):=by
 simp only[take,qE,eW];rfl
theorem qH{v:bw}:take env (.const v)=(aj v).map (·,env):=rfl
theorem qr{t:Nat}{k:IntKind}{n:Int}:qE env t (some (.int k n))=some (.int k n,env):=rfl
theorem jn{t:Nat}{b:Bool}:qE env t (some (.bool b))=some (.bool b,env):=rfl
theorem qW{t:Nat}{s:aC}:qE env t (some (.agg s))=some (.agg s,env):=rfl
theorem jI{t b o:Nat}:qE env t (some (.ptr b o))=some (.ptr b o,env):=rfl
theorem jf{t:Nat}:qE env t (some .aG)=some (.aG,env):=rfl
theorem kq{t sz:Nat}{xs:aC}:qE env t (some (.sl sz xs .no))=some (.sl sz xs .no,env):=rfl
theorem Xo{t:Nat}:qE env t (some .bT)=some (.bT,env):=rfl
theorem zeO{t:Nat}{u:aB}{v:V}:qE env t (some (.ec u v))=some (.ec u v,env):=rfl
theorem zi7{d:Tmp}{x:aX}(h:takes.any (Nat.beq d)=false):cx.op takes ⟨some d,.move x,type,pos,after,guard⟩ env H lk df=iF env H lk df (ak env x):=by
 simp only[Cx.op,h];exact vT rfl
def TX(H:Hp)(lk:aN)(df:bP):Option (V×aC)->Option (OR×St)
 | some (v,env)=>some (.val v,⟨env,H,lk,df⟩)
 | none=>none
theorem qg{v:V}:TX H lk df (some (v,env))=some (.val v,⟨env,H,lk,df⟩):=rfl
theorem zly{d:Tmp}{x:aX}(h:takes.any (Nat.beq d)=true):cx.op takes ⟨some d,.move x,type,pos,after,guard⟩ env H lk df=TX H lk df (take env x):=by
 simp only[Cx.op,h];cases take env x<;>rfl
theorem z9{x:aX}:cx.op takes ⟨dst,.assign x,type,pos,after,guard⟩ env H lk df=TX H lk df (take env x):=by
 simp only[Cx.op];cases take env x<;>rfl
def Xp(a b:bY):bY->bY
 | some (.bool true)=>a
 | some (.bool false)=>b
 | _=>none
theorem kX{c a b:aX}:cx.op takes ⟨dst,.pick c a b,type,pos,after,guard⟩ env H lk df=iF env H lk df (Xp (ak env a) (ak env b) (ak env c)):=by
 simp only[Cx.op];refine vT ?_;simp only[qZ];cases h:ak env c with
 | none=>rfl
 | some v=>cases v<;>first|rfl|(rename_i t;cases t<;>rfl)
theorem ku{t:aB}{ps:Array (Nat×aX)}:cx.op takes ⟨dst,.build t ps,type,pos,after,guard⟩ env H lk df=iF env H lk df (kB cx.P t ps env):=by
 simp only[Cx.op];exact vT rfl
theorem TY{d:Tmp}{t:aB}{a:aX}(h:takes.any (Nat.beq d)=false):cx.op takes ⟨some d,.load t a,type,pos,after,guard⟩ env H lk df=iF env H lk df (((ak env a).bind (zl cx.P H cx.gl t)).map aW):=by
 simp only[Cx.op,h];refine vT ?_;simp only[qZ];cases ak env a with
 | none=>rfl
 | some v=>cases h:zl cx.P H cx.gl t v<;>simp[h]
theorem zH{x:aX}:cx.op takes ⟨dst,.nilCheck x,type,pos,after,guard⟩ env H lk df=iF env H lk df ((ak env x).bind aa):=by
 simp only[Cx.op];exact vT rfl
def qO(P:aQ)(op:BinOp)(t:aB)(x y:aX):bY->bY->bY
 | some u,some v=>if jv P op t x y u v then w9 P op t u v else none
 | _,_=>none
theorem zY{o:BinOp}{t u:aB}{x y:aX}:cx.op takes ⟨dst,.binOp o t x y u,type,pos,after,guard⟩ env H lk df=iF env H lk df (qO cx.P o t x y (ak env x) (ak env y)):=by
 simp only[Cx.op];refine vT ?_;simp only[qZ];cases ak env x<;>cases ak env y<;>rfl
theorem kP{o:UnOp}{t:aB}{x:aX}:cx.op takes ⟨dst,.unOp o t x,type,pos,after,guard⟩ env H lk df=iF env H lk df ((ak env x).bind (iI o)):=by
 simp only[Cx.op];exact vT rfl
theorem vU{a b:aB}{x:aX}(hu:cx.uq (vg a)=false)(hm:Nat.beq a b=false):cx.op takes ⟨dst,.convert a b x,type,pos,after,guard⟩ env H lk df=iF env H lk df ((ak env x).bind (vB cx.P a b)):=by
 have hk:yb cx.P a b x env=none:=by
  unfold yb;rw[hm]
 simp only[Cx.op,hk,hu];exact vT rfl
theorem kY{x:aX}{i:Nat}:cx.op takes ⟨dst,.extract x i,type,pos,after,guard⟩ env H lk df=iF env H lk df ((ak env x).bind λv=>match v with|.br vs=>(nth vs i).map aW|_=>none):=by
 simp only[Cx.op];refine vT ?_;simp only[qZ];cases ak env x with
 | none=>rfl
 | some v=>cases v<;>first|rfl|(rename_i vs;cases h:nth vs i<;>simp[h])
def ah(off:Nat):V->bY
 | .ptr b o=>some (.ptr b (o+off))
 | .eN g o=>some (.eN g (o+off))
 | .gm b u k=>some (.gm b u (k+off))
 | .vp cs=>some (.vp (cs.drop off))
 | _=>none
theorem zfG{t:aB}{x:aX}{f:Nat}{fs:Array Field}{fd:Field}{sz:Nat}(h1:cx.P.underlying t=some (.struct fs))(h2:fs[f]?=some fd)(h3:z8 cx.P fd.type=some sz)(h4:Nat.beq sz 0=false) :
  cx.op takes ⟨dst,.fieldAddr t x f,type,pos,after,guard⟩ env H lk df=iF env H lk df ((ak env x).bind (ah fd.offset)):=by
 simp only[Cx.op];refine vT ?_;simp only[qZ,h1];have h5:¬sz=0:=Nat.ne_of_beq_eq_false h4;simp[h2,h3,h5];cases ak env x with
 | none=>rfl
 | some v=>cases v<;>rfl
def aE(f:V->Int->bY):bY->bY->bY
 | some x,some (.int _ i)=>f x i
 | _,_=>none
theorem zU{t:aB}{x i:aX}:cx.op takes ⟨dst,.indexAddr t x i,type,pos,after,guard⟩ env H lk df=iF env H lk df (aE (zp cx.P t) (ak env x) (ak env i)):=by
 simp only[Cx.op];refine vT ?_;simp only[qZ];cases h:ak env i with
 | none=>cases ak env x<;>rfl
 | some v=>cases v<;>cases ak env x<;>rfl
theorem zlA{t:aB}{x i:aX}:cx.op takes ⟨dst,.index t x i,type,pos,after,guard⟩ env H lk df=iF env H lk df (aE (Pj cx.P t) (ak env x) (ak env i)):=by
 simp only[Cx.op];refine vT ?_;simp only[qZ];cases h:ak env i with
 | none=>cases ak env x<;>rfl
 | some v=>cases v<;>cases ak env x<;>rfl
def TZ(t:aB)(H:Hp)(lk:aN)(df:bP):Option (V×aC)->Option (OR×St)
 | some (v,env)=>if !dD v then none else some (.val (.ptr H.au.length 0),⟨env,H.push (.cells v.laid t),lk,df⟩)
 | none=>none
theorem wG{t:aB}{x:aX}:cx.op takes ⟨dst,.box t x,type,pos,after,guard⟩ env H lk df=TZ t H lk df (take env x):=by
 simp only[Cx.op,TZ,qm,di,qn];cases take env x<;>rfl
theorem qc{t:aB}{v:V}(h:dD v=true):TZ t H lk df (some (v,env))=some (.val (.ptr H.au.length 0),⟨env,H.push (.cells v.laid t),lk,df⟩):=by
 simp[TZ,h]
def Ql(n:Nat)(H:Hp)(lk:aN)(df:bP):bY->Option (V×aC)->Option (OR×St)
 | some (.ptr b off),some (v,env)=>match H.get b with
  | some (.cells cs ty)=>if dD v && Nat.beq v.laid.length n && Nat.ble (off+n) cs.length && wz lk b off n (cs.drop off) then some (.skip,⟨env,(H.set b (.cells (storeCells cs off v.laid) ty)).bQ b v,lk,df⟩) else none
  | _=>none
 | _,_=>none
theorem zlB{t:aB}{a x:aX}{n:Nat}(hn:z8 cx.P t=some n)(P8:∀b u k,ak env a≠some (.gm b u k)):cx.op takes ⟨dst,.store t a x,type,pos,after,guard⟩ env H lk df=Ql n H lk df (ak env a) (take env x):=by
 simp only[Cx.op,qm,di,eJ,jc,hn];cases ha:ak env a with
 | none=>rfl
 | some p =>
  cases p<;>try rfl
  case gm b u k=>exact absurd ha (P8 b u k)
  rename_i b off;cases take env x with
  | none=>rfl
  | some q =>
   simp only[Ql];cases H.get b with
   | none=>rfl
   | some y=>cases y<;>rfl
def aA(lk:aN)(df:bP)(env:aC):Option (OR×Hp)->Option (OR×St)
 | some (r,H)=>some (r,⟨env,H,lk,df⟩)
 | none=>none
theorem zP{r:OR}:aA lk df env (some (r,H))=some (r,⟨env,H,lk,df⟩):=rfl
def Xq(cx:Cx)(f:FuncId)(H:Hp)(lk:aN)(df:bP)(env:aC):Option aC->Option (OR×St)
 | some args=>aA lk df env (cx.bD f (args.map aW) H)
 | none=>none
theorem qL{f:FuncId}{args:aC}:Xq cx f H lk df env (some args)=aA lk df env (cx.bD f (args.map aW) H):=rfl
theorem ki{f:FuncId}{args:r_}{ts:Array aB}:cx.op takes ⟨dst,.call ⟨.value (.func f),args,ts⟩,type,pos,after,guard⟩ env H lk df=Xq cx f H lk df env (az env args.toList):=by
 simp only[Cx.op,ak];cases az env args.toList with
 | none=>rfl
 | some l=>simp only[Cx.mI,eJ,bg,mT,Xq];cases cx.bD f (l.map aW) H<;>rfl
theorem zq{P:aQ}{gl:Nat->Nat->bY}{uq:aB->Bool}{call:FuncId->aC->Hp->Option (Out×Hp)}{f:FuncId}{fn:Func}{body:Code}{args:aC}{v:V}{H':Hp}(hf:P.funcs[f]?=some fn)(hb:fn.body=some body)(hc:call f args H=some (.ret v,H')) :
  Cx.bD ⟨P,gl,call,uq⟩ f args H=some (.val v,H'):=by
 simp only[Cx.bD,hf,hb,hc,HX]
theorem kC{x:aX}{t:aB}:cx.op takes ⟨dst,.call ⟨.builtin .len,#[x],#[t]⟩,type,pos,after,guard⟩ env H lk df=iF env H lk df (((ak env x).bind (qV cx.P H t)).map (.int .i64)):=by
 simp only[Cx.op,Cx.builtin];cases ak env x with
 | none=>rfl
 | some v=>cases h:qV cx.P H t v<;>simp[h,iF]
def xR(P:aQ)(H:Hp)(t:aB)(lk:aN)(df:bP)(y:bY):Option (V×aC)->Option (OR×St)
 | some (v,env)=>match y.bind (kf P H t v) with
  | some u=>some (.val u,⟨env,H,lk,df⟩)
  | none=>none
 | none=>none
theorem jV{x y:aX}{t:aB}(hu:q_ cx.P cx.uq t=false):cx.op takes ⟨dst,.call ⟨.builtin .append,#[x,y],#[t,t]⟩,type,pos,after,guard⟩ env H lk df=xR cx.P H t lk df (ak env y) (take env x):=by
 simp only[Cx.op,Cx.builtin,hu,lu,mG,f_,bz];cases hy:ak env y with
 | none=>cases hx:take env x<;>simp[xR]
 | some v =>
  cases hx:take env x with
  | none=>simp[xR]
  | some p =>
   obtain⟨u,e⟩:=p;cases h:kf cx.P H t u v<;>simp[xR,h]
end
section
variable{P:aQ}{gl:Gl}
def Fin(P:aQ)(rs:List ResultVar)(n0:Nat)(es:aN)(out:Out)(H':Hp):Ex->St->Prop
 | .normal,⟨env,H,_,df⟩|.ret,⟨env,H,_,df⟩=>df=[]/\∃vs,zy P H env rs=some vs/\out=.ret (lz vs)/\H'=zX n0 es (lz vs).top H
 | .p_ v,⟨_,H,_,df⟩=>df=[]/\out=.p_ v/\H'=zX n0 es v.top H
 | _,_=>False
theorem Xr{n:Nat}{f:FuncId}{fn:Func}{body:Code}{args:aC}{bs:List aT}{es:aN}{out:Out}{H':Hp}(hk:gl.hk f args=none)(eV:∀H,gl.eV n f args H=none)(hf:P.funcs[f]?=some fn)(hb:fn.body=some body)
  (h:W ⟨P,gl,zk P gl n,gl.uq⟩ n body ⟨args++List.replicate (fn.ntmps - args.length) (.br []),⟨bs++[],[]⟩,[],[]⟩ (Fin P fn.results.toList bs.length es out H')):zk P gl (n+1) f args ⟨bs,es⟩=some (out,H'):=by
 obtain⟨ex,⟨env,H,lk,df⟩,h1,h2⟩:=h;rw[mT] at h1;simp only[zk,hk,eV,hf,hb,qA,eJ,h1];cases ex<;>simp only[Fin] at h2
 ·obtain⟨rfl,vs,h3,h4,h5⟩:=h2;simp[Bg,Tf,vk,h3,h4,h5,qm,kW]
 ·obtain⟨rfl,vs,h3,h4,h5⟩:=h2;simp[Bg,Tf,vk,h3,h4,h5,qm,kW]
 ·obtain⟨rfl,h4,h5⟩:=h2;simp[Bg,Tf,vk,h4,h5,kW]
theorem zW{bs ls:List aT}{es:aN}{t:Nat}(ht:t<=bs.length):zX bs.length es t ⟨bs++ls,[]⟩=⟨bs,es⟩:=by
 have:Nat.ble t bs.length=true:=K8 ht;simp[zX,this]
theorem get_at{bs ls:List aT}{es:aN}{k:Nat}:Hp.get ⟨bs++ls,es⟩ (bs.length+k)=nth ls k:=by
 simp only[Hp.get,zg];rw[eM (by omega)]
 congr 1
 omega
theorem zkj{H:Hp}{b:Nat}{v:V}(h:v.top=0):Hp.bQ H b v=H:=by
 simp[Hp.bQ,h]
theorem zd{α:Type}{x:α}{xs:List α}:nth (x::xs) 0=some x:=rfl
theorem ze{α:Type}{x:α}{xs:List α}{n:Nat}:nth (x::xs) (n+1)=nth xs n:=rfl
end
section
variable{takes:cg}
end
section
variable{cx:Cx}{n:Nat}{takes:cg}{P:aQ}{gl:Nat->Nat->bY}{dst:fJ}{type:aB}{pos:String}{after:Array Edge}{guard:oP}{env:aC}{H:Hp}{lk:aN}{df:bP}
def zD(P:aQ)(t:aB)(f:Nat):Option Nat :=
 match P.underlying t with
 | some (.struct fs)=>match fs[f]? with
  | some fd=>match z8 P fd.type with
   | some m=>if Nat.beq m 0 then none else some fd.offset
   | none=>none
  | none=>none
 | _=>none
def J6(v:bY):Option Nat->bY
 | some off=>v.bind (ah off)
 | none=>none
theorem zT{v:bY}{off:Nat}:J6 v (some off)=v.bind (ah off):=rfl
theorem zB{t:aB}{x:aX}{f:Nat}:cx.op takes ⟨dst,.fieldAddr t x f,type,pos,after,guard⟩ env H lk df=iF env H lk df (J6 (ak env x) (zD cx.P t f)):=by
 unfold zD;cases h1:cx.P.underlying t with
 | none=>simp[Cx.op,qZ,h1,J6,iF]
 | some d =>
  cases d<;>try (simp[Cx.op,qZ,h1,J6,iF];done)
  rename_i fs;cases h2:fs[f]? with
  | none=>simp[Cx.op,qZ,h1,h2,J6,iF]
  | some fd =>
   cases h3:z8 cx.P fd.type with
   | none=>simp[Cx.op,qZ,h1,h2,h3,J6,iF]
   | some m =>
    cases m with
    | zero=>simp[Cx.op,qZ,h1,h2,h3,J6,iF]
    | succ m=>rw[zfG h1 h2 h3 rfl];simp[J6,h2,h3]
def fieldAt(P:aQ)(t:aB)(f:Nat):Option (aB×Nat) :=
 match P.underlying t with
 | some (.struct fs)=>(fs[f]?).map λfd=>(fd.type,fd.offset)
 | _=>none
def wV(cs:aC)(off:Nat):Option Bool->Option Nat->bY
 | some true,some n=>if off+n<=cs.length then some (.agg ((cs.drop off).take n)) else none
 | some false,_=>nth cs off
 | _,_=>none
theorem qu{t:aB}{cs:aC}{off:Nat}:kT P t cs off=wV cs off (qC P t) (z8 P t):=by
 unfold kT;cases qC P t with
 | none=>rfl
 | some b =>
  cases b with
  | false=>simp[wV]
  | true=>cases z8 P t<;>simp[wV]
theorem T1{cs:aC}{off:Nat}{s:Option Nat}:wV cs off (some false) s=nth cs off:=by cases s<;>rfl
theorem Od{cs:aC}{off n:Nat}:wV cs off (some true) (some n)=if off+n<=cs.length then some (.agg ((cs.drop off).take n)) else none:=rfl
def T4(P:aQ)(t:aB)(off:Nat):Option aT->bY
 | some (.cells cs _)=>kT P t cs off
 | _=>none
theorem jy{t u:aB}{off:Nat}{cs:aC}:T4 P t off (some (.cells cs u))=kT P t cs off:=rfl
theorem jW{t:aB}{b off:Nat}:zl P H gl t (.ptr b off)=T4 P t off (H.get b):=by
 cases h:H.get b with
 | none=>simp[zl,h,T4]
 | some x=>cases x<;>simp[zl,h,T4]
theorem zpy{c:Code}{s:St}{Q:Ex->St->Prop}(Inv:Nat->St->Prop)(k:Nat)(hk:k<n)(h0:Inv k s)(mL:∀j s,Inv j s->W cx n c s (IG (λs'=>∃i,i<j/\Inv i s') Q)):W cx n (.loop c) s Q:=by
 unfold W;simp only[Cx.code];have key:∀(m:Nat)(s:St)(j:Nat),j<m->Inv j s->∃ex s',Ln (cx.code n c) m s=some (ex,s')/\Q ex s':=by
  intro m
  induction m with
  | zero=>intro s j h;omega
  | succ m ih =>
   intro s j hj hI;obtain⟨ex,s1,h1,h2⟩:=mL j s hI;simp only[Ln,h1];cases ex with
   | normal =>
    obtain⟨i,hi,uk⟩:=h2;exact ih s1 i (by omega) uk
   | _=>exact⟨_,_,rfl,h2⟩
 exact key n s k hk h0
end
section
variable{cx:Cx}{n:Nat}{all:Array Oper}{takes:cg}{dst:fJ}{op:Op}{type:aB}{pos:String}{after:Array Edge}{os:List Oper}{env cM bI:aC}{H H1:Hp}{lk eG:aN}{df eF:bP}{v:V}{Q:Ex->St->Prop}
theorem jO{P:aQ}{t:aB}{x y:aX}{k:IntKind}{a b:Int}:qO P .add t x y (some (.int k a)) (some (.int k b))=some (.int k (k.wrap (a+b))):=by simp[qO,jv,w9,j4]
theorem kj{P:aQ}{t:aB}{x y:aX}{k:IntKind}{a b:Int}:qO P .sub t x y (some (.int k a)) (some (.int k b))=some (.int k (k.wrap (a - b))):=by simp[qO,jv,w9,j4]
theorem znE{P:aQ}{t:aB}{x y:aX}{k:IntKind}{a b:Int}:qO P .mul t x y (some (.int k a)) (some (.int k b))=some (.int k (k.wrap (a * b))):=by simp[qO,jv,w9,j4]
theorem wQ{P:aQ}{t:aB}{x y:aX}{k:IntKind}{a b:Int}:qO P .eql t x y (some (.int k a)) (some (.int k b))=some (.bool (a == b)):=by simp[qO,jv,v8,w9,j4]
theorem Qm{P:aQ}{t:aB}{x y:aX}{k:IntKind}{a b:Int}:qO P .neq t x y (some (.int k a)) (some (.int k b))=some (.bool (a != b)):=by simp[qO,jv,v8,w9,j4]
theorem qT{P:aQ}{t:aB}{x y:aX}{k:IntKind}{a b:Int}:qO P .lss t x y (some (.int k a)) (some (.int k b))=some (.bool (a<b)):=by simp[qO,jv,w9,j4]
theorem Oe{P:aQ}{t:aB}{x y:aX}{k:IntKind}{a b:Int}:qO P .leq t x y (some (.int k a)) (some (.int k b))=some (.bool (a<=b)):=by simp[qO,jv,w9,j4]
theorem w6{P:aQ}{t:aB}{x y:aX}{k:IntKind}{a b:Int}:qO P .gtr t x y (some (.int k a)) (some (.int k b))=some (.bool (a > b)):=by simp[qO,jv,w9,j4]
theorem T5{P:aQ}{t:aB}{x y:aX}{k:IntKind}{a b:Int}:qO P .geq t x y (some (.int k a)) (some (.int k b))=some (.bool (a ≥ b)):=by simp[qO,jv,w9,j4]
theorem zlD{P:aQ}{t:aB}{x y:aX}{a b:bL}:qO P .neq t x y (some (.str a)) (some (.str b))=some (.bool (!(om a b))):=by simp[qO,jv,v8,w9,Ph]
theorem qw{d:Tmp}{t:aB}{a:aX}{guard:oP}:cx.op [] ⟨some d,.load t a,type,pos,after,guard⟩ env H lk df=iF env H lk df (((ak env a).bind (zl cx.P H cx.gl t)).map aW):=TY rfl
theorem zK{d:Tmp}{x:aX}{guard:oP}:cx.op [] ⟨some d,.move x,type,pos,after,guard⟩ env H lk df=iF env H lk df (ak env x):=zi7 rfl
theorem zS{k:IntKind}{n:Int}:aW (.int k n)=.int k n:=rfl
theorem qQ{b:Bool}:aW (.bool b)=.bool b:=rfl
theorem kQ{s:bL}:aW (.str s)=.str s:=rfl
theorem qU{s:aC}:aW (.agg s)=.agg s:=rfl
theorem wY{s:aC}:aW (.vp s)=.vp s:=rfl
theorem ew{s:aC}:aW (.br s)=.br s:=rfl
theorem qk{a b:Nat}:aW (.ptr a b)=.ptr a b:=rfl
theorem zlE{a b:Nat}:aW (.eN a b)=.eN a b:=rfl
theorem dr:aW .aG=.aG:=rfl
theorem mM:aW .bT=.bT:=rfl
theorem kZ{sz:Nat}{xs:aC}{o:tG}:aW (.sl sz xs o)=.sl sz xs .no:=rfl
theorem Of{a b c d:Nat}:aW (.sr a b c d)=.sr a b c d:=rfl
theorem zi9{t:aB}{v:V}:aW (.ec t v)=.ec t v:=rfl
end
def Qn(g:Nat):List (Nat×aC)->Option aC
 | []=>none
 | (k,vs)::r=>match Nat.beq g k with
  | true=>some vs
  | false=>Qn g r
def L9(U:aB)(ks:bL)(T:List (Nat×aC)):Nat->Nat->bY:=λg o=>match Qn g T with
 | some vs=>nth vs o
 | none=>P_ U ks g o
def Xs(W:aP)(x:Nat×aC):Prop:=∀(o:Nat)(v:V),x.2[o]?=some v->v.top=0/\∃cv,W.cell? ⟨x.1,o,none⟩=some cv/\∀g,aR g v cv
theorem Xt{g:Nat}{vs:aC}:∀{T:List (Nat×aC)},Qn g T=some vs->(g,vs)∈T
 | [],h=>by simp[Qn] at h
 | (k,us)::r,h=>by
  simp only[Qn] at h;split at h
  next hb=>simp only[bu] at h;rw[eR hb,h];exact eT ..
  ·exact d_ _ (Xt h)
theorem zif{W:aP}{x:Nat×aC}(h:Xs W x){o:Nat}{U:aB}{j:Nat}:x.2[o]?≠some (.ec U (.obj j)):=by
 intro hv;obtain⟨_,cv,_,h3⟩:=h o _ hv;have k1:∀a,cv=.iface U (.pointer (some a)):=λa=>by
  have:=h3 { xB W with obj:=⟨λ_=>a,λ_=>True⟩ };cases this with
  | ec h2 =>
   cases h2 with
   | obj k=>rfl
 have:=(k1 ⟨0,0,none⟩).symm.trans (k1 ⟨1,0,none⟩);simp at this
theorem zpz{P:aQ}{U:aB}{ks:bL}{T:List (Nat×aC)}{W:aP}(h:FA U W ks)(hT:∀x∈T,Xs W x):gF P (L9 U ks T) (xB W):=by
 have GR:∀k u j,L9 U ks T k 0=some (.ec u (.obj j))->P_ U ks k 0=some (.ec u (.obj j)):=λk u j hv=>by
  unfold L9 at hv;split at hv
  next vs PN=>rw[zg] at hv;exact absurd hv (zif (hT _ (Xt PN)))
  ·exact hv
 have h0:=znz (P:=P) h;refine⟨?_,λk u j hv=>⟨(h0.2 k u j (GR k u j hv)).1,λk' u' j' lX e=>(h0.2 k u j (GR k u j hv)).2 k' u' j' (GR k' u' j' lX) e⟩⟩;intro k off v hv;unfold L9 at hv;split at hv
 next vs PN=>rw[zg] at hv;obtain⟨h1,cv,h2,h3⟩:=hT _ (Xt PN) off v hv;exact⟨cv,h2,h3 _,h1⟩
 ·exact h0.1 k off v hv
theorem zgV{α β:Type}{f:α->Option β}:∀{l:List α}{xs:List β},l.mapM f=some xs->xs.length=l.length/\∀(i:Nat)(a:α)(x:β),l[i]?=some a->xs[i]?=some x->f a=some x
 | [],xs,h=>by
  simp only[List.mapM_nil,Option.pure_def,bu] at h;subst h;exact⟨rfl,λi a x h=>by simp at h⟩
 | a::l,xs,h=>by
  simp only[List.mapM_cons,Option.pure_def,Option.bind_eq_bind,eL,bu] at h;obtain⟨y,hy,ys,tH,rfl⟩:=h;obtain⟨h1,h2⟩:=zgV tH;refine⟨by simp[h1],λi b x hb hx=>?_⟩
  cases i with
  | zero=>simp at hb hx;subst hb;subst hx;exact hy
  | succ i=>exact h2 i b x (by simpa using hb) (by simpa using hx)
theorem zgW{P:aQ}{W:aP}{l:List (String×DataW Unit)}(h:laidMet P l W){nm:String}{ns:List Int}{k:IntKind}(hx:(nm,DataW.agg (ns.map λm=>.lit (.int k m)))∈l){g t n e:Nat}(hg:P.globalNamed nm=some g)(hgt:(P.globals[g]?).map (·.type)=some t)
  (ht:P.underlying t=some (.array n e)) (he:P.underlying e=some (.int k)) (hc:P.cellsOf e=1) (hn:P.cellsOf t=n):Xs W (g,ns.map (V.int k)):=by
 obtain⟨ps,hv,_,eE⟩:=h;obtain⟨g',t',cs,fuel,p,h1,h2,h3,h4,bZ,_⟩:=Qb hv _ hx;rw[hg] at h1;cases h1;rw[hgt] at h2;cases h2;cases fuel with
 | zero=>simp[DataW.trod] at h4
 | succ fuel =>
  have Bi:∀i,i<cs.size->W.cell? ⟨g,i,none⟩=cs[i]?:=λi hi=>by
   have:=World.var?_cell hg h3 i;simpa using this
  obtain⟨l0⟩:=cs;simp only[DataW.trod,ht] at h4;split at h4<;>try (cases h4;done)
  rename_i hl;simp only[mA,cw,DataW.agg.injEq] at h4;obtain⟨xs,pG,e1,_⟩:=h4;obtain⟨m1,m2⟩:=zgV pG;have lH:ns.length=n:=by
   have:=congrArg List.length e1;simp only[gk,m1,Lb] at this;exact this.symm
  intro o v hov;simp only[gj,mA] at hov;obtain⟨m,hm,rfl⟩:=hov;have ho:o<n:=by rw[<- lH];exact(cP.1 hm).1
  have hox:o<xs.length:=by rw[m1];simpa using ho
  have hxo:xs[o]?=some xs[o]:=fQ hox;have hr:=m2 o o xs[o] (by simp[ho]) hxo
  have hd:xs[o].1=.lit (.int k m):=by
   have:=congrArg (λl=>l[o]?) e1;simp only[gj,hxo,hm,aS,bu] at this;exact this
  refine⟨rfl,?_⟩;have Eg:o<l0.length:=by rw[hl,hn];exact ho
  have iB:l0[o]?=some l0[o]:=fQ Eg;have mH:(l0.drop (o * P.cellsOf e)).take (P.cellsOf e)=[l0[o]]:=by
   rw[hc,JI,E7 Eg];rfl
  rw[mH] at hr;cases fuel with
  | zero=>simp[DataW.trod] at hr
  | succ fuel =>
   generalize sR:l0[o]=c at hr iB;refine⟨c,?_,λg=>?_⟩
   ·rw[Bi o (by simpa using Eg)];simpa using iB
   ·generalize xs[o]=y at hr hd;obtain⟨y1,y2⟩:=y;simp only at hd;subst hd;simp only[DataW.trod,he] at hr;cases c<;>simp at hr;obtain⟨⟨rfl,_⟩,rfl,_⟩:=hr;exact .int _ _
section
variable{cx:Cx}{n:Nat}
def av(cx:Cx)(o:Oper)(env:aC)(lk:aN):Bool :=
 match o.op with
 | .load t a=>match qC cx.P t with
  | some false=>true
  | _=>match ak env a with
   | some (.ptr b _)=>lk.all λp=>!(Nat.beq p.1 b)
   | _=>true
 | _=>true
def Cx.rE(cx:Cx)(all:Array Oper)(takes:cg):List Oper->St->Option St
 | [],s=>some s
 | o::os,⟨env,H,lk,df⟩=>match z0 all o env with
  | none=>none
  | some false=>cx.rE all takes os ⟨aq env o.dst (.br []),H,lk,df⟩
  | some true=>match av cx o env lk with
   | false=>none
   | true=>match cx.op takes o env H lk df with
    | some (.val v,⟨env,H,lk,df⟩)=>cx.rE all takes os ⟨aq env o.dst v,H,lk,df⟩
    | some (.skip,⟨env,H,lk,df⟩)=>cx.rE all takes os ⟨aq env o.dst (.br []),H,lk,df⟩
    | _=>none
inductive It where
 |c (c:Code)|eb (id:Nat)|os (all:Array Oper) (takes:cg) (l:List Oper)|on (all:Array Oper) (takes:cg) (l:List Oper)
def go(cx:Cx)(n:Nat)(Q:Ex->St->Prop):List It->Ex->St->Prop
 | [],ex,s=>Q ex s
 | .c c::k,.normal,s=>W cx n c s (go cx n Q k)
 | .c _::k,ex,s=>go cx n Q k ex s
 | .eb id::k,.exit i,s=>go cx n Q k (if Nat.beq i id then .normal else .exit i) s
 | .eb _::k,ex,s=>go cx n Q k ex s
 | .os all takes l::k,.normal,s=>O cx all takes l s (go cx n Q k)
 | .os _ _ _::k,ex,s=>go cx n Q k ex s
 | .on all takes l::k,.normal,s=>∃s',cx.rE all takes l s=some s'/\go cx n Q k .normal s'
 | .on _ _ _::k,ex,s=>go cx n Q k ex s
variable{Q:Ex->St->Prop}{k:List It}{s:St}{env:aC}{H:Hp}{lk:aN}{df:bP}{all:Array Oper}{takes:cg}{os:List Oper}
theorem T6{c:Code}(h:go cx n Q [.c c] .normal s):W cx n c s Q:=by
 have:(go cx n Q [])=Q:=by funext ex s;simp[go]
 simpa[go,this] using h
theorem zr{ex:Ex}:go cx n Q [] ex s ↔ Q ex s:=by simp[go]
theorem bB:go cx n Q (.c .skip::k) .normal s ↔ go cx n Q k .normal s:=by simp only[go];exact zpw
theorem zh{a b:Code}:go cx n Q (.c (.seq a b)::k) .normal s ↔ go cx n Q (.c a::.c b::k) .normal s:=by
 simp only[go,zqx];have:(IG (λs=>W cx n b s (go cx n Q k)) (go cx n Q k))=go cx n Q (.c b::k):=by
  funext ex s;cases ex<;>simp[go]
 rw[this]
theorem zx{id:Nat}{c:Code}:go cx n Q (.c (.block id c)::k) .normal s ↔ go cx n Q (.c c::.eb id::k) .normal s:=by
 simp only[go,znB];have:bO id (go cx n Q k)=go cx n Q (.eb id::k):=by
  funext ex s;cases ex<;>simp[go]
 rw[this]
theorem go_ret:go cx n Q (.c .ret::k) .normal s ↔ go cx n Q k .ret s:=by simp only[go];exact zqw
theorem ql{i:Nat}:go cx n Q (.c (.exit i)::k) .normal s ↔ go cx n Q k (.exit i) s:=by simp only[go];exact zpx
theorem qF{id:Nat}:go cx n Q (.eb id::k) .normal s ↔ go cx n Q k .normal s:=by simp[go]
theorem zG{id i:Nat}:go cx n Q (.eb id::k) (.exit i) s ↔ go cx n Q k (if Nat.beq i id then .normal else .exit i) s:=by simp[go]
theorem wo{id:Nat}:go cx n Q (.eb id::k) .ret s ↔ go cx n Q k .ret s:=by simp[go]
theorem zO{c:Code}{i:Nat}:go cx n Q (.c c::k) (.exit i) s ↔ go cx n Q k (.exit i) s:=by simp[go]
theorem wi{c:Code}:go cx n Q (.c c::k) .ret s ↔ go cx n Q k .ret s:=by simp[go]
def II(a b:Prop):bY->Prop
 | some (.bool true)=>a
 | some (.bool false)=>b
 | _=>False
theorem qR{c:aX}{a b:Code}:go cx n Q (.c (.cond c a b)::k) .normal ⟨env,H,lk,df⟩ ↔ II (go cx n Q (.c a::k) .normal ⟨env,H,lk,df⟩) (go cx n Q (.c b::k) .normal ⟨env,H,lk,df⟩) (ak env c):=by
 simp only[go];unfold W;simp only[Cx.code];cases ak env c with
 | none=>simp[II]
 | some v =>
  cases v with
  | bool t=>cases t<;>simp[II]
  | _=>simp[II]
theorem qh{a b:Prop}{t:Bool}:II a b (some (.bool t)) ↔ (t=true/\a\/t=false/\b):=by cases t<;>simp[II]
theorem zja{a b:Prop}:II a b (some (.bool true)) ↔ a:=Iff.rfl
theorem zjb{a b:Prop}:II a b (some (.bool false)) ↔ b:=Iff.rfl
theorem En{id:Nat}{ops:Array Oper}:go cx n Q (.c (.region id ops false)::k) .normal ⟨env,H,lk,df⟩ ↔ go cx n Q (.os ops (jM ops) ops.toList::k) .normal ⟨env,H,[],df⟩:=by
 simp only[go];exact zlx
theorem aH:go cx n Q (.os all takes []::k) .normal s ↔ go cx n Q k .normal s:=by simp only[go];exact zqy
theorem qx{dst:fJ}{op:Op}{type:aB}{pos:String}{after:Array Edge} :
  go cx n Q (.os all takes (⟨dst,op,type,pos,after,none⟩::os)::k) .normal ⟨env,H,lk,df⟩ ↔ FD dst (λs=>go cx n Q (.os all takes os::k) .normal s) (go cx n Q k) (cx.op takes ⟨dst,op,type,pos,after,none⟩ env H lk df):=by
 simp only[go];exact znC
def Hf(a b:Prop):Option Bool->Prop
 | some true=>a
 | some false=>b
 | none=>False
theorem j5{dst:fJ}{op:Op}{type:aB}{pos:String}{after:Array Edge}{g:Nat×Bool} :
  go cx n Q (.os all takes (⟨dst,op,type,pos,after,some g⟩::os)::k) .normal ⟨env,H,lk,df⟩ ↔
   Hf (FD dst (λs=>go cx n Q (.os all takes os::k) .normal s) (go cx n Q k) (cx.op takes ⟨dst,op,type,pos,after,some g⟩ env H lk df)) (go cx n Q (.os all takes os::k) .normal ⟨aq env dst (.br []),H,lk,df⟩) (z0 all ⟨dst,op,type,pos,after,some g⟩ env):=by
 simp only[go];unfold O;simp only[Cx.ops];cases z0 all ⟨dst,op,type,pos,after,some g⟩ env with
 | none=>simp[Hf]
 | some b =>
  cases b with
  | false=>simp[Hf,jN]
  | true =>
   simp only[Hf];cases h:cx.op takes ⟨dst,op,type,pos,after,some g⟩ env H lk df with
   | none=>simp
   | some r =>
    obtain⟨r,s1⟩:=r;obtain⟨cM,H1,eG,eF⟩:=s1;cases r<;>simp[jN,J5]
theorem bq:go cx n Q (.on all takes []::k) .normal s ↔ go cx n Q k .normal s:=by simp[go,Cx.rE]
theorem jX{dst:fJ}{op:Op}{type:aB}{pos:String}{after:Array Edge} :
  go cx n Q (.on all takes (⟨dst,op,type,pos,after,none⟩::os)::k) .normal ⟨env,H,lk,df⟩ ↔ (av cx ⟨dst,op,type,pos,after,none⟩ env lk=true/\FD dst (λs=>go cx n Q (.on all takes os::k) .normal s) (λ_ _=>False) (cx.op takes ⟨dst,op,type,pos,after,none⟩ env H lk df)):=by
 simp only[go,Cx.rE,z0];cases av cx ⟨dst,op,type,pos,after,none⟩ env lk with
 | false=>simp
 | true =>
  cases h:cx.op takes ⟨dst,op,type,pos,after,none⟩ env H lk df with
  | none=>simp
  | some r =>
   obtain⟨r,s1⟩:=r;obtain⟨cM,H1,eG,eF⟩:=s1;cases r<;>simp
theorem j8{dst:fJ}{op:Op}{type:aB}{pos:String}{after:Array Edge}{g:Nat×Bool} :
  go cx n Q (.on all takes (⟨dst,op,type,pos,after,some g⟩::os)::k) .normal ⟨env,H,lk,df⟩ ↔
   Hf (av cx ⟨dst,op,type,pos,after,some g⟩ env lk=true/\FD dst (λs=>go cx n Q (.on all takes os::k) .normal s) (λ_ _=>False) (cx.op takes ⟨dst,op,type,pos,after,some g⟩ env H lk df)) (go cx n Q (.on all takes os::k) .normal ⟨aq env dst (.br []),H,lk,df⟩) (z0 all ⟨dst,op,type,pos,after,some g⟩ env):=by
 simp only[go,Cx.rE];cases z0 all ⟨dst,op,type,pos,after,some g⟩ env with
 | none=>simp[Hf]
 | some b =>
  cases b with
  | false=>simp[Hf]
  | true =>
   simp only[Hf];cases av cx ⟨dst,op,type,pos,after,some g⟩ env lk with
   | false=>simp
   | true =>
    cases h:cx.op takes ⟨dst,op,type,pos,after,some g⟩ env H lk df with
    | none=>simp
    | some r =>
     obtain⟨r,s1⟩:=r;obtain⟨cM,H1,eG,eF⟩:=s1;cases r<;>simp
def IJ(want:Bool):bY->Option Bool
 | some (.bool b)=>some (b == want)
 | some (.br _)=>some false
 | _=>none
theorem zkk{dst:fJ}{op:Op}{type:aB}{pos:String}{after:Array Edge}{j:Nat}{want:Bool}{d:Tmp}(hd:(all[j]?).bind (·.dst)=some d):z0 all ⟨dst,op,type,pos,after,some (j,want)⟩ env=IJ want (nth env d):=by
 unfold z0 IJ;simp only[hd];cases nth env d with
 | none=>rfl
 | some v=>cases v<;>rfl
theorem qd{c:Code}(Inv:Nat->St->Prop)(j:Nat)(hj:j<n)(h0:Inv j s)(mL:∀j s,Inv j s->go cx n (IG (λs'=>∃i,i<j/\Inv i s') (go cx n Q k)) [.c c] .normal s):go cx n Q (.c (.loop c)::k) .normal s:=by
 simp only[go];exact zpy Inv j hj h0 λj s h=>T6 (mL j s h)
theorem zlH{P:aQ}{gl:Gl}{f:FuncId}{fn:Func}{body:Code}{args:aC}{bs:List aT}{es:aN}{out:Out}{H':Hp}(hk:gl.hk f args=none)(eV:∀H,gl.eV n f args H=none)(hf:P.funcs[f]?=some fn)(hb:fn.body=some body)
  (h:go ⟨P,gl,zk P gl n,gl.uq⟩ n (Fin P fn.results.toList bs.length es out H') [.c body] .normal ⟨args++List.replicate (fn.ntmps - args.length) (.br []),⟨bs,[]⟩,[],[]⟩):zk P gl (n+1) f args ⟨bs,es⟩=some (out,H') :=
 Xr hk eV hf hb (by rw[mT];exact T6 h)
def Fx(P:aQ)(rs:List ResultVar)(um:V->Hp->Prop):Ex->St->Prop
 | .normal,⟨env,H,_,df⟩|.ret,⟨env,H,_,df⟩=>df=[]/\∃vs,zy P H env rs=some vs/\um (lz vs) H
 | _,_=>False
theorem zJ{P:aQ}{gl:Gl}{f:FuncId}{fn:Func}{body:Code}{args:aC}{bs:List aT}{es:aN}{um:V->Hp->Prop}(hk:gl.hk f args=none)(eV:∀H,gl.eV n f args H=none)(hf:P.funcs[f]?=some fn)(hb:fn.body=some body)
  (h:go ⟨P,gl,zk P gl n,gl.uq⟩ n (Fx P fn.results.toList um) [.c body] .normal ⟨args++List.replicate (fn.ntmps - args.length) (.br []),⟨bs,[]⟩,[],[]⟩):∃v H1,zk P gl (n+1) f args ⟨bs,es⟩=some (.ret v,zX bs.length es v.top H1)/\um v H1:=by
 obtain⟨ex,⟨env,H,lk,df⟩,h1,h2⟩:=T6 h;cases ex<;>simp only[Fx] at h2
 ·obtain⟨rfl,vs,h3,h4⟩:=h2;exact⟨_,H,Xr hk eV hf hb ⟨.normal,_,by rw[mT];exact h1,⟨rfl,vs,h3,rfl,rfl⟩⟩,h4⟩
 ·obtain⟨rfl,vs,h3,h4⟩:=h2;exact⟨_,H,Xr hk eV hf hb ⟨.ret,_,by rw[mT];exact h1,⟨rfl,vs,h3,rfl,rfl⟩⟩,h4⟩
theorem wZ{x:aT}{b:Nat}:(H.push x).get b=match H.get b with|some y=>some y|none=>if b=H.au.length then some x else none:=by
 simp only[Hp.get,Hp.push,zg,List.getElem?_append];split
 next h=>rw[fQ h]
 ·rename_i h;have:H.au[b]?=none:=uF (by omega)
  rw[this]
  by_cases e:b=H.au.length
  ·subst e;simp
  ·rw[if_neg e];simp;omega
theorem jz{x:aT}{b c:Nat}:(H.set b x).get c=match H.get c with|some y=>some (if c=b then x else y)|none=>none:=by
 simp only[Hp.get,Hp.set,zg,List.getElem?_set']
 by_cases e:b=c
 ·subst e;cases h:H.au[b]?<;>simp
 ·rw[if_neg e];cases h:H.au[c]?<;>simp[Ne.symm e]
theorem bW{b c:Nat}{v:V}:(H.bQ b v).get c=H.get c:=by
 unfold Hp.bQ;split<;>rfl
theorem jl{x:aT}:(H.push x).au.length=H.au.length+1:=by simp[Hp.push]
theorem wu{x:aT}{b:Nat}:(H.set b x).au.length=H.au.length:=by simp[Hp.set]
theorem xl{b:Nat}{v:V}:(H.bQ b v).au.length=H.au.length:=by
 unfold Hp.bQ;split<;>rfl
theorem kL{b:Nat}{x:aT}(h:H.get b=some x):b<H.au.length:=by
 simp only[Hp.get,zg] at h;exact(cP.1 h).1
theorem IK:H.get H.au.length=none:=by simp[Hp.get,zg]
theorem zlI{b:Nat}(h:H.au.length<=b):H.get b=none:=by simp[Hp.get,zg,h]
end
section
structure SR where
 idx:Nat
 m:Nat
 tm:Nat
 lm:Nat
 hp:Bool
 lk:Bool
 al:Bool
 ld:Bool
 tk:Bool
def vK(o:Oper):Bool:=match o.op with|.alloc _=>true|_=>false
def kN(takes:cg)(o:Oper):Bool :=
 match o.op with
 | .load ..=>match o.dst with
  | some d=>takes.any (Nat.beq d)
  | none=>false
 | _=>false
def Eo(takes:cg)(o:Oper):Bool :=
 match o.op with
 | .load ..=>match o.dst with
  | some d=>!(takes.any (Nat.beq d))
  | none=>false
 | .call ⟨.builtin .len,⟨[_]⟩,⟨[_]⟩⟩=>true
 | _=>false
def sA:List SR->Nat->Option Nat
 | [],_=>none
 | r::rs,j=>if Nat.beq r.idx j then some r.m else sA rs j
def Og(rs:List SR):List Edge->Option Nat
 | []=>some 0
 | e::es=>match Region.binds .any e with
  | false=>Og rs es
  | true=>match sA rs e.on with
   | none=>none
   | some m=>match Og rs es with
    | none=>none
    | some k=>some (Nat.lor k (Nat.lor m (Nat.pow 2 e.on)))
def T7(r q:SR):Bool :=
 match bit r.m q.idx with
 | true=>true
 | false=>Nat.beq (Nat.land q.tm r.lm) 0 && Nat.beq (Nat.land r.tm q.lm) 0
def Xu(r q:SR):Bool :=
 match bit r.m q.idx with
 | true=>true
 | false=>!(r.hp && q.hp) && (!(q.hp && r.lk) || (q.tk && r.ld)) && (!(r.hp && q.lk) || (r.al && q.ld))
def J7(P:aQ)(uq:aB->Bool)(all:Array Oper)(takes:cg):Nat->List SR->List Oper->Bool
 | _,_,[]=>true
 | i,rs,o::os=>match Og rs o.after.toList with
  | none=>false
  | some m =>
   let r:SR:=⟨i,m,m9 takes o,Nat.lor (m9 takes o) (ud all o),q9 P uq takes o,kV P uq o,vK o,Eo takes o,kN takes o⟩
   (!r.tk || kE (λq=>!q.tk) rs) && kE (T7 r) rs && (kE (Xu r) rs && J7 P uq all takes (i+1) (r::rs) os)
variable{cx:Cx}{all:Array Oper}{takes:cg}
structure L_(cx:Cx)(takes:cg)(q:Rec)(t:SR):Prop where
 idx:q.idx=t.idx
 m:q.m=t.m
 tm:q.tm=t.tm
 lm:q.lm=t.lm
 hp:q.hp=true->t.hp=true
 lk:q.hp=false->q.free=false->t.lk=true
 ld:t.ld=Eo takes q.o
 tk:t.tk=kN takes q.o
inductive Ma(cx:Cx)(takes:cg):List Rec->List SR->Prop where
 |nil:Ma cx takes [] []
 |cons {q:Rec} {t:SR} {rs:List Rec} {ts:List SR} (h:L_ cx takes q t) (r:Ma cx takes rs ts):Ma cx takes (q::rs) (t::ts)
theorem zeQ{rs:List Rec}{ts:List SR}(h:Ma cx takes rs ts):∀(es:List Edge),wA rs es=Og ts es:=by
 have N0:∀j,maskAt rs j=sA ts j:=by
  intro j
  induction h with
  | nil=>rfl
  | cons a _ ih=>simp only[maskAt,sA,a.idx,a.m,ih]
 intro es
 induction es with
 | nil=>rfl
 | cons e es ih=>simp only[wA,Og,N0,ih];rfl
theorem zgY{rs:List Rec}{ts:List SR}(h:Ma cx takes rs ts){f:Rec->Bool}{g:SR->Bool}(hfg:∀q t,L_ cx takes q t->g t=true->f q=true)(hg:kE g ts=true):kE f rs=true:=by
 induction h with
 | nil=>rfl
 | cons a _ ih =>
  simp only[kE] at hg ⊢;split at hg
  next h1=>rw[hfg _ _ a h1];exact ih hg
  ·cases hg
theorem wc{α:Type}{f:α->Bool}:∀{l:List α},(∀x∈l,f x=true)->kE f l=true
 | [],_=>rfl
 | y::l,h=>by simp only[kE,h y (eT ..)];exact wc λx hx=>h x (d_ _ hx)
theorem yT{rs:List Rec}{ts:List SR}(h:Ma cx takes rs ts){g:SR->Bool}(hg:kE g ts=true):∀q∈rs,∃t,L_ cx takes q t/\g t=true:=by
 induction h with
 | nil=>intro q hq;simp at hq
 | cons a _ ih =>
  simp only[kE] at hg;split at hg<;>try (cases hg;done)
  rename_i h1;intro q hq;rcases dN.1 hq with rfl|hq
  ·exact⟨_,a,h1⟩
  ·exact ih hg q hq
theorem zN{H:Hp}{b:Nat}{x y:aT}(h:H.get b=some y):(H.push x).get b=some y:=by rw[wZ,h]
theorem zig{P:aQ}{gl:Nat->Nat->bY}{H:Hp}{x:aT}{t:aB}{p v:V}(h:zl P H gl t p=some v):zl P (H.push x) gl t p=some v:=by
 cases p<;>simp only[zl] at h ⊢<;>first|exact h|skip
 ·rename_i b off;cases hb:H.get b with
  | none=>simp[hb] at h
  | some y=>rw[zN hb];simpa[hb] using h
 ·rename_i b u k;cases hb:H.get b with
  | none=>simp[hb] at h
  | some y=>rw[zN hb];simpa[hb] using h
theorem zkl{P:aQ}{H:Hp}{x:aT}{t:aB}{p:V}{v:Int}(h:qV P H t p=some v):qV P (H.push x) t p=some v:=by
 unfold qV at h ⊢;split at h<;>try (simp only[*];done)
 ·rename_i hu;split at h<;>try (cases h;done)
  rename_i es hb;simp only[zN hb];exact h
theorem zeR{o:Oper}(gp:Eo takes o=true){env:aC}{v:V}{D:Nat}{H:Hp}{x:aT}{lk:aN}{df:bP}(h:cx.fu takes o env v ⟨D,H,lk,df⟩=true):cx.fu takes o env v ⟨D,H.push x,lk,df⟩=true:=by
 obtain⟨dst,op,type,pos,after,guard⟩:=o;unfold Eo at gp;split at gp<;>try (cases gp;done)
 ·rename_i t a aD;simp only at aD;subst aD;cases dst with
  | none=>simp at gp
  | some d =>
   have ht:takes.any (Nat.beq d)=false:=by simpa using gp
   simp only[Cx.fu,Cx.ej,TY ht] at h ⊢;cases hp:ak env a with
   | none=>simp[hp,iF] at h
   | some p =>
    cases hl:zl cx.P H cx.gl t p with
    | none=>simp[hp,hl,iF] at h
    | some u=>simpa[hp,hl,zig hl,iF] using h
 ·rename_i x0 t0 aD;simp only at aD;subst aD;have hh:∀H',cx.op takes ⟨dst,.call ⟨.builtin .len,#[x0],#[t0]⟩,type,pos,after,guard⟩ env H' lk df=iF env H' lk df (((ak env x0).bind (qV cx.P H' t0)).map (.int .i64)):=λH'=>kC;simp only[Cx.fu,Cx.ej] at h ⊢;rw[show(⟨[x0]⟩:r_)=#[x0] from rfl,show(⟨[t0]⟩:Array aB)=#[t0] from rfl] at *;rw[hh] at h ⊢;cases hp:ak env x0 with
  | none=>simp[hp,iF] at h
  | some p =>
   cases hl:qV cx.P H t0 p with
   | none=>simp[hp,hl,iF] at h
   | some u=>simpa[hp,hl,zkl hl,iF] using h
end
section
variable{cx:Cx}{takes:cg}{P:aQ}{gl:Nat->Nat->bY}{dst:fJ}{type:aB}{pos:String}{after:Array Edge}{guard:oP}{env:aC}{H:Hp}{lk:aN}{df:bP}
def Mb(P:aQ)(t:aB)(env:aC)(H:Hp)(lk:aN)(df:bP)(y x:bY):Option (OR×St):=do
 let .slice e <- P.underlying t|none
 let n <- z8 P e
 let i <- P.info? e
 let z <- i.zero
 let ys <- kU P H e (<- y)
 if !Nat.beq z.cells.size n || Nat.beq n 0 then none else
 match <- x with
 | .aG=>match ys with
  | []=>some (.val .aG,⟨env,H,lk,df⟩)
  | _=>if kA ys.length i.bytes then some (.val (.dw H.au.length 0 ys.length),⟨env,H.push (.ul 0 n (bX ys) e),lk,df⟩) else none
 | .dw b u len=>match H.get b with
  | some (.ul eO sz cs e') =>
   if Nat.beq e e' && Nat.beq n sz && Nat.beq eO u && kA (len+ys.length) i.bytes then
    some (.val (.dw b (eO+1) (len+ys.length)),⟨env,(H.set b (.ul (eO+1) sz (cs++bX ys) e)).bQ b (.br ys),lk,df⟩)
   else none
  | _=>none
 | .sr b off len cap=>match H.get b with
  | some (.cells cs ty) =>
   if Nat.beq off 0 && Nat.beq n 1 && Nat.beq ty e && Nat.beq ((bX ys).map aW).length ys.length && Nat.ble (len+ys.length) cap && Nat.ble (len+ys.length) cs.length && wz lk b len ys.length (cs.drop len) then
    some (.val (.sr b 0 (len+ys.length) cap),⟨env,(H.set b (.cells (storeCells cs len ((bX ys).map aW)) ty)).bQ b (.br ((bX ys).map aW)),lk,df⟩)
   else match kU P H e (.sr b off len cap) with
    | some xs =>
     if Nat.beq xs.length len && Nat.ble 1 len && Nat.ble (cap+1) (len+ys.length) && kA (len+ys.length) i.bytes then
      some (.val (.dw H.au.length 0 (len+ys.length)),⟨env,H.push (.ul 0 n (bX xs++bX ys) e),lk,df⟩)
     else none
    | none=>none
  | _=>none
 | _=>none
theorem yU{x y:aX}{t:aB}(hu:q_ cx.P cx.uq t=true):cx.op takes ⟨dst,.call ⟨.builtin .append,#[x,y],#[t,t]⟩,type,pos,after,guard⟩ env H lk df=Mb cx.P t env H lk df (ak env y) (ak env x):=by
 simp only[Cx.op,hu,lu,aF];simp only[Cx.mV,Mb,di,qA,qn,jc]
 congr 1
theorem zjc{t e n:Nat}{i:TypeInfo}{z:bw}(h1:P.underlying t=some (.slice e))(h2:z8 P e=some n)(h3:P.info? e=some i)(h4:i.zero=some z)(h5:z.cells.size=n)(h6:n≠0){xs:aC}{o:tG}{x:bY} :
  Mb P t env H lk df (some (.sl n xs o)) x=match x with
   | some .aG=>(match xs with
    | []=>some (.val .aG,⟨env,H,lk,df⟩)
    | _=>if kA xs.length i.bytes then some (.val (.dw H.au.length 0 xs.length),⟨env,H.push (.ul 0 n (bX xs) e),lk,df⟩) else none)
   | some (.dw b u len)=>(match H.get b with
    | some (.ul eO sz cs e')=>if (e=e'/\n=sz/\eO=u/\kA (len+xs.length) i.bytes=true) then
      some (.val (.dw b (eO+1) (len+xs.length)),⟨env,(H.set b (.ul (eO+1) sz (cs++bX xs) e)).bQ b (.br xs),lk,df⟩) else none
    | _=>none)
   | some (.sr b off len cap)=>(match H.get b with
    | some (.cells cs ty)=>if Nat.beq off 0 && Nat.beq n 1 && Nat.beq ty e && Nat.beq ((bX xs).map aW).length xs.length && Nat.ble (len+xs.length) cap && Nat.ble (len+xs.length) cs.length && wz lk b len xs.length (cs.drop len) then
      some (.val (.sr b 0 (len+xs.length) cap),⟨env,(H.set b (.cells (storeCells cs len ((bX xs).map aW)) ty)).bQ b (.br ((bX xs).map aW)),lk,df⟩) else match kU P H e (.sr b off len cap) with
       | some zs=>if Nat.beq zs.length len && Nat.ble 1 len && Nat.ble (cap+1) (len+xs.length) && kA (len+xs.length) i.bytes then
         some (.val (.dw H.au.length 0 (len+xs.length)),⟨env,H.push (.ul 0 n (bX zs++bX xs) e),lk,df⟩) else none
       | none=>none
    | _=>none)
   | _=>none:=by
 have h7:(!Nat.beq z.cells.size n || Nat.beq n 0)=false:=by
  rw[h5];cases n with
  | zero=>exact absurd rfl h6
  | succ n=>simp[Nat.beq]
 simp only[Mb,h1,h2,h3,h4,kU,Option.bind_eq_bind,aU,h7,aF,f_,bz];cases x with
 | none=>rfl
 | some v =>
  cases v<;>try rfl
  rename_i b u len;simp only[aU];cases H.get b with
  | none=>rfl
  | some y =>
   cases y<;>try rfl
   rename_i eO sz cs e';simp only[ei,Nat.beq_eq,and_assoc]
def Oh(P:aQ)(t:aB)(env:aC)(H:Hp)(lk:aN)(df:bP):bY->Option bY->Option bY->Option (OR×St)
 | some (.dw b u len),some none,some (some (.int _ h))=>match P.underlying t,H.get b with
  | some (.slice e'),some (.ul eO sz cs e)=>match z8 P e' with
   | some _=>if eO=u/\0<=h/\h.toNat<=len then some (.val (.dw b (eO+1) h.toNat),⟨env,(H.set b (.ul (eO+1) sz (cs.take (h.toNat * sz)) e)).bQ b .fE,lk,df⟩) else none
   | none=>none
  | _,_=>none
 | some (.sr b off len cap),some lo,some hi=>match yX P t (.sr b off len cap) lo hi with
  | some v=>some (.val v,⟨env,H,lk,df⟩)
  | none=>none
 | _,_,_=>none
theorem zeS{x:aX}{hi:Option aX}:xy takes x none hi=false:=by cases x<;>rfl
theorem zdE{x:aX}{t:aB}{lo hi:Option aX}(hu:q_ cx.P cx.uq t=true)(hf:xy takes x lo hi=false):cx.op takes ⟨dst,.slice t x lo hi none,type,pos,after,guard⟩ env H lk df=Oh cx.P t env H lk df (ak env x) (cX env lo) (cX env hi):=by
 simp only[Cx.op,hf,hu];simp only[Cx.oQ,eJ,qA,jc];unfold Oh;cases hx:ak env x with
 | none=>split<;>simp_all
 | some v =>
  by_cases TA:∃b off len cap,v=.sr b off len cap
  ·obtain⟨b,off,len,cap,rfl⟩:=TA;cases cX env lo with
   | none=>split<;>simp_all
   | some lo=>cases cX env hi with
    | none=>split<;>simp_all
    | some hi=>cases cx.P.underlying t with
     | none=>rfl
     | some d=>cases d<;>rfl
  cases v<;>(try (split<;>simp_all;done))
  rename_i b u len;cases hl:cX env lo with
  | none=>split<;>simp_all
  | some l =>
   cases l with
   | some l=>split<;>simp_all
   | none =>
    cases hh:cX env hi with
    | none=>split<;>simp_all
    | some h =>
     cases h with
     | none=>split<;>simp_all
     | some h =>
      cases h<;>(try (split<;>simp_all;done))
      rename_i k h;cases hP:cx.P.underlying t with
      | none=>simp
      | some d =>
       cases d<;>simp only<;>try rfl
       rename_i e';cases H.get b with
       | none=>simp
       | some y =>
        cases y<;>simp only<;>try (cases z8 cx.P e'<;>rfl)
        rename_i eO sz cs e;cases z8 cx.P e' with
        | none=>rfl
        | some m=>simp only[ei,Nat.beq_eq,decide_eq_true_eq,Nat.ble_eq,and_assoc]
def qo(P:aQ)(t:aB)(H:Hp)(lk:aN)(df:bP)(x:Option (V×aC)):bY->Option (OR×St)
 | some (.ptr b off)=>match z8 P t with
  | some n=>Ql n H lk df (some (.ptr b off)) x
  | none=>none
 | some (.gm b u k)=>match x,z8 P t,H.get b with
  | some (x,env),some n,some (.ul eO sz cs e)=>if eO=u/\dD (aW x)=true/\(aW x).cells.length=n/\k+n<=cs.length then
    some (.skip,⟨env,(H.set b (.ul eO sz (storeCells cs k (aW x).cells) e)).bQ b (aW x),lk,df⟩) else none
  | _,_,_=>none
 | _=>none
theorem zV{t:aB}{a x:aX}:cx.op takes ⟨dst,.store t a x,type,pos,after,guard⟩ env H lk df=qo cx.P t H lk df (take env x) (ak env a):=by
 cases ha:ak env a with
 | none=>simp[Cx.op,ha,qo]
 | some p =>
  cases p<;>try (simp[Cx.op,ha,qo];done)
  ·rename_i b off;cases hn:z8 cx.P t with
   | none =>
    simp only[Cx.op,ha,hn,qo];cases take env x<;>rfl
   | some n =>
    rw[zlB hn (λ_ _ _=>by rw[ha];simp)]
    simp only[qo,hn,ha]
  ·rename_i b u k;simp only[Cx.op,ha,qo,qm,eJ,jc];cases take env x with
   | none=>rfl
   | some q =>
    obtain⟨x,cZ⟩:=q;cases z8 cx.P t with
    | none=>rfl
    | some n =>
     cases H.get b with
     | none=>rfl
     | some y =>
      cases y<;>try rfl
      simp only[ei,Nat.beq_eq,Nat.ble_eq,and_assoc]
def vA(P:aQ)(t:aB)(env:aC)(H:Hp)(lk:aN)(df:bP):bY->Option (OR×St)
 | some (.ptr b off)=>match qC P t with
  | some false=>match H.get b with
   | some (.cells cs ty)=>match nth cs off with
    | some (.sl sz xs (.yes e))=>some (.val (.sl sz xs (.yes e)),⟨env,(H.set b (.cells (cs.set off (.sl sz xs .lock)) ty)).bQ b .fE,(b,off)::lk,df⟩)
    | some .aG=>some (.val .aG,⟨env,H,lk,df⟩)
    | some (.dw c u n)=>some (.val (.dw c u n),⟨env,H,lk,df⟩)
    | _=>none
   | _=>none
  | _=>none
 | some (.vp cs)=>match qC P t with
  | some false=>match nth cs 0 with
   | some (.sr c o l k)=>some (.val (.sr c o l k),⟨env,H,lk,df⟩)
   | _=>none
  | _=>none
 | _=>none
theorem xm{d:Tmp}{t:aB}{a:aX}(h:takes.any (Nat.beq d)=true):cx.op takes ⟨some d,.load t a,type,pos,after,guard⟩ env H lk df=vA cx.P t env H lk df (ak env a):=by
 simp only[Cx.op,h,eW,jc];unfold vA;cases ha:ak env a with
 | none=>cases qC cx.P t with
  | none=>rfl
  | some b=>cases b<;>rfl
 | some p =>
  cases p<;>cases qC cx.P t<;>(try rfl)<;>rename_i g<;>cases g<;>rfl
def T8(t:aB)(env:aC)(H:Hp)(lk:aN)(df:bP):bY->Option (OR×St)
 | some z=>if dD z=true then some (.val (.ptr H.au.length 0),⟨env,H.push (.cells z.cells t),lk,df⟩) else none
 | none=>none
theorem qM{t:aB}:cx.op takes ⟨dst,.alloc t,type,pos,after,guard⟩ env H lk df=T8 t env H lk df (qP cx.P t):=by
 simp only[Cx.op,T8];cases qP cx.P t with
 | none=>rfl
 | some z=>cases hz:dD z<;>simp[qm,qn,hz]
theorem zL{t:aB}{z:V}(h:dD z=true):T8 t env H lk df (some z)=some (.val (.ptr H.au.length 0),⟨env,H.push (.cells z.cells t),lk,df⟩):=by simp[T8,h]
theorem zqz{d t:Nat}(h:d≠t):[t].any (Nat.beq d)=false:=by
 cases hb:Nat.beq d t with
 | false=>simp[hb]
 | true=>exact absurd (eR hb) h
theorem jA{t d:Tmp}{x:aX}(h:d≠t):cx.op [t] ⟨some d,.move x,type,pos,after,guard⟩ env H lk df=iF env H lk df (ak env x):=zi7 (zqz h)
theorem jB{t d:Tmp}{ty:aB}{a:aX}(h:d≠t):cx.op [t] ⟨some d,.load ty a,type,pos,after,guard⟩ env H lk df=iF env H lk df (((ak env a).bind (zl cx.P H cx.gl ty)).map aW):=TY (zqz h)
theorem jp{d:Tmp}{t:aB}{a:aX}:cx.op [d] ⟨some d,.load t a,type,pos,after,guard⟩ env H lk df=vA cx.P t env H lk df (ak env a):=xm (by simp)
theorem jq{d:Tmp}{x:aX}:cx.op [d] ⟨some d,.move x,type,pos,after,guard⟩ env H lk df=TX H lk df (take env x):=zly (by simp)
def Qo(P:aQ)(t:aB):bY->bY
 | some v=>match P.underlying t with
  | some (.slice e)=>match z8 P e,qP P e with
   | some n,some z=>if n≠0/\n<=16777216/\z.cells.length=n/\dD z=true/\dD v=true/\v.cells.length=n then some (.sl n [v] (.yes e)) else none
   | _,_=>none
  | _=>none
 | none=>none
theorem jP{t:aB}{x:aX}:cx.op takes ⟨dst,.buildSlice t 1 #[(0,x)],type,pos,after,guard⟩ env H lk df=iF env H lk df (Qo cx.P t (ak env x)):=by
 simp only[Cx.op];refine vT ?_;simp only[qZ,Qo];cases h1:cx.P.underlying t with
 | none=>cases ak env x<;>rfl
 | some d =>
  cases d<;>(try (cases ak env x<;>rfl))
  rename_i e;cases h2:z8 cx.P e with
  | none=>cases ak env x<;>simp[h2]
  | some n =>
   cases h3:qP cx.P e with
   | none=>cases ak env x<;>simp[h2,h3]
   | some z =>
    simp only[h2,h3,Option.bind_eq_bind,aU];cases hx:ak env x with
    | none=>simp[D8,hx]
    | some v =>
     simp only[D8,hx,Option.bind_eq_bind,aU,qm,eW,Nat.one_mul]
     by_cases c0:n=0
     ·subst c0;simp[Nat.beq]
     ·have Oi:Nat.beq n 0=false:=by cases n with
       | zero=>exact absurd rfl c0
       | succ n=>rfl
      by_cases c1:n<=16777216
      ·have nF:Nat.blt 16777216 n=false:=by
        cases hb:Nat.blt 16777216 n with
        | false=>rfl
        | true=>have:=r8 hb;omega
       by_cases c2:z.cells.length=n
       ·cases c3:dD z with
        | false=>simp[Oi,nF,c2]
        | true =>
         cases c4:dD v with
         | false=>simp[Oi,nF,c2]
         | true =>
          by_cases c5:v.cells.length=n
          ·simp[Oi,c2,c5,c0,c1,Nat.blt];omega
          ·simp[Oi,nF,c2,c5]
       ·simp[Oi,nF,c2]
      ·have nF:Nat.blt 16777216 n=true:=K8 (by omega)
       simp[Oi,nF,c1]
theorem znG{P:aQ}{t e n:Nat}{z v:V}(h1:P.underlying t=some (.slice e))(h2:z8 P e=some n)(h3:qP P e=some z)(h4:(n≠0/\n<=16777216/\z.cells.length=n/\dD z=true))(h5:dD v=true)(h6:v.cells.length=n):Qo P t (some v)=some (.sl n [v] (.yes e)):=by
 obtain⟨a,b,c,d⟩:=h4;simp[Qo,h1,h2,h3,a,b,c,d,h5,h6]
end
section
variable{cx:Cx}{all:Array Oper}{takes:cg}
def IL(c:eD)(s:St):Prop :=
 (c.H=s.H/\c.lk=s.lk/\c.df=s.defers)\/∃b off cs ty sz xs e,c.H.get b=some (.cells cs ty)/\nth cs off=some (.sl sz xs (.yes e))/\s.H=(c.H.set b (.cells (cs.set off (.sl sz xs .lock)) ty)).bQ b .fE/\s.lk=(b,off)::c.lk/\s.defers=c.df
theorem zjd{o:Oper}(h:kN takes o=true){env:aC}{H:Hp}{lk:aN}{df:bP}{v:V}{D:Nat}{s1:St}(aD:cx.op takes o env H lk df=some (.val v,s1)):IL ⟨D,H,lk,df⟩ s1:=by
 obtain⟨dst,op,type,pos,after,guard⟩:=o;unfold kN at h;split at h<;>try (cases h;done)
 rename_i t a lK;simp only at lK;subst lK;cases dst with
 | none=>cases h
 | some d =>
  simp only at h;rw[xm h] at aD;unfold vA at aD;split at aD<;>try (cases aD;done)
  ·split at aD<;>try (cases aD;done)
   split at aD<;>try (cases aD;done)
   rename_i cs ty hb;split at aD<;>try (cases aD;done)
   next sz xs e hn=>cases aD;exact .inr ⟨_,_,cs,ty,sz,xs,e,hb,hn,rfl,rfl,rfl⟩
   ·cases aD;exact .inl ⟨rfl,rfl,rfl⟩
   ·cases aD;exact .inl ⟨rfl,rfl,rfl⟩
  ·split at aD<;>try (cases aD;done)
   split at aD<;>try (cases aD;done)
   cases aD;exact .inl ⟨rfl,rfl,rfl⟩
theorem zkn{P:aQ}{c:eD}{s:St}(h:IL c s){t:aB}{p:V}{v:Int}(hl:qV P s.H t p=some v):qV P c.H t p=some v:=by
 rcases h with⟨h,_⟩|⟨b,off,cs,ty,sz,xs,e,hb,hn,hs,_⟩
 ·rw[h];exact hl
 ·unfold qV at hl ⊢;split at hl<;>try (simp only[*];done)
  rename_i m hu;split at hl<;>try (cases hl;done)
  rename_i es hm;rw[hs,bW,jz] at hm;split at hm<;>try (cases hm;done)
  rename_i y hy;split at hm
  ·cases hm
  ·cases hm;simp only[hy];exact hl
theorem zii{P:aQ}{gl:Nat->Nat->bY}{c:eD}{s:St}(h:IL c s){t:aB}{p u:V}(hk:qC P t=some false\/∀b off,p=.ptr b off->s.lk.all (λq=>!(Nat.beq q.1 b))=true)(hl:zl P s.H gl t p=some u):∃u',zl P c.H gl t p=some u'/\aW u'=aW u:=by
 rcases h with⟨h,_⟩|⟨b,off,cs,ty,sz,xs,e,hb,hn,hs,ri,_⟩
 ·rw[h];exact⟨u,hl,rfl⟩
 ·cases p<;>(try (exact⟨u,hl,rfl⟩))
  ·rename_i b' off';simp only[zl,hs,bW,jz] at hl ⊢
   by_cases LC:b'=b
   ·subst LC;rcases hk with hk|hk
    ·simp only[hb,aF,Option.bind_eq_bind,aU,kT,hk] at hl ⊢;rw[zg,List.getElem?_set'] at hl
     by_cases ho:off=off'
     ·subst ho;rw[zg] at hn;simp only[aF,hn,aS,Function.const,Option.map_eq_map] at hl;cases hl;exact⟨.sl sz xs (.yes e),by simp[zg,hn],rfl⟩
     ·rw[if_neg ho] at hl;exact⟨u,by rw[zg];exact hl,rfl⟩
    ·have:=hk b' off' rfl;rw[ri] at this;simp at this
   ·cases hg:c.H.get b' with
    | none=>simp[hg] at hl
    | some y=>simp only[hg,if_neg LC] at hl;exact⟨u,by simpa[hg] using hl,rfl⟩
  ·rename_i b' u' k;simp only[zl,hs,bW,jz] at hl ⊢
   by_cases LC:b'=b
   ·subst LC;simp[hb] at hl
   ·cases hg:c.H.get b' with
    | none=>simp[hg] at hl
    | some y=>simp only[hg,if_neg LC] at hl;exact⟨u,by simpa[hg] using hl,rfl⟩
theorem zeT{o:Oper}(gp:Eo takes o=true){env:aC}{v:V}{c:eD}{s s1:St}(hL:IL c s)(hk:av cx o env s.lk=true)(aD:cx.op takes o env s.H s.lk s.defers=some (.val v,s1)):cx.fu takes o env v c=true:=by
 obtain⟨dst,op,type,pos,after,guard⟩:=o;unfold Eo at gp;split at gp<;>try (cases gp;done)
 ·rename_i t a lK;simp only at lK;subst lK;cases dst with
  | none=>simp at gp
  | some d =>
   have ht:takes.any (Nat.beq d)=false:=by simpa using gp
   simp only[Cx.fu,Cx.ej,TY ht] at aD ⊢;cases hp:ak env a with
   | none=>simp[hp,iF] at aD
   | some p =>
    cases hl:zl cx.P s.H cx.gl t p with
    | none=>simp[hp,hl,iF] at aD
    | some u =>
     obtain⟨u',h1,h2⟩:=zii hL (by
      simp only[av] at hk;split at hk
      next h=>exact .inl h
      ·refine .inr λb off e=>?_;rw[hp,e] at hk
       exact hk) hl
     simp only[hp,hl,iF,aU,aS,bu,cw,OR.val.injEq] at aD;simp only[aU,h1,aS,iF,h2,aD.1,V.dx]
 ·rename_i x0 t0 lK;simp only at lK;subst lK;have hh:∀H' Ir Is,cx.op takes ⟨dst,.call ⟨.builtin .len,#[x0],#[t0]⟩,type,pos,after,guard⟩ env H' Ir Is=iF env H' Ir Is (((ak env x0).bind (qV cx.P H' t0)).map (.int .i64)):=λH' Ir Is=>kC;rw[show(⟨[x0]⟩:r_)=#[x0] from rfl,show(⟨[t0]⟩:Array aB)=#[t0] from rfl,hh] at aD;simp only[Cx.fu,Cx.ej]
  rw[show(⟨[x0]⟩:r_)=#[x0] from rfl,show(⟨[t0]⟩:Array aB)=#[t0] from rfl,hh];cases hp:ak env x0 with
  | none=>simp[hp,iF] at aD
  | some p =>
   cases hl:qV cx.P s.H t0 p with
   | none=>simp[hp,hl,iF] at aD
   | some u =>
    simp only[hp,hl,iF,aU,aS,bu,cw,OR.val.injEq] at aD;simp only[aU,zkn hL hl,aS,iF,aD.1,V.dx]
structure T9(cx:Cx)(takes:cg)(i:Nat)(rs:List Rec)(ts:List SR)(c0:eD)(rest:List eD)(s:St):Prop where
 pr:Ma cx takes rs ts
 lt:∀q∈rs,q.idx<i
 cD:∀b,bit c0.D b=true ↔ ∃q∈rs,q.hp=true/\q.idx=b
 c0:c0.H=s.H/\c0.lk=s.lk/\c0.df=s.defers
 rD:∀c∈rest,∀b,bit c.D b=true->∃q∈rs,q.idx=b
 rest:∀c∈rest,(∃q∈rs,q.hp=true/\kN takes q.o=false/\bit c.D q.idx=false)\/((∃q∈rs,q.hp=true/\kN takes q.o=true/\bit c.D q.idx=false)/\IL c s)
 IM:∀q∈rs,q.hp=false->q.free=false->(∃c∈rs,c.hp=true/\bit c.m q.idx=true)\/(∀D,cx.fu takes q.o q.env q.v ⟨D,s.H,s.lk,s.defers⟩=true)
theorem zje{rs:List Rec}{c0 c1:eD}{rest:List eD}{r:Rec}{k:List eD->Option (Ex×St)}
  (l8:r.hp=true->∀c∈rest,vO (Nat.land r.m (eP rs)) c.D=false)
  (sS:r.hp=false->r.free=false->∀c∈rest,vO (Nat.land r.m (eP rs)) c.D=false\/cx.fu takes r.o r.env r.v c=true)
  (nE:∀b,(∃q∈rs,q.hp=true/\q.idx=b)->bit c1.D b=true)
  (oI:r.hp=true->∀q∈rs,q.hp=false->q.free=false->bit r.m q.idx=true\/(∃c∈rs,c.hp=true/\bit c.m q.idx=true)\/cx.fu takes q.o q.env q.v c1=true) :
  cx.fS takes rs r c0 c1 rest k=k (bif r.hp then c1::c0::rest else c0::rest):=by
 unfold Cx.fS;cases hh:r.hp with
 | false =>
  have:(r.free || kE (λc=>match vO (Nat.land r.m (eP rs)) c.D with|true=>cx.fu takes r.o r.env r.v c|false=>true) rest)=true:=by
   cases hf:r.free with
   | true=>rfl
   | false =>
    simp only[z_];exact wc λc hc=>by
     rcases sS hh hf c hc with h|h
     ·simp only[h]
     ·split
      ·exact h
      ·rfl
  show(match r.free || kE (λc=>match vO (Nat.land r.m (eP rs)) c.D with|true=>cx.fu takes r.o r.env r.v c|false=>true) rest with|true=>k (c0::rest)|false=>none)=k (c0::rest)
  rw[this]
 | true =>
  simp only[mh];have cj:∀l:List eD,(∀c∈l,vO (Nat.land r.m (eP rs)) c.D=false)->cx.iJ takes r.o r.env r.v (Nat.land r.m (eP rs)) (Nat.pow 2 r.idx) l=some []:=by
   intro l
   induction l with
   | nil=>intro _;rfl
   | cons c l ih=>intro h;simp only[Cx.iJ,h c (eT ..)];exact ih λc hc=>h c (d_ _ hc)
  rw[cj rest (l8 hh)];have eu:cx.fR takes rs (eP rs) r (c1::c0::rest) c1=true:=by
   unfold Cx.fR;refine wc λq hq=>?_;split
   ·rfl
   ·cases mj:q.hp with
    | true =>
     simp only;rw[nE q.idx ⟨q,hq,mj,rfl⟩]
    | false =>
     simp only;cases pI:q.free with
     | true=>rfl
     | false =>
      rcases oI hh q hq mj pI with h|⟨c,hc,h1,h2⟩|h
      ·simp[h]
      ·have:Ll c1.D q rs=true:=by
        have hx:∀l:List Rec,c∈l->Ll c1.D q l=true:=by
         intro l
         induction l with
         | nil=>intro h;simp at h
         | cons d l ih =>
          intro h;simp only[Ll,tX,ei];rcases dN.1 h with rfl|h
          ·exact .inl ⟨⟨h1,nE _ ⟨c,hc,h1,rfl⟩⟩,h2⟩
          ·exact .inr (ih h)
        exact hx rs hc
       simp[this]
      ·simp[h]
  have Qp:cx.fR takes rs (eP rs) r ([c1]++c0::rest) c1=true:=eu;simp only[kE,Qp];rfl
theorem zgZ{o:Oper}(h:vK o=true){env:aC}{H:Hp}{lk:aN}{df:bP}{v:V}{s1:St}(aD:cx.op takes o env H lk df=some (.val v,s1)):∃x,s1=⟨env,H.push x,lk,df⟩:=by
 obtain⟨dst,op,type,pos,after,guard⟩:=o;unfold vK at h;split at h<;>try (cases h;done)
 rename_i t lK;simp only at lK;subst lK;simp only[Cx.op] at aD;split at aD<;>try (cases aD;done)
 split at aD<;>try (cases aD;done)
 simp only[qm,qn,bu,cw] at aD;exact⟨_,aD.2.symm⟩
theorem Xv{s':St}:∀(os:List Oper)(i:Nat)(rs:List Rec)(ts:List SR)(c0:eD)(rest:List eD)(s:St),T9 cx takes i rs ts c0 rest s->J7 cx.P cx.uq all takes i ts os=true->cx.rE all takes os s=some s'->cx.eU all takes i rs (c0::rest) os s=some (.normal,s')
 | [],i,rs,ts,c0,rest,s,_,_,hc=>by
  simp only[Cx.rE,bu] at hc;simp only[Cx.eU,hc]
 | o::os,i,rs,ts,c0,rest,⟨env,H,lk,df⟩,hI,fe,hc=>by
  simp only[J7] at fe;split at fe<;>try (cases fe;done)
  rename_i m hm;simp only[ei] at fe;obtain⟨⟨mH,IC⟩,Mc,fe⟩:=fe;have sU:∀(hp free:Bool)(v:V),kE (kz ⟨i,o,m,m9 takes o,Nat.lor (m9 takes o) (ud all o),hp,free,env,v⟩) rs=true:=λhp free v =>
   zgY hI.pr (λq t uj hg=>by simp only[T7] at hg;simp only[kz,uj.idx,uj.tm,uj.lm];exact hg) IC
  have key:∀(hp free:Bool)(v:V)(H1:Hp)(eG:aN)(eF:bP)(cM:aC),
    (hp=true->q9 cx.P cx.uq takes o=true)->(hp=false->free=false->kV cx.P cx.uq o=true) ->
    (hp=false->H1=H/\eG=lk/\eF=df)->(hp=false->free=false->∀D,cx.fu takes o env v ⟨D,H,lk,df⟩=true) ->
    (hp=true->vK o=true->∃x,H1=H.push x/\eG=lk/\eF=df) ->
    (hp=true->kN takes o=true->∀D,IL ⟨D,H,lk,df⟩ ⟨cM,H1,eG,eF⟩) ->
    (hp=false->free=false->Eo takes o=true->∀c,IL c ⟨env,H,lk,df⟩->cx.fu takes o env v c=true) ->
    cx.rE all takes os ⟨cM,H1,eG,eF⟩=some s' ->
    (match kE (kz ⟨i,o,m,m9 takes o,Nat.lor (m9 takes o) (ud all o),hp,free,env,v⟩) rs,c0::rest with
     | true,c0::cs=>cx.fS takes rs ⟨i,o,m,m9 takes o,Nat.lor (m9 takes o) (ud all o),hp,free,env,v⟩ c0 ⟨Nat.lor c0.D (Nat.pow 2 i),H1,eG,eF⟩ cs λcs =>
      cx.eU all takes (i+1) (⟨i,o,m,m9 takes o,Nat.lor (m9 takes o) (ud all o),hp,free,env,v⟩::rs) cs os ⟨cM,H1,eG,eF⟩
     | _,_=>none)=some (.normal,s'):=by
   intro hp free v H1 eG eF cM h1 h2 h3 h4 h5 Xw Xx h6;rw[sU];simp only;have bR:∀q∈rs,q.idx≠i:=λq hq e=>by have:=hI.lt q hq;omega
   have nE:∀b,(∃q∈rs,q.hp=true/\q.idx=b)->bit (Nat.lor c0.D (Nat.pow 2 i)) b=true:=λb hb=>by rw[vb,(hI.cD b).2 hb];rfl
   have Bw:=yT hI.pr Mc;have oI:hp=true->∀q∈rs,q.hp=false->q.free=false->bit m q.idx=true\/(∃c∈rs,c.hp=true/\bit c.m q.idx=true)\/∀D,cx.fu takes q.o q.env q.v ⟨D,H1,eG,eF⟩=true:=λhr q hq mj pI=>by
    obtain⟨t,ht,hg⟩:=Bw q hq;simp only[Xu] at hg;split at hg
    next hb=>exact .inl (by rw[ht.idx];exact hb)
    ·rw[h1 hr,ht.lk mj pI] at hg;simp only[tE,mG,z_,ei] at hg;obtain⟨_,sM,gp⟩:=hg;rcases hI.IM q hq mj pI with h|h
     ·exact .inr (.inl h)
     ·obtain⟨x,e1,e2,e3⟩:=h5 hr sM;subst e1 e2 e3;rw[ht.ld] at gp;exact .inr (.inr λD=>zeR gp (h D))
   have FE:kN takes o=true->∀q∈rs,kN takes q.o=false:=λht q hq=>by
    rw[ht] at mH;simp only[mG,z_] at mH;obtain⟨t,h7,h8⟩:=yT hI.pr mH q hq;rw[<- h7.tk];simpa using h8
   have iN:(hp=true\/(hp=false/\free=false))->∀q∈rs,q.hp=true->bit m q.idx=true\/(hp=false/\kN takes q.o=true/\Eo takes o=true):=λhr q hq mj=>by
    obtain⟨t,ht,hg⟩:=Bw q hq;simp only[Xu] at hg;split at hg
    next hb=>exact .inl (by rw[ht.idx];exact hb)
    ·rw[ht.hp mj] at hg;simp only[Lc,tE,ei,EK] at hg;obtain⟨⟨g1,g2⟩,_⟩:=hg;rcases hr with hr|⟨hr,hf⟩
     ·rw[h1 hr] at g1;cases g1
     ·rw[h2 hr hf] at g2;simp only[mG,z_,ei] at g2;exact .inr ⟨hr,by rw[<- ht.tk];exact g2.1,g2.2⟩
   have sV:∀c:eD,(∃q∈rs,q.hp=true/\bit m q.idx=true/\bit c.D q.idx=false)->vO (Nat.land m (eP rs)) c.D=false:=λc hc=>by
    obtain⟨q,hq,e1,e2,e3⟩:=hc;cases hs:vO (Nat.land m (eP rs)) c.D with
    | false=>rfl
    | true =>
     have:=rB.1 hs q.idx (by rw[N7,e2,lJ.2 ⟨q,hq,e1,rfl⟩];rfl)
     rw[this] at e3;cases e3
   have Qq:∀c:eD,(∀b,bit c.D b=true->∃q∈rs,q.idx=b)->bit c.D i=false:=λc hc=>by
    cases hb:bit c.D i with
    | false=>rfl
    | true =>
     obtain⟨q,hq,e⟩:=hc i hb;exact absurd e (bR q hq)
   rw[zje (r:=⟨i,o,m,m9 takes o,Nat.lor (m9 takes o) (ud all o),hp,free,env,v⟩) ?_ ?_ nE ?_]
   ·have FF:T9 cx takes (i+1) (⟨i,o,m,m9 takes o,Nat.lor (m9 takes o) (ud all o),hp,free,env,v⟩::rs) (⟨i,m,m9 takes o,Nat.lor (m9 takes o) (ud all o),q9 cx.P cx.uq takes o,kV cx.P cx.uq o,vK o,Eo takes o,kN takes o⟩::ts)
      (bif hp then ⟨Nat.lor c0.D (Nat.pow 2 i),H1,eG,eF⟩ else c0) (bif hp then c0::rest else rest) ⟨cM,H1,eG,eF⟩:=by
     refine⟨.cons ⟨rfl,rfl,rfl,rfl,h1,h2,rfl,rfl⟩ hI.pr,?_,?_,?_,?_,?_,?_⟩
     ·intro q hq;rcases dN.1 hq with rfl|hq
      ·exact HT _
      ·have:=hI.lt q hq;omega
     ·intro b;cases hp with
      | false =>
       simp only[nD];rw[hI.cD];constructor
       ·rintro⟨q,hq,e⟩;exact⟨q,d_ _ hq,e⟩
       ·rintro⟨q,hq,e1,e2⟩;rcases dN.1 hq with rfl|hq
        ·cases e1
        ·exact⟨q,hq,e1,e2⟩
      | true =>
       simp only[mh];rw[vb,tX,hI.cD,yg,decide_eq_true_eq];constructor
       ·rintro(⟨q,hq,e⟩|rfl)
        ·exact⟨q,d_ _ hq,e⟩
        ·exact⟨_,eT ..,rfl,rfl⟩
       ·rintro⟨q,hq,e1,e2⟩;rcases dN.1 hq with rfl|hq
        ·exact .inr e2
        ·exact .inl ⟨q,hq,e1,e2⟩
     ·cases hp with
      | false=>obtain⟨e1,e2,e3⟩:=h3 rfl;subst e1 e2 e3;exact hI.c0
      | true=>exact⟨rfl,rfl,rfl⟩
     ·intro c ey b hb;cases hp with
      | false=>obtain⟨q,hq,e⟩:=hI.rD c ey b hb;exact⟨q,d_ _ hq,e⟩
      | true =>
       rcases dN.1 ey with rfl|ey
       ·obtain⟨q,hq,_,e⟩:=(hI.cD b).1 hb;exact⟨q,d_ _ hq,e⟩
       ·obtain⟨q,hq,e⟩:=hI.rD c ey b hb;exact⟨q,d_ _ hq,e⟩
     ·intro c ey;cases hp with
      | false =>
       obtain⟨e1,e2,e3⟩:=h3 rfl;subst e1 e2 e3;rcases hI.rest c ey with⟨q,hq,e⟩|⟨⟨q,hq,e⟩,hL⟩
       ·exact .inl ⟨q,d_ _ hq,e⟩
       ·exact .inr ⟨⟨q,d_ _ hq,e⟩,hL⟩
      | true =>
       have FG:bit c0.D i=false:=Qq c0 λb hb=>by obtain⟨q,hq,_,e⟩:=(hI.cD b).1 hb;exact⟨q,hq,e⟩
       cases AS:kN takes o with
       | false =>
        rcases dN.1 ey with rfl|ey
        ·exact .inl ⟨_,eT ..,rfl,AS,FG⟩
        ·exact .inl ⟨_,eT ..,rfl,AS,Qq c (hI.rD c ey)⟩
       | true =>
        rcases dN.1 ey with rfl|ey
        ·refine .inr ⟨⟨_,eT ..,rfl,AS,FG⟩,?_⟩;obtain⟨D0,H0,G9,df0⟩:=c;obtain⟨e1,e2,e3⟩:=hI.c0;simp only at e1 e2 e3;subst e1 e2 e3;exact Xw rfl AS D0
        ·rcases hI.rest c ey with⟨q,hq,e⟩|⟨⟨q,hq,e1,e2,_⟩,_⟩
         ·exact .inl ⟨q,d_ _ hq,e⟩
         ·rw[FE AS q hq] at e2;cases e2
     ·intro q hq mj pI;rcases dN.1 hq with rfl|CS
      ·obtain⟨e1,e2,e3⟩:=h3 mj;subst e1 e2 e3;exact .inr (h4 mj pI)
      ·clear hq;cases hp with
       | false =>
        obtain⟨e1,e2,e3⟩:=h3 rfl;subst e1 e2 e3;rcases hI.IM q CS mj pI with⟨c,hc,e⟩|h
        ·exact .inl ⟨c,d_ _ hc,e⟩
        ·exact .inr h
       | true =>
        rcases oI rfl q CS mj pI with h|⟨c,hc,e⟩|h
        ·exact .inl ⟨_,eT ..,rfl,h⟩
        ·exact .inl ⟨c,d_ _ hc,e⟩
        ·exact .inr h
    have:=Xv os _ _ _ _ _ _ FF fe h6;cases hp<;>exact this
   ·intro hr c ey;refine sV c ?_;rcases hI.rest c ey with⟨q,hq,e1,_,e2⟩|⟨⟨q,hq,e1,_,e2⟩,_⟩
    ·rcases iN (.inl hr) q hq e1 with h|⟨h,_⟩
     ·exact⟨q,hq,e1,h,e2⟩
     ·exact absurd (hr.symm.trans h) (by simp)
    ·rcases iN (.inl hr) q hq e1 with h|⟨h,_⟩
     ·exact⟨q,hq,e1,h,e2⟩
     ·exact absurd (hr.symm.trans h) (by simp)
   ·intro hr hf c ey;rcases hI.rest c ey with⟨q,hq,e1,e3,e2⟩|⟨⟨q,hq,e1,e3,e2⟩,hL⟩
    ·rcases iN (.inr ⟨hr,hf⟩) q hq e1 with h|⟨_,h,_⟩
     ·exact .inl (sV c ⟨q,hq,e1,h,e2⟩)
     ·rw[e3] at h;cases h
    ·rcases iN (.inr ⟨hr,hf⟩) q hq e1 with h|⟨_,_,h⟩
     ·exact .inl (sV c ⟨q,hq,e1,h,e2⟩)
     ·exact .inr (Xx hr hf h c hL)
   ·intro hr q hq mj pI;rcases oI hr q hq mj pI with h|h|h
    ·exact .inl h
    ·exact .inr (.inl h)
    ·exact .inr (.inr (h _))
  simp only[Cx.eU,zeQ hI.pr,hm,qA,qm,jN];simp only[Cx.rE] at hc;split at hc<;>try (cases hc;done)
  next hw=>simp only[hw];exact key false true (.br []) H lk df _ (λh=>nomatch h) (λ_ h=>nomatch h) (λ_=>⟨rfl,rfl,rfl⟩) (λ_ h=>nomatch h) (λh=>nomatch h) (λh=>nomatch h) (λ_ h=>nomatch h) hc
  ·rename_i hw;simp only[hw];split at hc<;>try (cases hc;done)
   rename_i tP;split at hc<;>try (cases hc;done)
   ·rename_i v cM H1 eG eF aD;simp only[aD];refine key _ _ v H1 eG eF _ (λh=>h) (λ_ h=>by simpa using h) (λhf=>?_) (λhf _ D=>?_) (λ_ ha=>?_) (λ_ ht D=>?_) (λ_ _ hl c hL=>zeT hl hL tP aD) hc
    ·obtain⟨v',_,e2,_⟩:=yh hf aD;cases e2;exact⟨rfl,rfl,rfl⟩
    ·simp[Cx.fu,Cx.ej,aD,V.dx]
    ·obtain⟨x,e⟩:=zgZ ha aD;cases e;exact⟨x,rfl,rfl,rfl⟩
    ·rcases zjd (D:=D) ht aD with h|h
     ·exact .inl h
     ·exact .inr h
   ·rename_i cM H1 eG eF aD;simp only[aD];have Cj:q9 cx.P cx.uq takes o=true:=by
     cases hb:q9 cx.P cx.uq takes o with
     | true=>rfl
     | false=>obtain⟨v',e1,_⟩:=yh hb aD;cases e1
    rw[Cj];refine key true false (.br []) H1 eG eF _ (λ_=>Cj) (λh=>nomatch h) (λh=>nomatch h) (λh=>nomatch h) (λ_ ha=>?_) (λ_ ht=>?_) (λh=>nomatch h) hc
    ·obtain⟨dst,op,type,pos,after,guard⟩:=o;unfold vK at ha;split at ha<;>try (cases ha;done)
     rename_i t lK;simp only at lK;subst lK;simp only[Cx.op] at aD;split at aD<;>try (cases aD;done)
     split at aD<;>try (cases aD;done)
     simp[qm,qn] at aD
    ·obtain⟨dst,op,type,pos,after,guard⟩:=o;unfold kN at ht;split at ht<;>try (cases ht;done)
     rename_i t a lK;simp only at lK;subst lK;cases dst with
     | none=>cases ht
     | some d =>
      simp only at ht;rw[xm ht] at aD;unfold vA at aD
      (repeat' split at aD)<;>cases aD
theorem zlK{ops:Array Oper}{env:aC}{H:Hp}{lk:aN}{df:bP}{s':St}(fe:J7 cx.P cx.uq ops (jM ops) 0 [] ops.toList=true)(hc:cx.rE ops (jM ops) ops.toList ⟨env,H,[],df⟩=some s')(hl:cx.uq mJ=false\/xO ops=none):cx.draw ops ⟨env,H,lk,df⟩=some (.normal,s'):=by
 refine W_ ?_ hl;unfold Cx.drawn;exact Xv _ _ _ _ _ _ _ ⟨.nil,λq hq=>by simp at hq,λb=>by simp[yE],⟨rfl,rfl,rfl⟩,λc hc=>by simp at hc,λc hc=>by simp at hc,λq hq=>by simp at hq⟩ fe hc
theorem znH{n id:Nat}{Q:Ex->St->Prop}{k:List It}{ops:Array Oper}{env:aC}{H:Hp}{lk:aN}{df:bP}(fe:J7 cx.P cx.uq ops (jM ops) 0 [] ops.toList=true)
  (h:go cx n Q (.on ops (jM ops) ops.toList::k) .normal ⟨env,H,[],df⟩) (hl:cx.uq mJ=false\/xO ops=none:=by first|exact .inl rfl|exact .inr (by kernel_rfl)):go cx n Q (.c (.region id ops true)::k) .normal ⟨env,H,lk,df⟩:=by
 simp only[go] at h ⊢;obtain⟨s',h1,h2⟩:=h;exact⟨.normal,s',by simp only[Cx.code];exact zlK fe h1 hl,h2⟩
theorem qY{n id:Nat}{Q:Ex->St->Prop}{k:List It}{ops:Array Oper}{env:aC}{H:Hp}{lk:aN}{df:bP}{tk:cg}(ht:jM ops=tk)(fe:J7 cx.P cx.uq ops tk 0 [] ops.toList=true)
  (h:go cx n Q (.on ops tk ops.toList::k) .normal ⟨env,H,[],df⟩) (hl:cx.uq mJ=false\/xO ops=none:=by first|exact .inl rfl|exact .inr (by kernel_rfl)):go cx n Q (.c (.region id ops true)::k) .normal ⟨env,H,lk,df⟩:=by
 subst ht;exact znH fe h hl
theorem wd{n id:Nat}{Q:Ex->St->Prop}{k:List It}{ops:Array Oper}{env:aC}{H:Hp}{lk:aN}{df:bP}{tk:cg}(ht:jM ops=tk)
  (h:go cx n Q (.os ops tk ops.toList::k) .normal ⟨env,H,[],df⟩):go cx n Q (.c (.region id ops false)::k) .normal ⟨env,H,lk,df⟩:=by
 subst ht;exact En.2 h
theorem zi{n id:Nat}{Q:Ex->St->Prop}{k:List It}{ops:Array Oper}{env:aC}{H:Hp}{lk:aN}{df:bP}(h:go cx n Q (.os ops [] ops.toList::k) .normal ⟨env,H,[],df⟩)(ht:jM ops=[]:=by kernel_rfl):go cx n Q (.c (.region id ops false)::k) .normal ⟨env,H,lk,df⟩:=wd ht h
end
end Go.Vm
