/- Vm: one operation more. Conditions: none but those named. -/
import Derived.Orders
import Derived.Carry
import Derived.OpenShut
import Derived.ProofKit
import Derived.LaidLaws
import Derived.LaidMore
import Derived.FnData
import Derived.ChangeArms
import Derived.Lib.Bytealg
import Derived.Test.YthohlnmcjkjeiaaGreatDoorVmB
namespace Go.Vm
open Go
section
variable{cx:Cx}{all:Array Oper}{takes:cw}
theorem zeB{o:Oper}{env:aG}{v:V}{c:ez}(h:cx.eZ takes o env v c=true):∃c2,cx.d_ takes o env c 0=some (v,c2):=by
 unfold Cx.eZ at h;split at h
 next u c2 hr=>rw[V.iQ h] at hr;exact⟨c2,hr⟩
 ·cases h
theorem RI.start(s:St):RI cx all takes s (λ_=>s.env) 0 [] [⟨0,s.H,s.lk,s.defers⟩] s :=
 {ex:=λj hj=>by omega,lt:=λr hr=>by simp at hr,uniq:=λr hr=>by simp at hr,get:=λr hr=>by simp at hr,tm:=λr hr=>by simp at hr,lm:=λr hr=>by simp at hr,
  bU:=λr hr=>by simp at hr,mlt:=λr hr=>by simp at hr,mask:=λr hr=>by simp at hr,slots:=λr hr=>by simp at hr,ev:=λr hr=>by simp at hr,SK:=rfl,SL:=rfl,
  OU:=λr hr=>by simp at hr,
  off:=λr hr=>by simp at hr,calm:=λr hr=>by simp at hr,free:=λr hr=>by simp at hr,
  c0:=⟨_,fy ..,rfl,rfl,rfl,rfl⟩,top:=⟨_,[],rfl,rfl,rfl,rfl,rfl⟩,
  cD:=λc hc b hb=>by simp only[r9] at hc;subst hc;rw[yG] at hb;exact absurd hb (by simp),
  uw:=λc hc d hd _=>by simp only[r9] at hc hd;rw[hc,hd],g1:=λc _ q hq=>by simp at hq,g2:=λc _ q hq=>by simp at hq }
theorem zgE{o:Oper}{t:Nat}(h:t∈o.looksAt all):bit (tC all o) t=true:=by
 rw[tC,wZ,tf];rcases tu.1 h with h|h
 ·left
  obtain⟨x,hx,Dz⟩:=List.mem_filterMap.1 h;split at Dz<;>simp only[bz,reduceCtorEq] at Dz;subst Dz;exact vb hx
 ·right
  unfold zes;split at h
  next g b hg=>rw[hg];simp only;rw[Option.mem_toList] at h;rw[show(all[g]?).bind (·.dst)=some t from h];simp only[yj,decide_true]
  ·simp at h
theorem zfr{o:Oper}{t:Nat}(h:o.dst=some t\/kj takes o=some (.tmp t)) :
  bit (m7 takes o) t=true:=by
 unfold m7;rcases h with h|h
 ·rw[h];simp only[wZ,yj,decide_true,Bool.true_or]
 ·rw[h];have:bit (gp [Operand.tmp t]) t=true:=vb (fy ..);split
  ·simp only[wZ,this,Bool.or_true]
  ·exact this
structure K5(cx:Cx)(takes:cw)(s0:St)(rs:List Rec)(cs:List ez)(s:St):Prop where
 c0:∃c∈cs,c.D=0/\c.H=s0.H/\c.lk=s0.lk/\c.df=s0.defers
 top:∃c cs',cs=c::cs'/\c.D=eL rs/\c.H=s.H/\c.lk=s.lk/\c.df=s.defers
 cD:∀c∈cs,∀b,bit c.D b=true->∃q∈rs,q.hp=true/\q.idx=b
 uw:∀c∈cs,∀d∈cs,c.D=d.D->c=d
 g1:∀c∈cs,∀q∈rs,q.hp=true->bit c.D q.idx=false->yV rs q c.D->∃c3∈cs,c3.D=Nat.lor c.D (Nat.pow 2 q.idx)/\cx.d_ takes q.o q.env c c3.D=some (q.v,c3)
 g2:∀c∈cs,∀q∈rs,q.hp=false->q.free=false->yV rs q c.D->(∀d∈rs,d.hp=true->bit c.D d.idx=true->bit d.m q.idx=false)->∃c2,cx.d_ takes q.o q.env c 0=some (q.v,c2)
theorem zkb{s0:St}{rs:List Rec}{cs:List ez}{s s1:St}{r:Rec}{i:Nat}(hG:K5 cx takes s0 rs cs s)(bW:∀q∈rs,q.idx<i)(_huq:∀r∈rs,∀q∈rs,r.idx=q.idx->r=q)(_hmlt:∀q∈rs,∀b,bit q.m b=true->b<q.idx)(rN:r.idx=i)(EW:∀b,bit r.m b=true->b<i)
  (K6:r.hp=false->s1.H=s.H/\s1.lk=s.lk/\s1.defers=s.defers) (AU:r.hp=false->r.free=false->∃c2,∀D,cx.d_ takes r.o r.env ⟨D,s.H,s.lk,s.defers⟩ 0=some (r.v,c2))
  (SM:r.hp=true->∀D D',cx.d_ takes r.o r.env ⟨D,s.H,s.lk,s.defers⟩ D'=some (r.v,⟨D',s1.H,s1.lk,s1.defers⟩))
  {k:List ez->Option (Ex×St)} {res:Ex×St} {c0:ez} {uZ:List ez} (ec:cs=c0::uZ) (hk:cx.fH takes rs r c0 ⟨Nat.lor c0.D (Nat.pow 2 i),s1.H,s1.lk,s1.defers⟩ uZ k=some res) :
  ∃cs',k cs'=some res/\K5 cx takes s0 (r::rs) cs' s1:=by
 subst ec;obtain⟨g0,gt,gD,gu,g1,g2⟩:=hG;obtain⟨ct,cs',he,AV,Ej,gI,tn⟩:=gt;simp only[List.cons.injEq] at he;obtain⟨rfl,rfl⟩:=he;have HJ:∀c∈c0::uZ,bit c.D i=false:=λc hc=>by
  cases h:bit c.D i with
  | false=>rfl
  | true =>
   obtain⟨q,hq,_,he⟩:=gD c hc i h;have:=bW q hq;omega
 unfold Cx.fH at hk;cases hp:r.hp with
 | false =>
  simp only[hp] at hk;split at hk<;>try (cases hk;done)
  rename_i hv;obtain⟨e1,e2,e3⟩:=K6 hp;have ha:∀q D,yV (r::rs) q D->yV rs q D:=λq D h d hd=>h d (eo _ hd);refine⟨_,hk,⟨g0,⟨c0,uZ,rfl,?_,by rw[e1,Ej],by rw[e2,gI],by rw[e3,tn]⟩,λc hc b hb=>?_,gu,?_,?_⟩⟩
  ·simp only[eL,hp];exact AV
  ·obtain⟨q,hq,hh⟩:=gD c hc b hb;exact⟨q,eo _ hq,hh⟩
  ·intro c hc q hq l6 Gw Je;rcases dM.1 hq with rfl|hq
   ·rw[hp] at l6;cases l6
   ·exact g1 c hc q hq l6 Gw (ha q _ Je)
  ·intro c hc q hq l6 pF Je OV;rcases dM.1 hq with rfl|hq
   ·rw[pF,Bw] at hv;rcases dM.1 hc with rfl|hc
    ·obtain⟨c2,h2⟩:=AU hp pF;refine⟨c2,?_⟩;rw[<- h2 c.D,<- Ej,<- gI,<- tn]
    ·have h1:=yu hv c hc;rw[mD.2 (ha q _ Je)] at h1;exact zeB h1
   ·exact g2 c hc q hq l6 pF (ha q _ Je) λd hd=>OV d (eo _ hd)
 | true =>
  simp only[hp] at hk;split at hk<;>try (cases hk;done)
  rename_i l hl;split at hk<;>try (cases hk;done)
  rename_i dY;obtain⟨l1,l2⟩:=x8 hl;have dY:=yu dY;have hN:∀c2,c2∈(⟨Nat.lor c0.D (Nat.pow 2 i),s1.H,s1.lk,s1.defers⟩:ez)::l->∃c∈c0::uZ,yV rs r c.D/\c2.D=Nat.lor c.D (Nat.pow 2 i)/\cx.d_ takes r.o r.env c c2.D=some (r.v,c2):=by
   intro c2 sg;rcases dM.1 sg with rfl|sg
   ·refine⟨c0,fy ..,λd hd hh _=>?_,rfl,?_⟩
    ·rw[AV];exact lu.2 ⟨d,hd,hh,rfl⟩
    ·have:=SM hp c0.D (Nat.lor c0.D (Nat.pow 2 i));rw[<- Ej,<- gI,<- tn] at this;exact this
   ·obtain⟨c,hc,hs,hD,hr⟩:=l2 c2 sg;rw[rN] at hD;exact⟨c,eo _ hc,mD.1 hs,hD,hr⟩
  have hN':∀c∈c0::uZ,yV rs r c.D->∃c2∈(⟨Nat.lor c0.D (Nat.pow 2 i),s1.H,s1.lk,s1.defers⟩:ez)::l,c2.D=Nat.lor c.D (Nat.pow 2 i)/\cx.d_ takes r.o r.env c c2.D=some (r.v,c2):=by
   intro c hc ha;rcases dM.1 hc with rfl|hc
   ·refine⟨_,fy ..,rfl,?_⟩;have:=SM hp c.D (Nat.lor c.D (Nat.pow 2 i));rw[<- Ej,<- gI,<- tn] at this;exact this
   ·obtain⟨c2,sg,hD,hr⟩:=l1 c hc (mD.2 ha);rw[rN] at hD;exact⟨c2,eo _ sg,hD,hr⟩
  have eN:∀(c:ez)(b:Nat),bit (Nat.lor c.D (Nat.pow 2 i)) b=true ↔ bit c.D b=true\/b=i:=λc b=>by
   rw[wZ,yj,tf,decide_eq_true_eq];exact⟨λh=>h.imp id Eq.symm,λh=>h.imp id Eq.symm⟩
  have dI:∀c,c∈(⟨Nat.lor c0.D (Nat.pow 2 i),s1.H,s1.lk,s1.defers⟩:ez)::l++c0::uZ ↔ c∈(⟨Nat.lor c0.D (Nat.pow 2 i),s1.H,s1.lk,s1.defers⟩:ez)::l\/c∈c0::uZ:=λc=>tu;refine⟨_,hk,⟨?_,⟨_,_,rfl,?_,rfl,rfl,rfl⟩,?_,?_,?_,?_⟩⟩
  ·obtain⟨c,hc,h⟩:=g0;exact⟨c,(dI c).2 (.inr hc),h⟩
  ·simp only[eL,hp,rN];rw[AV];exact xB λb=>by rw[wZ,wZ,Bool.or_comm]
  ·intro c hc b hb;rcases (dI c).1 hc with hc|hc
   ·obtain⟨d,hd,_,hD,_⟩:=hN c hc;rw[hD,eN] at hb;rcases hb with hb|rfl
    ·obtain⟨q,hq,hh⟩:=gD d hd b hb;exact⟨q,eo _ hq,hh⟩
    ·exact⟨r,fy ..,hp,rN⟩
   ·obtain⟨q,hq,hh⟩:=gD c hc b hb;exact⟨q,eo _ hq,hh⟩
  ·have key:∀c∈c0::uZ,∀d∈c0::uZ,Nat.lor c.D (Nat.pow 2 i)=Nat.lor d.D (Nat.pow 2 i)->c=d:=by
    intro c hc d hd he;refine gu c hc d hd (xB λb=>?_)
    by_cases hb:b=i
    ·rw[hb,HJ c hc,HJ d hd]
    ·have h1:=eN c b;have h2:=eN d b;rw[he] at h1;simp only[hb,tB] at h1 h2;exact EK.2 (h1.symm.trans h2)
   intro c hc d hd he;rcases (dI c).1 hc with hc|hc<;>rcases (dI d).1 hd with hd|hd
   ·obtain⟨c',eA,_,K7,Gu⟩:=hN c hc;obtain⟨d',Jb,_,K8,fm⟩:=hN d hd;have:=key c' eA d' Jb (by rw[<- K7,<- K8,he])
    subst this;rw[he,fm] at Gu;simp only[bz,cq,lJ] at Gu;exact Gu.symm
   ·obtain⟨c',eA,_,K7,Gu⟩:=hN c hc;have h1:=HJ d hd;rw[<- he,K7,(eN c' i).2 (.inr rfl)] at h1;cases h1
   ·obtain⟨d',Jb,_,K8,fm⟩:=hN d hd;have h1:=HJ c hc;rw[he,K8,(eN d' i).2 (.inr rfl)] at h1;cases h1
   ·exact gu c hc d hd he
  ·
   intro c hc q hq l6 Gw Je;have DM:yV rs q c.D:=λd hd=>Je d (eo _ hd);rcases (dI c).1 hc with hc|hc
   ·rcases dM.1 hq with rfl|hq
    ·obtain⟨d,hd,_,hD,_⟩:=hN c hc;rw[hD,rN,(eN d i).2 (.inr rfl)] at Gw;cases Gw
    ·have h1:=yu (dY c hc) q hq;rw[mD.2 DM] at h1;simp only[l6,Gw] at h1;split at h1
     next u c2 c3 hr hf=>rw[eF] at h1;obtain⟨h1,h2⟩:=h1;have hu:=V.iQ h1;subst hu;obtain⟨e1,e2,e3⟩:=zhW h2;obtain⟨f1,f2⟩:=zbv hf;refine⟨c3,f1,f2,?_⟩;have:=(zli hr c3.D).2;rw[this,e1,e2,e3]
     ·cases h1
   ·rcases dM.1 hq with rfl|hq
    ·have:yV rs q c.D:=DM;obtain⟨c2,sg,hD,hr⟩:=hN' c hc this;exact⟨c2,(dI c2).2 (.inl sg),by rw[rN];exact hD,hr⟩
    ·obtain⟨c3,By,hD,hr⟩:=g1 c hc q hq l6 Gw DM;exact⟨c3,(dI c3).2 (.inr By),hD,hr⟩
  ·intro c hc q hq l6 pF Je OV;have DM:yV rs q c.D:=λd hd=>Je d (eo _ hd);rcases dM.1 hq with rfl|hq
   ·rw[hp] at l6;cases l6
   rcases (dI c).1 hc with hc|hc
   ·have h1:=yu (dY c hc) q hq;rw[mD.2 DM] at h1;simp only[l6,pF,Bw] at h1
    have Jf:bit r.m q.idx=false:=OV r (fy ..) hp (by
     obtain⟨d,hd,_,hD,_⟩:=hN c hc;rw[hD,rN]
     exact(eN d i).2 (.inr rfl))
    rw[Jf,zcx λd hd=>OV d (eo _ hd),Bw,Bw] at h1;exact zeB h1
   ·exact g2 c hc q hq l6 pF DM λd hd=>OV d (eo _ hd)
end
section
variable{cx:Cx}{all:Array Oper}{takes:cw}
theorem RI.V1{s0:St}{Ev:Nat->aG}{i:Nat}{rs:List Rec}{cs:List ez}{s:St}(h:RI cx all takes s0 Ev i rs cs s):K5 cx takes s0 rs cs s:=⟨h.c0,h.top,h.cD,h.uw,h.g1,h.g2⟩
theorem RI.step{s0:St}{Ev:Nat->aG}{i:Nat}{rs:List Rec}{cs:List ez}{s s1:St}(h:RI cx all takes s0 Ev i rs cs s){r:Rec}(rN:r.idx=i)(dJ:all[i]?=some r.o)(hm:wv rs r.o.after.toList=some r.m)(k_:r.env=s.env)
  (htm:r.tm=m7 takes r.o)
  (OW:r.lm=Nat.lor r.tm (tC all r.o))
  (sK:kA (kq r) rs=true) (hE:s1.env=Gv all takes r)
  (OX:zZ all r.o r.env≠some true->zZ all r.o r.env=some false/\r.hp=false/\r.v=.bx []/\r.free=true)
  (uz:zZ all r.o r.env=some true->r.hp=jg cx.P cx.uq takes r.o/\(jg cx.P cx.uq takes r.o=false->∃H lk df s1,cx.op takes r.o r.env H lk df=some (.val r.v,s1)))
  (OY:zZ all r.o r.env=some true->r.free=true->kW cx.P cx.uq r.o=false)
  (K6:r.hp=false->s1.H=s.H/\s1.lk=s.lk/\s1.defers=s.defers) (AU:r.hp=false->r.free=false->∃c2,∀D,cx.d_ takes r.o r.env ⟨D,s.H,s.lk,s.defers⟩ 0=some (r.v,c2))
  (SM:r.hp=true->∀D D',cx.d_ takes r.o r.env ⟨D,s.H,s.lk,s.defers⟩ D'=some (r.v,⟨D',s1.H,s1.lk,s1.defers⟩))
  {k:List ez->Option (Ex×St)} {res:Ex×St} {c0:ez} {uZ:List ez} (ec:cs=c0::uZ) (hk:cx.fH takes rs r c0 ⟨Nat.lor c0.D (Nat.pow 2 i),s1.H,s1.lk,s1.defers⟩ uZ k=some res) :
  ∃cs' SN,k cs'=some res/\RI cx all takes s0 SN (i+1) (r::rs) cs' s1:=by
 obtain⟨m1,m2⟩:=x7 hm;have EW:∀b,bit r.m b=true->b<i:=λb hb=>by
  obtain⟨e,he,HK,K9⟩:=m2 b hb;rcases K9 with rfl|⟨q,hq,HI,Gw⟩
  ·obtain⟨q,hq,HI⟩:=m1 e he HK;rw[<- HI];exact h.lt q hq
  ·exact Nat.lt_trans (h.mlt q hq b Gw) (h.lt q hq)
 obtain⟨cs',rJ,hG⟩:=zkb h.V1 h.lt h.uniq h.mlt rN EW K6 AU SM ec hk;refine⟨cs',λj=>if j<=i then Ev j else s1.env,rJ,?_⟩
 have dI:∀{q:Rec},q∈r::rs->q=r\/q∈rs:=λhq=>dM.1 hq;refine { ex:=?_,lt:=?_,uniq:=?_,get:=?_,tm:=?_,lm:=?_,bU:=?_,mlt:=?_,mask:=?_,slots:=?_,ev:=?_,SK:=?_,SL:=?_,OU:=?_,off:=?_,calm:=?_,free:=?_,c0:=hG.c0,top:=hG.top,cD:=hG.cD,uw:=hG.uw,g1:=hG.g1,g2:=hG.g2 }
 ·intro j hj
  by_cases HM:j=i
  ·exact⟨r,fy ..,by rw[rN,HM]⟩
  ·obtain⟨q,hq,hqj⟩:=h.ex j (by omega)
   exact⟨q,eo _ hq,hqj⟩
 ·intro q hq;rcases dI hq with rfl|hq
  ·omega
  ·have:=h.lt q hq;omega
 ·intro a ha b hb he;rcases dI ha with rfl|Gx<;>rcases dI hb with rfl|dw
  ·rfl
  ·have:=h.lt b dw;omega
  ·have:=h.lt a Gx;omega
  ·exact h.uniq a Gx b dw he
 ·intro q hq;rcases dI hq with rfl|hq
  ·rw[rN];exact dJ
  ·exact h.get q hq
 ·intro q hq t ht;rcases dI hq with rfl|hq
  ·rw[htm];exact zfr ht
  ·exact h.tm q hq t ht
 ·intro q hq t ht;rcases dI hq with rfl|hq
  ·rw[OW,wZ,tf];rcases ht with ht|ht
   ·exact .inl ht
   ·exact .inr (zgE ht)
  ·exact h.lm q hq t ht
 ·intro q hq e he hb;rcases dI hq with rfl|hq
  ·obtain⟨p,hp,hpi⟩:=m1 e (by simpa using he) hb
   rw[<- hpi,rN];exact h.lt p hp
  ·exact h.bU q hq e he hb
 ·intro q hq b hb;rcases dI hq with rfl|hq
  ·rw[rN];exact EW b hb
  ·exact h.mlt q hq b hb
 ·intro q hq b hb;rcases dI hq with rfl|hq
  ·obtain⟨e,he,HK,K9⟩:=m2 b hb;refine⟨e,by simpa using he,HK,K9.imp id ?_⟩
   rintro⟨p,hp,hh⟩;exact⟨p,eo _ hp,hh⟩
  ·obtain⟨e,he,HK,K9⟩:=h.mask q hq b hb;refine⟨e,he,HK,K9.imp id ?_⟩;rintro⟨p,hp,hh⟩;exact⟨p,eo _ hp,hh⟩
 ·intro a ha b hb bW;rcases dI ha with rfl|Gx<;>rcases dI hb with rfl|dw
  ·omega
  ·exact yu sK b dw
  ·have:=h.lt a Gx;omega
  ·exact h.slots a Gx b dw bW
 ·intro q hq;rcases dI hq with rfl|hq
  ·rw[rN,if_pos (dB _),h.SL,k_]
  ·rw[if_pos (Nat.le_of_lt (h.lt q hq))];exact h.ev q hq
 ·rw[if_pos (dP _)];exact h.SK
 ·rw[if_neg (by omega)]
 ·intro q hq;rcases dI hq with rfl|hq
  ·rw[rN,if_neg (by omega)];exact hE
  ·have:=h.lt q hq;rw[if_pos (by omega)];exact h.OU q hq
 ·intro q hq hw;rcases dI hq with rfl|hq
  ·obtain⟨a,b,c,_⟩:=OX hw;exact⟨a,b,c⟩
  ·exact h.off q hq hw
 ·intro q hq hw;rcases dI hq with rfl|hq
  ·exact uz hw
  ·exact h.calm q hq hw
 ·intro q hq hw hf;rcases dI hq with rfl|hq
  ·exact OY hw hf
  ·exact h.free q hq hw hf
theorem xl{s0:St}{ex:Ex}{s':St}:∀(os:List Oper)(i:Nat)(rs:List Rec)(cs:List ez)(s:St)(Ev:Nat->aG),cx.eO all takes i rs cs os s=some (ex,s')->RI cx all takes s0 Ev i rs cs s->os=all.toList.drop i ->
  ex=.normal/\∃Ev rs cs,RI cx all takes s0 Ev all.size rs cs s'
 | [],i,rs,cs,s,Ev,hc,h,ho=>by
  simp only[Cx.eO,bz,cq] at hc;obtain⟨rfl,rfl⟩:=hc;refine⟨rfl,Ev,rs,cs,?_⟩;have h1:all.size<=i:=by
   have:=congrArg List.length ho;simp at this;omega
  have h2:i<=all.size:=by
   rcases eY all.size i with h3|h3
   ·obtain⟨r,hr,he⟩:=h.ex all.size h3;have:=h.get r hr;rw[he] at this;simp at this
   ·exact h3
  rw[Nat.le_antisymm h1 h2];exact h
 | o::os,i,rs,cs,⟨env,H,lk,df⟩,Ev,hc,h,ho=>by
  have dJ:all[i]?=some o:=by
   have:=congrArg (·[0]?) ho;simp at this;exact this.symm
  have pL:os=all.toList.drop (i+1):=by
   have:=congrArg List.tail ho;simpa using this
  simp only[Cx.eO] at hc;split at hc<;>try (cases hc;done)
  rename_i m hm;simp only[qw] at hc;split at hc<;>try (cases hc;done)
  ·
   rename_i hw;simp only[ql,jR] at hc;split at hc<;>try (cases hc;done)
   rename_i c0 uZ HN;obtain⟨cs',SN,hk,OZ⟩:=h.step (r:=⟨i,o,m,_,_,false,true,env,.bx []⟩) (s1:=⟨aq env o.dst (.bx []),H,lk,df⟩) rfl dJ hm rfl rfl rfl HN (by simp[Gv,hw]) (λ_=>⟨hw,rfl,rfl,rfl⟩) (λhh=>by rw[hw] at hh;cases hh) (λhh=>by rw[hw] at hh;cases hh)
    (λ_=>⟨rfl,rfl,rfl⟩) (λ_ hf=>nomatch hf) (λhf=>nomatch hf) rfl hc
   exact xl os (i+1) _ _ _ _ hk OZ pL
  ·rename_i hw;split at hc<;>try (cases hc;done)
   ·rename_i v s1 aE;obtain⟨cR,H1,eE,eD⟩:=s1;simp only[ql,jR] at hc;split at hc<;>try (cases hc;done)
    rename_i c0 uZ HN;have he:cR=oB env (kj takes o):=(x6 (bM:=env) (λt _=>rfl) aE).1;obtain⟨cs',SN,hk,OZ⟩:=h.step (r:=⟨i,o,m,_,_,jg cx.P cx.uq takes o,!kW cx.P cx.uq o,env,v⟩) (s1:=⟨aq cR o.dst v,H1,eE,eD⟩) rfl dJ hm rfl rfl rfl HN (by simp[Gv,hw,he]) (λhh=>absurd hw hh) (λ_=>⟨rfl,λ_=>⟨_,_,_,_,aE⟩⟩) (λ_ hf=>by simpa using hf)
     (λhf=>by
      obtain⟨v',e1,e2,e3⟩:=yk hf aE;cases e2
      exact⟨rfl,rfl,rfl⟩)
     (λhf _=>by
      refine⟨⟨0,H1,eE,eD⟩,λD=>?_⟩
      simp only[Cx.d_,aE])
     (λhf D D'=>by simp only[Cx.d_,aE]) rfl hc
    exact xl os (i+1) _ _ _ _ hk OZ pL
   ·rename_i s1 aE;obtain⟨cR,H1,eE,eD⟩:=s1;simp only[ql,jR] at hc;split at hc<;>try (cases hc;done)
    rename_i c0 uZ HN;have he:cR=oB env (kj takes o):=(x6 (bM:=env) (λt _=>rfl) aE).1;have BE:jg cx.P cx.uq takes o=true:=by
     cases hb:jg cx.P cx.uq takes o with
     | true=>rfl
     | false=>obtain⟨v',e1,_⟩:=yk hb aE;cases e1
    obtain⟨cs',SN,hk,OZ⟩:=h.step (r:=⟨i,o,m,_,_,jg cx.P cx.uq takes o,false,env,.bx []⟩) (s1:=⟨aq cR o.dst (.bx []),H1,eE,eD⟩) rfl dJ hm rfl rfl rfl HN (by simp[Gv,hw,he]) (λhh=>absurd hw hh) (λ_=>⟨rfl,λhf=>by rw[BE] at hf;cases hf⟩) (λ_ hf=>nomatch hf)
     (λhf=>by simp only[BE,Oj] at hf) (λhf=>by simp only[BE,Oj] at hf) (λhf D D'=>by simp only[Cx.d_,aE]) rfl hc
    exact xl os (i+1) _ _ _ _ hk OZ pL
end
section
variable{cx:Cx}{all:Array Oper}{takes:cw}
abbrev iR(l:Array Bool)(j:Nat):Prop:=l.getD j false=true
def SO(all:Array Oper)(l:Array Bool):Prop:=∀(j:Nat)(o:Oper),all[j]?=some o->iR l j->∀e∈o.after,Region.binds .any e=true->iR l e.on
def Jg(rs:List Rec)(t j:Nat):Prop:=∃r∈rs,r.idx=j/\bit r.tm t=true
structure Inv(all:Array Oper)(rs:List Rec)(cs:List ez)(Ev:Nat->aG)(l:Array Bool)(s:St):Prop where
 down:SO all l
 size:l.size=all.size
 env:∀t m,m<=all.size->(∀j,j<m->Jg rs t j->iR l j)->(∀j,m<=j->Jg rs t j->¬iR l j)->s.env[t]?=(Ev m)[t]?
 mem:∃c∈cs,(∀b,bit c.D b=true ↔ ∃q∈rs,q.hp=true/\q.idx=b/\iR l b)/\s.H=c.H/\s.lk=c.lk/\s.defers=c.df
section
variable{s0 s' s:St}{Ev:Nat->aG}{rs:List Rec}{cs:List ez}{l:Array Bool}
theorem vY(hR:RI cx all takes s0 Ev all.size rs cs s')(hd:SO all l):∀(n:Nat)(r:Rec),r∈rs->r.idx<=n->(∀e∈r.o.after,Region.binds .any e=true->iR l e.on)->∀b,bit r.m b=true->iR l b
 | 0,r,hr,hn,_,b,hb=>by
  have:=hR.mlt r hr b hb;omega
 | n+1,r,hr,hn,he,b,hb=>by
  obtain⟨e,h1,h2,h3⟩:=hR.mask r hr b hb;rcases h3 with rfl|⟨q,hq,HI,Gw⟩
  ·exact he e h1 h2
  ·have hl:=he e h1 h2;rw[<- HI] at hl;have:=hR.bU r hr e h1 h2;exact vY hR hd n q hq (by omega) (hd q.idx q.o (hR.get q hq) hl) b Gw
theorem yH(hR:RI cx all takes s0 Ev all.size rs cs s')(hd:SO all l){r:Rec}(hr:r∈rs)(hl:iR l r.idx){b:Nat}(hb:bit r.m b=true):iR l b :=
 vY hR hd r.idx r hr (dB _) (hd r.idx r.o (hR.get r hr) hl) b hb
theorem V2(hR:RI cx all takes s0 Ev all.size rs cs s'){q r:Rec}(hq:q∈rs)(hr:r∈rs)(bW:q.idx<r.idx){t:Nat}(h:(bit q.tm t=true/\bit r.lm t=true)\/(bit r.tm t=true/\bit q.lm t=true)):bit r.m q.idx=true:=by
 have hs:=hR.slots r hr q hq bW;unfold kq at hs;split at hs
 ·assumption
 ·rw[eF] at hs;rcases h with h|h
  ·exact(zgD hs.1 h.1 h.2).elim
  ·exact(zgD hs.2 h.1 h.2).elim
theorem zdl{env bM:aG}{dst:fz}{v:V}{t:Nat}(h:env[t]?=bM[t]?):(aq env dst v)[t]?=(aq bM dst v)[t]?:=by
 cases dst with
 | none=>exact h
 | some d=>simp only[aq,List.getElem?_set',h]
theorem Nk{env:aG}{dst:fz}{v:V}{t:Nat}(h:dst≠some t):(aq env dst v)[t]?=env[t]?:=by
 cases dst with
 | none=>rfl
 | some d =>
  have:d≠t:=λe=>h (by rw[e])
  simp only[aq,tc,this,bD]
theorem zgF(env:aG)(x:a_):kl env x=env\/∃u sz xs e,x=.tmp u/\env[u]?=some (.sl sz xs (.yes e))/\kl env x=env.set u (.sl sz xs .no):=by
 cases x with
 | tmp t =>
  simp only[kl];split
  next sz xs e h=>exact .inr ⟨t,sz,xs,e,rfl,h,rfl⟩
  ·exact .inl rfl
 | _=>exact .inl rfl
theorem V3{env:aG}{k:Option a_}{t:Nat}(h:k≠some (.tmp t)):(oB env k)[t]?=env[t]?:=by
 cases k with
 | none=>rfl
 | some x =>
  simp only[oB];rcases zgF env x with h1|⟨u,sz,xs,e,rfl,_,h1⟩
  ·rw[h1]
  ·have:u≠t:=λe=>h (by rw[e])
   rw[h1];simp only[tc,this,bD]
theorem zkc{env bM:aG}{k:Option a_}{t:Nat}(h:env[t]?=bM[t]?)(hk:∀u,k=some (.tmp u)->env[u]?=bM[u]?):(oB env k)[t]?=(oB bM k)[t]?:=by
 cases k with
 | none=>exact h
 | some x =>
  cases x with
  | tmp u =>
   have hu:=hk u rfl;simp only[oB,kl,hu];split
   ·simp only[List.getElem?_set',h]
   ·exact h
  | _=>exact h
theorem zlj{r:Rec}{t:Nat}(h1:r.o.dst≠some t)(h2:kj takes r.o≠some (.tmp t)):(Gv all takes r)[t]?=r.env[t]?:=by
 unfold Gv;split
 ·rw[Nk h1,V3 h2]
 ·rw[Nk h1]
theorem V4(hR:RI cx all takes s0 Ev all.size rs cs s'){t a:Nat}:∀{b:Nat},a<=b->b<=all.size->(∀j,a<=j->j<b->¬Jg rs t j)->(Ev b)[t]?=(Ev a)[t]?
 | 0,h,_,_=>by rw[Nat.le_zero.1 h]
 | b+1,h,hb,hT=>by
  by_cases e:a=b+1
  ·rw[e]
  ·have Sz:a<=b:=by omega
   rw[<- V4 hR Sz (by omega) λj h1 h2=>hT j h1 (by omega)]
   obtain⟨r,hr,rN⟩:=hR.ex b (by omega)
   have h1:=hR.OU r hr;have h2:=hR.ev r hr;rw[rN] at h1 h2;have e_:bit r.tm t=false:=by
    cases hb:bit r.tm t with
    | false=>rfl
    | true=>exact(hT b Sz (by omega) ⟨r,hr,rN,hb⟩).elim
   have hd:r.o.dst≠some t:=λe=>by rw[hR.tm r hr t (.inl e)] at e_;cases e_
   have hk:kj takes r.o≠some (.tmp t):=λe=>by rw[hR.tm r hr t (.inr e)] at e_;cases e_
   rw[h1,h2,zlj hd hk]
theorem Inv.O0(hR:RI cx all takes s0 Ev all.size rs cs s')(hI:Inv all rs cs Ev l s){r:Rec}(hr:r∈rs)(tI:¬iR l r.idx)(gw:∀e∈r.o.after,Region.binds .any e=true->iR l e.on){t:Nat}(ht:bit r.lm t=true):s.env[t]?=r.env[t]?:=by
 have hb:=vY hR hI.down r.idx r hr (dB _) gw;rw[<- hR.ev r hr];refine hI.env t r.idx (Nat.le_of_lt (hR.lt r hr)) ?_ ?_
 ·rintro j hj ⟨q,hq,rfl,tJ⟩;exact hb q.idx (V2 hR hq hr hj (.inl ⟨tJ,ht⟩))
 ·rintro j hj ⟨q,hq,rfl,tJ⟩ hl;rcases eY r.idx q.idx with h|h
  ·exact tI (yH hR hI.down hq hl (V2 hR hr hq h (.inr ⟨tJ,ht⟩)))
  ·have:=hR.uniq q hq r hr (Nat.le_antisymm h hj);subst this;exact tI hl
theorem zhY{o:Oper}{t:Nat}(h:Operand.tmp t∈o.op.operands.toList):t∈o.looksAt all :=
 Bu _ (List.mem_filterMap.2 ⟨.tmp t,h,rfl⟩)
theorem zft{o:Oper}{env bM:aG}(h:∀t∈o.looksAt all,env[t]?=bM[t]?):zZ all o env=zZ all o bM:=by
 unfold zZ;cases hg:o.guard with
 | none=>rfl
 | some jw =>
  obtain⟨j,want⟩:=jw;simp only;cases hd:(all[j]?).bind (·.dst) with
  | none=>rfl
  | some d =>
   have:d∈o.looksAt all:=by
    refine CQ _ ?_;rw[hg];simp[hd]
   simp only[zg,h d this]
theorem ke{i j:Nat}(hs:i<l.size):iR (l.setIfInBounds i true) j ↔ j=i\/iR l j:=by
 unfold iR
 by_cases h:i=j
 ·subst h;simp[hs]
 ·rw[getD_set_ne false h];constructor
  ·exact .inr
  ·rintro(rfl|h')
   ·exact(h rfl).elim
   ·exact h'
theorem Inv.C6(hR:RI cx all takes s0 Ev all.size rs cs s')(hI:Inv all rs cs Ev l s){r:Rec}(hr:r∈rs)(tI:¬iR l r.idx)(gw:∀e∈r.o.after,Region.binds .any e=true->iR l e.on){E:aG}
  (cK:∀t,bit r.tm t=false->E[t]?=s.env[t]?) (hto:∀t,bit r.tm t=true->E[t]?=(Gv all takes r)[t]?) :
  ∀t m,m<=all.size->(∀j,j<m->Jg rs t j->iR (l.setIfInBounds r.idx true) j)->(∀j,m<=j->Jg rs t j->¬iR (l.setIfInBounds r.idx true) j)->E[t]?=(Ev m)[t]?:=by
 intro t m hm h1 h2;have bW:=hR.lt r hr;have fD:r.idx<l.size:=by rw[hI.size];exact bW
 cases hb:bit r.tm t with
 | false =>
  rw[cK t hb];have e_:¬Jg rs t r.idx:=by
   rintro⟨q,hq,HI,tJ⟩;have:=hR.uniq q hq r hr HI;subst this;rw[hb] at tJ;cases tJ
  refine hI.env t m hm (λj hj ht=>?_) (λj hj ht hl=>h2 j hj ht ((ke fD).2 (.inr hl)));rcases (ke fD).1 (h1 j hj ht) with rfl|h
  ·exact(e_ ht).elim
  ·exact h
 | true =>
  rw[hto t hb,<- hR.OU r hr];have him:r.idx<m:=by
   rcases eY r.idx m with h|h
   ·exact h
   ·exact(h2 r.idx h ⟨r,hr,rfl,hb⟩ ((ke fD).2 (.inl rfl))).elim
  refine(V4 hR (a:=r.idx+1) (b:=m) him hm λj hj V5=>?_).symm;rintro⟨q,hq,rfl,tJ⟩;rcases (ke fD).1 (h1 q.idx V5 ⟨q,hq,rfl,tJ⟩) with h|h
  ·omega
  ·exact tI (yH hR hI.down hq h (V2 hR hr hq (by omega) (.inr ⟨tJ,hR.lm r hr t (.inl hb)⟩)))
theorem Inv.E2(hI:Inv all rs cs Ev l s){r:Rec}(dJ:all[r.idx]?=some r.o)(gw:∀e∈r.o.after,Region.binds .any e=true->iR l e.on):SO all (l.setIfInBounds r.idx true):=by
 have bW:r.idx<all.size:=(s_.1 dJ).1;have fD:r.idx<l.size:=by rw[hI.size];exact bW
 intro j o ho hl e he hb;refine(ke fD).2 (.inr ?_);rcases (ke fD).1 hl with rfl|h
 ·rw[dJ] at ho;cases ho;exact gw e he hb
 ·exact hI.down j o ho h e he hb
theorem Inv.step(hR:RI cx all takes s0 Ev all.size rs cs s')(hI:Inv all rs cs Ev l s){r:Rec}(hr:r∈rs)(tI:¬iR l r.idx)(gw:∀e∈r.o.after,Region.binds .any e=true->iR l e.on) :
  (zZ all r.o s.env=some false/\Inv all rs cs Ev (l.setIfInBounds r.idx true) { s with env:=aq s.env r.o.dst (.bx []) }) \/
  (zZ all r.o s.env=some true/\∃res s2,cx.op takes r.o s.env s.H s.lk s.defers=some (res,s2)/\(res=.val r.v\/res=.skip/\r.v=.bx [])/\Inv all rs cs Ev (l.setIfInBounds r.idx true) { s2 with env:=aq s2.env r.o.dst r.v }):=by
 have bW:=hR.lt r hr;have fD:r.idx<l.size:=by rw[hI.size];exact bW
 have DE:=λt ht=>Inv.O0 hR hI hr tI gw (t:=t) ht;have oN:∀t∈r.o.looksAt all,s.env[t]?=r.env[t]?:=λt ht=>DE t (hR.lm r hr t (.inr ht));have hw:=zft oN;have O1:∀t,bit r.tm t=false->r.o.dst≠some t:=λt h e=>by rw[hR.tm r hr t (.inl e)] at h;cases h
 have mq:∀t,bit r.tm t=false->kj takes r.o≠some (.tmp t):=λt h e=>by rw[hR.tm r hr t (.inr e)] at h;cases h
 have C7:=hI.E2 (hR.get r hr) gw;obtain⟨c,hc,AV,Ej,gI,tn⟩:=hI.mem;have same:r.hp=false->∀b,(∃q∈rs,q.hp=true/\q.idx=b/\iR l b) ↔ ∃q∈rs,q.hp=true/\q.idx=b/\iR (l.setIfInBounds r.idx true) b:=by
  intro hh b;constructor
  ·rintro⟨q,h1,h2,h3,h4⟩;exact⟨q,h1,h2,h3,(ke fD).2 (.inr h4)⟩
  ·rintro⟨q,h1,h2,h3,h4⟩;rcases (ke fD).1 h4 with h5|h5
   ·have:=hR.uniq q h1 r hr (h3.trans h5);subst this;rw[hh] at h2;cases h2
   ·exact⟨q,h1,h2,h3,h5⟩
 by_cases As:zZ all r.o r.env=some true
 ·right
  have K_:∀{H lk df res s1},cx.op takes r.o r.env H lk df=some (res,s1)->s1.env=oB r.env (kj takes r.o)/\cx.op takes r.o s.env H lk df=some (res,{ s1 with env:=oB s.env (kj takes r.o) }):=λh=>x6 (λt ht=>(oN t (zhY ht)).symm) h
  have k_:∀t m,m<=all.size->(∀j,j<m->Jg rs t j->iR (l.setIfInBounds r.idx true) j)->(∀j,m<=j->Jg rs t j->¬iR (l.setIfInBounds r.idx true) j)->(aq (oB s.env (kj takes r.o)) r.o.dst r.v)[t]?=(Ev m)[t]?:=by
   refine Inv.C6 hR hI hr tI gw (λt ht=>by rw[Nk (O1 t ht),V3 (mq t ht)]) (λt ht=>?_)
   rw[Gv,if_pos As];exact zdl (zkc (DE t (hR.lm r hr t (.inl ht))) λu hu=>DE u (hR.lm r hr u (.inl (hR.tm r hr u (.inr hu)))))
  refine⟨hw.trans As,?_⟩;cases BE:r.hp with
  | true =>
   have hb:bit c.D r.idx=false:=by
    cases h:bit c.D r.idx with
    | false=>rfl
    | true=>obtain⟨q,_,_,_,h4⟩:=(AV r.idx).1 h;exact(tI h4).elim
   have ha:yV rs r c.D:=λd hd SP DN=>(AV d.idx).2 ⟨d,hd,SP,rfl,vY hR hI.down r.idx r hr (dB _) gw d.idx DN⟩;obtain⟨c3,By,hD3,cL⟩:=hR.g1 c hc r hr BE hb ha;have Jh:∀b,bit c3.D b=true ↔ ∃q∈rs,q.hp=true/\q.idx=b/\iR (l.setIfInBounds r.idx true) b:=by
    intro b;rw[hD3,wZ,yj,tf,decide_eq_true_eq,AV];constructor
    ·rintro(⟨q,h1,h2,h3,h4⟩|rfl)
     ·exact⟨q,h1,h2,h3,(ke fD).2 (.inr h4)⟩
     ·exact⟨r,hr,BE,rfl,(ke fD).2 (.inl rfl)⟩
    ·rintro⟨q,h1,h2,h3,h4⟩;rcases (ke fD).1 h4 with h5|h5
     ·exact .inr h5.symm
     ·exact .inl ⟨q,h1,h2,h3,h5⟩
   unfold Cx.d_ at cL;split at cL<;>simp only[bz,reduceCtorEq,cq] at cL
   ·rename_i v s1 aE;obtain⟨rfl,e2⟩:=cL;rw[<- Ej,<- gI,<- tn] at aE;refine⟨_,_,(K_ aE).2,.inl rfl,⟨C7,by simpa using hI.size,k_,c3,By,Jh,?_⟩⟩
    rw[<- e2];exact⟨rfl,rfl,rfl⟩
   ·rename_i s1 aE;obtain⟨e1,e2⟩:=cL;rw[<- Ej,<- gI,<- tn] at aE;refine⟨_,_,(K_ aE).2,.inr ⟨rfl,e1.symm⟩,⟨C7,by simpa using hI.size,k_,c3,By,Jh,?_⟩⟩
    rw[<- e2];exact⟨rfl,rfl,rfl⟩
  | false =>
   obtain⟨hh,hex⟩:=hR.calm r hr As;have uz:jg cx.P cx.uq takes r.o=false:=by rw[<- hh];exact BE
   obtain⟨H0,Gy,df0,s1,V6⟩:=hex uz;have AU:∃s2,cx.op takes r.o r.env s.H s.lk s.defers=some (.val r.v,s2):=by
    cases OT:r.free with
    | true=>exact zno uz (hR.free r hr As OT) V6 s.lk s.defers
    | false =>
     have ha:yV rs r c.D:=λd hd SP DN=>(AV d.idx).2 ⟨d,hd,SP,rfl,vY hR hI.down r.idx r hr (dB _) gw d.idx DN⟩
     obtain⟨c2,cL⟩:=hR.g2 c hc r hr BE OT ha (λd hd SP DN=>by
      cases h:bit d.m r.idx with
      | false=>rfl
      | true =>
       obtain⟨q,_,_,_,h4⟩:=(AV d.idx).1 DN
       exact(tI (yH hR hI.down hd h4 h)).elim)
     unfold Cx.d_ at cL;rw[<- Ej,<- gI,<- tn] at cL;split at cL<;>simp only[bz,reduceCtorEq,cq] at cL
     next v s2 aE=>obtain⟨rfl,_⟩:=cL;exact⟨s2,aE⟩
     next s2 aE=>obtain⟨v',e1,_⟩:=yk uz aE;cases e1
   obtain⟨s2,aE⟩:=AU;obtain⟨v',e1,e2,_⟩:=yk uz aE;refine⟨_,_,(K_ aE).2,.inl rfl,⟨C7,by simpa using hI.size,k_,c,hc,λb=>(AV b).trans (same BE b),?_⟩⟩
   rw[e2];exact⟨Ej,gI,tn⟩
 ·left
  obtain⟨h1,h2,h3⟩:=hR.off r hr As;refine⟨hw.trans h1,⟨C7,by simpa using hI.size,?_,c,hc,λb=>(AV b).trans (same h2 b),Ej,gI,tn⟩⟩
  refine Inv.C6 hR hI hr tI gw (λt ht=>by rw[Nk (O1 t ht)]) (λt ht=>?_)
  rw[Gv,if_neg As,h3];exact zdl (DE t (hR.lm r hr t (.inl ht)))
theorem Inv.final(hR:RI cx all takes s0 Ev all.size rs cs s')(hI:Inv all rs cs Ev l s)(dG:∀j,j<all.size->iR l j):s=s':=by
 have k_:s.env=s'.env:=by
  apply EI;intro t;rw[<- hR.SL];refine hI.env t all.size (dB _) (λj hj _=>dG j hj) ?_;rintro j hj ⟨q,hq,rfl,_⟩;have:=hR.lt q hq;omega
 obtain⟨c,hc,AV,Ej,gI,tn⟩:=hI.mem;obtain⟨c1,uZ,rfl,h1,h2,h3,h4⟩:=hR.top;have:c=c1:=by
  refine hR.uw c hc c1 (fy ..) (xB λb=>?_);rw[h1];refine EK.2 ((AV b).trans (Iff.trans ?_ lu.symm));constructor
  ·rintro⟨q,a1,a2,a3,_⟩;exact⟨q,a1,a2,a3⟩
  ·rintro⟨q,a1,a2,rfl⟩;exact⟨q,a1,a2,rfl,dG _ (hR.lt q a1)⟩
 subst this;obtain⟨e,H,lk,df⟩:=s;obtain⟨e',H',Hx,Hy⟩:=s';simp only at *;simp only[k_,Ej,gI,tn,h2,h3,h4]
theorem Inv.start(hR:RI cx all takes s0 Ev all.size rs cs s'):Inv all rs cs Ev (Array.replicate all.size false) s0:=by
 have e_:∀j,¬iR (Array.replicate all.size false) j:=λj h=>by
  unfold iR at h;simp[Array.getElem?_replicate] at h;split at h<;>simp_all
 refine⟨λj o _ hl=>(e_ j hl).elim,by simp,λt m hm h1 _=>?_,?_⟩
 ·rw[<- hR.SK];refine(V4 hR (dP m) hm λj _ hj hT=>e_ j (h1 j hj hT)).symm
 ·obtain⟨c,hc,h0,h1,h2,h3⟩:=hR.c0;refine⟨c,hc,λb=>?_,h1.symm,h2.symm,h3.symm⟩;rw[h0,yG];constructor
  ·intro h;cases h
  ·rintro⟨_,_,_,_,h⟩;exact(e_ b h).elim
end
end
section
variable{P:aY}{cx:Cx}{all:Array Oper}{takes:cw}{B:dS}{g:Gh}{s:St}{a:Act}{w:aQ}
def left(l:Array Bool):Nat->Nat
 | 0=>0
 | k+1=>left l k+if l.getD k false=true then 0 else 1
theorem zcz{l:Array Bool}{i:Nat}:∀k,left (l.setIfInBounds i true) k<=left l k
 | 0=>dB _
 | k+1=>by
  have ih:=zcz (l:=l) (i:=i) k;simp only[left]
  by_cases h:l.getD k false=true
  ·rw[if_pos (getD_set_true h),if_pos h];exact ih
  ·rw[if_neg h];split<;>omega
theorem x9{l:Array Bool}{i:Nat}(hi:i<l.size)(hl:¬iR l i):∀{k},i<k->left (l.setIfInBounds i true) k+1<=left l k
 | 0,h=>by omega
 | k+1,h=>by
  simp only[left]
  by_cases e:i=k
  ·subst e;have h1:=zcz (l:=l) (i:=i) i;have h2:(l.setIfInBounds i true).getD i false=true:=(ke hi).2 (.inl rfl);rw[if_pos h2,if_neg hl];omega
  ·have h1:=x9 hi hl (k:=k) (by omega)
   rw[getD_set_ne false e];omega
theorem V7{l:Array Bool}:∀{k},left l k=0->∀j,j<k->iR l j
 | 0,_,j,hj=>by omega
 | k+1,h,j,hj=>by
  simp only[left] at h
  by_cases e:j=k
  ·subst e
   by_cases hl:l.getD j false=true
   ·exact hl
   ·rw[if_neg hl] at h;omega
  ·exact V7 (k:=k) (by omega) j (by omega)
theorem V8{n:Nat}:∀{k},left (Array.replicate n false) k<=k
 | 0=>dB _
 | k+1=>by have:=V8 (n:=n) (k:=k);simp only[left];split<;>omega
theorem Rel.uA(h:Rel B g s a w):Rel B g s a { w with drawn:=w.drawn+1 }:=by
 refine h.lf (b0:=none) (l0:=none) (g':=g) (s':=s) (w':={ w with drawn:=w.drawn+1 }) ⟨.refl _ _,λ_ _ _ _=>rfl,λ_ _ _=>rfl,λ_ _ _ _=>rfl,dB _,λ_ _ _=>rfl,λ_ h=>(by cases h),λ_ h=>(by cases h),λ_ _ _ _=>rfl,rfl,rfl,rfl⟩ (dB _) (λ_ _ _=>rfl) ?_ ?_ ?_ ?_ ?_ ?_ rfl rfl ?_ h.bJ h.lK h.oI ?_
 ·intro b x hb hx;rcases hb with hb|hb
  ·cases hb
  ·have:=(dA.1 hx).1;omega
 ·intro b h1 h2;omega
 ·intro b b' h1 h2;omega
 ·exact h.di.mem
 ·exact h.di.eI
 ·intro _ _ h;cases h
 ·intro t x hx;exact⟨x,hx,.inl ⟨rfl,by simp⟩⟩
 ·intro t h;cases h
theorem znq{s0 s':St}{Ev:Nat->aG}{rs:List Rec}{cs:List ez}(hR:RI cx all takes s0 Ev all.size rs cs s')(iY:oZ P cx B) :
  ∀(fuel:Nat)(l:Array Bool)(s:St)(g:Gh)(a:Act)(w:aQ),left l all.size<=fuel->Inv all rs cs Ev l s->Rel B g s a w->wpAny P .any all (vX B .normal s') fuel l a w:=by
 have fin:∀(l:Array Bool)(s:St)(g:Gh)(a:Act)(w:aQ),Inv all rs cs Ev l s->Rel B g s a w->(∀j,j<all.size->iR l j)->vX B .normal s' .normal a w:=by
  intro l s g a w hI h dG;have:=hI.final hR dG;subst this;exact⟨g,h,trivial⟩
 have nil:∀(l:Array Bool)(s:St),Inv all rs cs Ev l s->Region.ready .any all l=[]->∀j,j<all.size->iR l j:=by
  intro l s hI hr j
  induction j using Nat.strongRecOn with
  | ind j ih =>
   intro hj;cases hl:l.getD j false with
   | true=>exact hl
   | false =>
    obtain⟨r,o4,La⟩:=hR.ex j hj;have dJ:=hR.get r o4
    have:j∈Region.ready .any all l:=mem_ready.2 ⟨by
     have:j<l.size:=by rw[hI.size];exact hj
     simp[this] at hl ⊢
     exact hl,r.o,by rw[<- La];exact dJ,λe he hb=>ih e.on (by rw[<- La];exact hR.bU r o4 e he hb) (by
      have h1:=hR.bU r o4 e he hb
      omega)⟩
    rw[hr] at this;cases this
 intro fuel
 induction fuel with
 | zero =>
  intro l s g a w hle hI h;have dG:=V7 (l:=l) (k:=all.size) (by omega)
  refine⟨?_,fin l s g a w hI h dG⟩;cases hr:Region.ready .any all l with
  | nil=>rfl
  | cons x xs =>
   have hx:x∈Region.ready .any all l:=by rw[hr];exact fy ..
   obtain⟨h1,o,ho,_⟩:=mem_ready.1 hx;have bW:x<all.size:=(s_.1 ho).1;have h2:=dG x bW;have:x<l.size:=by rw[hI.size];exact bW
   unfold iR at h2;simp[this] at h1 h2;rw[h1] at h2;cases h2
 | succ fuel ih =>
  intro l s g a w hle hI h;refine⟨λhr=>fin l s g a w hI h (nil l s hI hr),λi hi=>?_⟩;obtain⟨h1,o,ho,gw⟩:=mem_ready.1 hi;have bW:i<all.size:=(s_.1 ho).1;have fD:i<l.size:=by rw[hI.size];exact bW
  have tI:¬iR l i:=by
   unfold iR;simp[fD] at h1 ⊢;exact h1
  obtain⟨r,o4,rfl⟩:=hR.ex i bW;have dJ:=hR.get r o4;rw[dJ] at ho;cases ho;have iM:=x9 fD tI bW;unfold wpOp;simp only[dJ];rcases Inv.step hR hI o4 tI gw with⟨hw,tK⟩|⟨hw,res,s2,aE,lO,tK⟩
  ·rw[if_neg (by rw[yq h hw];simp)]
   exact ih _ _ g _ w (by omega) tK (wQ (yF h r.o))
  ·rw[if_pos (yq h hw)]
   left
   refine Hw iY h aE ⟨λv' hv g' cv a' w' hk=>?_,λhv g' a' w' hk=>?_,λv' hv=>?_⟩
   ·rcases lO with rfl|⟨rfl,_⟩
    ·cases hv;exact ih _ _ g' _ w' (by omega) tK (wQ hk)
    ·cases hv
   ·rcases lO with rfl|⟨_,he⟩
    ·cases hv
    ·rw[he] at tK;exact ih _ _ g' _ w' (by omega) tK (wQ (yF hk r.o))
   ·rcases lO with rfl|⟨rfl,_⟩<;>cases hv
theorem zeC{s s':St}{ex:Ex}{ops:Array Oper}(iY:oZ P cx B)(hc:cx.drawn ops s=some (ex,s'))(h:Rel B g s a w):ex=.normal/\wpAny P .any ops (vX B .normal s') ops.size (Array.replicate ops.size false) a { w with drawn:=w.drawn+1 }:=by
 obtain⟨env,H,lk,df⟩:=s;unfold Cx.drawn at hc;obtain⟨rfl,Ev,rs,cs,hR⟩:=xl ops.toList 0 [] _ _ _ hc (RI.start (⟨env,H,[],df⟩:St)) (by simp)
 exact⟨rfl,znq hR iY ops.size _ _ g a _ V8 (Inv.start hR) h.HE.uA⟩
end
section
variable{P:aY}{cx:Cx}{B:dS}{g:Gh}{s:St}{a:Act}{w:aQ}
def SQ(T t sz N:Nat):KB:=⟨T,.sl sz [] (.yes t),.slice (some ⟨N,0,none⟩) 0 1,none⟩
abbrev dS.late(B:dS)(T t sz N:Nat):dS:={ B with dg:=SQ T t sz N::B.dg }
theorem oc{T t sz N b off:Nat}:Dx (B.late T t sz N) b off ↔ Dx B b off:=by
 unfold Dx;constructor
 ·rintro(h|⟨q,hq,h⟩)
  ·exact .inl h
  ·rcases dM.1 hq with rfl|hq
   ·cases h
   ·exact .inr ⟨q,hq,h⟩
 ·rintro(h|⟨q,hq,h⟩)
  ·exact .inl h
  ·exact .inr ⟨q,eo _ hq,h⟩
theorem Rel.Cf{T t sz N:Nat}(h:Rel (B.late T t sz N) g s a w):Rel B g s a w :=
 {di:=h.di,len:=h.len,env:=h.env,dO:=h.dO,n0:=h.n0,bJ:=h.bJ,dZ:=h.dZ,fr:=h.fr,lK:=λb off hb=>h.lK b off (oc.2 hb),oI:=λp hp hb=>h.oI p hp (oc.2 hb),dg:=λp hp=>h.dg p (eo _ hp),eJ:=h.eJ,defers:=h.defers,marks:=h.marks,nI:=h.nI }
theorem zfu{T t N n:Nat}(h:Rel (B.late T t n N) g s a w)(hT:∀p∈B.dg,p.t≠T)(hN:B.w.heap.size<=N){p x:a_}{v:V}{dh:aG}(hp:a.eval p=.pointer (some ⟨N,0,none⟩))(ht:take s.env x=some (v,dh))
  (hn:z4 P t=some n) (ek:dD v=true) (hl:v.laid.length=n) :
  ∃g' w',(Instr.storeAt t (a.eval p) (a.eval x)).run P w=.ok () w'/\Rel B g' { s with env:=dh,H:=s.H.push (.cells v.laid t) } a w'/\aX g' (.ptr s.H.az.length 0) (.pointer (some ⟨N,0,none⟩)):=by
 obtain⟨g1,h1,v1,v2,v3,sF⟩:=vJ h ht (.cell s.H.az.length 0);obtain⟨l1,l2,l3⟩:=Vp v1 ek v2 (y7 ht) v3;obtain⟨p1,_,p3,_,_⟩:=h1.dg (SQ T t n N) (fy ..);obtain⟨xs,⟨_,cC⟩,hc⟩:=p3;rcases cC with⟨e,_⟩|⟨c,o,cap,cur,e,lq,_,_,fD,_⟩
 ·cases e
 cases e;obtain⟨o1,o2,o3⟩:=hc N rfl;have fD:cur.size=n:=by rcases fD with h0|h0<;>simp at h0;exact h0
 have V9:N<w.heap.size:=(s_.1 lq).1;have nO:(a.eval x).cells.size=n:=by rw[<- hl,l1.len];simp
 have hM:∀o,g1.M N o=none:=by
  intro o;cases hm:g1.M N o with
  | none=>rfl
  | some u =>
   have hu:=h1.di.mem N o u hm;have ho:o<n:=by
    rw[<- fD];simp only[World.cell?,lq] at hu;exact(s_.1 (by simpa using hu)).1
   have:=o2 o (by simp) (by simpa using ho)
   rw[this] at hm;cases hm
 have cL:(Instr.storeAt t (.pointer (some ⟨N,0,none⟩)) (a.eval x)).run P w=.ok () (w.setRow N (a.eval x).cells):=by
  have fe:=run_storeCells_at P N 0 t (a.eval x).cells.toList 0 cur w lq (by simp[nO,fD]) (λu hu=>by
   obtain⟨j,hj⟩:=List.getElem?_of_mem hu;have sC:j<v.laid.length:=by rw[l1.len];exact(dA.1 hj).1
   have hx:=gG sC
   exact(l1.rel j _ u hx hj).nY (l1.one j _ hx))
  have nq:cur.toList.take (0+0)++(a.eval x).cells.toList++cur.toList.drop (0+0+(a.eval x).cells.toList.length)=(a.eval x).cells.toList:=by
   rw[List.drop_of_length_le (by simp[nO,fD])];simp
  rw[nq] at fe;unfold Instr.storeAt storeVar;simp[Instr.sureAddr,jA hn,nO,fe]
 have iM:(s.H.push (.cells v.laid t)).az.length=s.H.az.length+1:=by simp[Hp.push]
 have dJ:∀b,b<s.H.az.length->(s.H.push (.cells v.laid t)).az[b]?=s.H.az[b]?:=λb hb=>by simp only[Hp.push];rw[gF hb]
 have rK:(s.H.push (.cells v.laid t)).az[s.H.az.length]?=some (.cells v.laid t):=by simp[Hp.push]
 let g2:Gh:={ g1 with bT:=λb=>if b=s.H.az.length then N else g1.bT b,own:=λc=>if c=N then none else g1.own c }
 have BF:g2.bT s.H.az.length=N:=if_pos rfl;have cK:∀c,(∀l,some (Loc.slot B.d T)=some l->g1.own c≠some l)->c≠N:=λc hc e=>hc _ rfl (e ▸ o1);have hs:gS B.d none (some (.slot B.d T)) s.H.az.length g1 w g2 (w.setRow N (a.eval x).cells) :=
  ⟨⟨λ_ _ _ h=>h,λb hb=>if_neg (by omega),rfl,λ_ _ _ _ h=>h⟩,λc _ _ hc=>setRow_other w N c _ (cK c hc),λc _ hc=>if_neg (cK c hc),λ_ _ _ _=>rfl,by simp[World.setRow],λ_ _ _=>rfl,λl hl=>.inl ⟨T,by cases hl;rfl⟩,λ_ hb=>(by cases hb),λ_ _ _ _=>rfl,rfl,rfl,rfl⟩
 have dY:∀b,s.H.az.length<=b->b<s.H.az.length+1->M5 g1 (some (.slot B.d T)) w (g2.bT b):=λb q1 q2=>by
  have:b=s.H.az.length:=by omega
  subst this;rw[BF];exact .inr ⟨_,rfl,o1⟩
 have oJ:(w.setRow N (a.eval x).cells).heap[g2.bT s.H.az.length]?=some (.cells (a.eval x).cells t (0,0)):=by
  rw[BF];exact setRow_heap w N cur _ t _ lq
 refine⟨g2,_,by rw[hp];exact cL,h1.Cf.CU (s':={ s with env:=dh,H:=s.H.push (.cells v.laid t) }) hs (by simp only[iM];omega) (λb hb _=>dJ b hb) (λb y hb hy=>?_) (λb q1 q2=>?_) (λb b' q1 q2 q3 q4 _=>?_) (λc o u hu=>?_) (λc l hc=>?_)
  (λb j e=>by cases e) rfl rfl (λk y hy=>⟨y,hy,.inl ⟨rfl,λe=>?_⟩⟩) ?_ (λb off pY=>y6 dJ (h1.Cf.lK b off pY)) h1.Cf.oI (λk e p hp=>by cases e;exact hT p hp),?_⟩
 ·have dw:b=s.H.az.length:=by
   rcases hb with hb|hb
   ·cases hb
   ·have:=(dA.1 hy).1;simp only[iM] at this;simp only at hb;omega
  subst dw;rw[show({ s with env:=dh,H:=s.H.push (.cells v.laid t) }:St).H.az[s.H.az.length]?=some (.cells v.laid t) from rK] at hy;cases hy;simp only[iM];refine⟨⟨_,oJ,by simpa using l1.len,λj y u hy hu=>⟨l1.one j y hy,(l1.rel j y u hy (by simpa using hu)).le hs.le (cZ (zn (zw hy)) l2),?_,?_⟩⟩,Km l2⟩
  ·have:=(l3 j y u hy hu).1;rw[oh] at this;exact cW.nJ hs (λe=>by cases e) dY this
  ·have:=(l3 j y u hy hu).2;cases y with
   | sl sz xs o=>cases o with
    | lock=>exact absurd rfl (this sz xs)
    | _=>trivial
   | _=>trivial
 ·simp only[iM] at q2;have e:b=s.H.az.length:=by simp only at q1;omega
  subst e;refine⟨⟨dY _ (dB _) (by omega),by rw[BF];exact hN⟩,by rw[BF];simpa[World.setRow] using V9,by rw[BF];exact if_pos rfl,λo=>by rw[BF];exact hM o⟩
 ·simp only[iM] at q2 q4;simp only at q1 q3;omega
 ·have nD:g1.M c o=some u:=hu;have:c≠N:=λe=>by rw[e,hM o] at nD;cases nD
  rw[yC (setRow_other w N c _ this)];exact h1.di.mem c o u nD
 ·have eA:(if c=N then none else g1.own c)=some l:=hc
  split at eA
  ·cases eA
  ·have:=h1.di.eI c l eA;simpa[World.setRow] using this
 ·simp only[bz,Loc.slot.injEq,lJ] at e;have:=(dA.1 hy).1;have p1':dh.length<T:=p1;simp only at this;omega
 ·intro b y hy;rcases eY b s.H.az.length with q1|q1
  ·rw[show({ s with env:=dh,H:=s.H.push (.cells v.laid t) }:St).H.az[b]?=s.H.az[b]? from dJ b q1] at hy;exact h1.bJ b y hy
  ·have dw:b=s.H.az.length:=by
    have:=(dA.1 hy).1;simp only[iM] at this;omega
   subst dw;rw[show({ s with env:=dh,H:=s.H.push (.cells v.laid t) }:St).H.az[s.H.az.length]?=some (.cells v.laid t) from rK] at hy;cases hy;exact .inl (Km l2)
 ·have:=aX.ptr (g:=g2) s.H.az.length 0;rw[BF] at this;exact this
theorem znr{o:Oper}{K:Act->aQ->Prop}{Q:Exit->Act->aQ->Prop}{d:Tmp}(hd:o.dst≠some d)(h:o.wp P a w K Q):o.wp P a w (λa' w'=>K a' w'/\a'.tmps[d]?=a.tmps[d]?) Q:=by
 have pP:∀(b:Act) v,b.tmps=a.tmps->(b.put o.dst v).tmps[d]?=a.tmps[d]?:=by
  intro b v hb;unfold Act.put;split
  ·rename_i k hk;have cK:k≠d:=λe=>hd (by rw[hk,e])
   simp only[hb,Array.getElem?_setIfInBounds_ne cK]
  ·rw[hb]
 unfold Oper.wp at *;generalize (execOp a.eval o).run P w=r at *;cases r with
 | ok n w' =>
  cases n<;>simp only[Oper.upon] at h ⊢ <;>
   first
    |exact⟨h,pP _ _ rfl⟩
    | exact Calls.mono h (λe w'' he=>by cases e<;>first|exact⟨he,pP _ _ rfl⟩|exact he)
    | exact Rows.mono h (λ_ _ he=>⟨he,pP _ _ rfl⟩)
 | halt x w'=>cases x<;>simp only[Oper.upon] at h ⊢<;>exact h
theorem zhZ{ops:Array Oper}{os:List Oper}{d:Tmp}{t:aD}{x:a_}(h:xN ops=some (os,d,t,x)):∃pre Ji Jj af Jk HO after,ops.toList=pre++[⟨some d,.alloc t,Ji,Jj,af,none⟩,⟨none,.store t (.tmp d) x,Jk,HO,after,none⟩] /\
  os=pre++[CS af,CS after]/\∀j,j<pre.length+1->∃e∈after,e.on=j/\Region.binds .any e=true:=by
 unfold xN at h;split at h
 ·rename_i t' d' x' Jk HO after e u Ji Jj af rest hr;split at h
  ·rename_i hc;simp only[bz,cq] at h;obtain⟨rfl,rfl,rfl,rfl⟩:=h;simp only[eF] at hc;obtain⟨⟨c1,c2⟩,c3⟩:=hc;cases fo c1;cases fo c2;have dG:∀n,Si after.toList n=true->∀j,j<n->∃e∈after,e.on=j/\Region.binds .any e=true:=by
    intro n
    induction n with
    | zero=>intro _ j hj;omega
    | succ n ih =>
     intro ha j hj;simp only[Si,eF,List.any_eq_true] at ha;rcases eY j n with h1|h1
     ·exact ih ha.2 j h1
     ·obtain⟨e,he,h2,h3⟩:=ha.1;exact⟨e,Array.mem_toList_iff.1 he,by have:=fo h2;omega,h3⟩
   have hl:=congrArg List.reverse hr;rw[List.reverse_reverse] at hl;refine⟨rest.reverse,Ji,Jj,af,Jk,HO,after,by rw[hl];simp,by simp,λj hj=>dG _ c3 j (by simpa using hj)⟩
  ·cases h
 ·cases h
theorem zgG{α:Type}{f:α->Bool}:∀{l:List α},kA f l=true->∀x∈l,f x=true
 | [],_,x,hx=>by cases hx
 | q::qs,h,x,hx=>by
  simp only[kA] at h;split at h
  ·rename_i hq;rcases dM.1 hx with rfl|hx
   ·exact hq
   ·exact zgG h x hx
  ·cases h
theorem zll{takes:cw}{af:Array Edge}{env:aG}{H:Hp}{lk:aP}{df:bS}{r:OR}{s2:St}(h:cx.op takes (CS af) env H lk df=some (r,s2)):s2=⟨env,H,lk,df⟩:=by
 obtain⟨_,_,h1,_⟩:=yk (by rfl) h
 rw[h1];rfl
theorem zns{pre:List Oper}{Ji Jk:aD}{Jj HO:String}{af after:Array Edge}{d:Tmp}{t:aD}{x:a_}{ops rV:Array Oper}{takes:cw}{s0 s1 s':St}{Ev:Nat->aG}{rs:List Rec}{cs:List ez}{n:Nat}{z:V}{v:V}{cR:aG}
  (AX:ops.toList=pre++[⟨some d,.alloc t,Ji,Jj,af,none⟩,⟨none,.store t (.tmp d) x,Jk,HO,after,none⟩]) (pL:rV=(pre++[CS af,CS after]).toArray) (V_:∀j,j<pre.length+1->∃e∈after,e.on=j/\Region.binds .any e=true)
  (um:∀o∈pre,Sj takes d o=true) (hR:RI cx rV takes s0 Ev rV.size rs cs s1) (iY:oZ P cx B)
  (hn:z4 P t=some n) (hz:qL P t=some z) (hzk:dD z=true) (VD:z.cells.length=n) (ht:take s1.env x=some (v,cR)) (ek:dD v=true) (hl:v.laid.length=n) (hs':s'={ s1 with env:=cR.set d (.ptr s1.H.az.length 0),H:=s1.H.push (.cells v.laid t) }) :
  ∀(fuel:Nat)(l:Array Bool)(s:St)(g:Gh)(a:Act)(w:aQ),left l ops.size<=fuel->Inv rV rs cs Ev l s->s.env[d]?=some .eC->¬iR l (pre.length+1) ->
   ((¬iR l pre.length/\Rel B g s a w)\/(iR l pre.length/\∃T N,(∀p∈B.dg,p.t≠T)/\B.w.heap.size<=N/\a.tmps[d]?=some (.pointer (some ⟨N,0,none⟩))/\Rel (B.late T t n N) g s a w))->wpAny P .any ops (vX B .normal s') fuel l a w:=by
 have fD:ops.size=pre.length+2:=by rw[<- AG,AX];simp
 have B7:rV.size=pre.length+2:=by rw[pL];simp
 have aE:∀j,j<pre.length->ops[j]?=rV[j]?:=λj hj=>by
  rw[<- F9,AX,pL,List.getElem?_toArray,gF hj,gF hj]
 have hk:ops[pre.length]?=some ⟨some d,.alloc t,Ji,Jj,af,none⟩:=by rw[<- F9,AX];simp
 have rJ:rV[pre.length]?=some (CS af):=by rw[pL];simp
 have DD:ops[pre.length+1]?=some ⟨none,.store t (.tmp d) x,Jk,HO,after,none⟩:=by rw[<- F9,AX];simp
 have O2:rV[pre.length+1]?=some (CS after):=by rw[pL];simp
 have iH:∀(j:Nat)(o r:Oper),ops[j]?=some o->rV[j]?=some r->r.after=o.after:=by
  intro j o r ho hr;rcases eY j pre.length with h1|h1
  ·rw[aE j h1,hr] at ho;cases ho;rfl
  ·rcases eY j (pre.length+1) with h2|h2
   ·have:j=pre.length:=by omega
    subst this;rw[hk] at ho;rw[rJ] at hr;cases ho;cases hr;rfl
   ·have:j=pre.length+1:=by
     have:=(s_.1 ho).1;omega
    subst this;rw[DD] at ho;rw[O2] at hr;cases ho;cases hr;rfl
 have nil:∀(l:Array Bool)(s:St),Inv rV rs cs Ev l s->Region.ready .any ops l=[]->∀j,j<ops.size->iR l j:=by
  intro l s hI hr j
  induction j using Nat.strongRecOn with
  | ind j ih =>
   intro hj;cases hl:l.getD j false with
   | true=>exact hl
   | false =>
    obtain⟨r,o4,La⟩:=hR.ex j (by rw[B7,<- fD];exact hj)
    have dJ:=hR.get r o4;have ho:=D_ hj;have At:=iH j _ r.o ho (by rw[<- La];exact dJ)
    have:j∈Region.ready .any ops l:=mem_ready.2 ⟨by
     have:j<l.size:=by rw[hI.size,B7,<- fD];exact hj
     simp[this] at hl ⊢;exact hl,_,ho,λe he hb=>by
      have HH:e∈r.o.after:=by rw[At];exact he
      have h1:=hR.bU r o4 e HH hb
      exact ih e.on (by omega) (by omega)⟩
    rw[hr] at this;cases this
 intro fuel
 induction fuel with
 | zero =>
  intro l s g a w hle hI hj tI h;exact absurd (V7 (l:=l) (k:=ops.size) (by omega) _ (by omega)) tI
 | succ fuel ih =>
  intro l s g a w hle hI hj tI h;refine⟨λhr=>absurd (nil l s hI hr _ (by omega)) tI,λi hi=>?_⟩
  obtain⟨h1,o,ho,gw⟩:=mem_ready.1 hi;have bW:i<ops.size:=(s_.1 ho).1;have Au:i<l.size:=by rw[hI.size,B7,<- fD];exact bW
  have Lb:¬iR l i:=by
   unfold iR;simp[Au] at h1 ⊢;exact h1
  obtain⟨r,o4,rN⟩:=hR.ex i (by rw[B7,<- fD];exact bW)
  have dJ:=hR.get r o4;rw[rN] at dJ;have O3:∀e∈r.o.after,Region.binds .any e=true->iR l e.on:=λe he hb=>gw e (by rw[<- iH i o r.o ho dJ];exact he) hb
  have iM:=x9 Au Lb bW;have mF:=Inv.step hR hI o4 (by rw[rN];exact Lb) O3
  rw[rN] at mF;unfold wpOp;simp only[ho];have hg:o.guard=none->Region.wanted o (yielded ops a.tmps)=true:=λh=>by unfold Region.wanted;rw[h]
  rcases eY i pre.length with uX|uX
  ·
   have K9:r.o=o:=by
    have:=aE i uX;rw[ho,dJ] at this;cases this;rfl
   have dI:o∈pre:=by
    have:pre[i]?=some o:=by
     rw[<- ho,<- F9,AX,gF uX]
    exact pG this
   have Nl:=um o dI;simp only[Sj,eF] at Nl;obtain⟨⟨hd,mq⟩,O4⟩:=Nl;have hd:o.dst≠some d:=λe=>by rw[e] at hd;simp at hd
   have mq:kj takes o≠some (.tmp d):=λe=>by rw[e] at mq;simp at mq
   have O4:o.guard=none:=by cases hh:o.guard with
    | none=>rfl
    | some _=>rw[hh] at O4;cases O4
   rw[K9] at mF;rcases mF with⟨hw,_⟩|⟨hw,res,s2,Cg,lO,tK⟩
   ·unfold zZ at hw;rw[O4] at hw;cases hw
   rw[if_pos (hg O4)]
   left
   have HH:=(x6 (bM:=s.env) (λ_ _=>rfl) Cg).1;have sC:(aq s2.env o.dst r.v)[d]?=some .eC:=by rw[Nk hd,HH,V3 mq];exact hj
   have O5:¬iR (l.setIfInBounds i true) (pre.length+1):=λe=>by
    rcases (ke Au).1 e with e|e
    ·omega
    ·exact tI e
   have Jl:∀(B':dS)(K:Act->aQ->Prop),(∀g' a' w',Rel B' g' { s2 with env:=aq s2.env o.dst r.v } a' w'->K a' w')->Ends P B' o res s2 K (vX B .normal s'):=λB' K hK=>by
    refine⟨λv' hv g' cv a' w' hk=>?_,λhv g' a' w' hk=>?_,λv' hv=>?_⟩
    ·rcases lO with rfl|⟨rfl,_⟩
     ·cases hv;exact hK _ _ _ (wQ hk)
     ·cases hv
    ·rcases lO with rfl|⟨_,he⟩
     ·cases hv
     ·rw[he] at hK;exact hK _ _ _ (wQ (yF hk o))
    ·rcases lO with rfl|⟨rfl,_⟩<;>cases hv
   rcases h with⟨O6,h⟩|⟨O6,T,N,hT,hN,hp,h⟩
   ·refine Hw iY h Cg (Jl B _ λg' a' w' hk=>ih _ _ g' _ w' (by omega) tK sC O5 (.inl ⟨λe=>?_,hk⟩))
    rcases (ke Au).1 e with e|e
    ·omega
    ·exact O6 e
   ·have Wa:oZ P cx (B.late T t n N):=⟨iY.prog,iY.num,iY.VM,iY.gl,iY.calls⟩;have key:=Hw Wa h Cg (Jl (B.late T t n N) (λa' w'=>∃g',Rel (B.late T t n N) g' { s2 with env:=aq s2.env o.dst r.v } a' w') λg' a' w' hk=>⟨g',hk⟩);refine Oper.wp_mono (λa' w' hk=>?_) (znr hd key);obtain⟨⟨g',hk⟩,Nl⟩:=hk
    exact ih _ _ g' _ w' (by omega) tK sC O5 (.inr ⟨(ke Au).2 (.inr O6),T,N,hT,hN,Nl.trans hp,hk⟩)
  ·rcases eY i (pre.length+1) with Wb|Wb
   ·
    have O7:i=pre.length:=by omega
    subst O7;rw[hk] at ho;cases ho;rw[rJ] at dJ;have DG:r.o=CS af:=(BQ dJ).symm;rw[DG] at mF;rcases mF with⟨hw,_⟩|⟨hw,res,s2,Cg,lO,tK⟩
    ·cases hw
    have e2:=zll Cg;subst e2;have tK:Inv rV rs cs Ev (l.setIfInBounds pre.length true) s:=tK;rcases h with⟨_,h⟩|⟨h0,_⟩
    ·rw[if_pos (hg rfl)]
     left
     obtain⟨cz,z1,z2,z3,_,z5⟩:=yA (g:=g) hz w;have ec:=vn z2 hzk;have cL:(execOp a.eval ⟨some d,.alloc t,Ji,Jj,af,none⟩).run P w=.ok (.value (.pointer (some ⟨w.heap.size,0,none⟩))) (w.alloc (.cells cz.cells t)):=by simp[execOp,Instr.alloc,z1,newVar,newRow]
     unfold Oper.wp;rw[cL,Oper.upon_value];obtain⟨T,hT1,hT2⟩:∃T,s.env.length<T/\∀p∈B.dg,p.t<T:=by
      have:∀ps:List KB,∃T,s.env.length<T/\∀p∈ps,p.t<T:=by
       intro ps
       induction ps with
       | nil=>exact⟨s.env.length+1,by omega,λp hp=>by cases hp⟩
       | cons q qs ih =>
        obtain⟨T,t1,t2⟩:=ih;refine⟨T+q.t+1,by omega,λp hp=>?_⟩
        rcases dM.1 hp with rfl|hp
        ·omega
        ·have:=t2 p hp;omega
      exact this B.dg
     have hr0:=h.settle [] (some (.slot B.d T)) (w':=w.alloc (.cells cz.cells t)) (by simp) (λj hj=>by first|exact Go.heap_alloc_old w _ hj|exact Go.heap_alloc_old w _ _ hj) (λ_ _ e=>by simp at e) rfl rfl rfl
     have o4:Rel B (g.row w.heap.size [] (some (.slot B.d T))) { s with env:=aq s.env (some d) .eC } (a.put (some d) (.pointer (some ⟨w.heap.size,0,none⟩))) (w.alloc (.cells cz.cells t)) :=
      wQ (dst:=some d) ⟨hr0,.eC _,λ_ _=>trivial,dP _⟩
     have k_:aq s.env (some d) .eC=s.env:=by
      apply EI;intro k
      by_cases e:k=d
      ·subst e;rw[hj];have:=(dA.1 hj).1;simp[aq,this]
      ·exact Nk (λe'=>e (by cases e';rfl))
     rw[k_] at o4;have Wc:d<a.tmps.size:=by rw[<- h.len];exact(dA.1 hj).1
     refine ih _ s (g.row w.heap.size [] (some (.slot B.d T))) _ _ (by omega) tK hj (λe=>?_) (.inr ⟨(ke Au).2 (.inl rfl),T,w.heap.size,λp hp e=>by have:=hT2 p hp;omega,h.fr.size,?_,?_⟩)
     ·rcases (ke Au).1 e with e|e
      ·omega
      ·exact tI e
     ·simp[Act.put,Wc]
     ·refine { di:=o4.di,len:=o4.len,env:=o4.env,dO:=o4.dO,n0:=o4.n0,bJ:=o4.bJ,dZ:=o4.dZ,fr:=o4.fr,lK:=λb off hb=>o4.lK b off (oc.1 hb),oI:=λp hp hb=>o4.oI p hp (oc.1 hb),dg:=λp hp=>?_,eJ:=o4.eJ,defers:=o4.defers,marks:=o4.marks,nI:=o4.nI };rcases dM.1 hp with rfl|hp
      ·refine⟨hT1,?_,?_,dP _,λb off e=>by cases e⟩
       ·exact .sl (c:=w.heap.size) (o:=0) (λ_=>.nilFunc) (λ_ e=>by simp at e) (dP _) (λe=>absurd rfl e) (λ_ _ e=>by simp[zK] at e) (λ_ _ e=>by simp[zK] at e) (λ_ _ e=>by simp[zK] at e)
       ·have Bz:cz.cells.size=n:=by have:=ec.len;rw[VD] at this;simpa using this.symm
        refine⟨[],⟨by simp,.inr ⟨w.heap.size,0,1,cz.cells,rfl,heap_alloc_new w _,dP _,by decide,.inr (by rw[Bz];omega),by simp⟩⟩,λc' eA=>?_⟩
        simp only[Value.ownBlock,SQ,bz] at eA;subst eA;refine⟨by simp[Gh.row,SQ],λo' _ _=>by simp[Gh.row],λb hb e=>?_⟩
        have:=h.di.lt b hb;simp only[Gh.row] at e;omega
      ·exact o4.dg p hp
    ·exact absurd h0 Lb
   ·
    have O7:i=pre.length+1:=by omega
    subst O7;rw[DD] at ho;cases ho;rw[O2] at dJ;have DG:r.o=CS after:=(BQ dJ).symm;rw[DG] at mF;have Jm:∀j,j<pre.length+1->iR l j:=λj hj=>by
     obtain⟨e,he,rfl,hb⟩:=V_ j hj;exact gw e he hb
    rcases mF with⟨hw,_⟩|⟨hw,res,s2,Cg,lO,tK⟩
    ·cases hw
    have e2:=zll Cg;subst e2;have tK:Inv rV rs cs Ev (l.setIfInBounds (pre.length+1) true) s:=tK;have Jn:∀j,j<ops.size->iR (l.setIfInBounds (pre.length+1) true) j:=λj hj=>by
     rcases eY j (pre.length+1) with q|q
     ·exact(ke Au).2 (.inr (Jm j q))
     ·exact(ke Au).2 (.inl (by omega))
    have iG:s=s1:=tK.final hR (λj hj=>Jn j (by omega))
    subst iG;rcases h with⟨h0,_⟩|⟨_,T,N,hT,hN,hp,h⟩
    ·exact absurd (Jm _ (by omega)) h0
    rw[if_pos (hg rfl)]
    left
    have hev:a.eval (.tmp d)=.pointer (some ⟨N,0,none⟩):=by simp[Act.eval,hp]
    obtain⟨g',w',q1,q2,q3⟩:=zfu h hT hN hev ht hn ek hl;have cL:(execOp a.eval ⟨none,.store t (.tmp d) x,Jk,HO,after,none⟩).run P w=.ok .skip w':=by simp[execOp,q1]
    unfold Oper.wp;rw[cL,Oper.upon_skip];have pP:a.put (some d) (.pointer (some ⟨N,0,none⟩))=a:=by
     unfold Act.put;have:a.tmps.setIfInBounds d (.pointer (some ⟨N,0,none⟩))=a.tmps:=by
      apply Array.ext_getElem?;intro k
      by_cases e:k=d
      ·subst e;have bW:=(s_.1 hp).1;rw[hp];simp[bW]
      ·rw[Array.getElem?_setIfInBounds_ne (λe'=>e e'.symm)]
     simp only[this]
    have iG:=wQ (dst:=some d) (v:=.ptr s.H.az.length 0) (cv:=.pointer (some ⟨N,0,none⟩)) ⟨q2,q3,λ_ _=>trivial,by simp[V.top,Hp.push]⟩
    rw[pP] at iG;have hQ:vX B .normal s' .normal a w':=⟨g',by rw[hs'];exact iG,trivial⟩
    have VV:Region.ready .any ops (l.setIfInBounds (pre.length+1) true)=[]:=by
     apply List.eq_nil_iff_forall_not_mem.2;intro j hj;obtain⟨j1,o,ho,_⟩:=mem_ready.1 hj;have Av:=(s_.1 ho).1;have h2:=Jn j Av;have:j<(l.setIfInBounds (pre.length+1) true).size:=by rw[tK.size,B7,<- fD];exact Av
     unfold iR at h2;simp only[Array.getD_eq_getD_getElem?,D_ this,gm] at j1 h2;rw[j1] at h2;cases h2
    show wpAny P .any ops (vX B .normal s') fuel _ a w';cases fuel with
    | zero=>exact⟨VV,hQ⟩
    | succ f=>exact⟨λ_=>hQ,λj hj=>by rw[VV] at hj;cases hj⟩
theorem zlm{s s':St}{ex:Ex}{ops:Array Oper}(iY:oZ P cx B)(hc:cx.late ops s=some (ex,s'))(h:Rel B g s a w):ex=.normal/\wpAny P .any ops (vX B .normal s') ops.size (Array.replicate ops.size false) a { w with drawn:=w.drawn+1 }:=by
 obtain⟨env,H,lk,df⟩:=s;unfold Cx.late at hc;simp only at hc;split at hc
 ·cases hc
 rename_i os d t x iB;split at hc
 ·cases hc
 rename_i Gp;split at hc
 ·rename_i ex1 bM H2 Aq Ar aE;split at hc
  ·rename_i v ajK n z h1 h2 h3;split at hc
   ·rename_i rM;simp only[ql,dj] at hc;split at hc
    ·rename_i hlen;rw[qm] at hc;simp only[bz,cq] at hc;obtain⟨rfl,rfl⟩:=hc;refine⟨rfl,?_⟩;obtain⟨pre,Ji,Jj,af,Jk,HO,after,AX,rfl,V_⟩:=zhZ iB;simp only[eF] at Gp rM;obtain⟨Gp,sD⟩:=Gp;obtain⟨⟨c1,c2⟩,c3⟩:=rM;have sD:d+1<=env.length:=by simpa[Nat.blt,Nat.ble_eq] using sD
     have sD:d<env.length:=sD;obtain⟨_,Ev,rs,cs,hR⟩:=xl _ 0 [] _ _ _ aE (RI.start (⟨env.set d .eC,H,[],df⟩:St)) (by simp)
     have KD:=h.HE.uA;have hdt:d<a.tmps.size:=by rw[<- KD.len];exact sD
     have pP:a.put (some d) a.tmps[d]=a:=by
      unfold Act.put;have:a.tmps.setIfInBounds d a.tmps[d]=a.tmps:=by
       apply Array.ext_getElem?;intro k
       by_cases e:k=d
       ·subst e;simp[hdt]
       ·rw[Array.getElem?_setIfInBounds_ne (λe'=>e e'.symm)]
      simp only[this]
     have fe:=wQ (dst:=some d) (v:=.eC) (cv:=a.tmps[d]) ⟨KD,.eC _,λ_ _=>trivial,dP _⟩;rw[pP] at fe;have e_:∀j,¬iR (Array.replicate ops.size false) j:=λj hj=>by
      unfold iR at hj;simp[Array.getElem?_replicate] at hj;split at hj<;>simp_all
     have fD:ops.size=(pre++[CS af,CS after]).toArray.size:=by rw[<- AG,AX];simp
     have hI:=Inv.start hR;rw[<- fD] at hI;exact zns AX rfl V_ (λo ho=>zgG Gp o (Bu _ ho)) hR iY (iY.prog ▸ h2) (iY.prog ▸ h3) c2 (fo c3) h1 c1 (fo hlen) rfl ops.size _ _ g a _ V8 hI (by simp[sD]) (e_ _) (.inl ⟨e_ _,fe⟩)
    ·cases hc
   ·cases hc
  ·cases hc
 ·cases hc
theorem zln{s s':St}{ex:Ex}{ops:Array Oper}(iY:oZ P cx B)(hc:cx.draw ops s=some (ex,s'))(h:Rel B g s a w):ex=.normal/\wpAny P .any ops (vX B .normal s') ops.size (Array.replicate ops.size false) a { w with drawn:=w.drawn+1 }:=by
 unfold Cx.draw at hc;split at hc
 ·split at hc
  ·exact zlm iY hc h
  ·exact zeC iY hc h
 ·exact zeC iY hc h
theorem znt(o5:P.follows .mixedOrders=true):Nf P cx B:=by
 intro iY id ops s s' ex g a w hc h;obtain⟨rfl,h1⟩:=zln iY hc h;exact wp_region_any o5 h1
theorem Wd{ops:Array Oper}{s:St}{r:Ex×St}(h:cx.drawn ops s=some r)(hl:cx.uq mC=false\/xN ops=none):cx.draw ops s=some r:=by
 unfold Cx.draw;rcases hl with hl|hl<;>rw[hl]
 ·exact h
 ·split<;>exact h
theorem zkd{ops:Array Oper}{s:St}{q:List Oper×Tmp×aD×a_}{r:Ex×St}(hu:cx.uq mC=true)(hq:xN ops=some q)(h:cx.late ops s=some r):cx.draw ops s=some r:=by
 unfold Cx.draw;rw[hu,hq];exact h
end
section
variable{P:aY}{B:dS}
theorem znu{cx:Cx}:Ng P cx B:=λ_ n f ps as bd s s' ex g a w hc _=>by simp[Cx.code] at hc
theorem yW{gl:Gl}(o5:P.follows .mixedOrders=true)(fN:yE P)(dQ:wY P)(DK:nt P gl)(n:Nat):xA P gl (zj P gl n) (2 * n) :=
 zgz fN dQ DK (λ_ _=>⟨znt o5,znu⟩) n
end
section
open Go.ChangeShapes Go.WideShapes Go.ChangeAt Go.RowKit
def Gz(W:aQ):Gh :=
 {M:=λc o=>W.cell? ⟨c,o,none⟩,bT:=λ_=>0,own:=λ_=>none,lk:=λ_ _=>undef,fm:=λ_ _=>none,
  obj:=⟨λk=>match W.cell? ⟨k,0,none⟩ with|some (.iface _ (.pointer (some a)))=>a|_=>⟨0,0,none⟩,λc=>∃cs t,W.heap[c]?=some (.cells cs t (0,0))⟩ }
theorem zlo(W:aQ):p7 (Gz W) [] W :=
 {mem:=λ_ _ _ h=>h,lt:=λb h=>by simp at h,inj:=λb _ h=>by simp at h,apart:=λb h=>by simp at h,eI:=(λc l h=>by cases h),dN:=λb h=>by simp at h,
  ok:=λb x h=>by simp at h,aL:=λb x h=>by simp at h,laid:=λc hc=>⟨hc,rfl,λb hb=>by simp at hb⟩ }
def Nm(U:aD)(ks:bO):Nat->Nat->cj:=λg o=>if Nat.beq o 0 && ks.any (Nat.beq g) then some (.dX U (.obj g)) else none
structure E3(U:aD)(W:aQ)(ks:bO):Prop where
 at_:∀k∈ks,∃a,W.cell? ⟨k,0,none⟩=some (.iface U (.pointer (some a)))/\∃cs t,W.heap[a.block]?=some (.cells cs t (0,0))
 two:∀k∈ks,∀k'∈ks,∀a,W.cell? ⟨k,0,none⟩=some (.iface U (.pointer (some a)))->W.cell? ⟨k',0,none⟩=some (.iface U (.pointer (some a)))->k=k'
theorem We{U:aD}{ks:bO}{k off:Nat}{v:V}(hv:Nm U ks k off=some v):k∈ks/\off=0/\v=.dX U (.obj k):=by
 unfold Nm at hv;split at hv<;>simp only[bz,reduceCtorEq] at hv;rename_i hb;rw[eF] at hb;obtain⟨x,hx,hkx⟩:=List.any_eq_true.1 hb.2;have e2:=fo hkx;subst e2;exact⟨hx,fo hb.1,hv.symm⟩
theorem SS{U:aD}{W:aQ}{k:Nat}{a:Addr}(ha:W.cell? ⟨k,0,none⟩=some (.iface U (.pointer (some a)))):(Gz W).obj k=a:=by simp only[Gz,ha]
theorem znv{P:aY}{U:aD}{ks:bO}{W:aQ}(h:E3 U W ks):iu P (Nm U ks) (Gz W):=by
 refine⟨?_,λk u j hv=>?_⟩
 rotate_left
 ·obtain⟨hk,_,e⟩:=We hv;cases e;obtain⟨a,ha,hc⟩:=h.at_ _ hk;refine⟨by rw[SS ha];exact hc,λk' u' j' lV e=>?_⟩
  obtain⟨rJ,_,e'⟩:=We lV;cases e';obtain⟨a',Gx,_⟩:=h.at_ _ rJ;rw[SS ha,SS Gx] at e;subst e;exact h.two _ hk _ rJ _ ha Gx
 intro k off v hv;obtain⟨hk,rfl,rfl⟩:=We hv;obtain⟨a,ha,_⟩:=h.at_ _ hk;refine⟨_,ha,.dX ?_,rfl⟩;rw[<- SS ha];exact .obj k
theorem zkf{P:aY}{gl:Gl}(o5:P.follows .mixedOrders=true)(fN:yE P)(dQ:wY P)(DK:nt P gl){n:Nat}{f:FuncId}{args:aG}{bG:dR}{W:aQ}{H':Hp}
  (hc:zj P gl n f args ⟨[],[]⟩=some (.ret (.bool true),H')) (rG:iu P gl (Gz W)) (ha:eS (Gz W) 0 args bG):Calls P f bG W λe W'=>e=.returned (.bool true)/\Below W.heap.size W W':=by
 refine Calls.mono (yW o5 fN dQ DK n f args ⟨[],[]⟩ _ _ hc (Gz W) W bG .ret rG (zlo W) ha) λe W' he=>?_;cases e with
 | returned cv =>
  obtain⟨v,g',h1,h2,h3,_,_⟩:=he;cases h1;cases h3;exact⟨rfl,h2.fr.os,h2.fr.tape,h2.fr.output,h2.fr.size,λc rF=>h2.fr.heap c ⟨rF,λb hb=>by simp at hb,.inl rfl⟩⟩
 | panicked chain =>
  obtain⟨v,cv,g',h1,_⟩:=he;cases h1
 | outgrown=>exact he.elim
theorem zdm{H:Type}{enc:aD×bC->H}{P:aY}{W W':aQ}(hl:laidOutB P=true)(hb:Below W.heap.size W W'):∀{ts:List aD}{vs:ei}{ds:List (DataW H)}{ps:List MemPlace},
  (∀t∈ts,P.readableRec t=true/\t<P.types.size)->DataW.TrodAll enc P W 0 (λ_=>true) true ts vs ds ps->(∀x∈ps,x.block<W.heap.size)->DataW.TrodAll enc P W' 0 (λb=>decide (b<W.heap.size)) true ts vs ds ps
 | [],vs,ds,ps,_,h,_=>by
  cases vs<;>cases ds<;>first|exact h|exact h.elim
 | t::ts,vs,ds,ps,ht,h,bW=>by
  cases vs<;>cases ds<;>first|exact h.elim|skip
  obtain⟨p,q,h1,h2,rfl⟩:=h
  exact⟨p,q,Below.trod hl (ht t (fy ..)).1 (ht t (fy ..)).2 h1 hb λx hx=>bW x (Bu _ hx),
   zdm hl hb (λu hu=>ht u (eo _ hu)) h2 λx hx=>bW x (CQ _ hx),rfl⟩
theorem zlp{H:Type}{enc:aD×bC->H}{P:aY}{f:Func}{s:ChangeSpec}{apart fresh handsOn:Bool}{W W':aQ}{args:dR}{ds gs:List (DataW H)}{before:List MemPlace}{tb:aD}
  (Jo:s.vars=[]) (hrt:f.resultTypes=#[tb]) (htb:P.underlying tb=some .bool) (hl:laidOutB P=true) (O8:∀t∈f.params.toList,P.readableRec t=true/\t<P.types.size)
  (K1:s.fn H (ds++[])={ results:=[.lit (.bool true)],args:=ds }) (hW:DataW.Whole enc P f.params.toList s.vars apart W args.toList ds gs before) (hb:Below W.heap.size W W') :
  s.post enc P f apart fresh handsOn false W args (.bool true) W':=by
 have Lc:=hW;obtain⟨p,q,hA,hV,rfl,_,_⟩:=hW;rw[Jo] at hV;obtain⟨rfl,rfl⟩:gs=[]/\q=[]:=by
  cases gs with
  | nil=>exact⟨rfl,hV⟩
  | cons g r=>exact absurd hV (by intro h;cases h)
 refine⟨ds,[],_,[],p,[],Lc,?_,?_,?_,hb.frame _,λh=>by cases h⟩
 ·rw[K1,hrt];exact trodAll_mk1 (shut_bool htb true)
 ·rw[K1];exact zdm hl hb O8 hA λx hx=>Lc.lt x (by simpa using hx)
 ·rw[K1,Jo];rfl
def SU(P:aY)(x:String×DataW Unit):Bool :=
 match P.globalNamed x.1,x.2 with
 | some g,.iface nm (.ptr _) =>
  (match (P.globals[g]?).map (·.type) with
  | some t=>match P.underlying t with
   | some (.interface _)=>true
   | _=>false
  | none=>false) && nm == "*errors.errorString"
 | _,_=>false
structure l7(P:aY)(w:aQ)(ps:List MemPlace)(x:String×DataW Unit)(g t:Nat)(cs:dR)(fuel:Nat)(p:List MemPlace):Prop where
 named:P.globalNamed x.1=some g
 type:(P.globals[g]?).map (·.type)=some t
 var:w.var? P x.1=some cs
 trod:DataW.trod (λ_=>()) P w 0 (λ_=>true) false fuel t cs.toList=some (x.2,p)
 row:∀y∈MemPlace.row ⟨g,0,none⟩ cs.size,y∈ps
 sub:∀y∈p,y∈ps
theorem l7.more{P:aY}{w:aQ}{ps ps':List MemPlace}{x:String×DataW Unit}{g t:Nat}{cs:dR}{fuel:Nat}{p:List MemPlace}(h:l7 P w ps x g t cs fuel p)(hs:∀y∈ps,y∈ps'):l7 P w ps' x g t cs fuel p :=
 {h with row:=λy hy=>hs y (h.row y hy),sub:=λy hy=>hs y (h.sub y hy) }
theorem O9{P:aY}{w:aQ}:∀{l:List (String×DataW Unit)}{ps:List MemPlace},DataW.LaidVars P w l ps->∀x∈l,∃g t cs fuel p,l7 P w ps x g t cs fuel p
 | [],_,_,x,hx=>by simp at hx
 | (n,d)::r,ps,h,x,hx=>by
  obtain⟨g,t,cs,fuel,p,q,h1,h2,h3,h4,h5,h6⟩:=h;rcases dM.1 hx with rfl|hx
  ·exact⟨g,t,cs,fuel,p,h1,h2,h3,h4,λy hy=>by rw[h6];exact Bu _ (Bu _ hy),λy hy=>by rw[h6];exact Bu _ (CQ _ hy)⟩
  ·obtain⟨g',t',cs',f',p',a⟩:=O9 h5 x hx;exact⟨g',t',cs',f',p',a.more λy hy=>by rw[h6];exact CQ _ hy⟩
theorem zgH{P:aY}{w:aQ}:∀{l:List (String×DataW Unit)}{ps:List MemPlace},DataW.LaidVars P w l ps->ps.Nodup->∀x∈l,∀x'∈l,∃g t cs fuel p g' t' cs' Jp p',l7 P w ps x g t cs fuel p/\l7 P w ps x' g' t' cs' Jp p'/\(g=g'\/∀y∈p,y ∉ p')
 | [],_,_,_,x,hx,_,_=>by simp at hx
 | (n,d)::r,ps,h,hn,x,hx,x',pK=>by
  obtain⟨g,t,cs,fuel,p,q,h1,h2,h3,h4,h5,h6⟩:=h;have hd:l7 P w ps (n,d) g t cs fuel p:=⟨h1,h2,h3,h4,λy hy=>by rw[h6];exact Bu _ (Bu _ hy),λy hy=>by rw[h6];exact Bu _ (CQ _ hy)⟩
  have hq:∀y∈q,y∈ps:=λy hy=>by rw[h6];exact CQ _ hy
  rw[h6] at hn;obtain⟨_,hnq,O_⟩:=List.nodup_append.1 hn;rcases dM.1 hx with rfl|hx<;>rcases dM.1 pK with rfl|pK
  ·exact⟨g,t,cs,fuel,p,g,t,cs,fuel,p,hd,hd,.inl rfl⟩
  ·obtain⟨g',t',cs',f',p',a⟩:=O9 h5 x' pK;exact⟨g,t,cs,fuel,p,g',t',cs',f',p',hd,a.more hq,.inr λy hy Wg=>O_ y (CQ _ hy) y (a.sub y Wg) rfl⟩
  ·obtain⟨g',t',cs',f',p',a⟩:=O9 h5 x hx;exact⟨g',t',cs',f',p',g,t,cs,fuel,p,a.more hq,hd,.inr λy hy Wg=>O_ y (CQ _ Wg) y (a.sub y hy) rfl⟩
  ·obtain⟨g1,t1,uZ,f1,p1,g2,t2,Vr,f2,p2,a1,a2,a3⟩:=zgH h5 hnq x hx x' pK;exact⟨g1,t1,uZ,f1,p1,g2,t2,Vr,f2,p2,a1.more hq,a2.more hq,a3⟩
theorem Wh{P:aY}{U:aD}{W:aQ}{ps:List MemPlace}(ek:∀b off,MemPlace.cell b off∈ps->(∃c t,W.heap[b]?=some (.cells c t (0,0)))/\∀u v,W.cell? ⟨b,off,none⟩=some (.iface u v)->Value.okWide P W .any 0 u v)
  (nP:∀u,P.typeName? 3 u=some "*errors.errorString"->u=U) {e:aD} (hU:P.underlying U=some (.pointer e)) (he:0<P.cellsOf e) {x:String×DataW Unit} {k t:Nat} {cs:dR} {fuel:Nat} {p:List MemPlace} (h:l7 P W ps x k t cs fuel p) (hB:SU P x=true) :
  ∃a,W.cell? ⟨k,0,none⟩=some (.iface U (.pointer (some a)))/\MemPlace.cell a.block a.off∈p:=by
 obtain⟨h1,h2,h3,h4,cC,_⟩:=h;unfold SU at hB;rw[h1] at hB;split at hB<;>try (cases hB;done)
 rename_i g' nm d' M9 Jb;cases M9;rw[h2] at hB;simp only[eF] at hB;obtain⟨Aw,C8⟩:=hB;split at Aw<;>try (cases Aw;done)
 rename_i ms hti;have Wi:nm= "*errors.errorString":=by simpa using C8
 subst Wi;rw[Jb] at h4;cases fuel with
 | zero=>simp[DataW.trod] at h4
 | succ fuel =>
  obtain⟨l0⟩:=cs;simp only[DataW.trod,hti] at h4;have key:∃u v,l0=[.iface u v]/\P.typeName? 3 u=some "*errors.errorString"/\∃d2,DataW.trod (λ_=>()) P W 0 (λ_=>true) false fuel u v.cells.toList=some (.ptr d2,p):=by
   match l0,h4 with
   | [.iface u v],h4 =>
    simp only at h4;split at h4<;>try (cases h4;done)
    rename_i name nP;obtain⟨x1,C1,Ld⟩:=mS.1 h4;simp only[cq,DataW.iface.injEq] at Ld;refine⟨u,v,rfl,by rw[nP,Ld.1.1],d',?_⟩
    rw[C1,<- Ld.1.2,<- Ld.2]
   | [.nilIface],h4=>simp at h4
   | [],h4=>simp at h4
   | _::_::_,h4=>simp at h4
  obtain⟨u,v,rfl,hn,d2,Lf⟩:=key;have hu:u=U:=nP u hn;subst hu;have sJ:W.cell? ⟨k,0,none⟩=some (.iface u v):=by
   have:=World.var?_cell h1 h3 0;simpa using this
  have hvo:=(ek k 0 (cC _ (by simp[MemPlace.row]))).2 u v sJ
  have SV:∃a,v=.pointer (some a):=by
   simp only[Value.okWide,hU,Cell.okWide] at hvo;cases fuel with
   | zero=>simp[DataW.trod] at Lf
   | succ fuel =>
    simp only[DataW.trod,hU] at Lf;cases v<;>simp[Cell.ok,hU] at hvo;rename_i oa;cases oa with
    | none=>simp[Value.cells] at Lf
    | some a=>exact⟨a,rfl⟩
  obtain⟨a,rfl⟩:=SV;refine⟨a,sJ,?_⟩;cases fuel with
  | zero=>simp[DataW.trod] at Lf
  | succ fuel =>
   have ht3:DataW.trod (λ_=>()) P W 0 (λ_=>true) false (fuel+1) u [.pointer (some a)]=some (.ptr d2,p):=Lf;simp only[DataW.trod,hU] at ht3;obtain⟨z,GA,Ek⟩:=mS.1 ht3;simp only[cq] at Ek;rw[<- Ek.2];exact Bu _ (by simp only[MemPlace.row,mU,Gd];exact⟨0,he,rfl⟩)
theorem zfw{P:aY}{U:aD}{W:aQ}{l:List (String×DataW Unit)}(h:laidMet P l W)(nP:∀u,P.typeName? 3 u=some "*errors.errorString"->u=U) {e:aD} (hU:P.underlying U=some (.pointer e)) (he:0<P.cellsOf e):E3 U W ((l.filter (SU P)).filterMap (λx=>P.globalNamed x.1)):=by
 obtain⟨ps,hv,si,ek⟩:=h;refine⟨λk hk=>?_,λk hk k' rJ a ha Gx=>?_⟩
 ·obtain⟨x,pK,Lg⟩:=List.mem_filterMap.1 hk;obtain⟨hx,hB⟩:=List.mem_filter.1 pK;obtain⟨g,t,cs,fuel,p,h1⟩:=O9 hv x hx;have:=h1.named;rw[this] at Lg;cases Lg;obtain⟨a,h2,h3⟩:=Wh ek nP hU he h1 hB;exact⟨a,h2,(ek _ _ (h1.sub _ h3)).1⟩
 ·obtain⟨x,Gr,Lg⟩:=List.mem_filterMap.1 hk;obtain⟨hx,hB⟩:=List.mem_filter.1 Gr;obtain⟨x',Wj,Pa⟩:=List.mem_filterMap.1 rJ;obtain⟨pK,GB⟩:=List.mem_filter.1 Wj;obtain⟨g,t,cs,fuel,p,g',t',cs',Jp,p',h1,Hj,h2⟩:=zgH hv si x hx x' pK;have e1:=h1.named;rw[e1] at Lg;cases Lg;have Hf:=Hj.named;rw[Hf] at Pa;cases Pa;rcases h2 with h2|h2
  ·exact h2
  ·obtain⟨b,c1,c2⟩:=Wh ek nP hU he h1 hB;obtain⟨b',nC,Vg⟩:=Wh ek nP hU he Hj GB;rw[ha] at c1;rw[Gx] at nC;cases c1;cases nC;exact absurd Vg (h2 _ c2)
end
section
open Go.ChangeShapes Go.WideShapes Go.ChangeAt Go.RowKit
end
theorem zcM{P:aY}{f:FuncId}{fn:Func}{e:dR->Sem bC}{args:dR}{w w':aQ}{v:bC}(hf:P.funcs[f]?=some fn)(nP:(fn.name == "runtime.NumGoroutine")=false) (hb:fn.body=none) (hn:Extern.findNext fn=none) (he:Extern.find fn=some e)
  (hr:(e args).run P w=.ok v w'):(callFunc f args).run P w=.ok (.value v) w':=by
 unfold callFunc;have cK:¬fn.name= "runtime.NumGoroutine":=by simpa using nP
 simp[hf,cK,hb,hn,he,hr]
theorem idx_eq:∀(s:bO)(c:Nat),(∀b∈s,b<256)->c<256->Lib.indexByte (s.map UInt8.ofNat) c.toUInt8=(match s.findIdx? (λ(b:Nat)=>Nat.beq b c) with|some i=>(i:Int)|none=>-1)
 | [],c,_,_=>rfl
 | b::s,c,hs,hc=>by
  have ih:=idx_eq s c (λx hx=>hs x (eo _ hx)) hc;have hb:=hs b (fy ..);simp only[bk,Lib.indexByte,List.findIdx?_cons];have e:(UInt8.ofNat b == c.toUInt8)=Nat.beq b c:=by
   cases h:Nat.beq b c with
   | true =>
    have:=fo h;subst this;simp
   | false =>
    have:=Nat.ne_of_beq_eq_false h;rw[beq_eq_false_iff_ne];intro he;have:=congrArg UInt8.toNat he;simp at this;omega
  rw[e,ih];cases Nat.beq b c with
  | true=>rfl
  | false =>
   simp only[gh,bD];cases hfi:s.findIdx? (λ(b:Nat)=>Nat.beq b c) with
   | none=>simp
   | some i =>
    simp only[aW];have:((i:Int) == -1)=false:=by rw[beq_eq_false_iff_ne];omega
    rw[this];simp
theorem zkg{P:aY}{k:FuncId}{fk:Func}(Pb:(List.range P.funcs.size).all (λf=>match P.funcs[f]? with|some fn=>fn.name != "internal/bytealg.IndexByteString" || f == k|none=>true)=true)
  (Jq:P.funcs[k]?=some fk) (nP:(fk.name == "runtime.NumGoroutine")=false) (hn:Extern.findNext fk=none) (he:Extern.find fk=some Extern.BytealgIndexByte.indexByte):wY P:=by
 intro f fn args v hf hb hp g n bG w ha;unfold U3 at hp;split at hp<;>try (cases hp;done)
 rename_i nm l s c Wi;split at hp<;>try (cases hp;done)
 rename_i hc;simp only[bz] at hp;have bW:f<P.funcs.size:=(s_.1 hf).1;have h1:=Dr.1 Pb f (Gd.2 bW);rw[hf] at h1;have Wk:f=k:=by
  simp only[Wi,bne_self_eq_false,Bw] at h1;simpa using h1
 subst Wk;rw[hf] at Jq;cases Jq;obtain⟨al,ar,_,_⟩:=ha
 match bG,al,ar with
 | ⟨[c0,c1]⟩,_,ar =>
  have r0:=ar 0 _ c0 rfl rfl;have r1:=ar 1 _ c1 rfl rfl;cases r1;have hs:∀b∈s,b<256:=by cases r0;assumption
  cases r0;refine⟨_,zcM hf nP hb hn he (Lib.run_indexByteString (bytes s) c w),?_,by rw[<- hp];rfl,λ_ _=>by rw[<- hp];trivial⟩
  have e1:(bytes s).data.toList=s.map UInt8.ofNat:=by simp[bytes]
  rw[e1,idx_eq s c.toNat hs (by omega),<- hp]
  exact .int _ _
 | ⟨[]⟩,al,_=>simp at al
 | ⟨[_]⟩,al,_=>simp at al
 | ⟨_::_::_::_⟩,al,_=>simp at al
def zqw(P:aY):Bool:=P.funcs.toList.all λfn=>!(fn.name == "runtime.NumGoroutine")
theorem zlq{P:aY}(h:zqw P=true):yE P:=λf fn hf=>by
 have:=Dr.1 h fn (by
  have:=Array.mem_of_getElem? hf
  simpa using this)
 simpa using this
section
open Go.ChangeShapes Go.WideShapes Go.ChangeAt Go.RowKit
theorem zh0{d n:Nat}{g:Gh}{w w':aQ}(hb:Below w.heap.size w w'):gS d none none n g w g w' :=
 ⟨.refl _ _,λc hc _ _=>hb.block c hc,λ_ _ _=>rfl,λ_ _ _ _=>rfl,hb.size,λ_ _ _=>rfl,λ_ h=>(by cases h),λ_ h=>(by cases h),λ_ _ _ _=>rfl,hb.os,hb.tape,hb.output⟩
theorem zh1{w w':aQ}(hb:Below w.heap.size w w'){c o:Nat}{v:bC}(h:w.cell? ⟨c,o,none⟩=some v):w'.cell? ⟨c,o,none⟩=some v:=by
 have hc:c<w.heap.size:=by
  rcases eY c w.heap.size with hc|hc
  ·exact hc
  ·have:w.heap[c]?=none:=Array.getElem?_eq_none hc;simp[World.cell?,this] at h
 have:=hb.block c hc;simp only[World.cell?,this] at h ⊢;exact h
theorem zcA{d:Nat}{H:Hp}{g:Gh}{w w':aQ}(hw:p7 g H.az w)(hb:Below w.heap.size w w'):lW d H g w H g w' where
 di :=
  {mem:=λc o v h=>zh1 hb (hw.mem c o v h)
   lt:=λb h=>uO (hw.lt b h) hb.size
   inj:=hw.inj
   apart:=hw.apart
   eI:=λc l h=>uO (hw.eI c l h) hb.size
   dN:=hw.dN
   ok:=λb x hx=>by
    have bW:b<H.az.length:=(dA.1 hx).1;exact fR.same (d:=d) (zh0 hb) (by simp) bW (hw.lt b bW) (hw.dN b bW) (λ_ h=>by cases h) (λc h1 h2=>by omega) (hw.aL b x hx) (hw.ok b x hx)
   aL:=hw.aL
   laid:=λc hc=>by
    obtain⟨⟨cs,t,h1⟩,h2⟩:=hw.laid c hc
    exact⟨⟨cs,t,by rw[hb.block c (s_.1 h1).1];exact h1⟩,h2⟩ }
 fr:=⟨.refl _ _,λc hc=>hb.block c hc.1,λ_ _=>rfl,λ_ _ _=>rfl,hb.size,λ_ _ _=>rfl,hb.os,hb.tape,hb.output⟩
 len:=dB _
 dZ:=λb h1 h2=>by omega
 bJ:=λb x hx=>.inr (.inr ⟨x,hx,dB _⟩)
 DH:=λ_ h=>h
 lK:=λ_ _ h=>h
end
section
def Gh.bare(g:Gh):Gh:={ g with own:=λ_=>none }
def Gh.over(n:Nat)(g g':Gh):Gh :=
 {M:=λc o=>if c<n then g.M c o else g'.M c o,bT:=g.bT,obj:=g.obj,own:=λc=>if c<n then g.own c else g'.own c,lk:=g.lk,fm:=g.fm }
theorem zbx{w:aQ}{c o:Nat}{v:bC}(h:w.cell? ⟨c,o,none⟩=some v):c<w.heap.size:=by
 rcases eY c w.heap.size with hc|hc
 ·exact hc
 ·have:w.heap[c]?=none:=Array.getElem?_eq_none hc;simp[World.cell?,this] at h
variable{P:aY}{gl:Gl}{d:Nat}{H:Hp}{g g':Gh}{w w':aQ}
theorem Wl{bs:List bq}(hw:p7 g bs w):p7 g.bare [] w :=
 {mem:=hw.mem,lt:=λb h=>by simp at h,inj:=λb _ h=>by simp at h,apart:=λb h=>by simp at h,eI:=(λc l h=>by cases h),dN:=λb h=>by simp at h,ok:=λb x h=>by simp at h,aL:=λb x h=>by simp at h,laid:=λc hc=>⟨(hw.laid c hc).1,rfl,λb hb=>by simp at hb⟩ }
theorem od:Gh.Le 0 g g.bare:=⟨λ_ _ _ h=>h,λb h=>by omega,rfl,λ_ _ _ h=>by omega⟩
theorem kT{dd:Nat}(hf:Fr dd [] g.bare w g' w'){c:Nat}(hc:c<w.heap.size):w'.heap[c]?=w.heap[c]?/\g'.own c=none/\∀o,g'.M c o=g.M c o:=by
 have hp:rU dd ([]:List bq).length g.bare w c:=⟨hc,λb hb=>by simp at hb,.inl rfl⟩
 exact⟨hf.heap c hp,hf.own c hp,hf.M c hp⟩
theorem zlr{dd:Nat}(hf:Fr dd [] g.bare w g' w'):Gh.Le 0 g' (Gh.over w.heap.size g g'):=by
 refine⟨λc o v h=>?_,λb h=>by omega,hf.le.obj.symm,λ_ _ _ h=>by omega⟩
 simp only[Gh.over];split
 next hc=>rw[<- (kT hf hc).2.2 o];exact h
 ·exact h
theorem zeD{n dd:Nat}{bs:List bq}(hw:p7 g bs w)(hf:Fr dd [] g.bare w g' w'):gS d none none n g w (Gh.over w.heap.size g g') w':=by
 refine⟨⟨λc o v h=>?_,λ_ _=>rfl,rfl,λ_ _ _ _ h=>h⟩,λc hc _ _=>(kT hf hc).1,λc hc _=>by simp[Gh.over,hc],λc hc _ o=>by simp[Gh.over,hc],hf.size,λ_ _ _=>rfl,λ_ h=>(by cases h),λ_ h=>(by cases h),λ_ _ _ _=>rfl,hf.os,hf.tape,hf.output⟩
 have:=zbx (hw.mem c o v h);simp[Gh.over,this,h]
theorem zh2{dd:Nat}(hw:p7 g H.az w){An:List bq}(El:p7 g' An w')(hf:Fr dd [] g.bare w g' w'):lW d H g w H (Gh.over w.heap.size g g') w' where
 di :=
  {mem:=λc o v h=>by
    simp only[Gh.over] at h;split at h
    next hc=>have h0:=hw.mem c o v h;simp only[World.cell?,(kT hf hc).1] at h0 ⊢;exact h0
    ·exact El.mem c o v h
   lt:=λb h=>uO (hw.lt b h) hf.size
   inj:=hw.inj
   apart:=λb h o=>by simp only[Gh.over,hw.lt b h,aI];exact hw.apart b h o
   eI:=λc l h=>by
    simp only[Gh.over] at h;split at h
    ·exact uO (hw.eI c l h) hf.size
    ·exact El.eI c l h
   dN:=λb h=>by simp only[Gh.over,hw.lt b h,aI];exact hw.dN b h
   ok:=λb x hx=>by
    have bW:b<H.az.length:=(dA.1 hx).1;exact fR.same (d:=d) (zeD hw hf) (by simp) bW (hw.lt b bW) (hw.dN b bW) (λ_ h=>by cases h) (λc h1 h2=>by omega) (hw.aL b x hx) (hw.ok b x hx)
   aL:=hw.aL
   laid:=λc hc=>by
    obtain⟨⟨cs,t,h1⟩,h2,h3⟩:=hw.laid c hc;have bW:=(s_.1 h1).1
    exact⟨⟨cs,t,by rw[(kT hf bW).1];exact h1⟩,by simp only[Gh.over,bW,aI];exact h2,h3⟩ }
 fr:=⟨(zeD (d:=d) (n:=H.az.length) hw hf).le,λc hc=>(kT hf hc.1).1,λc hc=>by simp[Gh.over,hc.1],λc hc o=>by simp[Gh.over,hc.1],hf.size,λ_ _ _=>rfl,hf.os,hf.tape,hf.output⟩
 len:=dB _
 dZ:=λb h1 h2=>by omega
 bJ:=λb x hx=>.inr (.inr ⟨x,hx,dB _⟩)
 DH:=λ_ h=>h
 lK:=λ_ _ h=>h
theorem zls{dd:Nat}(hw:p7 g H.az w)(hf:Fr dd [] g.bare w g' w'){n:Nat}{l:Loc}{v:V}{cv:bC}(h:cW g' n w' l v cv):cW (Gh.over w.heap.size g g') H.az.length w' l v cv:=by
 unfold cW at *;split
 ·rename_i sz xs e;have h':fI g' n w' l e sz xs.length cv:=h;obtain⟨vs,h1,h2⟩:=h';refine⟨vs,h1,λc hc=>?_⟩;have uR:¬c<w.heap.size:=λbW=>by
   have:=(h2 c hc).1;rw[(kT hf bW).2.1] at this;cases this
  refine⟨by simp only[Gh.over,uR,bD];exact(h2 c hc).1,(h2 c hc).2.1.eq λo=>by simp only[Gh.over,uR,bD],λb hb e=>?_⟩
  have:=hw.lt b hb;rw[show(Gh.over w.heap.size g g').bT b=g.bT b from rfl] at e;omega
 ·trivial
theorem xC(o5:P.follows .mixedOrders=true)(fN:yE P)(dQ:wY P)(DK:nt P gl){n:Nat}{f:FuncId}{args:aG}{v:V}{H':Hp}
  (hc:zj P gl n f args ⟨[],[]⟩=some (.ret v,H')) (ht:aL args=0) (hv:v.top=0) {bG:dR} {l:Loc} (h1:iu P gl g) (h2:p7 g H.az w) (h3:eS g H.az.length args bG) :
  Calls P f bG w (fA d H g w l (.ret v) H):=by
 refine Calls.mono (yW o5 fN dQ DK n f args ⟨[],[]⟩ _ _ hc g.bare w bG l (h1.le od) (Wl h2) ⟨h3.len,λj x c hx iW=>(h3.rel j x c hx iW).le od (cZ (zn (zw hx)) (by omega)),by simp[ht],h3.no⟩) λe w' he=>?_
 cases e with
 | returned cv =>
  obtain⟨v',g',e1,e2,e3,e4,_⟩:=he;cases e1;exact⟨v,_,rfl,zh2 h2 e2.di e2.fr,e3.le (zlr e2.fr) (by omega),zls h2 e2.fr e4,by omega⟩
 | panicked chain =>
  obtain⟨v',cv,g',e1,_⟩:=he;cases e1
 | outgrown=>exact he.elim
abbrev ee:=List (FuncId×aG×V)
def cN:ee->FuncId->aG->cj
 | [],_,_=>none
 | (f,xs,v)::r,f',ys=>match Nat.beq f' f with
  | true=>match eG ys xs with
   | true=>some v
   | false=>cN r f' ys
  | false=>cN r f' ys
def z0(P:aY)(g0:Nat->Nat->cj)(l:ee):Prop:=nt P { g:=g0,hk:=cN l }
theorem qY{g0:Nat->Nat->cj}:z0 P g0 []:=⟨λf args v h=>(by cases h),λn f args H out H' h=>(by cases h),λ_ _ _ _ h=>(by cases h)⟩
theorem xm{a b:aG}(h:eG a b=true):a=b:=by
 have:V.same (.bx a) (.bx b)=true:=h;have:=V.iQ this;cases this;rfl
structure Lh where
 n:Nat
 f:FuncId
 args:aG
 H:Hp
 out:Out
 H':Hp
def zo5(a b:Hp):Bool:=mg a.bJ b.bJ && mW a.az b.az
def AY:List Lh->Nat->FuncId->aG->Hp->Option (Out×Hp)
 | [],_,_,_,_=>none
 | m::r,n,f,args,H=>match Nat.beq f m.f with
  | true=>match Nat.ble m.n (n+1) && (eG args m.args && zo5 H m.H) with
   | true=>some (m.out,m.H')
   | false=>AY r n f args H
  | false=>AY r n f args H
def zi4(P:aY)(g0:Nat->Nat->cj)(l:ee)(ms:List Lh):Prop:=nt P { g:=g0,hk:=cN l,fq:=AY ms }
theorem zh3(o5:P.follows .mixedOrders=true)(fN:yE P)(dQ:wY P){g0:Nat->Nat->cj}{l:ee}{ms:List Lh}(hl:zi4 P g0 l ms){n:Nat}{f:FuncId}{args:aG}{v:V}{H':Hp}
  {uq:aD->Bool} (hc:zj P { g:=g0,hk:=cN l,uq:=uq,fq:=AY ms } n f args ⟨[],[]⟩=some (.ret v,H')) (ht:aL args=0) (hv:v.top=0) (hit:VZ P uq:=by intro _ _ _ _ h;cases h):zi4 P g0 ((f,args,v)::l) ms:=by
 refine⟨λf' AZ v' h d H g w bG lc h1 h2 h3=>?_,hl.heap,hl.it⟩;simp only[cN] at h;cases hb:Nat.beq f' f with
 | false=>rw[hb] at h;exact hl.pure f' AZ v' h d H g w bG lc h1 h2 h3
 | true =>
  rw[hb] at h;cases hs:eG AZ args with
  | false=>rw[hs] at h;exact hl.pure f' AZ v' h d H g w bG lc h1 h2 h3
  | true =>
   rw[hs] at h;cases h;have:=fo hb;subst this;have:=xm hs;subst this;exact xC (gl:={ g:=g0,hk:=cN l,uq:=uq,fq:=AY ms }) o5 fN dQ ⟨hl.pure,hl.heap,hit⟩ hc ht hv h1 h2 h3
theorem lW.mono{d d':Nat}(h:d<=d'){H H':Hp}{g g':Gh}{w w':aQ}(hA:lW d H g w H' g' w'):lW d' H g w H' g' w':={ hA with fr:=hA.fr.mono h }
theorem fA.mono{d d':Nat}(h:d<=d'){H H':Hp}{g:Gh}{w w':aQ}{l:Loc}{out:Out}{e:Ending}(hp:fA d H g w l out H' e w'):fA d' H g w l out H' e w':=by
 cases e with
 | returned cv =>
  obtain⟨v,g',h1,h2,h3,h4,h5⟩:=hp;exact⟨v,g',h1,h2.mono h,h3,h4,h5⟩
 | panicked chain =>
  obtain⟨v,cv,g',h1,h2,h3,h4⟩:=hp;exact⟨v,cv,g',h1,h2,h3.mono h,h4⟩
 | outgrown=>exact hp.elim
theorem yI(o5:P.follows .mixedOrders=true)(fN:yE P)(dQ:wY P){g0:Nat->Nat->cj}{l:ee}(hl:z0 P g0 l){n:Nat}{f:FuncId}{args:aG}{v:V}{H':Hp}
  {uq:aD->Bool} (hc:zj P { g:=g0,hk:=cN l,uq:=uq } n f args ⟨[],[]⟩=some (.ret v,H')) (ht:aL args=0) (hv:v.top=0) (hit:VZ P uq:=by intro _ _ _ _ h;cases h):z0 P g0 ((f,args,v)::l) :=
 zh3 (ms:=[]) o5 fN dQ hl hc ht hv hit
end
section
def Gh.tL(n:Nat)(g:Gh)(w':aQ):Gh :=
 {M:=λc o=>if c<n then g.M c o else w'.cell? ⟨c,o,none⟩,bT:=g.bT,obj:=g.obj,own:=λc=>if c<n then g.own c else none,lk:=g.lk,fm:=g.fm }
variable{P:aY}{gl:Gl}{d:Nat}{H:Hp}{g g':Gh}{w w':aQ}
theorem Wn{dd:Nat}{An:List bq}(El:p7 g' An w')(hf:Fr dd [] g.bare w g' w'):Gh.Le 0 g' (Gh.tL w.heap.size g w'):=by
 refine⟨λc o v h=>?_,λb h=>by omega,hf.le.obj.symm,λ_ _ _ h=>by omega⟩
 simp only[Gh.tL];split
 next hc=>rw[<- (kT hf hc).2.2 o];exact h
 ·exact El.mem c o v h
theorem zgI{n dd:Nat}{bs:List bq}(hw:p7 g bs w)(hf:Fr dd [] g.bare w g' w'):gS d none none n g w (Gh.tL w.heap.size g w') w':=by
 refine⟨⟨λc o v h=>?_,λ_ _=>rfl,rfl,λ_ _ _ _ h=>h⟩,λc hc _ _=>(kT hf hc).1,λc hc _=>by simp[Gh.tL,hc],λc hc _ o=>by simp[Gh.tL,hc],hf.size,λ_ _ _=>rfl,λ_ h=>(by cases h),λ_ h=>(by cases h),λ_ _ _ _=>rfl,hf.os,hf.tape,hf.output⟩
 have:=zbx (hw.mem c o v h);simp[Gh.tL,this,h]
theorem zeE{dd:Nat}(hw:p7 g H.az w){An:List bq}(_hw':p7 g' An w')(hf:Fr dd [] g.bare w g' w'):lW d H g w H (Gh.tL w.heap.size g w') w' where
 di :=
  {mem:=λc o v h=>by
    simp only[Gh.tL] at h;split at h
    next hc=>have h0:=hw.mem c o v h;simp only[World.cell?,(kT hf hc).1] at h0 ⊢;exact h0
    ·exact h
   lt:=λb h=>uO (hw.lt b h) hf.size
   inj:=hw.inj
   apart:=λb h o=>by simp only[Gh.tL,hw.lt b h,aI];exact hw.apart b h o
   eI:=λc l h=>by
    simp only[Gh.tL] at h;split at h
    ·exact uO (hw.eI c l h) hf.size
    ·cases h
   dN:=λb h=>by simp only[Gh.tL,hw.lt b h,aI];exact hw.dN b h
   ok:=λb x hx=>by
    have bW:b<H.az.length:=(dA.1 hx).1;exact fR.same (d:=d) (zgI hw hf) (by simp) bW (hw.lt b bW) (hw.dN b bW) (λ_ h=>by cases h) (λc h1 h2=>by omega) (hw.aL b x hx) (hw.ok b x hx)
   aL:=hw.aL
   laid:=λc hc=>by
    obtain⟨⟨cs,t,h1⟩,h2,h3⟩:=hw.laid c hc;have bW:=(s_.1 h1).1
    exact⟨⟨cs,t,by rw[(kT hf bW).1];exact h1⟩,by simp only[Gh.tL,bW,aI];exact h2,h3⟩ }
 fr:=⟨(zgI (d:=d) (n:=H.az.length) hw hf).le,λc hc=>(kT hf hc.1).1,λc hc=>by simp[Gh.tL,hc.1],λc hc o=>by simp[Gh.tL,hc.1],hf.size,λ_ _ _=>rfl,hf.os,hf.tape,hf.output⟩
 len:=dB _
 dZ:=λb h1 h2=>by omega
 bJ:=λb x hx=>.inr (.inr ⟨x,hx,dB _⟩)
 DH:=λ_ h=>h
 lK:=λ_ _ h=>h
inductive mG(H:Hp):V->V->Prop where
 |same {v:V}:v.top=0->mG H v v
 |sr {b off len cap:Nat} {cs:aG} {t:aD}:H.az[b]?=some (.cells cs t)->aL cs=0->off+len<=cs.length->mG H (.sr b off len cap) (.sl 1 ((cs.drop off).take len) .no)
 |ul {b u len:Nat} {cs:aG} {e:aD}:H.az[b]?=some (.ul u 1 cs e)->aL cs=0->mG H (.dF b u len) (.sl 1 cs .no)
 |sl {xs ys:aG} {o:uj}:xs.length=ys.length->(∀(j:Nat)(x:V),xs[j]?=some x->x.cells=[x]/\x.one=true)->(∀(j:Nat)(y:V),ys[j]?=some y->y.cells=[y]/\y.one=true)->(∀(j:Nat)(x y:V),xs[j]?=some x->ys[j]?=some y->mG H x y)->mG H (.sl 1 xs o) (.sl 1 ys .no)
 |agg {xs ys:aG}:xs.length=ys.length->(∀(j:Nat)(y:V),ys[j]?=some y->y.one=true)->(∀(j:Nat)(x y:V),xs[j]?=some x->ys[j]?=some y->mG H x y)->mG H (.agg xs) (.agg ys)
 |bx {xs ys:aG}:xs.length=ys.length->(∀(j:Nat)(x y:V),xs[j]?=some x->ys[j]?=some y->mG H x y)->mG H (.bx xs) (.bx ys)
theorem mH:∀{xs:aG},(∀(j:Nat)(x:V),xs[j]?=some x->x.cells=[x])->zK xs=xs
 | [],_=>rfl
 | x::xs,h=>by
  have h0:=h 0 x rfl;have ih:=mH (xs:=xs) λj y hy=>h (j+1) y hy;simp only[zK,Eb] at ih ⊢;rw[h0,ih];rfl
theorem SW{x:V}(h:x.one=true):x.cells=[x]:=by
 cases x<;>first|rfl|(simp[V.one,Du] at h)
theorem mG.top{v v':V}(h:mG H v v'):v'.top=0:=by
 have hz:∀{l:aG},(∀y∈l,y.top=0)->aL l=0:=λ{l} hl=>Nat.le_zero.1 (qO λy hy=>by rw[hl y hy];exact dB _)
 induction h with
 | same h=>exact h
 | sr hb hc hl =>
  simp only[V.top];refine hz λy hy=>?_;have:=zn (BP (Bt hy));omega
 | ul hb hc=>simp only[V.top];exact hc
 | sl hl h1 h2 h3 ih =>
  simp only[V.top];refine hz λy hy=>?_;obtain⟨j,hj,e⟩:=List.getElem_of_mem hy;exact ih j _ y (gG (by omega)) (by rw[gG hj,e])
 | agg hl h1 h2 ih =>
  simp only[V.top];refine hz λy hy=>?_;obtain⟨j,hj,e⟩:=List.getElem_of_mem hy;exact ih j _ y (gG (by omega)) (by rw[gG hj,e])
 | bx hl h2 ih =>
  simp only[V.top];refine hz λy hy=>?_;obtain⟨j,hj,e⟩:=List.getElem_of_mem hy;exact ih j _ y (gG (by omega)) (by rw[gG hj,e])
theorem mG.Li{H':Hp}{G:Gh}(El:p7 g' H'.az w')(hle:Gh.Le 0 g' G)(dy:∀b,b<H'.az.length->∀o v,w'.cell? ⟨g'.bT b,o,none⟩=some v->G.M (g'.bT b) o=some v)
  (cC:∀b c,b<H'.az.length->(c=g'.bT b\/g'.own c=some (.cell b 0))->∀o v,w'.cell? ⟨c,o,none⟩=some v->G.M c o=some v) {v v':V} (h:mG H' v v'):∀{cv:bC},aX g' v cv->aX G v' cv:=by
 induction h with
 | same h=>intro cv hr;exact hr.le hle (by omega)
 | sr hb hc hl =>
  rename_i b off len cap cs t;intro cv hr;cases hr with
  | sr ov =>
   have bW:b<H'.az.length:=(dA.1 hb).1;obtain⟨arr,h1,h2,h3⟩:=El.ok b _ hb;have hlen:((cs.drop off).take len).length=len:=by simp;omega
   have gI:∀(j:Nat)(x:V),((cs.drop off).take len)[j]?=some x->cs[off+j]?=some x/\j<len:=λj x hx=>by
    rw[Ak] at hx;split at hx
    ·rw[G4] at hx;exact⟨hx,by assumption⟩
    ·cases hx
   have sE:∀(j:Nat)(x:V),((cs.drop off).take len)[j]?=some x->x.one=true/\∃a,arr[off+j]?=some a/\aX g' x a:=λj x hx=>by
    obtain⟨e1,e2⟩:=gI j x hx;have hj:off+j<arr.size:=by rw[<- h2];exact(dA.1 e1).1
    have:=h3 (off+j) x _ e1 (D_ hj);exact⟨this.1,_,D_ hj,this.2.1⟩
   have nZ:zK ((cs.drop off).take len)=(cs.drop off).take len:=mH λj x hx=>SW (sE j x hx).1;have:=aX.sl (g:=G) (sz:=1) (xs:=(cs.drop off).take len) (ow:=.no) (a:=some ⟨g'.bT b,off,none⟩) (cap:=cap) (c:=g'.bT b) (o:=off) (λj=>arr[off+j]?.getD (.bool false))
    (λx hx=>by
     obtain⟨j,hj,e⟩:=List.getElem_of_mem hx
     rw[SW (sE j x (by rw[gG hj,e])).1];rfl)
    (by rw[hlen];exact ov) (λ_=>rfl)
    (λj x hx=>(sE j x (by rwa [nZ] at hx)).1)
    (λj x hx=>by
     rw[nZ] at hx;obtain⟨_,a,ha,_⟩:=sE j x hx;refine dy b bW _ _ ?_;simp only[World.cell?,h1,ha]
     simp[])
    (λj x hx=>by
     rw[nZ] at hx;obtain⟨_,a,ha,hr⟩:=sE j x hx;simp only[ha,gm];refine hr.le hle ?_;have:=zn (BP (Bt (pG hx)))
     omega)
   rw[hlen] at this;exact this
 | ul hb hc =>
  rename_i b u len cs e;intro cv hr;have bW:b<H'.az.length:=(dA.1 hb).1;obtain⟨c,l0,cap,vs,hu⟩:=El.ok b _ hb;cases hr with
  | dF hh =>
   rw[hu.fm] at hh;cases hh;obtain⟨BC,hr|⟨c',oU,cur,hv,h0,lq,h5,h6,h7,h8⟩⟩:=hu.row
   ·cases hr.1
   cases hv;have hlen:cs.length=len:=by rw[hu.len,BC,I5]
   have EO:∀(j:Nat)(x:V),cs[j]?=some x->∃v,vs[j]?=some v/\x.one=true/\aX g' x v/\w'.cell? ⟨c,j,none⟩=some v:=λj x hx=>by
    have hj:=(dA.1 hx).1;obtain⟨v0,Nn⟩:∃v0,vs[j]?=some v0:=⟨vs[j]'(by rw[<- hu.len];exact hj),gG _⟩
    obtain⟨k1,k2⟩:=hu.cells j x _ hx Nn;refine⟨_,Nn,k1,k2,?_⟩;rw[<- h8,Ak] at Nn;split at Nn<;>try (cases Nn;done)
    rw[cell_of_row w' c j cur e (0,0) lq];simpa using Nn
   have nZ:zK cs=cs:=mH λj x hx=>SW (EO j x hx).choose_spec.2.1;rw[<- hlen];refine .sl (sz:=1) (xs:=cs) (ow:=.no) (c:=c) (o:=0) (λj=>vs[j]?.getD (.bool false)) (λx hx=>?_) (by rw[hlen];exact h5) (λ_=>rfl) (λj x hx=>?_) (λj x hx=>?_) (λj x hx=>?_)
   ·obtain⟨j,hj⟩:=List.getElem?_of_mem hx;rw[SW (EO j x hj).choose_spec.2.1];rfl
   ·rw[nZ] at hx;exact(EO j x hx).choose_spec.2.1
   ·rw[nZ] at hx;obtain⟨v,k0,_,_,k3⟩:=EO j x hx;rw[k0,oh];exact cC b c bW hu.BS j v k3
   ·rw[nZ] at hx;obtain⟨v,k0,_,k2,_⟩:=EO j x hx;rw[k0];exact k2.le hle (by have:=zn (zw hx);omega)
 | sl hl h1 h2 h3 ih =>
  rename_i xs ys o;intro cv hr;have hfx:zK xs=xs:=mH λj x hx=>(h1 j x hx).1;have Wo:zK ys=ys:=mH λj y hy=>(h2 j y hy).1;cases hr with
  | sl f e1 e2 e3 e4 e5 e6 =>
   rw[hfx] at e4 e5 e6;rw[hl];have hx:∀(j:Nat)(y:V),ys[j]?=some y->∃x,xs[j]?=some x:=λj y hy=>⟨_,gG (by rw[hl];exact(dA.1 hy).1)⟩
   refine .sl f (λy hy=>?_) (by rw[<- hl];exact e2) (λcK=>e3 λe=>cK (G0 (by rw[<- hl,e];rfl))) (λj y hy=>?_) (λj y hy=>?_) (λj y hy=>?_)
   ·obtain⟨j,hj,e⟩:=List.getElem_of_mem hy;rw[(h2 j y (by rw[gG hj,e])).1];rfl
   ·rw[Wo] at hy;exact(h2 j y hy).2
   ·rw[Wo] at hy;obtain⟨x,hx⟩:=hx j y hy;exact hle.M _ _ _ (e5 j x hx)
   ·rw[Wo] at hy;obtain⟨x,hx⟩:=hx j y hy;exact ih j x y hx hy (e6 j x hx)
 | agg hl h1 h2 ih =>
  rename_i xs ys;intro cv hr;cases hr with
  | agg e1 e2 e3 =>
   refine .agg (by rw[<- hl,e1]) (λj y hy=>h1 j y hy) λj y v hy hv=>?_
   have Pc:xs[j]?=some (xs[j]'(by rw[hl];exact(dA.1 hy).1)):=gG _
   exact ih j _ y Pc hy (e3 j _ v Pc hv)
 | bx hl h2 ih =>
  rename_i xs ys;intro cv hr;cases hr with
  | bx e1 e3 =>
   refine .bx (by rw[<- hl,e1]) λj y v hy hv=>?_
   have Pc:xs[j]?=some (xs[j]'(by rw[hl];exact(dA.1 hy).1)):=gG _
   exact ih j _ y Pc hy (e3 j _ v Pc hv)
theorem mG.rel{dd:Nat}{H':Hp}(El:p7 g' H'.az w')(hf:Fr dd [] g.bare w g' w')(dY:∀b,b<H'.az.length->w.heap.size<=g'.bT b){v v':V}(h:mG H' v v'){cv:bC}(hr:aX g' v cv):aX (Gh.tL w.heap.size g w') v' cv:=by
 refine h.Li El (Wn El hf) (λb hb o v hv=>?_) (λb c hb hc o v hv=>?_) hr
 ·simp only[Gh.tL,if_neg (Nat.not_lt.2 (dY b hb))];exact hv
 ·have uR:¬c<w.heap.size:=λbW=>by
   rcases hc with e|e
   ·have:=dY b hb;omega
   ·rw[(kT hf bW).2.1] at e;cases e
  simp only[Gh.tL,if_neg uR];exact hv
theorem Pd(o5:P.follows .mixedOrders=true)(fN:yE P)(dQ:wY P)(DK:nt P gl){n:Nat}{f:FuncId}{args:aG}{v v':V}{H':Hp}
  (hc:zj P gl n f args ⟨[],[]⟩=some (.ret v,H')) (ht:aL args=0) (hv:mG H' v v') (e_:∀sz xs e,v'≠.sl sz xs (.yes e)) {bG:dR} {l:Loc} (h1:iu P gl g) (h2:p7 g H.az w) (h3:eS g H.az.length args bG) :
  Calls P f bG w (fA d H g w l (.ret v') H):=by
 refine Calls.mono (yW o5 fN dQ DK n f args ⟨[],[]⟩ _ _ hc g.bare w bG l (h1.le od) (Wl h2) ⟨h3.len,λj x c hx iW=>(h3.rel j x c hx iW).le od (cZ (zn (zw hx)) (by omega)),by simp[ht],h3.no⟩) λe w' he=>?_
 cases e with
 | returned cv =>
  obtain⟨u,g',e1,e2,e3,e4,_⟩:=he;cases e1;refine⟨v',_,rfl,zeE h2 e2.di e2.fr,hv.rel e2.di e2.fr (λb hb=>e2.dZ b (dP _) hb) e3,?_,by rw[hv.top];exact dP _⟩
  unfold cW;split
  next sz xs e=>exact absurd rfl (e_ sz xs e)
  ·trivial
 | panicked chain =>
  obtain⟨u,cv,g',e1,_⟩:=he;cases e1
 | outgrown=>exact he.elim
end
section
variable{cx:Cx}{n:Nat}{all:Array Oper}{takes:cw}
def W(cx:Cx)(n:Nat)(c:Code)(s:St)(Q:Ex->St->Prop):Prop:=∃ex s',cx.code n c s=some (ex,s')/\Q ex s'
def O(cx:Cx)(all:Array Oper)(takes:cw)(ops:List Oper)(s:St)(Q:Ex->St->Prop):Prop:=∃ex s',cx.ops all takes ops s=some (ex,s')/\Q ex s'
theorem Jr{α β:Type}{a:α}{b:β}{Q:α->β->Prop}:(∃x y,(a=x/\b=y)/\Q x y) ↔ Q a b :=
 ⟨λ⟨_,_,⟨h1,h2⟩,h⟩=>by subst h1 h2;exact h,λh=>⟨_,_,⟨rfl,rfl⟩,h⟩⟩
def HP(K:St->Prop)(Q:Ex->St->Prop):Ex->St->Prop
 | .normal,s=>K s
 | ex,s=>Q ex s
@[simp] theorem aO {K:St->Prop} {Q:Ex->St->Prop} {s:St}:HP K Q .normal s=K s:=rfl
@[simp] theorem bN {K:St->Prop} {Q:Ex->St->Prop} {s:St} {i:Nat}:HP K Q (.exit i) s=Q (.exit i) s:=rfl
@[simp] theorem l8 {K:St->Prop} {Q:Ex->St->Prop} {s:St}:HP K Q .ret s=Q .ret s:=rfl
@[simp] theorem SX {K:St->Prop} {Q:Ex->St->Prop} {s:St} {v:V}:HP K Q (.pX v) s=Q (.pX v) s:=rfl
@[simp] theorem Pe {K:St->Prop} {Q:Ex->St->Prop} {s:St} {i:Nat}:HP K Q (.goto i) s=Q (.goto i) s:=rfl
def bT(id:Nat)(Q:Ex->St->Prop):Ex->St->Prop
 | .exit i,s=>Q (if Nat.beq i id then .normal else .exit i) s
 | ex,s=>Q ex s
@[simp] theorem Lj {id:Nat} {Q:Ex->St->Prop} {s:St}:bT id Q .normal s=Q .normal s:=rfl
@[simp] theorem Pf {id i:Nat} {Q:Ex->St->Prop} {s:St}:bT id Q (.exit i) s=Q (if Nat.beq i id then .normal else .exit i) s:=rfl
@[simp] theorem SY {id:Nat} {Q:Ex->St->Prop} {s:St}:bT id Q .ret s=Q .ret s:=rfl
@[simp] theorem SZ {id:Nat} {Q:Ex->St->Prop} {s:St} {v:V}:bT id Q (.pX v) s=Q (.pX v) s:=rfl
@[simp] theorem Pg {id i:Nat} {Q:Ex->St->Prop} {s:St}:bT id Q (.goto i) s=Q (.goto i) s:=rfl
theorem zo6{s:St}{Q:Ex->St->Prop}:W cx n .skip s Q ↔ Q .normal s:=by
 unfold W;simp[Cx.code,Jr]
theorem zpQ{s:St}{Q:Ex->St->Prop}:W cx n .ret s Q ↔ Q .ret s:=by
 unfold W;simp[Cx.code,Jr]
theorem zo7{s:St}{i:Nat}{Q:Ex->St->Prop}:W cx n (.exit i) s Q ↔ Q (.exit i) s:=by
 unfold W;simp[Cx.code,Jr]
theorem zpR{a b:Code}{s:St}{Q:Ex->St->Prop}:W cx n (.seq a b) s Q ↔ W cx n a s (HP (λs=>W cx n b s Q) Q):=by
 unfold W;simp only[Cx.code];cases h:cx.code n a s with
 | none=>simp
 | some r =>
  obtain⟨ex,s1⟩:=r;cases ex<;>simp[Jr]
theorem znw{id:Nat}{c:Code}{s:St}{Q:Ex->St->Prop}:W cx n (.block id c) s Q ↔ W cx n c s (bT id Q):=by
 unfold W;simp only[Cx.code];cases h:cx.code n c s with
 | none=>simp
 | some r =>
  obtain⟨ex,s1⟩:=r;cases ex<;>simp[Jr]
theorem zlt{id:Nat}{ops:Array Oper}{env:aG}{H:Hp}{lk:aP}{df:bS}{Q:Ex->St->Prop} :
  W cx n (.region id ops false) ⟨env,H,lk,df⟩ Q ↔ O cx ops (jQ ops) ops.toList ⟨env,H,[],df⟩ Q:=by
 unfold W O;simp only[Cx.code]
theorem zpS{s:St}{Q:Ex->St->Prop}:O cx all takes [] s Q ↔ Q .normal s:=by
 unfold O;simp[Cx.ops,Jr]
def E4(dst:fz)(K:St->Prop)(Q:Ex->St->Prop):Option (OR×St)->Prop
 | some (.val v,⟨env,H,lk,df⟩)=>K ⟨aq env dst v,H,lk,df⟩
 | some (.skip,⟨env,H,lk,df⟩)=>K ⟨aq env dst (.bx []),H,lk,df⟩
 | some (.pX v,s)=>Q (.pX v) s
 | none=>False
@[simp] theorem aN {dst:fz} {K:St->Prop} {Q:Ex->St->Prop} {v:V} {env:aG} {H:Hp} {lk:aP} {df:bS}:E4 dst K Q (some (.val v,⟨env,H,lk,df⟩))=K ⟨aq env dst v,H,lk,df⟩:=rfl
@[simp] theorem bB {dst:fz} {K:St->Prop} {Q:Ex->St->Prop} {env:aG} {H:Hp} {lk:aP} {df:bS}:E4 dst K Q (some (.skip,⟨env,H,lk,df⟩))=K ⟨aq env dst (.bx []),H,lk,df⟩:=rfl
@[simp] theorem S0 {dst:fz} {K:St->Prop} {Q:Ex->St->Prop} {v:V} {s:St}:E4 dst K Q (some (.pX v,s))=Q (.pX v) s:=rfl
@[simp] theorem Ph {dst:fz} {K:St->Prop} {Q:Ex->St->Prop}:E4 dst K Q none=False:=rfl
theorem znx{dst:fz}{op:Op}{type:aD}{pos:String}{after:Array Edge}{os:List Oper}{env:aG}{H:Hp}{lk:aP}{df:bS}{Q:Ex->St->Prop} :
  O cx all takes (⟨dst,op,type,pos,after,none⟩::os) ⟨env,H,lk,df⟩ Q ↔ E4 dst (λs=>O cx all takes os s Q) Q (cx.op takes ⟨dst,op,type,pos,after,none⟩ env H lk df):=by
 unfold O;simp only[Cx.ops,zZ];cases h:cx.op takes ⟨dst,op,type,pos,after,none⟩ env H lk df with
 | none=>simp
 | some r =>
  obtain⟨r,s1⟩:=r;obtain⟨cR,H1,eE,eD⟩:=s1;cases r<;>simp[jR,Jr]
end
section
variable{cx:Cx}{takes:cw}{P:aY}{gl:Nat->Nat->cj}{dst:fz}{type:aD}{pos:String}{after:Array Edge}{guard:oq}{env:aG}{H:Hp}{lk:aP}{df:bS}
def iy(env:aG)(H:Hp)(lk:aP)(df:bS):cj->Option (OR×St)
 | some v=>some (.val v,⟨env,H,lk,df⟩)
 | none=>none
theorem zq{v:V}:iy env H lk df (some v)=some (.val v,⟨env,H,lk,df⟩):=rfl
theorem vC{x y:cj}:x=y->(match x with|none=>none|some v=>some (OR.val v,(⟨env,H,lk,df⟩:St)))=iy env H lk df y:=by
 rintro rfl;cases x<;>rfl
def jd(env:aG)(t:Nat):cj->Option (V×aG)
 | some (.sl sz xs (.yes e))=>some (.sl sz xs (.yes e),env.set t (.sl sz xs .no))
 | some v=>some (bg v,env)
 | none=>none
theorem zL{t:Nat}:take env (.tmp t)=jd env t (nth env t):=by
 simp only[take,jd,eP];rfl
theorem qI{v:bC}:take env (.const v)=(aj v).map (·,env):=rfl
theorem qo{t:Nat}{k:IntKind}{n:Int}:jd env t (some (.int k n))=some (.int k n,env):=rfl
theorem jt{t:Nat}{b:Bool}:jd env t (some (.bool b))=some (.bool b,env):=rfl
theorem qZ{t:Nat}{s:aG}:jd env t (some (.agg s))=some (.agg s,env):=rfl
theorem jK{t b o:Nat}:jd env t (some (.ptr b o))=some (.ptr b o,env):=rfl
theorem jk{t:Nat}:jd env t (some .aH)=some (.aH,env):=rfl
theorem kn{t sz:Nat}{xs:aG}:jd env t (some (.sl sz xs .no))=some (.sl sz xs .no,env):=rfl
theorem Wp{t:Nat}:jd env t (some .bP)=some (.bP,env):=rfl
theorem zeF{t:Nat}{u:aD}{v:V}:jd env t (some (.dX u v))=some (.dX u v,env):=rfl
theorem zi5{d:Tmp}{x:a_}(h:takes.any (Nat.beq d)=false):cx.op takes ⟨some d,.move x,type,pos,after,guard⟩ env H lk df=iy env H lk df (ak env x):=by
 simp only[Cx.op,h];exact vC rfl
def S2(H:Hp)(lk:aP)(df:bS):Option (V×aG)->Option (OR×St)
 | some (v,env)=>some (.val v,⟨env,H,lk,df⟩)
 | none=>none
theorem z8{v:V}:S2 H lk df (some (v,env))=some (.val v,⟨env,H,lk,df⟩):=rfl
theorem zlu{d:Tmp}{x:a_}(h:takes.any (Nat.beq d)=true):cx.op takes ⟨some d,.move x,type,pos,after,guard⟩ env H lk df=S2 H lk df (take env x):=by
 simp only[Cx.op,h];cases take env x<;>rfl
theorem z6{x:a_}:cx.op takes ⟨dst,.assign x,type,pos,after,guard⟩ env H lk df=S2 H lk df (take env x):=by
 simp only[Cx.op];cases take env x<;>rfl
def Wq(a b:cj):cj->cj
 | some (.bool true)=>a
 | some (.bool false)=>b
 | _=>none
theorem kY{c a b:a_}:cx.op takes ⟨dst,.pick c a b,type,pos,after,guard⟩ env H lk df=iy env H lk df (Wq (ak env a) (ak env b) (ak env c)):=by
 simp only[Cx.op];refine vC ?_;simp only[jc];cases h:ak env c with
 | none=>rfl
 | some v=>cases v<;>first|rfl|(rename_i t;cases t<;>rfl)
theorem ko{t:aD}{ps:Array (Nat×a_)}:cx.op takes ⟨dst,.build t ps,type,pos,after,guard⟩ env H lk df=iy env H lk df (kw cx.P t ps env):=by
 simp only[Cx.op];exact vC rfl
theorem S3{d:Tmp}{t:aD}{a:a_}(h:takes.any (Nat.beq d)=false):cx.op takes ⟨some d,.load t a,type,pos,after,guard⟩ env H lk df=iy env H lk df (((ak env a).bind (zk cx.P H cx.gl t)).map bg):=by
 simp only[Cx.op,h];refine vC ?_;simp only[jc];cases ak env a with
 | none=>rfl
 | some v=>cases h:zk cx.P H cx.gl t v<;>simp[h]
theorem zG{x:a_}:cx.op takes ⟨dst,.nilCheck x,type,pos,after,guard⟩ env H lk df=iy env H lk df ((ak env x).bind aa):=by
 simp only[Cx.op];exact vC rfl
def q0(P:aY)(op:BinOp)(t:aD)(x y:a_):cj->cj->cj
 | some u,some v=>if jz P op t x y u v then wX P op t u v else none
 | _,_=>none
theorem zW{o:BinOp}{t u:aD}{x y:a_}:cx.op takes ⟨dst,.binOp o t x y u,type,pos,after,guard⟩ env H lk df=iy env H lk df (q0 cx.P o t x y (ak env x) (ak env y)):=by
 simp only[Cx.op];refine vC ?_;simp only[jc];cases ak env x<;>cases ak env y<;>rfl
theorem kO{o:UnOp}{t:aD}{x:a_}:cx.op takes ⟨dst,.unOp o t x,type,pos,after,guard⟩ env H lk df=iy env H lk df ((ak env x).bind (i_ o)):=by
 simp only[Cx.op];exact vC rfl
theorem vZ{a b:aD}{x:a_}(hu:cx.uq (w8 a)=false)(hm:Nat.beq a b=false):cx.op takes ⟨dst,.convert a b x,type,pos,after,guard⟩ env H lk df=iy env H lk df ((ak env x).bind (vz cx.P a b)):=by
 have hk:ye cx.P a b x env=none:=by
  unfold ye;rw[hm]
 simp only[Cx.op,hk,hu];exact vC rfl
theorem kZ{x:a_}{i:Nat}:cx.op takes ⟨dst,.extract x i,type,pos,after,guard⟩ env H lk df=iy env H lk df ((ak env x).bind λv=>match v with|.bx vs=>(nth vs i).map bg|_=>none):=by
 simp only[Cx.op];refine vC ?_;simp only[jc];cases ak env x with
 | none=>rfl
 | some v=>cases v<;>first|rfl|(rename_i vs;cases h:nth vs i<;>simp[h])
def ah(off:Nat):V->cj
 | .ptr b o=>some (.ptr b (o+off))
 | .eV g o=>some (.eV g (o+off))
 | .gk b u k=>some (.gk b u (k+off))
 | .vp cs=>some (.vp (cs.drop off))
 | _=>none
theorem zfy{t:aD}{x:a_}{f:Nat}{fs:Array Field}{fd:Field}{sz:Nat}(h1:cx.P.underlying t=some (.struct fs))(h2:fs[f]?=some fd)(h3:z4 cx.P fd.type=some sz)(h4:Nat.beq sz 0=false) :
  cx.op takes ⟨dst,.fieldAddr t x f,type,pos,after,guard⟩ env H lk df=iy env H lk df ((ak env x).bind (ah fd.offset)):=by
 simp only[Cx.op];refine vC ?_;simp only[jc,h1];have h5:¬sz=0:=Nat.ne_of_beq_eq_false h4;simp[h2,h3,h5];cases ak env x with
 | none=>rfl
 | some v=>cases v<;>rfl
def aF(f:V->Int->cj):cj->cj->cj
 | some x,some (.int _ i)=>f x i
 | _,_=>none
theorem zU{t:aD}{x i:a_}:cx.op takes ⟨dst,.indexAddr t x i,type,pos,after,guard⟩ env H lk df=iy env H lk df (aF (zt cx.P t) (ak env x) (ak env i)):=by
 simp only[Cx.op];refine vC ?_;simp only[jc];cases h:ak env i with
 | none=>cases ak env x<;>rfl
 | some v=>cases v<;>cases ak env x<;>rfl
theorem zlw{t:aD}{x i:a_}:cx.op takes ⟨dst,.index t x i,type,pos,after,guard⟩ env H lk df=iy env H lk df (aF (On cx.P t) (ak env x) (ak env i)):=by
 simp only[Cx.op];refine vC ?_;simp only[jc];cases h:ak env i with
 | none=>cases ak env x<;>rfl
 | some v=>cases v<;>cases ak env x<;>rfl
def S4(t:aD)(H:Hp)(lk:aP)(df:bS):Option (V×aG)->Option (OR×St)
 | some (v,env)=>if !dD v then none else some (.val (.ptr H.az.length 0),⟨env,H.push (.cells v.laid t),lk,df⟩)
 | none=>none
theorem wz{t:aD}{x:a_}:cx.op takes ⟨dst,.box t x,type,pos,after,guard⟩ env H lk df=S4 t H lk df (take env x):=by
 simp only[Cx.op,S4,ql,dj,qm];cases take env x<;>rfl
theorem qg{t:aD}{v:V}(h:dD v=true):S4 t H lk df (some (v,env))=some (.val (.ptr H.az.length 0),⟨env,H.push (.cells v.laid t),lk,df⟩):=by
 simp[S4,h]
def Pj(n:Nat)(H:Hp)(lk:aP)(df:bS):cj->Option (V×aG)->Option (OR×St)
 | some (.ptr b off),some (v,env)=>match H.get b with
  | some (.cells cs ty)=>if dD v && Nat.beq v.laid.length n && Nat.ble (off+n) cs.length && wr lk b off n (cs.drop off) then some (.skip,⟨env,(H.set b (.cells (storeCells cs off v.laid) ty)).bU b v,lk,df⟩) else none
  | _=>none
 | _,_=>none
theorem zlx{t:aD}{a x:a_}{n:Nat}(hn:z4 cx.P t=some n)(O6:∀b u k,ak env a≠some (.gk b u k)):cx.op takes ⟨dst,.store t a x,type,pos,after,guard⟩ env H lk df=Pj n H lk df (ak env a) (take env x):=by
 simp only[Cx.op,ql,dj,eH,ji,hn];cases ha:ak env a with
 | none=>rfl
 | some p =>
  cases p<;>try rfl
  case gk b u k=>exact absurd ha (O6 b u k)
  rename_i b off;cases take env x with
  | none=>rfl
  | some q =>
   simp only[Pj];cases H.get b with
   | none=>rfl
   | some y=>cases y<;>rfl
def aC(lk:aP)(df:bS)(env:aG):Option (OR×Hp)->Option (OR×St)
 | some (r,H)=>some (r,⟨env,H,lk,df⟩)
 | none=>none
theorem zP{r:OR}:aC lk df env (some (r,H))=some (r,⟨env,H,lk,df⟩):=rfl
def Wr(cx:Cx)(f:FuncId)(H:Hp)(lk:aP)(df:bS)(env:aG):Option aG->Option (OR×St)
 | some args=>aC lk df env (cx.bK f (args.map bg) H)
 | none=>none
theorem qP{f:FuncId}{args:aG}:Wr cx f H lk df env (some args)=aC lk df env (cx.bK f (args.map bg) H):=rfl
theorem kf{f:FuncId}{args:rT}{ts:Array aD}:cx.op takes ⟨dst,.call ⟨.value (.func f),args,ts⟩,type,pos,after,guard⟩ env H lk df=Wr cx f H lk df env (av env args.toList):=by
 simp only[Cx.op,ak];cases av env args.toList with
 | none=>rfl
 | some l=>simp only[Cx.mB,eH,bt,nk,Wr];cases cx.bK f (l.map bg) H<;>rfl
theorem zu{P:aY}{gl:Nat->Nat->cj}{uq:aD->Bool}{call:FuncId->aG->Hp->Option (Out×Hp)}{f:FuncId}{fn:Func}{body:Code}{args:aG}{v:V}{H':Hp}(hf:P.funcs[f]?=some fn)(hb:fn.body=some body)(hc:call f args H=some (.ret v,H')) :
  Cx.bK ⟨P,gl,call,uq⟩ f args H=some (.val v,H'):=by
 simp only[Cx.bK,hf,hb,hc,G8]
theorem kx{x:a_}{t:aD}:cx.op takes ⟨dst,.call ⟨.builtin .len,#[x],#[t]⟩,type,pos,after,guard⟩ env H lk df=iy env H lk df (((ak env x).bind (qW cx.P H t)).map (.int .i64)):=by
 simp only[Cx.op,Cx.builtin];cases ak env x with
 | none=>rfl
 | some v=>cases h:qW cx.P H t v<;>simp[h,iy]
def BG(P:aY)(H:Hp)(t:aD)(lk:aP)(df:bS)(y:cj):Option (V×aG)->Option (OR×St)
 | some (v,env)=>match y.bind (kb P H t v) with
  | some u=>some (.val u,⟨env,H,lk,df⟩)
  | none=>none
 | none=>none
theorem ky{x y:a_}{t:aD}(hu:rC cx.P cx.uq t=false):cx.op takes ⟨dst,.call ⟨.builtin .append,#[x,y],#[t,t]⟩,type,pos,after,guard⟩ env H lk df=BG cx.P H t lk df (ak env y) (take env x):=by
 simp only[Cx.op,Cx.builtin,hu,iV,mw,gh,bD];cases hy:ak env y with
 | none=>cases hx:take env x<;>simp[BG]
 | some v =>
  cases hx:take env x with
  | none=>simp[BG]
  | some p =>
   obtain⟨u,e⟩:=p;cases h:kb cx.P H t u v<;>simp[BG,h]
end
section
variable{P:aY}{gl:Gl}
def Fin(P:aY)(rs:List ResultVar)(n0:Nat)(es:aP)(out:Out)(H':Hp):Ex->St->Prop
 | .normal,⟨env,H,_,df⟩|.ret,⟨env,H,_,df⟩=>df=[]/\∃vs,zy P H env rs=some vs/\out=.ret (j_ vs)/\H'=zX n0 es (j_ vs).top H
 | .pX v,⟨_,H,_,df⟩=>df=[]/\out=.pX v/\H'=zX n0 es v.top H
 | _,_=>False
theorem Ws{n:Nat}{f:FuncId}{fn:Func}{body:Code}{args:aG}{bs:List bq}{es:aP}{out:Out}{H':Hp}(hk:gl.hk f args=none)(fq:∀H,gl.fq n f args H=none)(hf:P.funcs[f]?=some fn)(hb:fn.body=some body)
  (h:W ⟨P,gl,zj P gl n,gl.uq⟩ n body ⟨args++List.replicate (fn.ntmps - args.length) (.bx []),⟨bs++[],[]⟩,[],[]⟩ (Fin P fn.results.toList bs.length es out H')):zj P gl (n+1) f args ⟨bs,es⟩=some (out,H'):=by
 obtain⟨ex,⟨env,H,lk,df⟩,h1,h2⟩:=h;rw[nk] at h1;simp only[zj,hk,fq,hf,hb,qw,eH,h1];cases ex<;>simp only[Fin] at h2
 ·obtain⟨rfl,vs,h3,h4,h5⟩:=h2;simp[AK,Sk,vh,h3,h4,h5,ql,kX]
 ·obtain⟨rfl,vs,h3,h4,h5⟩:=h2;simp[AK,Sk,vh,h3,h4,h5,ql,kX]
 ·obtain⟨rfl,h4,h5⟩:=h2;simp[AK,Sk,vh,h4,h5,kX]
theorem zY{bs ls:List bq}{es:aP}{t:Nat}(ht:t<=bs.length):zX bs.length es t ⟨bs++ls,[]⟩=⟨bs,es⟩:=by
 have:Nat.ble t bs.length=true:=G1 ht;simp[zX,this]
theorem get_at{bs ls:List bq}{es:aP}{k:Nat}:Hp.get ⟨bs++ls,es⟩ (bs.length+k)=nth ls k:=by
 simp only[Hp.get,zg];rw[fM (by omega)]
 congr 1
 omega
theorem zd{α:Type}{x:α}{xs:List α}:nth (x::xs) 0=some x:=rfl
theorem ze{α:Type}{x:α}{xs:List α}{n:Nat}:nth (x::xs) (n+1)=nth xs n:=rfl
end
section
variable{takes:cw}
end
section
variable{cx:Cx}{n:Nat}{takes:cw}{P:aY}{gl:Nat->Nat->cj}{dst:fz}{type:aD}{pos:String}{after:Array Edge}{guard:oq}{env:aG}{H:Hp}{lk:aP}{df:bS}
def zH(P:aY)(t:aD)(f:Nat):Option Nat :=
 match P.underlying t with
 | some (.struct fs)=>match fs[f]? with
  | some fd=>match z4 P fd.type with
   | some m=>if Nat.beq m 0 then none else some fd.offset
   | none=>none
  | none=>none
 | _=>none
def Js(v:cj):Option Nat->cj
 | some off=>v.bind (ah off)
 | none=>none
theorem zT{v:cj}{off:Nat}:Js v (some off)=v.bind (ah off):=rfl
theorem zB{t:aD}{x:a_}{f:Nat}:cx.op takes ⟨dst,.fieldAddr t x f,type,pos,after,guard⟩ env H lk df=iy env H lk df (Js (ak env x) (zH cx.P t f)):=by
 unfold zH;cases h1:cx.P.underlying t with
 | none=>simp[Cx.op,jc,h1,Js,iy]
 | some d =>
  cases d<;>try (simp[Cx.op,jc,h1,Js,iy];done)
  rename_i fs;cases h2:fs[f]? with
  | none=>simp[Cx.op,jc,h1,h2,Js,iy]
  | some fd =>
   cases h3:z4 cx.P fd.type with
   | none=>simp[Cx.op,jc,h1,h2,h3,Js,iy]
   | some m =>
    cases m with
    | zero=>simp[Cx.op,jc,h1,h2,h3,Js,iy]
    | succ m=>rw[zfy h1 h2 h3 rfl];simp[Js,h2,h3]
def fieldAt(P:aY)(t:aD)(f:Nat):Option (aD×Nat) :=
 match P.underlying t with
 | some (.struct fs)=>(fs[f]?).map λfd=>(fd.type,fd.offset)
 | _=>none
def wP(cs:aG)(off:Nat):Option Bool->Option Nat->cj
 | some true,some n=>if off+n<=cs.length then some (.agg ((cs.drop off).take n)) else none
 | some false,_=>nth cs off
 | _,_=>none
theorem qy{t:aD}{cs:aG}{off:Nat}:kV P t cs off=wP cs off (qG P t) (z4 P t):=by
 unfold kV;cases qG P t with
 | none=>rfl
 | some b =>
  cases b with
  | false=>simp[wP]
  | true=>cases z4 P t<;>simp[wP]
theorem S5{cs:aG}{off:Nat}{s:Option Nat}:wP cs off (some false) s=nth cs off:=by cases s<;>rfl
theorem S6{cs:aG}{off n:Nat}:wP cs off (some true) (some n)=if off+n<=cs.length then some (.agg ((cs.drop off).take n)) else none:=rfl
def S7(P:aY)(t:aD)(off:Nat):Option bq->cj
 | some (.cells cs _)=>kV P t cs off
 | _=>none
theorem jB{t u:aD}{off:Nat}{cs:aG}:S7 P t off (some (.cells cs u))=kV P t cs off:=rfl
theorem jX{t:aD}{b off:Nat}:zk P H gl t (.ptr b off)=S7 P t off (H.get b):=by
 cases h:H.get b with
 | none=>simp[zk,h,S7]
 | some x=>cases x<;>simp[zk,h,S7]
theorem zo8{c:Code}{s:St}{Q:Ex->St->Prop}(Inv:Nat->St->Prop)(k:Nat)(hk:k<n)(h0:Inv k s)(mF:∀j s,Inv j s->W cx n c s (HP (λs'=>∃i,i<j/\Inv i s') Q)):W cx n (.loop c) s Q:=by
 unfold W;simp only[Cx.code];have key:∀(m:Nat)(s:St)(j:Nat),j<m->Inv j s->∃ex s',Kz (cx.code n c) m s=some (ex,s')/\Q ex s':=by
  intro m
  induction m with
  | zero=>intro s j h;omega
  | succ m ih =>
   intro s j hj hI;obtain⟨ex,s1,h1,h2⟩:=mF j s hI;simp only[Kz,h1];cases ex with
   | normal =>
    obtain⟨i,hi,tK⟩:=h2;exact ih s1 i (by omega) tK
   | _=>exact⟨_,_,rfl,h2⟩
 exact key n s k hk h0
end
section
variable{cx:Cx}{n:Nat}{all:Array Oper}{takes:cw}{dst:fz}{op:Op}{type:aD}{pos:String}{after:Array Edge}{os:List Oper}{env cR bM:aG}{H H1:Hp}{lk eE:aP}{df eD:bS}{v:V}{Q:Ex->St->Prop}
theorem wa{P:aY}{t:aD}{x y:a_}{k:IntKind}{a b:Int}:q0 P .add t x y (some (.int k a)) (some (.int k b))=some (.int k (k.wrap (a+b))):=by simp[q0,jz,wX,j3]
theorem kC{P:aY}{t:aD}{x y:a_}{k:IntKind}{a b:Int}:q0 P .sub t x y (some (.int k a)) (some (.int k b))=some (.int k (k.wrap (a - b))):=by simp[q0,jz,wX,j3]
theorem znz{P:aY}{t:aD}{x y:a_}{k:IntKind}{a b:Int}:q0 P .mul t x y (some (.int k a)) (some (.int k b))=some (.int k (k.wrap (a * b))):=by simp[q0,jz,wX,j3]
theorem wJ{P:aY}{t:aD}{x y:a_}{k:IntKind}{a b:Int}:q0 P .eql t x y (some (.int k a)) (some (.int k b))=some (.bool (a == b)):=by simp[q0,jz,yc,wX,j3]
theorem Pk{P:aY}{t:aD}{x y:a_}{k:IntKind}{a b:Int}:q0 P .neq t x y (some (.int k a)) (some (.int k b))=some (.bool (a != b)):=by simp[q0,jz,yc,wX,j3]
theorem qV{P:aY}{t:aD}{x y:a_}{k:IntKind}{a b:Int}:q0 P .lss t x y (some (.int k a)) (some (.int k b))=some (.bool (a<b)):=by simp[q0,jz,wX,j3]
theorem No{P:aY}{t:aD}{x y:a_}{k:IntKind}{a b:Int}:q0 P .leq t x y (some (.int k a)) (some (.int k b))=some (.bool (a<=b)):=by simp[q0,jz,wX,j3]
theorem wW{P:aY}{t:aD}{x y:a_}{k:IntKind}{a b:Int}:q0 P .gtr t x y (some (.int k a)) (some (.int k b))=some (.bool (a > b)):=by simp[q0,jz,wX,j3]
theorem S8{P:aY}{t:aD}{x y:a_}{k:IntKind}{a b:Int}:q0 P .geq t x y (some (.int k a)) (some (.int k b))=some (.bool (a ≥ b)):=by simp[q0,jz,wX,j3]
theorem zlz{P:aY}{t:aD}{x y:a_}{a b:bO}:q0 P .neq t x y (some (.str a)) (some (.str b))=some (.bool (!(ot a b))):=by simp[q0,jz,yc,wX,Om]
theorem qr{d:Tmp}{t:aD}{a:a_}{guard:oq}:cx.op [] ⟨some d,.load t a,type,pos,after,guard⟩ env H lk df=iy env H lk df (((ak env a).bind (zk cx.P H cx.gl t)).map bg):=S3 rfl
theorem zJ{d:Tmp}{x:a_}{guard:oq}:cx.op [] ⟨some d,.move x,type,pos,after,guard⟩ env H lk df=iy env H lk df (ak env x):=zi5 rfl
theorem zS{k:IntKind}{n:Int}:bg (.int k n)=.int k n:=rfl
theorem qR{b:Bool}:bg (.bool b)=.bool b:=rfl
theorem kP{s:bO}:bg (.str s)=.str s:=rfl
theorem je{s:aG}:bg (.agg s)=.agg s:=rfl
theorem wR{s:aG}:bg (.vp s)=.vp s:=rfl
theorem eT{s:aG}:bg (.bx s)=.bx s:=rfl
theorem qj{a b:Nat}:bg (.ptr a b)=.ptr a b:=rfl
theorem zlA{a b:Nat}:bg (.eV a b)=.eV a b:=rfl
theorem dr:bg .aH=.aH:=rfl
theorem mJ:bg .bP=.bP:=rfl
theorem wb{sz:Nat}{xs:aG}{o:uj}:bg (.sl sz xs o)=.sl sz xs .no:=rfl
theorem Np{a b c d:Nat}:bg (.sr a b c d)=.sr a b c d:=rfl
theorem zi7{t:aD}{v:V}:bg (.dX t v)=.dX t v:=rfl
end
def Nq(g:Nat):List (Nat×aG)->Option aG
 | []=>none
 | (k,vs)::r=>match Nat.beq g k with
  | true=>some vs
  | false=>Nq g r
def HQ(U:aD)(ks:bO)(T:List (Nat×aG)):Nat->Nat->cj:=λg o=>match Nq g T with
 | some vs=>nth vs o
 | none=>Nm U ks g o
def Wt(W:aQ)(x:Nat×aG):Prop:=∀(o:Nat)(v:V),x.2[o]?=some v->v.top=0/\∃cv,W.cell? ⟨x.1,o,none⟩=some cv/\∀g,aX g v cv
theorem Wu{g:Nat}{vs:aG}:∀{T:List (Nat×aG)},Nq g T=some vs->(g,vs)∈T
 | [],h=>by simp[Nq] at h
 | (k,us)::r,h=>by
  simp only[Nq] at h;split at h
  next hb=>simp only[bz] at h;rw[fo hb,h];exact fy ..
  ·exact eo _ (Wu h)
theorem zh4{W:aQ}{x:Nat×aG}(h:Wt W x){o:Nat}{U:aD}{j:Nat}:x.2[o]?≠some (.dX U (.obj j)):=by
 intro hv;obtain⟨_,cv,_,h3⟩:=h o _ hv;have k1:∀a,cv=.iface U (.pointer (some a)):=λa=>by
  have:=h3 { Gz W with obj:=⟨λ_=>a,λ_=>True⟩ };cases this with
  | dX h2 =>
   cases h2 with
   | obj k=>rfl
 have:=(k1 ⟨0,0,none⟩).symm.trans (k1 ⟨1,0,none⟩);simp at this
theorem zo9{P:aY}{U:aD}{ks:bO}{T:List (Nat×aG)}{W:aQ}(h:E3 U W ks)(hT:∀x∈T,Wt W x):iu P (HQ U ks T) (Gz W):=by
 have Gg:∀k u j,HQ U ks T k 0=some (.dX u (.obj j))->Nm U ks k 0=some (.dX u (.obj j)):=λk u j hv=>by
  unfold HQ at hv;split at hv
  next vs OQ=>rw[zg] at hv;exact absurd hv (zh4 (hT _ (Wu OQ)))
  ·exact hv
 have h0:=znv (P:=P) h;refine⟨?_,λk u j hv=>⟨(h0.2 k u j (Gg k u j hv)).1,λk' u' j' lV e=>(h0.2 k u j (Gg k u j hv)).2 k' u' j' (Gg k' u' j' lV) e⟩⟩;intro k off v hv;unfold HQ at hv;split at hv
 next vs OQ=>rw[zg] at hv;obtain⟨h1,cv,h2,h3⟩:=hT _ (Wu OQ) off v hv;exact⟨cv,h2,h3 _,h1⟩
 ·exact h0.1 k off v hv
theorem zgJ{α β:Type}{f:α->Option β}:∀{l:List α}{xs:List β},l.mapM f=some xs->xs.length=l.length/\∀(i:Nat)(a:α)(x:β),l[i]?=some a->xs[i]?=some x->f a=some x
 | [],xs,h=>by
  simp only[List.mapM_nil,Option.pure_def,bz] at h;subst h;exact⟨rfl,λi a x h=>by simp at h⟩
 | a::l,xs,h=>by
  simp only[List.mapM_cons,Option.pure_def,Option.bind_eq_bind,eM,bz] at h;obtain⟨y,hy,ys,th,rfl⟩:=h;obtain⟨h1,h2⟩:=zgJ th;refine⟨by simp[h1],λi b x hb hx=>?_⟩
  cases i with
  | zero=>simp at hb hx;subst hb;subst hx;exact hy
  | succ i=>exact h2 i b x (by simpa using hb) (by simpa using hx)
theorem zgK{P:aY}{W:aQ}{l:List (String×DataW Unit)}(h:laidMet P l W){nm:String}{ns:List Int}{k:IntKind}(hx:(nm,DataW.agg (ns.map λm=>.lit (.int k m)))∈l){g t n e:Nat}(hg:P.globalNamed nm=some g)(hgt:(P.globals[g]?).map (·.type)=some t)
  (ht:P.underlying t=some (.array n e)) (he:P.underlying e=some (.int k)) (hc:P.cellsOf e=1) (hn:P.cellsOf t=n):Wt W (g,ns.map (V.int k)):=by
 obtain⟨ps,hv,_,ek⟩:=h;obtain⟨g',t',cs,fuel,p,h1,h2,h3,h4,cC,_⟩:=O9 hv _ hx;rw[hg] at h1;cases h1;rw[hgt] at h2;cases h2;cases fuel with
 | zero=>simp[DataW.trod] at h4
 | succ fuel =>
  have BZ:∀i,i<cs.size->W.cell? ⟨g,i,none⟩=cs[i]?:=λi hi=>by
   have:=World.var?_cell hg h3 i;simpa using this
  obtain⟨l0⟩:=cs;simp only[DataW.trod,ht] at h4;split at h4<;>try (cases h4;done)
  rename_i hl;simp only[mS,cq,DataW.agg.injEq] at h4;obtain⟨xs,pE,e1,_⟩:=h4;obtain⟨m1,m2⟩:=zgJ pE;have lp:ns.length=n:=by
   have:=congrArg List.length e1;simp only[iK,m1,List.length_range] at this;exact this.symm
  intro o v hov;simp only[mu,mS] at hov;obtain⟨m,hm,rfl⟩:=hov;have ho:o<n:=by rw[<- lp];exact(dA.1 hm).1
  have hox:o<xs.length:=by rw[m1];simpa using ho
  have hxo:xs[o]?=some xs[o]:=gG hox;have hr:=m2 o o xs[o] (by simp[ho]) hxo
  have hd:xs[o].1=.lit (.int k m):=by
   have:=congrArg (λl=>l[o]?) e1;simp only[mu,hxo,hm,aW,bz] at this;exact this
  refine⟨rfl,?_⟩;have DF:o<l0.length:=by rw[hl,hn];exact ho
  have iB:l0[o]?=some l0[o]:=gG DF;have mq:(l0.drop (o * P.cellsOf e)).take (P.cellsOf e)=[l0[o]]:=by
   rw[hc,I5,F8 DF];rfl
  rw[mq] at hr;cases fuel with
  | zero=>simp[DataW.trod] at hr
  | succ fuel =>
   generalize sJ:l0[o]=c at hr iB;refine⟨c,?_,λg=>?_⟩
   ·rw[BZ o (by simpa using DF)];simpa using iB
   ·generalize xs[o]=y at hr hd;obtain⟨y1,y2⟩:=y;simp only at hd;subst hd;simp only[DataW.trod,he] at hr;cases c<;>simp at hr;obtain⟨⟨rfl,_⟩,rfl,_⟩:=hr;exact .int _ _
section
variable{cx:Cx}{n:Nat}
def au(cx:Cx)(o:Oper)(env:aG)(lk:aP):Bool :=
 match o.op with
 | .load t a=>match qG cx.P t with
  | some false=>true
  | _=>match ak env a with
   | some (.ptr b _)=>lk.all λp=>!(Nat.beq p.1 b)
   | _=>true
 | _=>true
def Cx.rj(cx:Cx)(all:Array Oper)(takes:cw):List Oper->St->Option St
 | [],s=>some s
 | o::os,⟨env,H,lk,df⟩=>match zZ all o env with
  | none=>none
  | some false=>cx.rj all takes os ⟨aq env o.dst (.bx []),H,lk,df⟩
  | some true=>match au cx o env lk with
   | false=>none
   | true=>match cx.op takes o env H lk df with
    | some (.val v,⟨env,H,lk,df⟩)=>cx.rj all takes os ⟨aq env o.dst v,H,lk,df⟩
    | some (.skip,⟨env,H,lk,df⟩)=>cx.rj all takes os ⟨aq env o.dst (.bx []),H,lk,df⟩
    | _=>none
inductive It where
 |c (c:Code)|eb (id:Nat)|os (all:Array Oper) (takes:cw) (l:List Oper)|on (all:Array Oper) (takes:cw) (l:List Oper)
def go(cx:Cx)(n:Nat)(Q:Ex->St->Prop):List It->Ex->St->Prop
 | [],ex,s=>Q ex s
 | .c c::k,.normal,s=>W cx n c s (go cx n Q k)
 | .c _::k,ex,s=>go cx n Q k ex s
 | .eb id::k,.exit i,s=>go cx n Q k (if Nat.beq i id then .normal else .exit i) s
 | .eb _::k,ex,s=>go cx n Q k ex s
 | .os all takes l::k,.normal,s=>O cx all takes l s (go cx n Q k)
 | .os _ _ _::k,ex,s=>go cx n Q k ex s
 | .on all takes l::k,.normal,s=>∃s',cx.rj all takes l s=some s'/\go cx n Q k .normal s'
 | .on _ _ _::k,ex,s=>go cx n Q k ex s
variable{Q:Ex->St->Prop}{k:List It}{s:St}{env:aG}{H:Hp}{lk:aP}{df:bS}{all:Array Oper}{takes:cw}{os:List Oper}
theorem S9{c:Code}(h:go cx n Q [.c c] .normal s):W cx n c s Q:=by
 have:(go cx n Q [])=Q:=by funext ex s;simp[go]
 simpa[go,this] using h
theorem zp{ex:Ex}:go cx n Q [] ex s ↔ Q ex s:=by simp[go]
theorem bH:go cx n Q (.c .skip::k) .normal s ↔ go cx n Q k .normal s:=by simp only[go];exact zo6
theorem zi{a b:Code}:go cx n Q (.c (.seq a b)::k) .normal s ↔ go cx n Q (.c a::.c b::k) .normal s:=by
 simp only[go,zpR];have:(HP (λs=>W cx n b s (go cx n Q k)) (go cx n Q k))=go cx n Q (.c b::k):=by
  funext ex s;cases ex<;>simp[go]
 rw[this]
theorem zx{id:Nat}{c:Code}:go cx n Q (.c (.block id c)::k) .normal s ↔ go cx n Q (.c c::.eb id::k) .normal s:=by
 simp only[go,znw];have:bT id (go cx n Q k)=go cx n Q (.eb id::k):=by
  funext ex s;cases ex<;>simp[go]
 rw[this]
theorem go_ret:go cx n Q (.c .ret::k) .normal s ↔ go cx n Q k .ret s:=by simp only[go];exact zpQ
theorem qk{i:Nat}:go cx n Q (.c (.exit i)::k) .normal s ↔ go cx n Q k (.exit i) s:=by simp only[go];exact zo7
theorem qE{id:Nat}:go cx n Q (.eb id::k) .normal s ↔ go cx n Q k .normal s:=by simp[go]
theorem zD{id i:Nat}:go cx n Q (.eb id::k) (.exit i) s ↔ go cx n Q k (if Nat.beq i id then .normal else .exit i) s:=by simp[go]
theorem wj{id:Nat}:go cx n Q (.eb id::k) .ret s ↔ go cx n Q k .ret s:=by simp[go]
theorem zN{c:Code}{i:Nat}:go cx n Q (.c c::k) (.exit i) s ↔ go cx n Q k (.exit i) s:=by simp[go]
theorem wg{c:Code}:go cx n Q (.c c::k) .ret s ↔ go cx n Q k .ret s:=by simp[go]
def HR(a b:Prop):cj->Prop
 | some (.bool true)=>a
 | some (.bool false)=>b
 | _=>False
theorem qT{c:a_}{a b:Code}:go cx n Q (.c (.cond c a b)::k) .normal ⟨env,H,lk,df⟩ ↔ HR (go cx n Q (.c a::k) .normal ⟨env,H,lk,df⟩) (go cx n Q (.c b::k) .normal ⟨env,H,lk,df⟩) (ak env c):=by
 simp only[go];unfold W;simp only[Cx.code];cases ak env c with
 | none=>simp[HR]
 | some v =>
  cases v with
  | bool t=>cases t<;>simp[HR]
  | _=>simp[HR]
theorem qK{a b:Prop}{t:Bool}:HR a b (some (.bool t)) ↔ (t=true/\a\/t=false/\b):=by cases t<;>simp[HR]
theorem zi8{a b:Prop}:HR a b (some (.bool true)) ↔ a:=Iff.rfl
theorem zi9{a b:Prop}:HR a b (some (.bool false)) ↔ b:=Iff.rfl
theorem DO{id:Nat}{ops:Array Oper}:go cx n Q (.c (.region id ops false)::k) .normal ⟨env,H,lk,df⟩ ↔ go cx n Q (.os ops (jQ ops) ops.toList::k) .normal ⟨env,H,[],df⟩:=by
 simp only[go];exact zlt
theorem aK:go cx n Q (.os all takes []::k) .normal s ↔ go cx n Q k .normal s:=by simp only[go];exact zpS
theorem qt{dst:fz}{op:Op}{type:aD}{pos:String}{after:Array Edge} :
  go cx n Q (.os all takes (⟨dst,op,type,pos,after,none⟩::os)::k) .normal ⟨env,H,lk,df⟩ ↔ E4 dst (λs=>go cx n Q (.os all takes os::k) .normal s) (go cx n Q k) (cx.op takes ⟨dst,op,type,pos,after,none⟩ env H lk df):=by
 simp only[go];exact znx
def GC(a b:Prop):Option Bool->Prop
 | some true=>a
 | some false=>b
 | none=>False
theorem j4{dst:fz}{op:Op}{type:aD}{pos:String}{after:Array Edge}{g:Nat×Bool} :
  go cx n Q (.os all takes (⟨dst,op,type,pos,after,some g⟩::os)::k) .normal ⟨env,H,lk,df⟩ ↔
   GC (E4 dst (λs=>go cx n Q (.os all takes os::k) .normal s) (go cx n Q k) (cx.op takes ⟨dst,op,type,pos,after,some g⟩ env H lk df)) (go cx n Q (.os all takes os::k) .normal ⟨aq env dst (.bx []),H,lk,df⟩) (zZ all ⟨dst,op,type,pos,after,some g⟩ env):=by
 simp only[go];unfold O;simp only[Cx.ops];cases zZ all ⟨dst,op,type,pos,after,some g⟩ env with
 | none=>simp[GC]
 | some b =>
  cases b with
  | false=>simp[GC,jR]
  | true =>
   simp only[GC];cases h:cx.op takes ⟨dst,op,type,pos,after,some g⟩ env H lk df with
   | none=>simp
   | some r =>
    obtain⟨r,s1⟩:=r;obtain⟨cR,H1,eE,eD⟩:=s1;cases r<;>simp[jR,Jr]
theorem bu:go cx n Q (.on all takes []::k) .normal s ↔ go cx n Q k .normal s:=by simp[go,Cx.rj]
theorem jY{dst:fz}{op:Op}{type:aD}{pos:String}{after:Array Edge} :
  go cx n Q (.on all takes (⟨dst,op,type,pos,after,none⟩::os)::k) .normal ⟨env,H,lk,df⟩ ↔ (au cx ⟨dst,op,type,pos,after,none⟩ env lk=true/\E4 dst (λs=>go cx n Q (.on all takes os::k) .normal s) (λ_ _=>False) (cx.op takes ⟨dst,op,type,pos,after,none⟩ env H lk df)):=by
 simp only[go,Cx.rj,zZ];cases au cx ⟨dst,op,type,pos,after,none⟩ env lk with
 | false=>simp
 | true =>
  cases h:cx.op takes ⟨dst,op,type,pos,after,none⟩ env H lk df with
  | none=>simp
  | some r =>
   obtain⟨r,s1⟩:=r;obtain⟨cR,H1,eE,eD⟩:=s1;cases r<;>simp
theorem j5{dst:fz}{op:Op}{type:aD}{pos:String}{after:Array Edge}{g:Nat×Bool} :
  go cx n Q (.on all takes (⟨dst,op,type,pos,after,some g⟩::os)::k) .normal ⟨env,H,lk,df⟩ ↔
   GC (au cx ⟨dst,op,type,pos,after,some g⟩ env lk=true/\E4 dst (λs=>go cx n Q (.on all takes os::k) .normal s) (λ_ _=>False) (cx.op takes ⟨dst,op,type,pos,after,some g⟩ env H lk df)) (go cx n Q (.on all takes os::k) .normal ⟨aq env dst (.bx []),H,lk,df⟩) (zZ all ⟨dst,op,type,pos,after,some g⟩ env):=by
 simp only[go,Cx.rj];cases zZ all ⟨dst,op,type,pos,after,some g⟩ env with
 | none=>simp[GC]
 | some b =>
  cases b with
  | false=>simp[GC]
  | true =>
   simp only[GC];cases au cx ⟨dst,op,type,pos,after,some g⟩ env lk with
   | false=>simp
   | true =>
    cases h:cx.op takes ⟨dst,op,type,pos,after,some g⟩ env H lk df with
    | none=>simp
    | some r =>
     obtain⟨r,s1⟩:=r;obtain⟨cR,H1,eE,eD⟩:=s1;cases r<;>simp
def HS(want:Bool):cj->Option Bool
 | some (.bool b)=>some (b == want)
 | some (.bx _)=>some false
 | _=>none
theorem zki{dst:fz}{op:Op}{type:aD}{pos:String}{after:Array Edge}{j:Nat}{want:Bool}{d:Tmp}(hd:(all[j]?).bind (·.dst)=some d):zZ all ⟨dst,op,type,pos,after,some (j,want)⟩ env=HS want (nth env d):=by
 unfold zZ HS;simp only[hd];cases nth env d with
 | none=>rfl
 | some v=>cases v<;>rfl
theorem qx{c:Code}(Inv:Nat->St->Prop)(j:Nat)(hj:j<n)(h0:Inv j s)(mF:∀j s,Inv j s->go cx n (HP (λs'=>∃i,i<j/\Inv i s') (go cx n Q k)) [.c c] .normal s):go cx n Q (.c (.loop c)::k) .normal s:=by
 simp only[go];exact zo8 Inv j hj h0 λj s h=>S9 (mF j s h)
theorem zlC{P:aY}{gl:Gl}{f:FuncId}{fn:Func}{body:Code}{args:aG}{bs:List bq}{es:aP}{out:Out}{H':Hp}(hk:gl.hk f args=none)(fq:∀H,gl.fq n f args H=none)(hf:P.funcs[f]?=some fn)(hb:fn.body=some body)
  (h:go ⟨P,gl,zj P gl n,gl.uq⟩ n (Fin P fn.results.toList bs.length es out H') [.c body] .normal ⟨args++List.replicate (fn.ntmps - args.length) (.bx []),⟨bs,[]⟩,[],[]⟩):zj P gl (n+1) f args ⟨bs,es⟩=some (out,H') :=
 Ws hk fq hf hb (by rw[nk];exact S9 h)
def Fx(P:aY)(rs:List ResultVar)(tP:V->Hp->Prop):Ex->St->Prop
 | .normal,⟨env,H,_,df⟩|.ret,⟨env,H,_,df⟩=>df=[]/\∃vs,zy P H env rs=some vs/\tP (j_ vs) H
 | _,_=>False
theorem zO{P:aY}{gl:Gl}{f:FuncId}{fn:Func}{body:Code}{args:aG}{bs:List bq}{es:aP}{tP:V->Hp->Prop}(hk:gl.hk f args=none)(fq:∀H,gl.fq n f args H=none)(hf:P.funcs[f]?=some fn)(hb:fn.body=some body)
  (h:go ⟨P,gl,zj P gl n,gl.uq⟩ n (Fx P fn.results.toList tP) [.c body] .normal ⟨args++List.replicate (fn.ntmps - args.length) (.bx []),⟨bs,[]⟩,[],[]⟩):∃v H1,zj P gl (n+1) f args ⟨bs,es⟩=some (.ret v,zX bs.length es v.top H1)/\tP v H1:=by
 obtain⟨ex,⟨env,H,lk,df⟩,h1,h2⟩:=S9 h;cases ex<;>simp only[Fx] at h2
 ·obtain⟨rfl,vs,h3,h4⟩:=h2;exact⟨_,H,Ws hk fq hf hb ⟨.normal,_,by rw[nk];exact h1,⟨rfl,vs,h3,rfl,rfl⟩⟩,h4⟩
 ·obtain⟨rfl,vs,h3,h4⟩:=h2;exact⟨_,H,Ws hk fq hf hb ⟨.ret,_,by rw[nk];exact h1,⟨rfl,vs,h3,rfl,rfl⟩⟩,h4⟩
theorem wT{x:bq}{b:Nat}:(H.push x).get b=match H.get b with|some y=>some y|none=>if b=H.az.length then some x else none:=by
 simp only[Hp.get,Hp.push,zg,List.getElem?_append];split
 next h=>rw[gG h]
 ·rename_i h;have:H.az[b]?=none:=uf (by omega)
  rw[this]
  by_cases e:b=H.az.length
  ·subst e;simp
  ·rw[if_neg e];simp;omega
theorem jC{x:bq}{b c:Nat}:(H.set b x).get c=match H.get c with|some y=>some (if c=b then x else y)|none=>none:=by
 simp only[Hp.get,Hp.set,zg,List.getElem?_set']
 by_cases e:b=c
 ·subst e;cases h:H.az[b]?<;>simp
 ·rw[if_neg e];cases h:H.az[c]?<;>simp[Ne.symm e]
theorem bZ{b c:Nat}{v:V}:(H.bU b v).get c=H.get c:=by
 unfold Hp.bU;split<;>rfl
theorem jn{x:bq}:(H.push x).az.length=H.az.length+1:=by simp[Hp.push]
theorem wl{x:bq}{b:Nat}:(H.set b x).az.length=H.az.length:=by simp[Hp.set]
theorem xn{b:Nat}{v:V}:(H.bU b v).az.length=H.az.length:=by
 unfold Hp.bU;split<;>rfl
theorem kK{b:Nat}{x:bq}(h:H.get b=some x):b<H.az.length:=by
 simp only[Hp.get,zg] at h;exact(dA.1 h).1
theorem HT:H.get H.az.length=none:=by simp[Hp.get,zg]
theorem zlD{b:Nat}(h:H.az.length<=b):H.get b=none:=by simp[Hp.get,zg,h]
end
section
structure SR where
 idx:Nat
 m:Nat
 tm:Nat
 lm:Nat
 hp:Bool
 lk:Bool
 al:Bool
 ld:Bool
 tk:Bool
def vN(o:Oper):Bool:=match o.op with|.alloc _=>true|_=>false
def kL(takes:cw)(o:Oper):Bool :=
 match o.op with
 | .load ..=>match o.dst with
  | some d=>takes.any (Nat.beq d)
  | none=>false
 | _=>false
def DP(takes:cw)(o:Oper):Bool :=
 match o.op with
 | .load ..=>match o.dst with
  | some d=>!(takes.any (Nat.beq d))
  | none=>false
 | .call ⟨.builtin .len,⟨[_]⟩,⟨[_]⟩⟩=>true
 | _=>false
def sj:List SR->Nat->Option Nat
 | [],_=>none
 | r::rs,j=>if Nat.beq r.idx j then some r.m else sj rs j
def Nr(rs:List SR):List Edge->Option Nat
 | []=>some 0
 | e::es=>match Region.binds .any e with
  | false=>Nr rs es
  | true=>match sj rs e.on with
   | none=>none
   | some m=>match Nr rs es with
    | none=>none
    | some k=>some (Nat.lor k (Nat.lor m (Nat.pow 2 e.on)))
def S_(r q:SR):Bool :=
 match bit r.m q.idx with
 | true=>true
 | false=>Nat.beq (Nat.land q.tm r.lm) 0 && Nat.beq (Nat.land r.tm q.lm) 0
def Wv(r q:SR):Bool :=
 match bit r.m q.idx with
 | true=>true
 | false=>!(r.hp && q.hp) && (!(q.hp && r.lk) || (q.tk && r.ld)) && (!(r.hp && q.lk) || (r.al && q.ld))
def Jt(P:aY)(uq:aD->Bool)(all:Array Oper)(takes:cw):Nat->List SR->List Oper->Bool
 | _,_,[]=>true
 | i,rs,o::os=>match Nr rs o.after.toList with
  | none=>false
  | some m =>
   let r:SR:=⟨i,m,m7 takes o,Nat.lor (m7 takes o) (tC all o),jg P uq takes o,kW P uq o,vN o,DP takes o,kL takes o⟩
   (!r.tk || kA (λq=>!q.tk) rs) && kA (S_ r) rs && (kA (Wv r) rs && Jt P uq all takes (i+1) (r::rs) os)
variable{cx:Cx}{all:Array Oper}{takes:cw}
structure Ll(cx:Cx)(takes:cw)(q:Rec)(t:SR):Prop where
 idx:q.idx=t.idx
 m:q.m=t.m
 tm:q.tm=t.tm
 lm:q.lm=t.lm
 hp:q.hp=true->t.hp=true
 lk:q.hp=false->q.free=false->t.lk=true
 ld:t.ld=DP takes q.o
 tk:t.tk=kL takes q.o
inductive Lm(cx:Cx)(takes:cw):List Rec->List SR->Prop where
 |nil:Lm cx takes [] []
 |cons {q:Rec} {t:SR} {rs:List Rec} {ts:List SR} (h:Ll cx takes q t) (r:Lm cx takes rs ts):Lm cx takes (q::rs) (t::ts)
theorem zeH{rs:List Rec}{ts:List SR}(h:Lm cx takes rs ts):∀(es:List Edge),wv rs es=Nr ts es:=by
 have Nb:∀j,maskAt rs j=sj ts j:=by
  intro j
  induction h with
  | nil=>rfl
  | cons a _ ih=>simp only[maskAt,sj,a.idx,a.m,ih]
 intro es
 induction es with
 | nil=>rfl
 | cons e es ih=>simp only[wv,Nr,Nb,ih];rfl
theorem zgM{rs:List Rec}{ts:List SR}(h:Lm cx takes rs ts){f:Rec->Bool}{g:SR->Bool}(hfg:∀q t,Ll cx takes q t->g t=true->f q=true)(hg:kA g ts=true):kA f rs=true:=by
 induction h with
 | nil=>rfl
 | cons a _ ih =>
  simp only[kA] at hg ⊢;split at hg
  next h1=>rw[hfg _ _ a h1];exact ih hg
  ·cases hg
theorem wc{α:Type}{f:α->Bool}:∀{l:List α},(∀x∈l,f x=true)->kA f l=true
 | [],_=>rfl
 | y::l,h=>by simp only[kA,h y (fy ..)];exact wc λx hx=>h x (eo _ hx)
theorem yX{rs:List Rec}{ts:List SR}(h:Lm cx takes rs ts){g:SR->Bool}(hg:kA g ts=true):∀q∈rs,∃t,Ll cx takes q t/\g t=true:=by
 induction h with
 | nil=>intro q hq;simp at hq
 | cons a _ ih =>
  simp only[kA] at hg;split at hg<;>try (cases hg;done)
  rename_i h1;intro q hq;rcases dM.1 hq with rfl|hq
  ·exact⟨_,a,h1⟩
  ·exact ih hg q hq
theorem zM{H:Hp}{b:Nat}{x y:bq}(h:H.get b=some y):(H.push x).get b=some y:=by rw[wT,h]
theorem zh5{P:aY}{gl:Nat->Nat->cj}{H:Hp}{x:bq}{t:aD}{p v:V}(h:zk P H gl t p=some v):zk P (H.push x) gl t p=some v:=by
 cases p<;>simp only[zk] at h ⊢<;>first|exact h|skip
 ·rename_i b off;cases hb:H.get b with
  | none=>simp[hb] at h
  | some y=>rw[zM hb];simpa[hb] using h
 ·rename_i b u k;cases hb:H.get b with
  | none=>simp[hb] at h
  | some y=>rw[zM hb];simpa[hb] using h
theorem zkj{P:aY}{H:Hp}{x:bq}{t:aD}{p:V}{v:Int}(h:qW P H t p=some v):qW P (H.push x) t p=some v:=by
 unfold qW at h ⊢;split at h<;>try (simp only[*];done)
 ·rename_i hu;split at h<;>try (cases h;done)
  rename_i es hb;simp only[zM hb];exact h
theorem zeI{o:Oper}(gy:DP takes o=true){env:aG}{v:V}{D:Nat}{H:Hp}{x:bq}{lk:aP}{df:bS}(h:cx.eZ takes o env v ⟨D,H,lk,df⟩=true):cx.eZ takes o env v ⟨D,H.push x,lk,df⟩=true:=by
 obtain⟨dst,op,type,pos,after,guard⟩:=o;unfold DP at gy;split at gy<;>try (cases gy;done)
 ·rename_i t a aE;simp only at aE;subst aE;cases dst with
  | none=>simp at gy
  | some d =>
   have ht:takes.any (Nat.beq d)=false:=by simpa using gy
   simp only[Cx.eZ,Cx.d_,S3 ht] at h ⊢;cases hp:ak env a with
   | none=>simp[hp,iy] at h
   | some p =>
    cases hl:zk cx.P H cx.gl t p with
    | none=>simp[hp,hl,iy] at h
    | some u=>simpa[hp,hl,zh5 hl,iy] using h
 ·rename_i x0 t0 aE;simp only at aE;subst aE;have hh:∀H',cx.op takes ⟨dst,.call ⟨.builtin .len,#[x0],#[t0]⟩,type,pos,after,guard⟩ env H' lk df=iy env H' lk df (((ak env x0).bind (qW cx.P H' t0)).map (.int .i64)):=λH'=>kx;simp only[Cx.eZ,Cx.d_] at h ⊢;rw[show(⟨[x0]⟩:rT)=#[x0] from rfl,show(⟨[t0]⟩:Array aD)=#[t0] from rfl] at *;rw[hh] at h ⊢;cases hp:ak env x0 with
  | none=>simp[hp,iy] at h
  | some p =>
   cases hl:qW cx.P H t0 p with
   | none=>simp[hp,hl,iy] at h
   | some u=>simpa[hp,hl,zkj hl,iy] using h
end
section
variable{cx:Cx}{takes:cw}{P:aY}{gl:Nat->Nat->cj}{dst:fz}{type:aD}{pos:String}{after:Array Edge}{guard:oq}{env:aG}{H:Hp}{lk:aP}{df:bS}
def Pm(P:aY)(t:aD)(env:aG)(H:Hp)(lk:aP)(df:bS)(y x:cj):Option (OR×St):=do
 let .slice e <- P.underlying t|none
 let n <- z4 P e
 let i <- P.info? e
 let z <- i.zero
 let ys <- wu P H e (<- y)
 if !Nat.beq z.cells.size n || Nat.beq n 0 then none else
 match <- x with
 | .aH=>match ys with
  | []=>some (.val .aH,⟨env,H,lk,df⟩)
  | _=>if ku ys.length i.bytes then some (.val (.dF H.az.length 0 ys.length),⟨env,H.push (.ul 0 n (cg ys) e),lk,df⟩) else none
 | .dF b u len=>match H.get b with
  | some (.ul eK sz cs e') =>
   if Nat.beq e e' && Nat.beq n sz && Nat.beq eK u && ku (len+ys.length) i.bytes then
    some (.val (.dF b (eK+1) (len+ys.length)),⟨env,(H.set b (.ul (eK+1) sz (cs++cg ys) e)).bU b (.bx ys),lk,df⟩)
   else none
  | _=>none
 | .sr b off len cap=>match H.get b with
  | some (.cells cs ty) =>
   if Nat.beq off 0 && Nat.beq n 1 && Nat.beq ty e && Nat.beq ((cg ys).map bg).length ys.length && Nat.ble (len+ys.length) cap && Nat.ble (len+ys.length) cs.length && wr lk b len ys.length (cs.drop len) then
    some (.val (.sr b 0 (len+ys.length) cap),⟨env,(H.set b (.cells (storeCells cs len ((cg ys).map bg)) ty)).bU b (.bx ((cg ys).map bg)),lk,df⟩)
   else match wu P H e (.sr b off len cap) with
    | some xs =>
     if Nat.beq xs.length len && Nat.ble 1 len && Nat.ble (cap+1) (len+ys.length) && ku (len+ys.length) i.bytes then
      some (.val (.dF H.az.length 0 (len+ys.length)),⟨env,H.push (.ul 0 n (cg xs++cg ys) e),lk,df⟩)
     else none
    | none=>none
  | _=>none
 | _=>none
theorem Ww{x y:a_}{t:aD}(hu:rC cx.P cx.uq t=true):cx.op takes ⟨dst,.call ⟨.builtin .append,#[x,y],#[t,t]⟩,type,pos,after,guard⟩ env H lk df=Pm cx.P t env H lk df (ak env y) (ak env x):=by
 simp only[Cx.op,hu,iV,aI];simp only[Cx.mV,Pm,dj,qw,qm,ji]
 congr 1
theorem znA{t e n:Nat}{i:TypeInfo}{z:bC}(h1:P.underlying t=some (.slice e))(h2:z4 P e=some n)(h3:P.info? e=some i)(h4:i.zero=some z)(h5:z.cells.size=n)(h6:n≠0){xs:aG}{o:uj}{x:cj} :
  Pm P t env H lk df (some (.sl n xs o)) x=match x with
   | some .aH=>(match xs with
    | []=>some (.val .aH,⟨env,H,lk,df⟩)
    | _=>if ku xs.length i.bytes then some (.val (.dF H.az.length 0 xs.length),⟨env,H.push (.ul 0 n (cg xs) e),lk,df⟩) else none)
   | some (.dF b u len)=>(match H.get b with
    | some (.ul eK sz cs e')=>if (e=e'/\n=sz/\eK=u/\ku (len+xs.length) i.bytes=true) then
      some (.val (.dF b (eK+1) (len+xs.length)),⟨env,(H.set b (.ul (eK+1) sz (cs++cg xs) e)).bU b (.bx xs),lk,df⟩) else none
    | _=>none)
   | some (.sr b off len cap)=>(match H.get b with
    | some (.cells cs ty)=>if Nat.beq off 0 && Nat.beq n 1 && Nat.beq ty e && Nat.beq ((cg xs).map bg).length xs.length && Nat.ble (len+xs.length) cap && Nat.ble (len+xs.length) cs.length && wr lk b len xs.length (cs.drop len) then
      some (.val (.sr b 0 (len+xs.length) cap),⟨env,(H.set b (.cells (storeCells cs len ((cg xs).map bg)) ty)).bU b (.bx ((cg xs).map bg)),lk,df⟩) else match wu P H e (.sr b off len cap) with
       | some zs=>if Nat.beq zs.length len && Nat.ble 1 len && Nat.ble (cap+1) (len+xs.length) && ku (len+xs.length) i.bytes then
         some (.val (.dF H.az.length 0 (len+xs.length)),⟨env,H.push (.ul 0 n (cg zs++cg xs) e),lk,df⟩) else none
       | none=>none
    | _=>none)
   | _=>none:=by
 have h7:(!Nat.beq z.cells.size n || Nat.beq n 0)=false:=by
  rw[h5];cases n with
  | zero=>exact absurd rfl h6
  | succ n=>simp[Nat.beq]
 simp only[Pm,h1,h2,h3,h4,wu,Option.bind_eq_bind,aV,h7,aI,gh,bD];cases x with
 | none=>rfl
 | some v =>
  cases v<;>try rfl
  rename_i b u len;simp only[aV];cases H.get b with
  | none=>rfl
  | some y =>
   cases y<;>try rfl
   rename_i eK sz cs e';simp only[eF,Nat.beq_eq,and_assoc]
def Ns(P:aY)(t:aD)(env:aG)(H:Hp)(lk:aP)(df:bS):cj->Option cj->Option cj->Option (OR×St)
 | some (.dF b u len),some none,some (some (.int _ h))=>match P.underlying t,H.get b with
  | some (.slice e'),some (.ul eK sz cs e)=>match z4 P e' with
   | some _=>if eK=u/\0<=h/\h.toNat<=len then some (.val (.dF b (eK+1) h.toNat),⟨env,(H.set b (.ul (eK+1) sz (cs.take (h.toNat * sz)) e)).bU b .fQ,lk,df⟩) else none
   | none=>none
  | _,_=>none
 | some (.sr b off len cap),some lo,some hi=>match y4 P t (.sr b off len cap) lo hi with
  | some v=>some (.val v,⟨env,H,lk,df⟩)
  | none=>none
 | _,_,_=>none
theorem zeJ{x:a_}{hi:Option a_}:xz takes x none hi=false:=by cases x<;>rfl
theorem zds{x:a_}{t:aD}{lo hi:Option a_}(hu:rC cx.P cx.uq t=true)(hf:xz takes x lo hi=false):cx.op takes ⟨dst,.slice t x lo hi none,type,pos,after,guard⟩ env H lk df=Ns cx.P t env H lk df (ak env x) (de env lo) (de env hi):=by
 simp only[Cx.op,hf,hu];simp only[Cx.oT,eH,qw,ji];unfold Ns;cases hx:ak env x with
 | none=>split<;>simp_all
 | some v =>
  by_cases SF:∃b off len cap,v=.sr b off len cap
  ·obtain⟨b,off,len,cap,rfl⟩:=SF;cases de env lo with
   | none=>split<;>simp_all
   | some lo=>cases de env hi with
    | none=>split<;>simp_all
    | some hi=>cases cx.P.underlying t with
     | none=>rfl
     | some d=>cases d<;>rfl
  cases v<;>(try (split<;>simp_all;done))
  rename_i b u len;cases hl:de env lo with
  | none=>split<;>simp_all
  | some l =>
   cases l with
   | some l=>split<;>simp_all
   | none =>
    cases hh:de env hi with
    | none=>split<;>simp_all
    | some h =>
     cases h with
     | none=>split<;>simp_all
     | some h =>
      cases h<;>(try (split<;>simp_all;done))
      rename_i k h;cases hP:cx.P.underlying t with
      | none=>simp
      | some d =>
       cases d<;>simp only<;>try rfl
       rename_i e';cases H.get b with
       | none=>simp
       | some y =>
        cases y<;>simp only<;>try (cases z4 cx.P e'<;>rfl)
        rename_i eK sz cs e;cases z4 cx.P e' with
        | none=>rfl
        | some m=>simp only[eF,Nat.beq_eq,decide_eq_true_eq,Nat.ble_eq,and_assoc]
def qp(P:aY)(t:aD)(H:Hp)(lk:aP)(df:bS)(x:Option (V×aG)):cj->Option (OR×St)
 | some (.ptr b off)=>match z4 P t with
  | some n=>Pj n H lk df (some (.ptr b off)) x
  | none=>none
 | some (.gk b u k)=>match x,z4 P t,H.get b with
  | some (x,env),some n,some (.ul eK sz cs e)=>if eK=u/\dD (bg x)=true/\(bg x).cells.length=n/\k+n<=cs.length then
    some (.skip,⟨env,(H.set b (.ul eK sz (storeCells cs k (bg x).cells) e)).bU b (bg x),lk,df⟩) else none
  | _,_,_=>none
 | _=>none
theorem zV{t:aD}{a x:a_}:cx.op takes ⟨dst,.store t a x,type,pos,after,guard⟩ env H lk df=qp cx.P t H lk df (take env x) (ak env a):=by
 cases ha:ak env a with
 | none=>simp[Cx.op,ha,qp]
 | some p =>
  cases p<;>try (simp[Cx.op,ha,qp];done)
  ·rename_i b off;cases hn:z4 cx.P t with
   | none =>
    simp only[Cx.op,ha,hn,qp];cases take env x<;>rfl
   | some n =>
    rw[zlx hn (λ_ _ _=>by rw[ha];simp)]
    simp only[qp,hn,ha]
  ·rename_i b u k;simp only[Cx.op,ha,qp,ql,eH,ji];cases take env x with
   | none=>rfl
   | some q =>
    obtain⟨x,dh⟩:=q;cases z4 cx.P t with
    | none=>rfl
    | some n =>
     cases H.get b with
     | none=>rfl
     | some y =>
      cases y<;>try rfl
      simp only[eF,Nat.beq_eq,Nat.ble_eq,and_assoc]
def v4(P:aY)(t:aD)(env:aG)(H:Hp)(lk:aP)(df:bS):cj->Option (OR×St)
 | some (.ptr b off)=>match qG P t with
  | some false=>match H.get b with
   | some (.cells cs ty)=>match nth cs off with
    | some (.sl sz xs (.yes e))=>some (.val (.sl sz xs (.yes e)),⟨env,(H.set b (.cells (cs.set off (.sl sz xs .lock)) ty)).bU b .fQ,(b,off)::lk,df⟩)
    | some .aH=>some (.val .aH,⟨env,H,lk,df⟩)
    | some (.dF c u n)=>some (.val (.dF c u n),⟨env,H,lk,df⟩)
    | _=>none
   | _=>none
  | _=>none
 | some (.vp cs)=>match qG P t with
  | some false=>match nth cs 0 with
   | some (.sr c o l k)=>some (.val (.sr c o l k),⟨env,H,lk,df⟩)
   | _=>none
  | _=>none
 | _=>none
theorem xo{d:Tmp}{t:aD}{a:a_}(h:takes.any (Nat.beq d)=true):cx.op takes ⟨some d,.load t a,type,pos,after,guard⟩ env H lk df=v4 cx.P t env H lk df (ak env a):=by
 simp only[Cx.op,h,eP,ji];unfold v4;cases ha:ak env a with
 | none=>cases qG cx.P t with
  | none=>rfl
  | some b=>cases b<;>rfl
 | some p =>
  cases p<;>cases qG cx.P t<;>(try rfl)<;>rename_i g<;>cases g<;>rfl
def Ta(t:aD)(env:aG)(H:Hp)(lk:aP)(df:bS):cj->Option (OR×St)
 | some z=>if dD z=true then some (.val (.ptr H.az.length 0),⟨env,H.push (.cells z.cells t),lk,df⟩) else none
 | none=>none
theorem qQ{t:aD}:cx.op takes ⟨dst,.alloc t,type,pos,after,guard⟩ env H lk df=Ta t env H lk df (qL cx.P t):=by
 simp only[Cx.op,Ta];cases qL cx.P t with
 | none=>rfl
 | some z=>cases hz:dD z<;>simp[ql,qm,hz]
theorem zR{t:aD}{z:V}(h:dD z=true):Ta t env H lk df (some z)=some (.val (.ptr H.az.length 0),⟨env,H.push (.cells z.cells t),lk,df⟩):=by simp[Ta,h]
theorem zpT{d t:Nat}(h:d≠t):[t].any (Nat.beq d)=false:=by
 cases hb:Nat.beq d t with
 | false=>simp[hb]
 | true=>exact absurd (fo hb) h
theorem jD{t d:Tmp}{x:a_}(h:d≠t):cx.op [t] ⟨some d,.move x,type,pos,after,guard⟩ env H lk df=iy env H lk df (ak env x):=zi5 (zpT h)
theorem jE{t d:Tmp}{ty:aD}{a:a_}(h:d≠t):cx.op [t] ⟨some d,.load ty a,type,pos,after,guard⟩ env H lk df=iy env H lk df (((ak env a).bind (zk cx.P H cx.gl ty)).map bg):=S3 (zpT h)
theorem jv{d:Tmp}{t:aD}{a:a_}:cx.op [d] ⟨some d,.load t a,type,pos,after,guard⟩ env H lk df=v4 cx.P t env H lk df (ak env a):=xo (by simp)
theorem jx{d:Tmp}{x:a_}:cx.op [d] ⟨some d,.move x,type,pos,after,guard⟩ env H lk df=S2 H lk df (take env x):=zlu (by simp)
def Nt(P:aY)(t:aD):cj->cj
 | some v=>match P.underlying t with
  | some (.slice e)=>match z4 P e,qL P e with
   | some n,some z=>if n≠0/\n<=16777216/\z.cells.length=n/\dD z=true/\dD v=true/\v.cells.length=n then some (.sl n [v] (.yes e)) else none
   | _,_=>none
  | _=>none
 | none=>none
theorem jS{t:aD}{x:a_}:cx.op takes ⟨dst,.buildSlice t 1 #[(0,x)],type,pos,after,guard⟩ env H lk df=iy env H lk df (Nt cx.P t (ak env x)):=by
 simp only[Cx.op];refine vC ?_;simp only[jc,Nt];cases h1:cx.P.underlying t with
 | none=>cases ak env x<;>rfl
 | some d =>
  cases d<;>(try (cases ak env x<;>rfl))
  rename_i e;cases h2:z4 cx.P e with
  | none=>cases ak env x<;>simp[h2]
  | some n =>
   cases h3:qL cx.P e with
   | none=>cases ak env x<;>simp[h2,h3]
   | some z =>
    simp only[h2,h3,Option.bind_eq_bind,aV];cases hx:ak env x with
    | none=>simp[CR,hx]
    | some v =>
     simp only[CR,hx,Option.bind_eq_bind,aV,ql,eP,Nat.one_mul]
     by_cases c0:n=0
     ·subst c0;simp[Nat.beq]
     ·have Nu:Nat.beq n 0=false:=by cases n with
       | zero=>exact absurd rfl c0
       | succ n=>rfl
      by_cases c1:n<=16777216
      ·have nC:Nat.blt 16777216 n=false:=by
        cases hb:Nat.blt 16777216 n with
        | false=>rfl
        | true=>have:=rA hb;omega
       by_cases c2:z.cells.length=n
       ·cases c3:dD z with
        | false=>simp[Nu,nC,c2]
        | true =>
         cases c4:dD v with
         | false=>simp[Nu,nC,c2]
         | true =>
          by_cases c5:v.cells.length=n
          ·simp[Nu,c2,c5,c0,c1,Nat.blt];omega
          ·simp[Nu,nC,c2,c5]
       ·simp[Nu,nC,c2]
      ·have nC:Nat.blt 16777216 n=true:=G1 (by omega)
       simp[Nu,nC,c1]
theorem znC{P:aY}{t e n:Nat}{z v:V}(h1:P.underlying t=some (.slice e))(h2:z4 P e=some n)(h3:qL P e=some z)(h4:(n≠0/\n<=16777216/\z.cells.length=n/\dD z=true))(h5:dD v=true)(h6:v.cells.length=n):Nt P t (some v)=some (.sl n [v] (.yes e)):=by
 obtain⟨a,b,c,d⟩:=h4;simp[Nt,h1,h2,h3,a,b,c,d,h5,h6]
end
section
variable{cx:Cx}{all:Array Oper}{takes:cw}
def HU(c:ez)(s:St):Prop :=
 (c.H=s.H/\c.lk=s.lk/\c.df=s.defers)\/∃b off cs ty sz xs e,c.H.get b=some (.cells cs ty)/\nth cs off=some (.sl sz xs (.yes e))/\s.H=(c.H.set b (.cells (cs.set off (.sl sz xs .lock)) ty)).bU b .fQ/\s.lk=(b,off)::c.lk/\s.defers=c.df
theorem zja{o:Oper}(h:kL takes o=true){env:aG}{H:Hp}{lk:aP}{df:bS}{v:V}{D:Nat}{s1:St}(aE:cx.op takes o env H lk df=some (.val v,s1)):HU ⟨D,H,lk,df⟩ s1:=by
 obtain⟨dst,op,type,pos,after,guard⟩:=o;unfold kL at h;split at h<;>try (cases h;done)
 rename_i t a lz;simp only at lz;subst lz;cases dst with
 | none=>cases h
 | some d =>
  simp only at h;rw[xo h] at aE;unfold v4 at aE;split at aE<;>try (cases aE;done)
  ·split at aE<;>try (cases aE;done)
   split at aE<;>try (cases aE;done)
   rename_i cs ty hb;split at aE<;>try (cases aE;done)
   next sz xs e hn=>cases aE;exact .inr ⟨_,_,cs,ty,sz,xs,e,hb,hn,rfl,rfl,rfl⟩
   ·cases aE;exact .inl ⟨rfl,rfl,rfl⟩
   ·cases aE;exact .inl ⟨rfl,rfl,rfl⟩
  ·split at aE<;>try (cases aE;done)
   split at aE<;>try (cases aE;done)
   cases aE;exact .inl ⟨rfl,rfl,rfl⟩
theorem zkm{P:aY}{c:ez}{s:St}(h:HU c s){t:aD}{p:V}{v:Int}(hl:qW P s.H t p=some v):qW P c.H t p=some v:=by
 rcases h with⟨h,_⟩|⟨b,off,cs,ty,sz,xs,e,hb,hn,hs,_⟩
 ·rw[h];exact hl
 ·unfold qW at hl ⊢;split at hl<;>try (simp only[*];done)
  rename_i m hu;split at hl<;>try (cases hl;done)
  rename_i es hm;rw[hs,bZ,jC] at hm;split at hm<;>try (cases hm;done)
  rename_i y hy;split at hm
  ·cases hm
  ·cases hm;simp only[hy];exact hl
theorem zh6{P:aY}{gl:Nat->Nat->cj}{c:ez}{s:St}(h:HU c s){t:aD}{p u:V}(hk:qG P t=some false\/∀b off,p=.ptr b off->s.lk.all (λq=>!(Nat.beq q.1 b))=true)(hl:zk P s.H gl t p=some u):∃u',zk P c.H gl t p=some u'/\bg u'=bg u:=by
 rcases h with⟨h,_⟩|⟨b,off,cs,ty,sz,xs,e,hb,hn,hs,pY,_⟩
 ·rw[h];exact⟨u,hl,rfl⟩
 ·cases p<;>(try (exact⟨u,hl,rfl⟩))
  ·rename_i b' off';simp only[zk,hs,bZ,jC] at hl ⊢
   by_cases KO:b'=b
   ·subst KO;rcases hk with hk|hk
    ·simp only[hb,aI,Option.bind_eq_bind,aV,kV,hk] at hl ⊢;rw[zg,List.getElem?_set'] at hl
     by_cases ho:off=off'
     ·subst ho;rw[zg] at hn;simp only[aI,hn,aW,Function.const,Option.map_eq_map] at hl;cases hl;exact⟨.sl sz xs (.yes e),by simp[zg,hn],rfl⟩
     ·rw[if_neg ho] at hl;exact⟨u,by rw[zg];exact hl,rfl⟩
    ·have:=hk b' off' rfl;rw[pY] at this;simp at this
   ·cases hg:c.H.get b' with
    | none=>simp[hg] at hl
    | some y=>simp only[hg,if_neg KO] at hl;exact⟨u,by simpa[hg] using hl,rfl⟩
  ·rename_i b' u' k;simp only[zk,hs,bZ,jC] at hl ⊢
   by_cases KO:b'=b
   ·subst KO;simp[hb] at hl
   ·cases hg:c.H.get b' with
    | none=>simp[hg] at hl
    | some y=>simp only[hg,if_neg KO] at hl;exact⟨u,by simpa[hg] using hl,rfl⟩
theorem zeK{o:Oper}(gy:DP takes o=true){env:aG}{v:V}{c:ez}{s s1:St}(hL:HU c s)(hk:au cx o env s.lk=true)(aE:cx.op takes o env s.H s.lk s.defers=some (.val v,s1)):cx.eZ takes o env v c=true:=by
 obtain⟨dst,op,type,pos,after,guard⟩:=o;unfold DP at gy;split at gy<;>try (cases gy;done)
 ·rename_i t a lz;simp only at lz;subst lz;cases dst with
  | none=>simp at gy
  | some d =>
   have ht:takes.any (Nat.beq d)=false:=by simpa using gy
   simp only[Cx.eZ,Cx.d_,S3 ht] at aE ⊢;cases hp:ak env a with
   | none=>simp[hp,iy] at aE
   | some p =>
    cases hl:zk cx.P s.H cx.gl t p with
    | none=>simp[hp,hl,iy] at aE
    | some u =>
     obtain⟨u',h1,h2⟩:=zh6 hL (by
      simp only[au] at hk;split at hk
      next h=>exact .inl h
      ·refine .inr λb off e=>?_;rw[hp,e] at hk
       exact hk) hl
     simp only[hp,hl,iy,aV,aW,bz,cq,OR.val.injEq] at aE;simp only[aV,h1,aW,iy,h2,aE.1,V.dx]
 ·rename_i x0 t0 lz;simp only at lz;subst lz;have hh:∀H' Hx Hy,cx.op takes ⟨dst,.call ⟨.builtin .len,#[x0],#[t0]⟩,type,pos,after,guard⟩ env H' Hx Hy=iy env H' Hx Hy (((ak env x0).bind (qW cx.P H' t0)).map (.int .i64)):=λH' Hx Hy=>kx;rw[show(⟨[x0]⟩:rT)=#[x0] from rfl,show(⟨[t0]⟩:Array aD)=#[t0] from rfl,hh] at aE;simp only[Cx.eZ,Cx.d_]
  rw[show(⟨[x0]⟩:rT)=#[x0] from rfl,show(⟨[t0]⟩:Array aD)=#[t0] from rfl,hh];cases hp:ak env x0 with
  | none=>simp[hp,iy] at aE
  | some p =>
   cases hl:qW cx.P s.H t0 p with
   | none=>simp[hp,hl,iy] at aE
   | some u =>
    simp only[hp,hl,iy,aV,aW,bz,cq,OR.val.injEq] at aE;simp only[aV,zkm hL hl,aW,iy,aE.1,V.dx]
structure Tb(cx:Cx)(takes:cw)(i:Nat)(rs:List Rec)(ts:List SR)(c0:ez)(rest:List ez)(s:St):Prop where
 pr:Lm cx takes rs ts
 lt:∀q∈rs,q.idx<i
 cD:∀b,bit c0.D b=true ↔ ∃q∈rs,q.hp=true/\q.idx=b
 c0:c0.H=s.H/\c0.lk=s.lk/\c0.df=s.defers
 rD:∀c∈rest,∀b,bit c.D b=true->∃q∈rs,q.idx=b
 rest:∀c∈rest,(∃q∈rs,q.hp=true/\kL takes q.o=false/\bit c.D q.idx=false)\/((∃q∈rs,q.hp=true/\kL takes q.o=true/\bit c.D q.idx=false)/\HU c s)
 HV:∀q∈rs,q.hp=false->q.free=false->(∃c∈rs,c.hp=true/\bit c.m q.idx=true)\/(∀D,cx.eZ takes q.o q.env q.v ⟨D,s.H,s.lk,s.defers⟩=true)
theorem zjb{rs:List Rec}{c0 c1:ez}{rest:List ez}{r:Rec}{k:List ez->Option (Ex×St)}
  (lP:r.hp=true->∀c∈rest,vU (Nat.land r.m (eL rs)) c.D=false)
  (AU:r.hp=false->r.free=false->∀c∈rest,vU (Nat.land r.m (eL rs)) c.D=false\/cx.eZ takes r.o r.env r.v c=true)
  (nB:∀b,(∃q∈rs,q.hp=true/\q.idx=b)->bit c1.D b=true)
  (oN:r.hp=true->∀q∈rs,q.hp=false->q.free=false->bit r.m q.idx=true\/(∃c∈rs,c.hp=true/\bit c.m q.idx=true)\/cx.eZ takes q.o q.env q.v c1=true) :
  cx.fH takes rs r c0 c1 rest k=k (bif r.hp then c1::c0::rest else c0::rest):=by
 unfold Cx.fH;cases hh:r.hp with
 | false =>
  have:(r.free || kA (λc=>match vU (Nat.land r.m (eL rs)) c.D with|true=>cx.eZ takes r.o r.env r.v c|false=>true) rest)=true:=by
   cases hf:r.free with
   | true=>rfl
   | false =>
    simp only[Bw];exact wc λc hc=>by
     rcases AU hh hf c hc with h|h
     ·simp only[h]
     ·split
      ·exact h
      ·rfl
  show(match r.free || kA (λc=>match vU (Nat.land r.m (eL rs)) c.D with|true=>cx.eZ takes r.o r.env r.v c|false=>true) rest with|true=>k (c0::rest)|false=>none)=k (c0::rest)
  rw[this]
 | true =>
  simp only[oo];have cL:∀l:List ez,(∀c∈l,vU (Nat.land r.m (eL rs)) c.D=false)->cx.iC takes r.o r.env r.v (Nat.land r.m (eL rs)) (Nat.pow 2 r.idx) l=some []:=by
   intro l
   induction l with
   | nil=>intro _;rfl
   | cons c l ih=>intro h;simp only[Cx.iC,h c (fy ..)];exact ih λc hc=>h c (eo _ hc)
  rw[cL rest (lP hh)];have dY:cx.fG takes rs (eL rs) r (c1::c0::rest) c1=true:=by
   unfold Cx.fG;refine wc λq hq=>?_;split
   ·rfl
   ·cases l6:q.hp with
    | true =>
     simp only;rw[nB q.idx ⟨q,hq,l6,rfl⟩]
    | false =>
     simp only;cases pF:q.free with
     | true=>rfl
     | false =>
      rcases oN hh q hq l6 pF with h|⟨c,hc,h1,h2⟩|h
      ·simp[h]
      ·have:Kx c1.D q rs=true:=by
        have hx:∀l:List Rec,c∈l->Kx c1.D q l=true:=by
         intro l
         induction l with
         | nil=>intro h;simp at h
         | cons d l ih =>
          intro h;simp only[Kx,tf,eF];rcases dM.1 h with rfl|h
          ·exact .inl ⟨⟨h1,nB _ ⟨c,hc,h1,rfl⟩⟩,h2⟩
          ·exact .inr (ih h)
        exact hx rs hc
       simp[this]
      ·simp[h]
  have Pn:cx.fG takes rs (eL rs) r ([c1]++c0::rest) c1=true:=dY;simp only[kA,Pn];rfl
theorem zgN{o:Oper}(h:vN o=true){env:aG}{H:Hp}{lk:aP}{df:bS}{v:V}{s1:St}(aE:cx.op takes o env H lk df=some (.val v,s1)):∃x,s1=⟨env,H.push x,lk,df⟩:=by
 obtain⟨dst,op,type,pos,after,guard⟩:=o;unfold vN at h;split at h<;>try (cases h;done)
 rename_i t lz;simp only at lz;subst lz;simp only[Cx.op] at aE;split at aE<;>try (cases aE;done)
 split at aE<;>try (cases aE;done)
 simp only[ql,qm,bz,cq] at aE;exact⟨_,aE.2.symm⟩
theorem Wx{s':St}:∀(os:List Oper)(i:Nat)(rs:List Rec)(ts:List SR)(c0:ez)(rest:List ez)(s:St),Tb cx takes i rs ts c0 rest s->Jt cx.P cx.uq all takes i ts os=true->cx.rj all takes os s=some s'->cx.eO all takes i rs (c0::rest) os s=some (.normal,s')
 | [],i,rs,ts,c0,rest,s,_,_,hc=>by
  simp only[Cx.rj,bz] at hc;simp only[Cx.eO,hc]
 | o::os,i,rs,ts,c0,rest,⟨env,H,lk,df⟩,hI,fe,hc=>by
  simp only[Jt] at fe;split at fe<;>try (cases fe;done)
  rename_i m hm;simp only[eF] at fe;obtain⟨⟨mq,HN⟩,Ln,fe⟩:=fe;have sK:∀(hp free:Bool)(v:V),kA (kq ⟨i,o,m,m7 takes o,Nat.lor (m7 takes o) (tC all o),hp,free,env,v⟩) rs=true:=λhp free v =>
   zgM hI.pr (λq t tJ hg=>by simp only[S_] at hg;simp only[kq,tJ.idx,tJ.tm,tJ.lm];exact hg) HN
  have key:∀(hp free:Bool)(v:V)(H1:Hp)(eE:aP)(eD:bS)(cR:aG),
    (hp=true->jg cx.P cx.uq takes o=true)->(hp=false->free=false->kW cx.P cx.uq o=true) ->
    (hp=false->H1=H/\eE=lk/\eD=df)->(hp=false->free=false->∀D,cx.eZ takes o env v ⟨D,H,lk,df⟩=true) ->
    (hp=true->vN o=true->∃x,H1=H.push x/\eE=lk/\eD=df) ->
    (hp=true->kL takes o=true->∀D,HU ⟨D,H,lk,df⟩ ⟨cR,H1,eE,eD⟩) ->
    (hp=false->free=false->DP takes o=true->∀c,HU c ⟨env,H,lk,df⟩->cx.eZ takes o env v c=true) ->
    cx.rj all takes os ⟨cR,H1,eE,eD⟩=some s' ->
    (match kA (kq ⟨i,o,m,m7 takes o,Nat.lor (m7 takes o) (tC all o),hp,free,env,v⟩) rs,c0::rest with
     | true,c0::cs=>cx.fH takes rs ⟨i,o,m,m7 takes o,Nat.lor (m7 takes o) (tC all o),hp,free,env,v⟩ c0 ⟨Nat.lor c0.D (Nat.pow 2 i),H1,eE,eD⟩ cs λcs =>
      cx.eO all takes (i+1) (⟨i,o,m,m7 takes o,Nat.lor (m7 takes o) (tC all o),hp,free,env,v⟩::rs) cs os ⟨cR,H1,eE,eD⟩
     | _,_=>none)=some (.normal,s'):=by
   intro hp free v H1 eE eD cR h1 h2 h3 h4 h5 Wy Wz h6;rw[sK];simp only;have bW:∀q∈rs,q.idx≠i:=λq hq e=>by have:=hI.lt q hq;omega
   have nB:∀b,(∃q∈rs,q.hp=true/\q.idx=b)->bit (Nat.lor c0.D (Nat.pow 2 i)) b=true:=λb hb=>by rw[wZ,(hI.cD b).2 hb];rfl
   have A0:=yX hI.pr Ln;have oN:hp=true->∀q∈rs,q.hp=false->q.free=false->bit m q.idx=true\/(∃c∈rs,c.hp=true/\bit c.m q.idx=true)\/∀D,cx.eZ takes q.o q.env q.v ⟨D,H1,eE,eD⟩=true:=λhr q hq l6 pF=>by
    obtain⟨t,ht,hg⟩:=A0 q hq;simp only[Wv] at hg;split at hg
    next hb=>exact .inl (by rw[ht.idx];exact hb)
    ·rw[h1 hr,ht.lk l6 pF] at hg;simp only[sw,mw,Bw,eF] at hg;obtain⟨_,sF,gy⟩:=hg;rcases hI.HV q hq l6 pF with h|h
     ·exact .inr (.inl h)
     ·obtain⟨x,e1,e2,e3⟩:=h5 hr sF;subst e1 e2 e3;rw[ht.ld] at gy;exact .inr (.inr λD=>zeI gy (h D))
   have E5:kL takes o=true->∀q∈rs,kL takes q.o=false:=λht q hq=>by
    rw[ht] at mq;simp only[mw,Bw] at mq;obtain⟨t,h7,h8⟩:=yX hI.pr mq q hq;rw[<- h7.tk];simpa using h8
   have iH:(hp=true\/(hp=false/\free=false))->∀q∈rs,q.hp=true->bit m q.idx=true\/(hp=false/\kL takes q.o=true/\DP takes o=true):=λhr q hq l6=>by
    obtain⟨t,ht,hg⟩:=A0 q hq;simp only[Wv] at hg;split at hg
    next hb=>exact .inl (by rw[ht.idx];exact hb)
    ·rw[ht.hp l6] at hg;simp only[Bool.and_true,sw,eF,Gb] at hg;obtain⟨⟨g1,g2⟩,_⟩:=hg;rcases hr with hr|⟨hr,hf⟩
     ·rw[h1 hr] at g1;cases g1
     ·rw[h2 hr hf] at g2;simp only[mw,Bw,eF] at g2;exact .inr ⟨hr,by rw[<- ht.tk];exact g2.1,g2.2⟩
   have sL:∀c:ez,(∃q∈rs,q.hp=true/\bit m q.idx=true/\bit c.D q.idx=false)->vU (Nat.land m (eL rs)) c.D=false:=λc hc=>by
    obtain⟨q,hq,e1,e2,e3⟩:=hc;cases hs:vU (Nat.land m (eL rs)) c.D with
    | false=>rfl
    | true =>
     have:=ri.1 hs q.idx (by rw[Nj,e2,lu.2 ⟨q,hq,e1,rfl⟩];rfl)
     rw[this] at e3;cases e3
   have Po:∀c:ez,(∀b,bit c.D b=true->∃q∈rs,q.idx=b)->bit c.D i=false:=λc hc=>by
    cases hb:bit c.D i with
    | false=>rfl
    | true =>
     obtain⟨q,hq,e⟩:=hc i hb;exact absurd e (bW q hq)
   rw[zjb (r:=⟨i,o,m,m7 takes o,Nat.lor (m7 takes o) (tC all o),hp,free,env,v⟩) ?_ ?_ nB ?_]
   ·have E6:Tb cx takes (i+1) (⟨i,o,m,m7 takes o,Nat.lor (m7 takes o) (tC all o),hp,free,env,v⟩::rs) (⟨i,m,m7 takes o,Nat.lor (m7 takes o) (tC all o),jg cx.P cx.uq takes o,kW cx.P cx.uq o,vN o,DP takes o,kL takes o⟩::ts)
      (bif hp then ⟨Nat.lor c0.D (Nat.pow 2 i),H1,eE,eD⟩ else c0) (bif hp then c0::rest else rest) ⟨cR,H1,eE,eD⟩:=by
     refine⟨.cons ⟨rfl,rfl,rfl,rfl,h1,h2,rfl,rfl⟩ hI.pr,?_,?_,?_,?_,?_,?_⟩
     ·intro q hq;rcases dM.1 hq with rfl|hq
      ·exact Ko _
      ·have:=hI.lt q hq;omega
     ·intro b;cases hp with
      | false =>
       simp only[rB];rw[hI.cD];constructor
       ·rintro⟨q,hq,e⟩;exact⟨q,eo _ hq,e⟩
       ·rintro⟨q,hq,e1,e2⟩;rcases dM.1 hq with rfl|hq
        ·cases e1
        ·exact⟨q,hq,e1,e2⟩
      | true =>
       simp only[oo];rw[wZ,tf,hI.cD,yj,decide_eq_true_eq];constructor
       ·rintro(⟨q,hq,e⟩|rfl)
        ·exact⟨q,eo _ hq,e⟩
        ·exact⟨_,fy ..,rfl,rfl⟩
       ·rintro⟨q,hq,e1,e2⟩;rcases dM.1 hq with rfl|hq
        ·exact .inr e2
        ·exact .inl ⟨q,hq,e1,e2⟩
     ·cases hp with
      | false=>obtain⟨e1,e2,e3⟩:=h3 rfl;subst e1 e2 e3;exact hI.c0
      | true=>exact⟨rfl,rfl,rfl⟩
     ·intro c eA b hb;cases hp with
      | false=>obtain⟨q,hq,e⟩:=hI.rD c eA b hb;exact⟨q,eo _ hq,e⟩
      | true =>
       rcases dM.1 eA with rfl|eA
       ·obtain⟨q,hq,_,e⟩:=(hI.cD b).1 hb;exact⟨q,eo _ hq,e⟩
       ·obtain⟨q,hq,e⟩:=hI.rD c eA b hb;exact⟨q,eo _ hq,e⟩
     ·intro c eA;cases hp with
      | false =>
       obtain⟨e1,e2,e3⟩:=h3 rfl;subst e1 e2 e3;rcases hI.rest c eA with⟨q,hq,e⟩|⟨⟨q,hq,e⟩,hL⟩
       ·exact .inl ⟨q,eo _ hq,e⟩
       ·exact .inr ⟨⟨q,eo _ hq,e⟩,hL⟩
      | true =>
       have E7:bit c0.D i=false:=Po c0 λb hb=>by obtain⟨q,hq,_,e⟩:=(hI.cD b).1 hb;exact⟨q,hq,e⟩
       cases Ao:kL takes o with
       | false =>
        rcases dM.1 eA with rfl|eA
        ·exact .inl ⟨_,fy ..,rfl,Ao,E7⟩
        ·exact .inl ⟨_,fy ..,rfl,Ao,Po c (hI.rD c eA)⟩
       | true =>
        rcases dM.1 eA with rfl|eA
        ·refine .inr ⟨⟨_,fy ..,rfl,Ao,E7⟩,?_⟩;obtain⟨D0,H0,Gy,df0⟩:=c;obtain⟨e1,e2,e3⟩:=hI.c0;simp only at e1 e2 e3;subst e1 e2 e3;exact Wy rfl Ao D0
        ·rcases hI.rest c eA with⟨q,hq,e⟩|⟨⟨q,hq,e1,e2,_⟩,_⟩
         ·exact .inl ⟨q,eo _ hq,e⟩
         ·rw[E5 Ao q hq] at e2;cases e2
     ·intro q hq l6 pF;rcases dM.1 hq with rfl|Ch
      ·obtain⟨e1,e2,e3⟩:=h3 l6;subst e1 e2 e3;exact .inr (h4 l6 pF)
      ·clear hq;cases hp with
       | false =>
        obtain⟨e1,e2,e3⟩:=h3 rfl;subst e1 e2 e3;rcases hI.HV q Ch l6 pF with⟨c,hc,e⟩|h
        ·exact .inl ⟨c,eo _ hc,e⟩
        ·exact .inr h
       | true =>
        rcases oN rfl q Ch l6 pF with h|⟨c,hc,e⟩|h
        ·exact .inl ⟨_,fy ..,rfl,h⟩
        ·exact .inl ⟨c,eo _ hc,e⟩
        ·exact .inr h
    have:=Wx os _ _ _ _ _ _ E6 fe h6;cases hp<;>exact this
   ·intro hr c eA;refine sL c ?_;rcases hI.rest c eA with⟨q,hq,e1,_,e2⟩|⟨⟨q,hq,e1,_,e2⟩,_⟩
    ·rcases iH (.inl hr) q hq e1 with h|⟨h,_⟩
     ·exact⟨q,hq,e1,h,e2⟩
     ·exact absurd (hr.symm.trans h) (by simp)
    ·rcases iH (.inl hr) q hq e1 with h|⟨h,_⟩
     ·exact⟨q,hq,e1,h,e2⟩
     ·exact absurd (hr.symm.trans h) (by simp)
   ·intro hr hf c eA;rcases hI.rest c eA with⟨q,hq,e1,e3,e2⟩|⟨⟨q,hq,e1,e3,e2⟩,hL⟩
    ·rcases iH (.inr ⟨hr,hf⟩) q hq e1 with h|⟨_,h,_⟩
     ·exact .inl (sL c ⟨q,hq,e1,h,e2⟩)
     ·rw[e3] at h;cases h
    ·rcases iH (.inr ⟨hr,hf⟩) q hq e1 with h|⟨_,_,h⟩
     ·exact .inl (sL c ⟨q,hq,e1,h,e2⟩)
     ·exact .inr (Wz hr hf h c hL)
   ·intro hr q hq l6 pF;rcases oN hr q hq l6 pF with h|h|h
    ·exact .inl h
    ·exact .inr (.inl h)
    ·exact .inr (.inr (h _))
  simp only[Cx.eO,zeH hI.pr,hm,qw,ql,jR];simp only[Cx.rj] at hc;split at hc<;>try (cases hc;done)
  next hw=>simp only[hw];exact key false true (.bx []) H lk df _ (λh=>nomatch h) (λ_ h=>nomatch h) (λ_=>⟨rfl,rfl,rfl⟩) (λ_ h=>nomatch h) (λh=>nomatch h) (λh=>nomatch h) (λ_ h=>nomatch h) hc
  ·rename_i hw;simp only[hw];split at hc<;>try (cases hc;done)
   rename_i pZ;split at hc<;>try (cases hc;done)
   ·rename_i v cR H1 eE eD aE;simp only[aE];refine key _ _ v H1 eE eD _ (λh=>h) (λ_ h=>by simpa using h) (λhf=>?_) (λhf _ D=>?_) (λ_ ha=>?_) (λ_ ht D=>?_) (λ_ _ hl c hL=>zeK hl hL pZ aE) hc
    ·obtain⟨v',_,e2,_⟩:=yk hf aE;cases e2;exact⟨rfl,rfl,rfl⟩
    ·simp[Cx.eZ,Cx.d_,aE,V.dx]
    ·obtain⟨x,e⟩:=zgN ha aE;cases e;exact⟨x,rfl,rfl,rfl⟩
    ·rcases zja (D:=D) ht aE with h|h
     ·exact .inl h
     ·exact .inr h
   ·rename_i cR H1 eE eD aE;simp only[aE];have BE:jg cx.P cx.uq takes o=true:=by
     cases hb:jg cx.P cx.uq takes o with
     | true=>rfl
     | false=>obtain⟨v',e1,_⟩:=yk hb aE;cases e1
    rw[BE];refine key true false (.bx []) H1 eE eD _ (λ_=>BE) (λh=>nomatch h) (λh=>nomatch h) (λh=>nomatch h) (λ_ ha=>?_) (λ_ ht=>?_) (λh=>nomatch h) hc
    ·obtain⟨dst,op,type,pos,after,guard⟩:=o;unfold vN at ha;split at ha<;>try (cases ha;done)
     rename_i t lz;simp only at lz;subst lz;simp only[Cx.op] at aE;split at aE<;>try (cases aE;done)
     split at aE<;>try (cases aE;done)
     simp[ql,qm] at aE
    ·obtain⟨dst,op,type,pos,after,guard⟩:=o;unfold kL at ht;split at ht<;>try (cases ht;done)
     rename_i t a lz;simp only at lz;subst lz;cases dst with
     | none=>cases ht
     | some d =>
      simp only at ht;rw[xo ht] at aE;unfold v4 at aE
      (repeat' split at aE)<;>cases aE
theorem zlF{ops:Array Oper}{env:aG}{H:Hp}{lk:aP}{df:bS}{s':St}(fe:Jt cx.P cx.uq ops (jQ ops) 0 [] ops.toList=true)(hc:cx.rj ops (jQ ops) ops.toList ⟨env,H,[],df⟩=some s')(hl:cx.uq mC=false\/xN ops=none):cx.draw ops ⟨env,H,lk,df⟩=some (.normal,s'):=by
 refine Wd ?_ hl;unfold Cx.drawn;exact Wx _ _ _ _ _ _ _ ⟨.nil,λq hq=>by simp at hq,λb=>by simp[yG],⟨rfl,rfl,rfl⟩,λc hc=>by simp at hc,λc hc=>by simp at hc,λq hq=>by simp at hq⟩ fe hc
theorem znD{n id:Nat}{Q:Ex->St->Prop}{k:List It}{ops:Array Oper}{env:aG}{H:Hp}{lk:aP}{df:bS}(fe:Jt cx.P cx.uq ops (jQ ops) 0 [] ops.toList=true)
  (h:go cx n Q (.on ops (jQ ops) ops.toList::k) .normal ⟨env,H,[],df⟩) (hl:cx.uq mC=false\/xN ops=none:=by first|exact .inl rfl|exact .inr (by kernel_rfl)):go cx n Q (.c (.region id ops true)::k) .normal ⟨env,H,lk,df⟩:=by
 simp only[go] at h ⊢;obtain⟨s',h1,h2⟩:=h;exact⟨.normal,s',by simp only[Cx.code];exact zlF fe h1 hl,h2⟩
theorem jo{n id:Nat}{Q:Ex->St->Prop}{k:List It}{ops:Array Oper}{env:aG}{H:Hp}{lk:aP}{df:bS}{tk:cw}(ht:jQ ops=tk)(fe:Jt cx.P cx.uq ops tk 0 [] ops.toList=true)
  (h:go cx n Q (.on ops tk ops.toList::k) .normal ⟨env,H,[],df⟩) (hl:cx.uq mC=false\/xN ops=none:=by first|exact .inl rfl|exact .inr (by kernel_rfl)):go cx n Q (.c (.region id ops true)::k) .normal ⟨env,H,lk,df⟩:=by
 subst ht;exact znD fe h hl
theorem wK{n id:Nat}{Q:Ex->St->Prop}{k:List It}{ops:Array Oper}{env:aG}{H:Hp}{lk:aP}{df:bS}{tk:cw}(ht:jQ ops=tk)
  (h:go cx n Q (.os ops tk ops.toList::k) .normal ⟨env,H,[],df⟩):go cx n Q (.c (.region id ops false)::k) .normal ⟨env,H,lk,df⟩:=by
 subst ht;exact DO.2 h
theorem zh{n id:Nat}{Q:Ex->St->Prop}{k:List It}{ops:Array Oper}{env:aG}{H:Hp}{lk:aP}{df:bS}(h:go cx n Q (.os ops [] ops.toList::k) .normal ⟨env,H,[],df⟩)(ht:jQ ops=[]:=by kernel_rfl):go cx n Q (.c (.region id ops false)::k) .normal ⟨env,H,lk,df⟩:=wK ht h
end
end Go.Vm
