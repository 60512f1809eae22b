/- Vm: a region whose order is drawn, with loads that are not in order with what changes the heap elsewhere: they are looked at again behind each change; Vm: a region whose order is drawn, with loads that are not in order with what changes the heap elsewhere, ahead of them or behind them; Sets of small numbers as rows of words: plain law, no program; and what follows from it. Conditions: none but those that each theorem names. -/
import Derived.Test.YtlnijcffanjieaaGreatDoorVmF
namespace Go.Vm
open Go
variable {cx:Cx} {all:Array Oper} {takes:List Tmp}
def ku (cx:Cx) (takes:List Tmp) (c:Cfg):List (Oper×List V×V)->Prop
 | []=>True
 | p::ps=>cx.valC takes p.1 p.2.1 p.2.2 c=true/\ku cx takes c ps
theorem zb5 {c:Cfg} {ps:List (Oper×List V×V)} (h:ku cx takes c ps) (p:Oper×List V×V) (hp:p∈ps):cx.valC takes p.1 p.2.1 p.2.2 c=true:=by
 induction ps with
 | nil=>cases hp
 | cons a ps ih =>
  cases hp with
  | head=>exact h.1
  | tail _ hp=>exact ih h.2 hp
def vM (b:Bool) (p:Oper×List V×V) (ps:List (Oper×List V×V)):List (Oper×List V×V):=bif b then p::ps else ps
def ojQ (cx:Cx) (all:Array Oper) (takes:List Tmp) (P:St->Prop):List (Oper×List V×V)->List (Bool×Bool)->List Oper->St->Prop
 | _,_,[],s=>P s
 | _,[],_::_,_=>False
 | pend,(ld,hp)::fl,o::os,⟨env,H,lk,df⟩=>match zS all o env with
  | none=>False
  | some false=>ojQ cx all takes P pend fl os ⟨zl env o.dst (.tup []),H,lk,df⟩
  | some true=>kZ cx o env lk=true/\match cx.op takes o env H lk df with
   | some (.val v,⟨env1,H1,lk1,df1⟩)=>(hp=true->ku cx takes ⟨0,H1,lk1,df1⟩ pend)/\ojQ cx all takes P (vM ld (o,env,v) pend) fl os ⟨zl env1 o.dst v,H1,lk1,df1⟩
   | some (.skip,⟨env1,H1,lk1,df1⟩)=>(hp=true->ku cx takes ⟨0,H1,lk1,df1⟩ pend)/\ojQ cx all takes P pend fl os ⟨zl env1 o.dst (.tup []),H1,lk1,df1⟩
   | _=>False
def zoW (js:List Nat) (r q:SR):Bool :=
 match bit r.m q.idx with
 | true=>true
 | false=>!(r.hp && q.hp) && (!(q.hp && r.lk) || (q.tk && r.ld)) && (!(r.hp && q.lk) || (r.al && q.ld) || (js.any (Nat.beq q.idx) && q.ld))
def znB (P:Program) (uq:TypeId->Bool) (all:Array Oper) (takes:List Tmp) (js:List Nat):Nat->List SR->List (Bool×Bool)->List Oper->Bool
 | _,_,_,[]=>true
 | _,_,[],_::_=>false
 | i,rs,(ld,hp)::fl,o::os=>match zfe rs o.after.toList with
  | none=>false
  | some m =>
   let r:SR:=⟨i,m,tmM takes o,Nat.lor (tmM takes o) (lkM all o),qF P uq takes o,wy P uq o,wY o,zcy takes o,jP takes o⟩
   ((!qF P uq takes o || hp) && (!(js.any (Nat.beq i)) || ld)) && ((!r.tk || jS (fun q=>!q.tk) rs) && jS (zgi r) rs && (jS (zoW js r) rs && znB P uq all takes js (i+1) (r::rs) fl os))
theorem zhC {js:List Nat} {P:St->Prop}:∀ (os:List Oper) (fl:List (Bool×Bool)) (pend:List (Oper×List V×V)) (i:Nat) (rs:List Rec) (ts:List SR) (c0:Cfg) (rest:List Cfg) (s:St),SqI cx takes i rs ts c0 rest s->znB cx.P cx.uq all takes js i ts fl os=true->(∀ q∈rs,q.hp=false->q.free=false->js.any (Nat.beq q.idx)=true->(q.o,q.env,q.v)∈pend)->ojQ cx all takes P pend fl os s->∃ s',cx.opsD all takes i rs (c0::rest) os s=some (.normal,s')/\P s'
 | [],fl,pend,i,rs,ts,c0,rest,s,_,_,_,hc=>by
  simp only [ojQ] at hc;exact ⟨s,by simp only [Cx.opsD],hc⟩
 | _::_,[],pend,i,rs,ts,c0,rest,s,_,_,_,hc=>by
  simp only [ojQ] at hc
 | o::os,(ld,fhp)::fl,pend,i,rs,ts,c0,rest,⟨env,H,lk,df⟩,hI,hst,hpd,hc=>by
  simp only [znB] at hst;split at hst<;>try (cases hst;done)
  rename_i m hm;simp only [zAF] at hst;obtain ⟨⟨hfl1,hfl2⟩,⟨htk,hsl⟩,hord,hst⟩:=hst;have hslots:∀ (hp free:Bool) (v:V),jS (jB ⟨i,o,m,tmM takes o,Nat.lor (tmM takes o) (lkM all o),hp,free,env,v⟩) rs=true:=fun hp free v =>
   zhz hI.pr (fun q t hqt hg=>by simp only [zgi] at hg;simp only [jB,hqt.idx,hqt.tm,hqt.lm];exact hg) hsl
  have key:∀ (hp free:Bool) (v:V) (jq:List (Oper×List V×V)) (H1:Hp) (lk1:List (Nat×Nat)) (df1:List (V×List V)) (env1:List V),
    (hp=true->qF cx.P cx.uq takes o=true)->(hp=false->free=false->wy cx.P cx.uq o=true) ->
    (hp=false->H1=H/\lk1=lk/\df1=df)->(hp=false->free=false->∀ D,cx.valC takes o env v ⟨D,H,lk,df⟩=true) ->
    (hp=true->wY o=true->∃ x,H1=H.push x/\lk1=lk/\df1=df) ->
    (hp=true->jP takes o=true->∀ D,zb4 ⟨D,H,lk,df⟩ ⟨env1,H1,lk1,df1⟩) ->
    (hp=false->free=false->zcy takes o=true->∀ c,zb4 c ⟨env,H,lk,df⟩->cx.valC takes o env v c=true) ->
    (hp=true->∀ D,∀ p∈pend,cx.valC takes p.1 p.2.1 p.2.2 ⟨D,H1,lk1,df1⟩=true) ->
    (∀ q∈pend,q∈jq)->(hp=false->free=false->js.any (Nat.beq i)=true->(o,env,v)∈jq) ->
    ojQ cx all takes P jq fl os ⟨env1,H1,lk1,df1⟩ ->
    ∃ s',(match jS (jB ⟨i,o,m,tmM takes o,Nat.lor (tmM takes o) (lkM all o),hp,free,env,v⟩) rs,c0::rest with
     | true,c0::cs=>cx.cfgsK takes rs ⟨i,o,m,tmM takes o,Nat.lor (tmM takes o) (lkM all o),hp,free,env,v⟩ c0 ⟨Nat.lor c0.D (Nat.pow 2 i),H1,lk1,df1⟩ cs fun cs =>
      cx.opsD all takes (i+1) (⟨i,o,m,tmM takes o,Nat.lor (tmM takes o) (lkM all o),hp,free,env,v⟩::rs) cs os ⟨env1,H1,lk1,df1⟩
     | _,_=>none)=some (.normal,s')/\P s':=by
   intro hp free v jq H1 lk1 df1 env1 h1 h2 h3 h4 h5 h5a h5b hpe hsub hnewp h6;rw [hslots];simp only;have hlt:∀ q∈rs,q.idx≠i:=fun q hq e=>by have:=hI.lt q hq;omega
   have hc1:∀ b,(∃ q∈rs,q.hp=true/\q.idx=b)->bit (Nat.lor c0.D (Nat.pow 2 i)) b=true:=fun b hb=>by rw [qT,(hI.cD b).2 hb];rfl
   have hordq:=vo hI.pr hord;have hlook:hp=true->∀ q∈rs,q.hp=false->q.free=false->bit m q.idx=true\/(∃ c∈rs,c.hp=true/\bit c.m q.idx=true)\/∀ D,cx.valC takes q.o q.env q.v ⟨D,H1,lk1,df1⟩=true:=fun hr q hq hqh hqf=>by
    obtain ⟨t,ht,hg⟩:=hordq q hq;simp only [zoW] at hg;split at hg
    ·rename_i hb;exact .inl (by rw [ht.idx];exact hb)
    ·rw [h1 hr,ht.lk hqh hqf] at hg;simp only [zBQ,zAs,zBL,zAF,zAZ] at hg;obtain ⟨_,⟨hal,hld⟩|⟨hjs,hld⟩⟩:=hg
     ·rcases hI.vals q hq hqh hqf with h|h
      ·exact .inr (.inl h)
      ·obtain ⟨x,e1,e2,e3⟩:=h5 hr hal;subst e1 e2 e3;rw [ht.ld] at hld;exact .inr (.inr fun D=>zfg hld (h D))
     ·exact .inr (.inr fun D=>hpe hr D _ (hpd q hq hqh hqf (by rw [ht.idx];exact hjs)))
   have hnotk:jP takes o=true->∀ q∈rs,jP takes q.o=false:=fun ht q hq=>by
    rw [ht] at htk;simp only [zAs,zBL] at htk;obtain ⟨t,h7,h8⟩:=vo hI.pr htk q hq;rw [<- h7.tk];simpa using h8
   have hafter:(hp=true\/(hp=false/\free=false))->∀ q∈rs,q.hp=true->bit m q.idx=true\/(hp=false/\jP takes q.o=true/\zcy takes o=true):=fun hr q hq hqh=>by
    obtain ⟨t,ht,hg⟩:=hordq q hq;simp only [zoW] at hg;split at hg
    ·rename_i hb;exact .inl (by rw [ht.idx];exact hb)
    ·rw [ht.hp hqh] at hg;simp only [Bool.and_true,zBQ,zAF,zAr] at hg;obtain ⟨⟨g1,g2⟩,_⟩:=hg;rcases hr with hr|⟨hr,hf⟩
     ·rw [h1 hr] at g1;cases g1
     ·rw [h2 hr hf] at g2;simp only [zAs,zBL,zAF] at g2;exact .inr ⟨hr,by rw [<- ht.tk];exact g2.1,g2.2⟩
   have hmiss:∀ c:Cfg,(∃ q∈rs,q.hp=true/\bit m q.idx=true/\bit c.D q.idx=false)->j8 (Nat.land m (chgM rs)) c.D=false:=fun c hc=>by
    obtain ⟨q,hq,e1,e2,e3⟩:=hc;cases hs:j8 (Nat.land m (chgM rs)) c.D with
    | false=>rfl
    | true =>
     have:=subM_spec.1 hs q.idx (by rw [qU,e2,bit_chgM.2 ⟨q,hq,e1,rfl⟩];rfl)
     rw [this] at e3;cases e3
   have hci:∀ c:Cfg,(∀ b,bit c.D b=true->∃ q∈rs,q.idx=b)->bit c.D i=false:=fun c hc=>by
    cases hb:bit c.D i with
    | false=>rfl
    | true =>
     obtain ⟨q,hq,e⟩:=hc i hb;exact absurd e (hlt q hq)
   rw [zjx (r:=⟨i,o,m,tmM takes o,Nat.lor (tmM takes o) (lkM all o),hp,free,env,v⟩) ?_ ?_ hc1 ?_]
   ·have hnewI:SqI cx takes (i+1) (⟨i,o,m,tmM takes o,Nat.lor (tmM takes o) (lkM all o),hp,free,env,v⟩::rs) (⟨i,m,tmM takes o,Nat.lor (tmM takes o) (lkM all o),qF cx.P cx.uq takes o,wy cx.P cx.uq o,wY o,zcy takes o,jP takes o⟩::ts)
      (bif hp then ⟨Nat.lor c0.D (Nat.pow 2 i),H1,lk1,df1⟩ else c0) (bif hp then c0::rest else rest) ⟨env1,H1,lk1,df1⟩:=by
     refine ⟨.cons ⟨rfl,rfl,rfl,rfl,h1,h2,rfl,rfl⟩ hI.pr,?_,?_,?_,?_,?_,?_⟩
     ·intro q hq;rcases zAO.1 hq with rfl|hq
      ·exact zBu _
      ·have:=hI.lt q hq;omega
     ·intro b;cases hp with
      | false =>
       simp only [zBl];rw [hI.cD];constructor
       ·rintro ⟨q,hq,e⟩;exact ⟨q,zAE _ hq,e⟩
       ·rintro ⟨q,hq,e1,e2⟩;rcases zAO.1 hq with rfl|hq
        ·cases e1
        ·exact ⟨q,hq,e1,e2⟩
      | true =>
       simp only [zBm];rw [qT,zAZ,hI.cD,jf,decide_eq_true_eq];constructor
       ·rintro (⟨q,hq,e⟩|rfl)
        ·exact ⟨q,zAE _ hq,e⟩
        ·exact ⟨_,zAL ..,rfl,rfl⟩
       ·rintro ⟨q,hq,e1,e2⟩;rcases zAO.1 hq with rfl|hq
        ·exact .inr e2
        ·exact .inl ⟨q,hq,e1,e2⟩
     ·cases hp with
      | false=>obtain ⟨e1,e2,e3⟩:=h3 rfl;subst e1 e2 e3;exact hI.c0
      | true=>exact ⟨rfl,rfl,rfl⟩
     ·intro c hc' b hb;cases hp with
      | false=>obtain ⟨q,hq,e⟩:=hI.rD c hc' b hb;exact ⟨q,zAE _ hq,e⟩
      | true =>
       rcases zAO.1 hc' with rfl|hc'
       ·obtain ⟨q,hq,_,e⟩:=(hI.cD b).1 hb;exact ⟨q,zAE _ hq,e⟩
       ·obtain ⟨q,hq,e⟩:=hI.rD c hc' b hb;exact ⟨q,zAE _ hq,e⟩
     ·intro c hc';cases hp with
      | false =>
       obtain ⟨e1,e2,e3⟩:=h3 rfl;subst e1 e2 e3;rcases hI.rest c hc' with ⟨q,hq,e⟩|⟨⟨q,hq,e⟩,hL⟩
       ·exact .inl ⟨q,zAE _ hq,e⟩
       ·exact .inr ⟨⟨q,zAE _ hq,e⟩,hL⟩
      | true =>
       have hc0i:bit c0.D i=false:=hci c0 fun b hb=>by obtain ⟨q,hq,_,e⟩:=(hI.cD b).1 hb;exact ⟨q,hq,e⟩
       cases htl:jP takes o with
       | false =>
        rcases zAO.1 hc' with rfl|hc'
        ·exact .inl ⟨_,zAL ..,rfl,htl,hc0i⟩
        ·exact .inl ⟨_,zAL ..,rfl,htl,hci c (hI.rD c hc')⟩
       | true =>
        rcases zAO.1 hc' with rfl|hc'
        ·refine .inr ⟨⟨_,zAL ..,rfl,htl,hc0i⟩,?_⟩;obtain ⟨D0,H0,lk0,df0⟩:=c;obtain ⟨e1,e2,e3⟩:=hI.c0;simp only at e1 e2 e3;subst e1 e2 e3;exact h5a rfl htl D0
        ·rcases hI.rest c hc' with ⟨q,hq,e⟩|⟨⟨q,hq,e1,e2,_⟩,_⟩
         ·exact .inl ⟨q,zAE _ hq,e⟩
         ·rw [hnotk htl q hq] at e2;cases e2
     ·intro q hq hqh hqf;rcases zAO.1 hq with rfl|hq'
      ·obtain ⟨e1,e2,e3⟩:=h3 hqh;subst e1 e2 e3;exact .inr (h4 hqh hqf)
      ·clear hq;cases hp with
       | false =>
        obtain ⟨e1,e2,e3⟩:=h3 rfl;subst e1 e2 e3;rcases hI.vals q hq' hqh hqf with ⟨c,hc,e⟩|h
        ·exact .inl ⟨c,zAE _ hc,e⟩
        ·exact .inr h
       | true =>
        rcases hlook rfl q hq' hqh hqf with h|⟨c,hc,e⟩|h
        ·exact .inl ⟨_,zAL ..,rfl,h⟩
        ·exact .inl ⟨c,zAE _ hc,e⟩
        ·exact .inr h
    have:=zhC os fl jq _ _ _ _ _ _ hnewI hst (fun q hq hqh hqf hj=>by
     rcases zAO.1 hq with rfl|hq
     ·exact hnewp hqh hqf hj
     ·exact hsub _ (hpd q hq hqh hqf hj)) h6
    cases hp<;>exact this
   ·intro hr c hc';refine hmiss c ?_;rcases hI.rest c hc' with ⟨q,hq,e1,_,e2⟩|⟨⟨q,hq,e1,_,e2⟩,_⟩
    ·rcases hafter (.inl hr) q hq e1 with h|⟨h,_⟩
     ·exact ⟨q,hq,e1,h,e2⟩
     ·exact absurd (hr.symm.trans h) (by simp)
    ·rcases hafter (.inl hr) q hq e1 with h|⟨h,_⟩
     ·exact ⟨q,hq,e1,h,e2⟩
     ·exact absurd (hr.symm.trans h) (by simp)
   ·intro hr hf c hc';rcases hI.rest c hc' with ⟨q,hq,e1,e3,e2⟩|⟨⟨q,hq,e1,e3,e2⟩,hL⟩
    ·rcases hafter (.inr ⟨hr,hf⟩) q hq e1 with h|⟨_,h,_⟩
     ·exact .inl (hmiss c ⟨q,hq,e1,h,e2⟩)
     ·rw [e3] at h;cases h
    ·rcases hafter (.inr ⟨hr,hf⟩) q hq e1 with h|⟨_,_,h⟩
     ·exact .inl (hmiss c ⟨q,hq,e1,h,e2⟩)
     ·exact .inr (h5b hr hf h c hL)
   ·intro hr q hq hqh hqf;rcases hlook hr q hq hqh hqf with h|h|h
    ·exact .inl h
    ·exact .inr (.inl h)
    ·exact .inr (.inr (h _))
  simp only [Cx.opsD,zff hI.pr,hm,qP,zO,q8];simp only [ojQ] at hc;split at hc<;>try (cases hc;done)
  ·rename_i hw;simp only [hw];exact key false true (.tup []) pend H lk df _ (fun h=>nomatch h) (fun _ h=>nomatch h) (fun _=>⟨rfl,rfl,rfl⟩) (fun _ h=>nomatch h) (fun h=>nomatch h) (fun h=>nomatch h) (fun _ h=>nomatch h) (fun h=>nomatch h) (fun _ h=>h) (fun _ h=>nomatch h) hc
  ·rename_i hw;simp only [hw];obtain ⟨hck,hc⟩:=hc;split at hc<;>try (cases hc;done)
   ·rename_i v env1 H1 lk1 df1 hop;simp only [hop];obtain ⟨hpk,hc⟩:=hc;have hfh:qF cx.P cx.uq takes o=true->fhp=true:=fun h=>by rw [h] at hfl1;simpa using hfl1
    have hfj:js.any (Nat.beq i)=true->ld=true:=fun h=>by rw [h] at hfl2;simpa using hfl2
    refine key _ _ v _ H1 lk1 df1 _ (fun h=>h) (fun _ h=>by simpa using h) (fun hf=>?_) (fun hf _ D=>?_) (fun _ ha=>?_) (fun _ ht D=>?_) (fun _ _ hl c hL=>zfh hl hL hck hop) (fun h D p hp=>zb5 (hpk (hfh h)) p hp) (fun q hq=>by unfold vM;cases ld<;>simp [hq]) (fun _ _ hj=>by rw [hfj hj];simp [vM]) hc
    ·obtain ⟨v',_,e2,_⟩:=wD hf hop;cases e2;exact ⟨rfl,rfl,rfl⟩
    ·simp [Cx.valC,Cx.runC,hop,V.same_refl]
    ·obtain ⟨x,e⟩:=zhB ha hop;cases e;exact ⟨x,rfl,rfl,rfl⟩
    ·rcases zjw (D:=D) ht hop with h|h
     ·exact .inl h
     ·exact .inr h
   ·rename_i env1 H1 lk1 df1 hop;simp only [hop];have hhp:qF cx.P cx.uq takes o=true:=by
     cases hb:qF cx.P cx.uq takes o with
     | true=>rfl
     | false=>obtain ⟨v',e1,_⟩:=wD hb hop;cases e1
    rw [hhp];obtain ⟨hpk,hc⟩:=hc;have hfh:fhp=true:=by rw [hhp] at hfl1;simpa using hfl1
    refine key true false (.tup []) pend H1 lk1 df1 _ (fun _=>hhp) (fun h=>nomatch h) (fun h=>nomatch h) (fun h=>nomatch h) (fun _ ha=>?_) (fun _ ht=>?_) (fun h=>nomatch h) (fun _ D p hp=>zb5 (hpk hfh) p hp) (fun _ h=>h) (fun h=>nomatch h) hc
    ·obtain ⟨dst,op,type,pos,after,guard⟩:=o;unfold wY at ha;split at ha<;>try (cases ha;done)
     rename_i t hop';simp only at hop';subst hop';simp only [Cx.op] at hop;split at hop<;>try (cases hop;done)
     split at hop<;>try (cases hop;done)
     simp [zO,qy] at hop
    ·obtain ⟨dst,op,type,pos,after,guard⟩:=o;unfold jP at ht;split at ht<;>try (cases ht;done)
     rename_i t a hop';simp only at hop';subst hop';cases dst with
     | none=>cases ht
     | some d =>
      simp only at ht;rw [zaM ht] at hop;unfold zeF at hop;split at hop<;>try (cases hop;done)
      split at hop<;>try (cases hop;done)
      split at hop<;>try (cases hop;done)
      split at hop<;>cases hop
theorem yj {n id:Nat} {Q:Ex->St->Prop} {k:List It} {ops:Array Oper} {env:List V} {H:Hp} {lk:List (Nat×Nat)} {df:List (V×List V)} {tk:List Tmp} (js:List Nat) (fl:List (Bool×Bool)) (ht:wx ops=tk) (hst:znB cx.P cx.uq ops tk js 0 [] fl ops.toList=true)
  (h:ojQ cx ops tk (fun s=>go cx n Q k .normal s) [] fl ops.toList ⟨env,H,[],df⟩):go cx n Q (.c (.region id ops true)::k) .normal ⟨env,H,lk,df⟩:=by
 subst ht;obtain ⟨s',h1,h2⟩:=zhC (js:=js) _ _ _ _ _ _ ⟨0,H,[],df⟩ [] _ ⟨.nil,fun q hq=>by simp at hq,fun b=>by simp [wC],⟨rfl,rfl,rfl⟩,fun c hc=>by simp at hc,fun c hc=>by simp at hc,fun q hq=>by simp at hq⟩ hst (fun q hq=>by simp at hq) h
 simp only [go];exact ⟨.normal,s',by simp only [Cx.code,Cx.draw];exact h1,h2⟩
section
variable {P:St->Prop} {pend:List (Oper×List V×V)} {fl:List (Bool×Bool)} {os:List Oper} {env:List V} {H:Hp} {lk:List (Nat×Nat)} {df:List (V×List V)} {s:St} {dst:Option Tmp} {op:Op} {type:TypeId} {pos:String} {after:Array Edge} {ld hp:Bool}
theorem oj_nil:ojQ cx all takes P pend fl [] s ↔ P s:=by simp [ojQ]
def ojV (cx:Cx) (all:Array Oper) (takes:List Tmp) (P:St->Prop) (pend:List (Oper×List V×V)) (ld hp:Bool) (fl:List (Bool×Bool)) (o:Oper) (env:List V) (os:List Oper):Option (OR×St)->Prop
 | some (.val v,⟨env1,H1,lk1,df1⟩)=>(hp=true->ku cx takes ⟨0,H1,lk1,df1⟩ pend)/\ojQ cx all takes P (vM ld (o,env,v) pend) fl os ⟨zl env1 o.dst v,H1,lk1,df1⟩
 | some (.skip,⟨env1,H1,lk1,df1⟩)=>(hp=true->ku cx takes ⟨0,H1,lk1,df1⟩ pend)/\ojQ cx all takes P pend fl os ⟨zl env1 o.dst (.tup []),H1,lk1,df1⟩
 | _=>False
theorem oj_cons:ojQ cx all takes P pend ((ld,hp)::fl) (⟨dst,op,type,pos,after,none⟩::os) ⟨env,H,lk,df⟩ ↔ (kZ cx ⟨dst,op,type,pos,after,none⟩ env lk=true/\ojV cx all takes P pend ld hp fl ⟨dst,op,type,pos,after,none⟩ env os (cx.op takes ⟨dst,op,type,pos,after,none⟩ env H lk df)):=by
 simp only [ojQ,zS];cases cx.op takes ⟨dst,op,type,pos,after,none⟩ env H lk df with
 | none=>simp [ojV]
 | some r =>
  obtain ⟨r,s1⟩:=r;obtain ⟨env1,H1,lk1,df1⟩:=s1;cases r<;>simp [ojV]
theorem xJ {o:Oper} {v:V} {env1:List V} {H1:Hp} {lk1:List (Nat×Nat)} {df1:List (V×List V)}:ojV cx all takes P pend ld false fl o env os (some (.val v,⟨env1,H1,lk1,df1⟩)) ↔ ojQ cx all takes P (vM ld (o,env,v) pend) fl os ⟨zl env1 o.dst v,H1,lk1,df1⟩:=by simp [ojV]
theorem zee {o:Oper} {v:V} {env1:List V} {H1:Hp} {lk1:List (Nat×Nat)} {df1:List (V×List V)}:ojV cx all takes P pend ld true fl o env os (some (.val v,⟨env1,H1,lk1,df1⟩)) ↔ ku cx takes ⟨0,H1,lk1,df1⟩ pend/\ojQ cx all takes P (vM ld (o,env,v) pend) fl os ⟨zl env1 o.dst v,H1,lk1,df1⟩:=by simp [ojV]
theorem zb6 {o:Oper} {env1:List V} {H1:Hp} {lk1:List (Nat×Nat)} {df1:List (V×List V)}:ojV cx all takes P pend ld hp fl o env os (some (.skip,⟨env1,H1,lk1,df1⟩)) ↔ (hp=true->ku cx takes ⟨0,H1,lk1,df1⟩ pend)/\ojQ cx all takes P pend fl os ⟨zl env1 o.dst (.tup []),H1,lk1,df1⟩:=by simp [ojV]
theorem kS {p:Oper×List V×V} {ps:List (Oper×List V×V)}:vM false p ps=ps:=rfl
theorem wZ {p:Oper×List V×V} {ps:List (Oper×List V×V)}:vM true p ps=p::ps:=rfl
theorem ke {c:Cfg}:ku cx takes c [] ↔ True:=Iff.rfl
theorem j6 {c:Cfg} {o:Oper} {env:List V} {v:V} {ps:List (Oper×List V×V)}:ku cx takes c ((o,env,v)::ps) ↔ cx.valC takes o env v c=true/\ku cx takes c ps:=Iff.rfl
theorem zjy {D:Nat} {o:Oper} {v:V} {s1:St} (h:cx.op takes o env H lk df=some (.val v,s1)):cx.valC takes o env v ⟨D,H,lk,df⟩=true:=by simp [Cx.valC,Cx.runC,h,V.same_refl]
end
def zpB (cx:Cx) (n:Nat) (Q:Ex->St->Prop) (k:List It) (R:St->Prop):Ex->St->Prop
 | .normal,s=>R s
 | ex,s=>go cx n Q k ex s
theorem zmh {n:Nat} {Q:Ex->St->Prop} {k:List It} {c:Code} {s:St} (R:St->Prop) (h:go cx n (zpB cx n Q k R) [.c c] .normal s) (h2:∀ s',R s'->go cx n Q k .normal s'):go cx n Q (.c c::k) .normal s:=by
 obtain ⟨ex,s',h3,h4⟩:=yi h;simp only [go];refine ⟨ex,s',h3,?_⟩;cases ex<;>first|exact h2 _ h4|exact h4
theorem zbi {n:Nat} {Q:Ex->St->Prop} {k:List It} {R:St->Prop} {s:St}:zpB cx n Q k R .normal s ↔ R s:=Iff.rfl
theorem go_env {n:Nat} {Q:Ex->St->Prop} {k:List It} {env:List V} {H:Hp} {lk:List (Nat×Nat)} {df:List (V×List V)} (F:List V->Prop) (h:F env) (h2:∀ env,F env->go cx n Q k .normal ⟨env,H,lk,df⟩):go cx n Q k .normal ⟨env,H,lk,df⟩:=h2 env h
theorem zfi {D:Nat} {env:List V} {H:Hp} {lk:List (Nat×Nat)} {df:List (V×List V)} {d:Tmp} {t type:TypeId} {a:Operand} {pos:String} {after:Array Edge} {guard:Option (Nat×Bool)} {p v0 v:V} (h1:peek env a=some p) (h2:zJ cx.P H cx.gl t p=some v0) (h3:clr v0=v):ku cx [] ⟨D,H,lk,df⟩ [(⟨some d,.load t a,type,pos,after,guard⟩,env,v)]:=by
 refine ⟨?_,trivial⟩;show cx.valC [] ⟨some d,.load t a,type,pos,after,guard⟩ env v ⟨D,H,lk,df⟩=true;have:cx.op [] ⟨some d,.load t a,type,pos,after,guard⟩ env H lk df=some (.val v,⟨env,H,lk,df⟩):=by
  rw [zt,h1,zAB,h2,zAC,h3,zb]
 exact zjy this
end Go.Vm
namespace Go.Vm
open Go
variable {cx:Cx} {all:Array Oper} {takes:List Tmp}
def zar (cx:Cx) (takes:List Tmp) (o:Oper) (env:List V) (v:V):List (Hp×List (Nat×Nat)×List (V×List V))->Prop
 | []=>True
 | h::hs=>cx.valC takes o env v ⟨0,h.1,h.2.1,h.2.2⟩=true/\zar cx takes o env v hs
theorem zmi {o:Oper} {env:List V} {v:V} {hs:List (Hp×List (Nat×Nat)×List (V×List V))} (h:zar cx takes o env v hs) (p:Hp×List (Nat×Nat)×List (V×List V)) (hp:p∈hs):cx.valC takes o env v ⟨0,p.1,p.2.1,p.2.2⟩=true:=by
 induction hs with
 | nil=>cases hp
 | cons a ps ih =>
  cases hp with
  | head=>exact h.1
  | tail _ hp=>exact ih h.2 hp
def yE (b:Bool) (p:Hp×List (Nat×Nat)×List (V×List V)) (ps:List (Hp×List (Nat×Nat)×List (V×List V))):List (Hp×List (Nat×Nat)×List (V×List V)):=bif b then p::ps else ps
def olQ (cx:Cx) (all:Array Oper) (takes:List Tmp) (P:St->Prop):List (Hp×List (Nat×Nat)×List (V×List V))->List (Oper×List V×V)->List (Bool×Bool×Bool×Bool)->List Oper->St->Prop
 | _,_,_,[],s=>P s
 | _,_,[],_::_,_=>False
 | hs,pend,(ld,hp,la,cl)::fl,o::os,⟨env,H,lk,df⟩=>match zS all o env with
  | none=>False
  | some false=>olQ cx all takes P hs pend fl os ⟨zl env o.dst (.tup []),H,lk,df⟩
  | some true=>kZ cx o env lk=true/\match cx.op takes o env H lk df with
   | some (.val v,⟨env1,H1,lk1,df1⟩)=>(hp=true->cl=false->ku cx takes ⟨0,H1,lk1,df1⟩ pend)/\(la=true->zar cx takes o env v hs)/\olQ cx all takes P (yE hp (H,lk,df) hs) (vM ld (o,env,v) pend) fl os ⟨zl env1 o.dst v,H1,lk1,df1⟩
   | some (.skip,⟨env1,H1,lk1,df1⟩)=>(hp=true->cl=false->ku cx takes ⟨0,H1,lk1,df1⟩ pend)/\olQ cx all takes P (yE hp (H,lk,df) hs) pend fl os ⟨zl env1 o.dst (.tup []),H1,lk1,df1⟩
   | _=>False
def zoX (js ls:List Nat) (r q:SR):Bool :=
 match bit r.m q.idx with
 | true=>true
 | false=>!(r.hp && q.hp) && (!(q.hp && r.lk) || (q.tk && r.ld) || ls.any (Nat.beq r.idx)) && (!(r.hp && q.lk) || (r.al && q.ld) || (js.any (Nat.beq q.idx) && q.ld))
def znC (P:Program) (uq:TypeId->Bool) (all:Array Oper) (takes:List Tmp) (js ls:List Nat):Nat->List SR->List (Bool×Bool×Bool×Bool)->List Oper->Bool
 | _,_,_,[]=>true
 | _,_,[],_::_=>false
 | i,rs,(ld,hp,la,cl)::fl,o::os=>match zfe rs o.after.toList with
  | none=>false
  | some m =>
   let r:SR:=⟨i,m,tmM takes o,Nat.lor (tmM takes o) (lkM all o),qF P uq takes o,wy P uq o,wY o,zcy takes o,jP takes o⟩
   ((!qF P uq takes o || hp) && (!(js.any (Nat.beq i)) || ld) && (!(ls.any (Nat.beq i)) || la) && (!cl || jS (fun q=>bit m q.idx) rs)) && ((!r.tk || jS (fun q=>!q.tk) rs) && jS (zgi r) rs && (jS (zoX js ls r) rs && znC P uq all takes js ls (i+1) (r::rs) fl os))
theorem zoY {o:Oper} {env:List V} {v:V} {D D':Nat} {H:Hp} {lk:List (Nat×Nat)} {df:List (V×List V)} (h:cx.valC takes o env v ⟨D,H,lk,df⟩=true):cx.valC takes o env v ⟨D',H,lk,df⟩=true:=h
theorem zhD {js ls:List Nat} {P:St->Prop}:∀ (os:List Oper) (fl:List (Bool×Bool×Bool×Bool)) (hs:List (Hp×List (Nat×Nat)×List (V×List V))) (pend:List (Oper×List V×V)) (i:Nat) (rs:List Rec) (ts:List SR) (c0:Cfg) (rest:List Cfg) (s:St),SqI cx takes i rs ts c0 rest s->znC cx.P cx.uq all takes js ls i ts fl os=true->(∀ c∈rest,(c.H,c.lk,c.df)∈hs)->(∀ q∈rs,q.hp=false->q.free=false->js.any (Nat.beq q.idx)=true->(q.o,q.env,q.v)∈pend)->olQ cx all takes P hs pend fl os s->∃ s',cx.opsD all takes i rs (c0::rest) os s=some (.normal,s')/\P s'
 | [],fl,hs,pend,i,rs,ts,c0,rest,s,_,_,_,_,hc=>by
  simp only [olQ] at hc;exact ⟨s,by simp only [Cx.opsD],hc⟩
 | _::_,[],hs,pend,i,rs,ts,c0,rest,s,_,_,_,_,hc=>by
  simp only [olQ] at hc
 | o::os,(ld,fhp,fla,fcl)::fl,hs,pend,i,rs,ts,c0,rest,⟨env,H,lk,df⟩,hI,hst,hhs,hpd,hc=>by
  simp only [znC] at hst;split at hst<;>try (cases hst;done)
  rename_i m hm;simp only [zAF] at hst;obtain ⟨⟨⟨⟨hfl1,hfl2⟩,hfl3⟩,hfl4⟩,⟨htk,hsl⟩,hord,hst⟩:=hst;have hcl:fcl=true->∀ q∈rs,bit m q.idx=true:=fun h q hq=>by
   rw [h] at hfl4;simp only [zAs,zBL] at hfl4;obtain ⟨t,h7,h8⟩:=vo hI.pr hfl4 q hq;rw [h7.idx];exact h8
  have hslots:∀ (hp free:Bool) (v:V),jS (jB ⟨i,o,m,tmM takes o,Nat.lor (tmM takes o) (lkM all o),hp,free,env,v⟩) rs=true:=fun hp free v =>
   zhz hI.pr (fun q t hqt hg=>by simp only [zgi] at hg;simp only [jB,hqt.idx,hqt.tm,hqt.lm];exact hg) hsl
  have key:∀ (hp free:Bool) (v:V) (hs1:List (Hp×List (Nat×Nat)×List (V×List V))) (jq:List (Oper×List V×V)) (H1:Hp) (lk1:List (Nat×Nat)) (df1:List (V×List V)) (env1:List V),
    (hp=true->qF cx.P cx.uq takes o=true)->(hp=false->free=false->wy cx.P cx.uq o=true) ->
    (hp=false->H1=H/\lk1=lk/\df1=df)->(hp=false->free=false->∀ D,cx.valC takes o env v ⟨D,H,lk,df⟩=true) ->
    (hp=true->wY o=true->∃ x,H1=H.push x/\lk1=lk/\df1=df) ->
    (hp=true->jP takes o=true->∀ D,zb4 ⟨D,H,lk,df⟩ ⟨env1,H1,lk1,df1⟩) ->
    (hp=false->free=false->zcy takes o=true->∀ c,zb4 c ⟨env,H,lk,df⟩->cx.valC takes o env v c=true) ->
    (hp=true->fcl=false->∀ D,∀ p∈pend,cx.valC takes p.1 p.2.1 p.2.2 ⟨D,H1,lk1,df1⟩=true) ->
    (hp=false->free=false->ls.any (Nat.beq i)=true->∀ c∈rest,cx.valC takes o env v c=true)->(∀ h∈hs,h∈hs1)->(hp=true->(H,lk,df)∈hs1) ->
    (∀ q∈pend,q∈jq)->(hp=false->free=false->js.any (Nat.beq i)=true->(o,env,v)∈jq) ->
    olQ cx all takes P hs1 jq fl os ⟨env1,H1,lk1,df1⟩ ->
    ∃ s',(match jS (jB ⟨i,o,m,tmM takes o,Nat.lor (tmM takes o) (lkM all o),hp,free,env,v⟩) rs,c0::rest with
     | true,c0::cs=>cx.cfgsK takes rs ⟨i,o,m,tmM takes o,Nat.lor (tmM takes o) (lkM all o),hp,free,env,v⟩ c0 ⟨Nat.lor c0.D (Nat.pow 2 i),H1,lk1,df1⟩ cs fun cs =>
      cx.opsD all takes (i+1) (⟨i,o,m,tmM takes o,Nat.lor (tmM takes o) (lkM all o),hp,free,env,v⟩::rs) cs os ⟨env1,H1,lk1,df1⟩
     | _,_=>none)=some (.normal,s')/\P s':=by
   intro hp free v hs1 jq H1 lk1 df1 env1 h1 h2 h3 h4 h5 h5a h5b hpe hla hhs1 hhs2 hsub hnewp h6;rw [hslots];simp only;have hlt:∀ q∈rs,q.idx≠i:=fun q hq e=>by have:=hI.lt q hq;omega
   have hc1:∀ b,(∃ q∈rs,q.hp=true/\q.idx=b)->bit (Nat.lor c0.D (Nat.pow 2 i)) b=true:=fun b hb=>by rw [qT,(hI.cD b).2 hb];rfl
   have hordq:=vo hI.pr hord;have hlook:hp=true->∀ q∈rs,q.hp=false->q.free=false->bit m q.idx=true\/(∃ c∈rs,c.hp=true/\bit c.m q.idx=true)\/∀ D,cx.valC takes q.o q.env q.v ⟨D,H1,lk1,df1⟩=true:=fun hr q hq hqh hqf=>by
    obtain ⟨t,ht,hg⟩:=hordq q hq;simp only [zoX] at hg;split at hg
    ·rename_i hb;exact .inl (by rw [ht.idx];exact hb)
    ·rw [h1 hr,ht.lk hqh hqf] at hg;simp only [zBQ,zAs,zBL,zAF,zAZ] at hg;obtain ⟨_,⟨hal,hld⟩|⟨hjs,hld⟩⟩:=hg
     ·rcases hI.vals q hq hqh hqf with h|h
      ·exact .inr (.inl h)
      ·obtain ⟨x,e1,e2,e3⟩:=h5 hr hal;subst e1 e2 e3;rw [ht.ld] at hld;exact .inr (.inr fun D=>zfg hld (h D))
     ·cases hf:fcl with
      | true=>exact .inl (hcl hf q hq)
      | false=>exact .inr (.inr fun D=>hpe hr hf D _ (hpd q hq hqh hqf (by rw [ht.idx];exact hjs)))
   have hnotk:jP takes o=true->∀ q∈rs,jP takes q.o=false:=fun ht q hq=>by
    rw [ht] at htk;simp only [zAs,zBL] at htk;obtain ⟨t,h7,h8⟩:=vo hI.pr htk q hq;rw [<- h7.tk];simpa using h8
   have hafter:(hp=true\/(hp=false/\free=false))->∀ q∈rs,q.hp=true->bit m q.idx=true\/(hp=false/\jP takes q.o=true/\zcy takes o=true)\/(hp=false/\free=false/\ls.any (Nat.beq i)=true):=fun hr q hq hqh=>by
    obtain ⟨t,ht,hg⟩:=hordq q hq;simp only [zoX] at hg;split at hg
    ·rename_i hb;exact .inl (by rw [ht.idx];exact hb)
    ·rw [ht.hp hqh] at hg;simp only [Bool.and_true,zBQ,zAF,zAr] at hg;obtain ⟨⟨g1,g2⟩,_⟩:=hg;rcases hr with hr|⟨hr,hf⟩
     ·rw [h1 hr] at g1;cases g1
     ·rw [h2 hr hf] at g2;simp only [zAs,zBL,zAF,zAZ] at g2;rcases g2 with g2|g2
      ·exact .inr (.inl ⟨hr,by rw [<- ht.tk];exact g2.1,g2.2⟩)
      ·exact .inr (.inr ⟨hr,hf,g2⟩)
   have hmiss:∀ c:Cfg,(∃ q∈rs,q.hp=true/\bit m q.idx=true/\bit c.D q.idx=false)->j8 (Nat.land m (chgM rs)) c.D=false:=fun c hc=>by
    obtain ⟨q,hq,e1,e2,e3⟩:=hc;cases hs:j8 (Nat.land m (chgM rs)) c.D with
    | false=>rfl
    | true =>
     have:=subM_spec.1 hs q.idx (by rw [qU,e2,bit_chgM.2 ⟨q,hq,e1,rfl⟩];rfl)
     rw [this] at e3;cases e3
   have hci:∀ c:Cfg,(∀ b,bit c.D b=true->∃ q∈rs,q.idx=b)->bit c.D i=false:=fun c hc=>by
    cases hb:bit c.D i with
    | false=>rfl
    | true =>
     obtain ⟨q,hq,e⟩:=hc i hb;exact absurd e (hlt q hq)
   rw [zjx (r:=⟨i,o,m,tmM takes o,Nat.lor (tmM takes o) (lkM all o),hp,free,env,v⟩) ?_ ?_ hc1 ?_]
   ·have hnewI:SqI cx takes (i+1) (⟨i,o,m,tmM takes o,Nat.lor (tmM takes o) (lkM all o),hp,free,env,v⟩::rs) (⟨i,m,tmM takes o,Nat.lor (tmM takes o) (lkM all o),qF cx.P cx.uq takes o,wy cx.P cx.uq o,wY o,zcy takes o,jP takes o⟩::ts)
      (bif hp then ⟨Nat.lor c0.D (Nat.pow 2 i),H1,lk1,df1⟩ else c0) (bif hp then c0::rest else rest) ⟨env1,H1,lk1,df1⟩:=by
     refine ⟨.cons ⟨rfl,rfl,rfl,rfl,h1,h2,rfl,rfl⟩ hI.pr,?_,?_,?_,?_,?_,?_⟩
     ·intro q hq;rcases zAO.1 hq with rfl|hq
      ·exact zBu _
      ·have:=hI.lt q hq;omega
     ·intro b;cases hp with
      | false =>
       simp only [zBl];rw [hI.cD];constructor
       ·rintro ⟨q,hq,e⟩;exact ⟨q,zAE _ hq,e⟩
       ·rintro ⟨q,hq,e1,e2⟩;rcases zAO.1 hq with rfl|hq
        ·cases e1
        ·exact ⟨q,hq,e1,e2⟩
      | true =>
       simp only [zBm];rw [qT,zAZ,hI.cD,jf,decide_eq_true_eq];constructor
       ·rintro (⟨q,hq,e⟩|rfl)
        ·exact ⟨q,zAE _ hq,e⟩
        ·exact ⟨_,zAL ..,rfl,rfl⟩
       ·rintro ⟨q,hq,e1,e2⟩;rcases zAO.1 hq with rfl|hq
        ·exact .inr e2
        ·exact .inl ⟨q,hq,e1,e2⟩
     ·cases hp with
      | false=>obtain ⟨e1,e2,e3⟩:=h3 rfl;subst e1 e2 e3;exact hI.c0
      | true=>exact ⟨rfl,rfl,rfl⟩
     ·intro c hc' b hb;cases hp with
      | false=>obtain ⟨q,hq,e⟩:=hI.rD c hc' b hb;exact ⟨q,zAE _ hq,e⟩
      | true =>
       rcases zAO.1 hc' with rfl|hc'
       ·obtain ⟨q,hq,_,e⟩:=(hI.cD b).1 hb;exact ⟨q,zAE _ hq,e⟩
       ·obtain ⟨q,hq,e⟩:=hI.rD c hc' b hb;exact ⟨q,zAE _ hq,e⟩
     ·intro c hc';cases hp with
      | false =>
       obtain ⟨e1,e2,e3⟩:=h3 rfl;subst e1 e2 e3;rcases hI.rest c hc' with ⟨q,hq,e⟩|⟨⟨q,hq,e⟩,hL⟩
       ·exact .inl ⟨q,zAE _ hq,e⟩
       ·exact .inr ⟨⟨q,zAE _ hq,e⟩,hL⟩
      | true =>
       have hc0i:bit c0.D i=false:=hci c0 fun b hb=>by obtain ⟨q,hq,_,e⟩:=(hI.cD b).1 hb;exact ⟨q,hq,e⟩
       cases htl:jP takes o with
       | false =>
        rcases zAO.1 hc' with rfl|hc'
        ·exact .inl ⟨_,zAL ..,rfl,htl,hc0i⟩
        ·exact .inl ⟨_,zAL ..,rfl,htl,hci c (hI.rD c hc')⟩
       | true =>
        rcases zAO.1 hc' with rfl|hc'
        ·refine .inr ⟨⟨_,zAL ..,rfl,htl,hc0i⟩,?_⟩;obtain ⟨D0,H0,lk0,df0⟩:=c;obtain ⟨e1,e2,e3⟩:=hI.c0;simp only at e1 e2 e3;subst e1 e2 e3;exact h5a rfl htl D0
        ·rcases hI.rest c hc' with ⟨q,hq,e⟩|⟨⟨q,hq,e1,e2,_⟩,_⟩
         ·exact .inl ⟨q,zAE _ hq,e⟩
         ·rw [hnotk htl q hq] at e2;cases e2
     ·intro q hq hqh hqf;rcases zAO.1 hq with rfl|hq'
      ·obtain ⟨e1,e2,e3⟩:=h3 hqh;subst e1 e2 e3;exact .inr (h4 hqh hqf)
      ·clear hq;cases hp with
       | false =>
        obtain ⟨e1,e2,e3⟩:=h3 rfl;subst e1 e2 e3;rcases hI.vals q hq' hqh hqf with ⟨c,hc,e⟩|h
        ·exact .inl ⟨c,zAE _ hc,e⟩
        ·exact .inr h
       | true =>
        rcases hlook rfl q hq' hqh hqf with h|⟨c,hc,e⟩|h
        ·exact .inl ⟨_,zAL ..,rfl,h⟩
        ·exact .inl ⟨c,zAE _ hc,e⟩
        ·exact .inr h
    have:=zhD os fl hs1 jq _ _ _ _ _ _ hnewI hst (fun c hc'=>by
     cases hp with
     | false=>exact hhs1 _ (hhs c hc')
     | true =>
      rcases zAO.1 hc' with rfl|hc'
      ·obtain ⟨e1,e2,e3⟩:=hI.c0;simp only at e1 e2 e3;rw [e1,e2,e3];exact hhs2 rfl
      ·exact hhs1 _ (hhs c hc')) (fun q hq hqh hqf hj=>by
     rcases zAO.1 hq with rfl|hq
     ·exact hnewp hqh hqf hj
     ·exact hsub _ (hpd q hq hqh hqf hj)) h6
    cases hp<;>exact this
   ·intro hr c hc';refine hmiss c ?_;rcases hI.rest c hc' with ⟨q,hq,e1,_,e2⟩|⟨⟨q,hq,e1,_,e2⟩,_⟩
    ·rcases hafter (.inl hr) q hq e1 with h|⟨h,_⟩|⟨h,_⟩
     ·exact ⟨q,hq,e1,h,e2⟩
     ·exact absurd (hr.symm.trans h) (by simp)
     ·exact absurd (hr.symm.trans h) (by simp)
    ·rcases hafter (.inl hr) q hq e1 with h|⟨h,_⟩|⟨h,_⟩
     ·exact ⟨q,hq,e1,h,e2⟩
     ·exact absurd (hr.symm.trans h) (by simp)
     ·exact absurd (hr.symm.trans h) (by simp)
   ·intro hr hf c hc';rcases hI.rest c hc' with ⟨q,hq,e1,e3,e2⟩|⟨⟨q,hq,e1,e3,e2⟩,hL⟩
    ·rcases hafter (.inr ⟨hr,hf⟩) q hq e1 with h|⟨_,h,_⟩|⟨_,_,h⟩
     ·exact .inl (hmiss c ⟨q,hq,e1,h,e2⟩)
     ·rw [e3] at h;cases h
     ·exact .inr (hla hr hf h c hc')
    ·rcases hafter (.inr ⟨hr,hf⟩) q hq e1 with h|⟨_,_,h⟩|⟨_,_,h⟩
     ·exact .inl (hmiss c ⟨q,hq,e1,h,e2⟩)
     ·exact .inr (h5b hr hf h c hL)
     ·exact .inr (hla hr hf h c hc')
   ·intro hr q hq hqh hqf;rcases hlook hr q hq hqh hqf with h|h|h
    ·exact .inl h
    ·exact .inr (.inl h)
    ·exact .inr (.inr (h _))
  simp only [Cx.opsD,zff hI.pr,hm,qP,zO,q8];simp only [olQ] at hc;split at hc<;>try (cases hc;done)
  ·rename_i hw;simp only [hw];exact key false true (.tup []) hs pend H lk df _ (fun h=>nomatch h) (fun _ h=>nomatch h) (fun _=>⟨rfl,rfl,rfl⟩) (fun _ h=>nomatch h) (fun h=>nomatch h) (fun h=>nomatch h) (fun _ h=>nomatch h) (fun h=>nomatch h) (fun _ h=>nomatch h) (fun _ h=>h) (fun h=>nomatch h) (fun _ h=>h) (fun _ h=>nomatch h) hc
  ·rename_i hw;simp only [hw];obtain ⟨hck,hc⟩:=hc;split at hc<;>try (cases hc;done)
   ·rename_i v env1 H1 lk1 df1 hop;simp only [hop];obtain ⟨hpk,hlk,hc⟩:=hc;have hfa:ls.any (Nat.beq i)=true->fla=true:=fun h=>by rw [h] at hfl3;simpa using hfl3
    have hfh:qF cx.P cx.uq takes o=true->fhp=true:=fun h=>by rw [h] at hfl1;simpa using hfl1
    have hfj:js.any (Nat.beq i)=true->ld=true:=fun h=>by rw [h] at hfl2;simpa using hfl2
    refine key _ _ v _ _ H1 lk1 df1 _ (fun h=>h) (fun _ h=>by simpa using h) (fun hf=>?_) (fun hf _ D=>?_) (fun _ ha=>?_) (fun _ ht D=>?_) (fun _ _ hl c hL=>zfh hl hL hck hop) (fun h hf D p hp=>zb5 (hpk (hfh h) hf) p hp) (fun _ _ hl c hc'=>zoY (D:=0) (zmi (hlk (hfa hl)) _ (hhs c hc'))) (fun h hm=>by unfold yE;cases fhp<;>simp [hm]) (fun h=>by rw [hfh h];simp [yE]) (fun q hq=>by unfold vM;cases ld<;>simp [hq]) (fun _ _ hj=>by rw [hfj hj];simp [vM]) hc
    ·obtain ⟨v',_,e2,_⟩:=wD hf hop;cases e2;exact ⟨rfl,rfl,rfl⟩
    ·simp [Cx.valC,Cx.runC,hop,V.same_refl]
    ·obtain ⟨x,e⟩:=zhB ha hop;cases e;exact ⟨x,rfl,rfl,rfl⟩
    ·rcases zjw (D:=D) ht hop with h|h
     ·exact .inl h
     ·exact .inr h
   ·rename_i env1 H1 lk1 df1 hop;simp only [hop];have hhp:qF cx.P cx.uq takes o=true:=by
     cases hb:qF cx.P cx.uq takes o with
     | true=>rfl
     | false=>obtain ⟨v',e1,_⟩:=wD hb hop;cases e1
    rw [hhp];obtain ⟨hpk,hc⟩:=hc;have hfh:fhp=true:=by rw [hhp] at hfl1;simpa using hfl1
    refine key true false (.tup []) _ pend H1 lk1 df1 _ (fun _=>hhp) (fun h=>nomatch h) (fun h=>nomatch h) (fun h=>nomatch h) (fun _ ha=>?_) (fun _ ht=>?_) (fun h=>nomatch h) (fun _ hf D p hp=>zb5 (hpk hfh hf) p hp) (fun h=>nomatch h) (fun h hm=>by unfold yE;cases fhp<;>simp [hm]) (fun _=>by rw [hfh];simp [yE]) (fun _ h=>h) (fun h=>nomatch h) hc
    ·obtain ⟨dst,op,type,pos,after,guard⟩:=o;unfold wY at ha;split at ha<;>try (cases ha;done)
     rename_i t hop';simp only at hop';subst hop';simp only [Cx.op] at hop;split at hop<;>try (cases hop;done)
     split at hop<;>try (cases hop;done)
     simp [zO,qy] at hop
    ·obtain ⟨dst,op,type,pos,after,guard⟩:=o;unfold jP at ht;split at ht<;>try (cases ht;done)
     rename_i t a hop';simp only at hop';subst hop';cases dst with
     | none=>cases ht
     | some d =>
      simp only at ht;rw [zaM ht] at hop;unfold zeF at hop;split at hop<;>try (cases hop;done)
      split at hop<;>try (cases hop;done)
      split at hop<;>try (cases hop;done)
      split at hop<;>cases hop
theorem xg {n id:Nat} {Q:Ex->St->Prop} {k:List It} {ops:Array Oper} {env:List V} {H:Hp} {lk:List (Nat×Nat)} {df:List (V×List V)} {tk:List Tmp} (js ls:List Nat) (fl:List (Bool×Bool×Bool×Bool)) (ht:wx ops=tk) (hst:znC cx.P cx.uq ops tk js ls 0 [] fl ops.toList=true)
  (h:olQ cx ops tk (fun s=>go cx n Q k .normal s) [] [] fl ops.toList ⟨env,H,[],df⟩):go cx n Q (.c (.region id ops true)::k) .normal ⟨env,H,lk,df⟩:=by
 subst ht;obtain ⟨s',h1,h2⟩:=zhD (js:=js) (ls:=ls) _ _ [] _ _ _ _ ⟨0,H,[],df⟩ [] _ ⟨.nil,fun q hq=>by simp at hq,fun b=>by simp [wC],⟨rfl,rfl,rfl⟩,fun c hc=>by simp at hc,fun c hc=>by simp at hc,fun q hq=>by simp at hq⟩ hst (fun c hc=>by simp at hc) (fun q hq=>by simp at hq) h
 simp only [go];exact ⟨.normal,s',by simp only [Cx.code,Cx.draw];exact h1,h2⟩
section
variable {P:St->Prop} {hs:List (Hp×List (Nat×Nat)×List (V×List V))} {pend:List (Oper×List V×V)} {fl:List (Bool×Bool×Bool×Bool)} {os:List Oper} {env:List V} {H:Hp} {lk:List (Nat×Nat)} {df:List (V×List V)} {s:St} {dst:Option Tmp} {op:Op} {type:TypeId} {pos:String} {after:Array Edge} {ld hp la cl:Bool}
theorem ol_nil:olQ cx all takes P hs pend fl [] s ↔ P s:=by simp [olQ]
def olV (cx:Cx) (all:Array Oper) (takes:List Tmp) (P:St->Prop) (hs:List (Hp×List (Nat×Nat)×List (V×List V))) (pend:List (Oper×List V×V)) (ld hp la cl:Bool) (fl:List (Bool×Bool×Bool×Bool)) (o:Oper) (env:List V) (H:Hp) (lk:List (Nat×Nat)) (df:List (V×List V)) (os:List Oper):Option (OR×St)->Prop
 | some (.val v,⟨env1,H1,lk1,df1⟩)=>(hp=true->cl=false->ku cx takes ⟨0,H1,lk1,df1⟩ pend)/\(la=true->zar cx takes o env v hs)/\olQ cx all takes P (yE hp (H,lk,df) hs) (vM ld (o,env,v) pend) fl os ⟨zl env1 o.dst v,H1,lk1,df1⟩
 | some (.skip,⟨env1,H1,lk1,df1⟩)=>(hp=true->cl=false->ku cx takes ⟨0,H1,lk1,df1⟩ pend)/\olQ cx all takes P (yE hp (H,lk,df) hs) pend fl os ⟨zl env1 o.dst (.tup []),H1,lk1,df1⟩
 | _=>False
theorem ol_cons:olQ cx all takes P hs pend ((ld,hp,la,cl)::fl) (⟨dst,op,type,pos,after,none⟩::os) ⟨env,H,lk,df⟩ ↔ (kZ cx ⟨dst,op,type,pos,after,none⟩ env lk=true/\olV cx all takes P hs pend ld hp la cl fl ⟨dst,op,type,pos,after,none⟩ env H lk df os (cx.op takes ⟨dst,op,type,pos,after,none⟩ env H lk df)):=by
 simp only [olQ,zS];cases cx.op takes ⟨dst,op,type,pos,after,none⟩ env H lk df with
 | none=>simp [olV]
 | some r =>
  obtain ⟨r,s1⟩:=r;obtain ⟨env1,H1,lk1,df1⟩:=s1;cases r<;>simp [olV]
theorem znD {g:Nat×Bool}:olQ cx all takes P hs pend ((ld,hp,la,cl)::fl) (⟨dst,op,type,pos,after,some g⟩::os) ⟨env,H,lk,df⟩ ↔ gdQ (kZ cx ⟨dst,op,type,pos,after,some g⟩ env lk=true/\olV cx all takes P hs pend ld hp la cl fl ⟨dst,op,type,pos,after,some g⟩ env H lk df os (cx.op takes ⟨dst,op,type,pos,after,some g⟩ env H lk df)) (olQ cx all takes P hs pend fl os ⟨zl env dst (.tup []),H,lk,df⟩) (zS all ⟨dst,op,type,pos,after,some g⟩ env):=by
 simp only [olQ];cases zS all ⟨dst,op,type,pos,after,some g⟩ env with
 | none=>simp [gdQ]
 | some b =>
  cases b with
  | false=>simp [gdQ]
  | true =>
   simp only [gdQ];cases cx.op takes ⟨dst,op,type,pos,after,some g⟩ env H lk df with
   | none=>simp [olV]
   | some r =>
    obtain ⟨r,s1⟩:=r;obtain ⟨env1,H1,lk1,df1⟩:=s1;cases r<;>simp [olV]
variable {o:Oper} {v:V} {env1:List V} {H1:Hp} {lk1:List (Nat×Nat)} {df1:List (V×List V)}
theorem olV_val:olV cx all takes P hs pend ld false false cl fl o env H lk df os (some (.val v,⟨env1,H1,lk1,df1⟩)) ↔ olQ cx all takes P hs (vM ld (o,env,v) pend) fl os ⟨zl env1 o.dst v,H1,lk1,df1⟩:=by simp [olV,yE]
theorem olV_late:olV cx all takes P hs pend ld false true cl fl o env H lk df os (some (.val v,⟨env1,H1,lk1,df1⟩)) ↔ (zar cx takes o env v hs/\olQ cx all takes P hs (vM ld (o,env,v) pend) fl os ⟨zl env1 o.dst v,H1,lk1,df1⟩):=by simp [olV,yE]
theorem olV_valh:olV cx all takes P hs pend ld true false false fl o env H lk df os (some (.val v,⟨env1,H1,lk1,df1⟩)) ↔ (ku cx takes ⟨0,H1,lk1,df1⟩ pend/\olQ cx all takes P ((H,lk,df)::hs) (vM ld (o,env,v) pend) fl os ⟨zl env1 o.dst v,H1,lk1,df1⟩):=by simp [olV,yE]
theorem olV_skip:olV cx all takes P hs pend ld true false false fl o env H lk df os (some (.skip,⟨env1,H1,lk1,df1⟩)) ↔ (ku cx takes ⟨0,H1,lk1,df1⟩ pend/\olQ cx all takes P ((H,lk,df)::hs) pend fl os ⟨zl env1 o.dst (.tup []),H1,lk1,df1⟩):=by simp [olV,yE]
theorem olV_valc:olV cx all takes P hs pend ld true false true fl o env H lk df os (some (.val v,⟨env1,H1,lk1,df1⟩)) ↔ olQ cx all takes P ((H,lk,df)::hs) (vM ld (o,env,v) pend) fl os ⟨zl env1 o.dst v,H1,lk1,df1⟩:=by simp [olV,yE]
theorem olV_skipc:olV cx all takes P hs pend ld true false true fl o env H lk df os (some (.skip,⟨env1,H1,lk1,df1⟩)) ↔ olQ cx all takes P ((H,lk,df)::hs) pend fl os ⟨zl env1 o.dst (.tup []),H1,lk1,df1⟩:=by simp [olV,yE]
theorem late_nil:zar cx takes o env v [] ↔ True:=Iff.rfl
theorem zkJ {h:Hp} {l:List (Nat×Nat)} {d:List (V×List V)}:zar cx takes o env v ((h,l,d)::hs) ↔ (cx.valC takes o env v ⟨0,h,l,d⟩=true/\zar cx takes o env v hs):=Iff.rfl
end
end Go.Vm
namespace Go.Vm
open Go
def zoj (f:Nat->Bool):Nat->Nat
 | 0=>0
 | n+1=>zoj f n ||| (if f n=true then 2 ^ n else 0)
def zrg (p:Nat->Bool) (i:Nat):Nat:=zoj (fun j=>p (64 * i+j)) 64
theorem zmj {n:Int} (h:-9223372036854775808<=n) (h':n<9223372036854775808):IntKind.i64.wrap n=n:=by
 simp only [IntKind.wrap,IntKind.bits,IntKind.signed];simp only [zBQ,decide_eq_true_eq,ge_iff_le];have e1:(2:Int) ^ 64=18446744073709551616:=by decide
 have e2:(2:Int) ^ (64 - 1)=9223372036854775808:=by decide
 rw [e1,e2];split<;>omega
variable {P:Program} {t:TypeId} {x y:Operand}
theorem zkK {H:Hp} {b off n:Nat} {v:V} {env:List V} {cs:List V} {ty:TypeId} {lk:List (Nat×Nat)} {df:List (V×List V)} (hb:H.get b=some (.cells cs ty)) (h1:okC v=true) (h2:v.laid.length=n) (h3:off+n<=cs.length) (h4:vY lk b off n (cs.drop off)=true) :
  zco n H lk df (some (.ptr b off)) (some (v,env))=some (.skip,⟨env,(H.set b (.cells (Vm.storeCells cs off v.laid) ty)).edge b v,lk,df⟩):=by
 simp only [zco,hb,h1,h2,h4];simp [h3]
theorem zpC {H:Hp} {b:Nat} {v:V} (h:v.top<=b+1):H.edge b v=H:=by simp [Hp.edge,h]
theorem zhE {lk:List (Nat×Nat)} {b:Nat}:∀ {n off:Nat} {l:List V},(∀ i,i<n->∃ c,l[i]?=some c/\locked c=false)->vY lk b off n l=true
 | 0,_,_,_=>by simp [vY]
 | n+1,off,[],h=>by obtain ⟨c,hc,_⟩:=h 0 (by omega);simp at hc
 | n+1,off,c::l,h=>by
  obtain ⟨d,hd,hl⟩:=h 0 (by omega)
  simp only [zAn,zAA] at hd;subst hd;simp only [vY,hl,zAw,Bool.true_or,zBQ];exact zhE fun i hi=>by
   have:=h (i+1) (by omega)
   simpa using this
theorem zkL {lk:List (Nat×Nat)} {b n off:Nat} {cs:List V} (h:∀ i,i<n->∃ c,cs[off+i]?=some c/\locked c=false):vY lk b off n (cs.drop off)=true :=
 zhE fun i hi=>by rw [zBU];exact h i hi
end Go.Vm
namespace Go.Vm
open Go
variable {P:Program} {t:TypeId} {x y:Operand}
end Go.Vm
namespace Go.Vm
open Go
def UL (H:Hp) (sz:Nat) (e:TypeId) (c:V) (i:Option Nat) (xs:List (List V)):Prop :=
 match i with
 | none=>c=.snil/\xs=[]
 | some j=>∃ v,c=.ulr j v xs.length/\H.get j=some (.ul v sz xs.flatten e)
structure Frm (H H':Hp) (S:Nat->Prop):Prop where
 len:H.blks.length<=H'.blks.length
 get:∀ d,d<H.blks.length->¬ S d->H'.get d=H.get d
theorem Frm.refl {H:Hp} {S:Nat->Prop}:Frm H H S:=⟨zAR _,fun _ _ _=>rfl⟩
theorem Frm.trans {A B C:Hp} {S T:Nat->Prop} (h:Frm A B S) (k:Frm B C T):Frm A C (fun d=>S d\/T d) :=
 ⟨zAP h.len k.len,fun d hd hn=>(k.get d (zAo hd h.len) fun e=>hn (.inr e)).trans (h.get d hd fun e=>hn (.inl e))⟩
theorem Frm.mono {A B:Hp} {S T:Nat->Prop} (h:Frm A B S) (hs:∀ d,d<A.blks.length->S d->T d):Frm A B T:=⟨h.len,fun d hd hn=>h.get d hd fun e=>hn (hs d hd e)⟩
theorem Frm.some {A B:Hp} {S:Nat->Prop} (h:Frm A B S) {d:Nat} {x:Blk} (hx:A.get d=some x) (hn:¬ S d):B.get d=some x:=(h.get d (wk hx) hn).trans hx
theorem UL.frame {A B:Hp} {sz:Nat} {e:TypeId} {c:V} {i:Option Nat} {xs:List (List V)} (h:UL A sz e c i xs) (hg:∀ j,i=some j->B.get j=A.get j):UL B sz e c i xs:=by
 cases i with
 | none=>exact h
 | some j=>obtain ⟨v,h1,h2⟩:=h;exact ⟨v,h1,(hg j rfl).trans h2⟩
theorem UL.lt {H:Hp} {sz:Nat} {e:TypeId} {c:V} {j:Nat} {xs:List (List V)} (h:UL H sz e c (some j) xs):j<H.blks.length:=by
 obtain ⟨v,_,h2⟩:=h;exact wk h2
theorem roomA_of {n b:Nat} (h:n * b<=140737488355328) (h':n<=140737488355328):kh n b=true:=by
 simp [kh,Nat.ble_eq,h,h']
def zoZ (z:V):Bool:=okC z && z.cells.all fun c=>!(locked c)
theorem zjz {P:Program} {e n:Nat} (h:(qi P e).map (fun z=>(z.cells.length,zoZ z))=some (n,true)) (hn:n≠0/\n<=16777216):∃ z,qi P e=some z/\(n≠0/\n<=16777216/\z.cells.length=n/\okC z=true)/\z.cells.all (fun c=>!(locked c))=true:=by
 cases hz:qi P e with
 | none=>rw [hz] at h;cases h
 | some z =>
  rw [hz] at h;simp only [zAC,zAA,zAH,zoZ,zAF] at h;exact ⟨z,rfl,⟨hn.1,hn.2,h.1,h.2.1⟩,h.2.2⟩
theorem vq {lk:List (Nat×Nat)} {b n off:Nat} {cs:List V} (h:cs.all (fun c=>!(locked c))=true) (hl:off+n<=cs.length):vY lk b off n (cs.drop off)=true :=
 zkL fun i hi=>⟨cs[off+i]'(by omega),zAV (by omega),by
  have:=zBE.1 h _ (List.getElem_mem (show off+i<cs.length by omega))
  simpa using this⟩
structure RowT (P:Program) (t e n bytes:Nat):Prop where
 u:P.underlying t=some (.slice e)
 s:qc P e=some n
 z:(qi P e).map (fun z=>(z.cells.length,zoZ z))=some (n,true)
 n0:n≠0/\n<=16777216
 i:((P.info? e).bind fun i=>i.zero.map fun z=>(z.cells.size,i.bytes))=some (n,bytes)
 a:jG P t=some false
 st:qc P t=some 1
theorem RowT.bsl {P:Program} {t e n by':Nat} (h:RowT P t e n by') {v:V} (h5:okC v=true) (h6:v.cells.length=n):zkH P t (some v)=some (.sl n [v] (.yes e)):=by
 obtain ⟨z,h1,h2,_⟩:=zjz h.z h.n0;exact znA h.u h.s h1 h2 h5 h6
theorem RowT.app {P:Program} {t e n by':Nat} (h:RowT P t e n by') {env:List V} {H:Hp} {lk:List (Nat×Nat)} {df:List (V×List V)} {ys:List V} {o:Own} {c:V} {i:Option Nat} {xs:List (List V)} (hy:ys≠[]) (hu:UL H n e c i xs) (hroom:kh (xs.length+ys.length) by'=true) :
  zoV P t env H lk df (some (.sl n ys o)) (some c)=match i with
   | none=>some (.val (.ulr H.blks.length 0 ys.length),⟨env,H.push (.ul 0 n (flatV ys) e),lk,df⟩)
   | some j=>match c with
    | .ulr _ v _=>some (.val (.ulr j (v+1) (xs.length+ys.length)),⟨env,(H.set j (.ul (v+1) n (xs.flatten++flatV ys) e)).edge j (.tup ys),lk,df⟩)
    | _=>none:=by
 have hi:=h.i;cases hi1:P.info? e with
 | none=>rw [hi1] at hi;cases hi
 | some ti =>
  rw [hi1] at hi;simp only [zAB] at hi;cases hz:ti.zero with
  | none=>rw [hz] at hi;cases hi
  | some z =>
   rw [hz] at hi;simp only [zAC,zAA,zAH] at hi;rw [znz h.u h.s hi1 hz hi.1 h.n0.1,hi.2];cases i with
   | none =>
    obtain ⟨rfl,rfl⟩:=hu;cases ys with
    | nil=>exact absurd rfl hy
    | cons y ys=>simp at hroom;simp [hroom]
   | some j =>
    obtain ⟨v,rfl,hj⟩:=hu;simp [hj,hroom]
theorem wI {P:Program} {t:TypeId} {H:Hp} {gl:Nat->Nat->Option V} {b n off:Nat} {cs:List V} {ty:TypeId} (ha:jG P t=some true) (hs:qc P t=some n) (hb:H.get b=some (.cells cs ty)) (hl:off+n<=cs.length):zJ P H gl t (.ptr b off)=some (.agg ((cs.drop off).take n)):=by
 rw [zaH,hb,xy,wE,ha,hs,zfZ,if_pos hl]
theorem zZ {P:Program} {t:TypeId} {H:Hp} {gl:Nat->Nat->Option V} {b off:Nat} {cs:List V} {ty:TypeId} {v:V} (ha:jG P t=some false) (hb:H.get b=some (.cells cs ty)) (hn:nth cs off=some v):zJ P H gl t (.ptr b off)=some v:=by
 rw [zaH,hb,xy,wE,ha,zda,hn]
theorem jF {P:Program} {t n:TypeId} {H:Hp} {lk:List (Nat×Nat)} {df:List (V×List V)} {b off:Nat} {v:V} {env:List V} {cs:List V} {ty:TypeId} (hs:qc P t=some n) (hb:H.get b=some (.cells cs ty)) (h1:okC v=true) (h2:v.laid.length=n) (h3:off+n<=cs.length) (h4:vY lk b off n (cs.drop off)=true) :
  qQ P t H lk df (some (v,env)) (some (.ptr b off))=some (.skip,⟨env,(H.set b (.cells (Vm.storeCells cs off v.laid) ty)).edge b v,lk,df⟩):=by
 simp only [qQ,hs,zkK hb h1 h2 h3 h4]
theorem RowT.zero {P:Program} {t e n by':Nat} (h:RowT P t e n by'):∃ z,qi P e=some z/\okC z=true/\z.cells.length=n/\z.cells.all (fun c=>!(locked c))=true:=by
 obtain ⟨z,h1,h2,h3⟩:=zjz h.z h.n0;exact ⟨z,h1,h2.2.2.2,h2.2.2.1,h3⟩
theorem zjA {i:Nat}:∀ {xs ys:List V} {k:Nat},(Vm.storeCells ys k xs)[i]?=if k<=i/\i<k+xs.length/\i<ys.length then xs[i - k]? else ys[i]?
 | [],ys,k=>by simp [Vm.storeCells];omega
 | x::xs,ys,k=>by
  simp only [Vm.storeCells,zjA (xs:=xs),zAN,List.getElem?_set',zAS]
  by_cases h1:i=k
  ·subst h1;have:¬ (i+1<=i/\i<i+1+xs.length/\i<ys.length):=by omega
   rw [if_neg this,if_pos rfl]
   by_cases h2:i<ys.length
   ·rw [if_pos (by omega),zAV h2];simp
   ·rw [if_neg (by omega),zAu (by omega)];simp
  ·rw [if_neg (Ne.symm h1)]
   by_cases h2:k+1<=i/\i<k+1+xs.length/\i<ys.length
   ·rw [if_pos h2,if_pos (by omega),show i - k=(i - (k+1))+1 by omega,zBI]
   ·rw [if_neg h2,if_neg (by omega)]
theorem zb7 {xs ys:List V} (h:ys.length=xs.length):Vm.storeCells ys 0 xs=xs:=by
 apply List.ext_getElem?;intro i;rw [zjA]
 by_cases hi:i<xs.length
 ·rw [if_pos (by omega)];simp
 ·rw [if_neg (by omega),zAu (by rw [h];omega),zAu (by omega)]
theorem za {l:List V} {i j:Nat} {v:V}:nth (l.set i v) j=if i=j then (if i<l.length then some v else none) else nth l j:=by
 rw [zq,zq,zAx]
theorem zaO {α:Type} {l:List α} {d:Nat} {v:α} (h:nth l d=some v):l.set d v=l:=by
 rw [zq] at h;apply List.ext_getElem?;intro t;rw [List.getElem?_set'];split
 ·rename_i e;subst e;rw [h];rfl
 ·rfl
def qt (n:Nat) (e:TypeId) (xs:List V):V:=match xs with|[]=>.snil|xs=>.sl n xs (.yes e)
theorem zmk {env:List V} {t n:Nat} {e:TypeId} {xs:List V} (h:nth env t=some (qt n e xs)):take env (.tmp t)=some (qt n e xs,env.set t (clr (qt n e xs))):=by
 rw [ze,h];cases xs with
 | nil =>
  have h':nth env t=some .snil:=h;simp only [qt,kC,clr_snil];rw [zaO h']
 | cons x xs=>rfl
theorem zbj {P:Program} {t e n by':Nat} (h:RowT P t e n by') {H:Hp} {xs ys:List V} {o:Own} (hy:ys≠[]) (hroom:kh (xs.length+ys.length) by'=true):qL P H t (qt n e xs) (.sl n ys o)=some (qt n e (xs++ys)):=by
 have hi:=h.i;cases hi1:P.info? e with
 | none=>rw [hi1] at hi;cases hi
 | some ti =>
  rw [hi1] at hi;simp only [zAB] at hi;cases hz:ti.zero with
  | none=>rw [hz] at hi;cases hi
  | some z =>
   rw [hz] at hi;simp only [zAC,zAA,zAH] at hi;have hn0:Nat.beq n 0=false:=by
    have:=h.n0.1;cases n with
    | zero=>exact absurd rfl this
    | succ n=>rfl
   obtain ⟨y,ys,rfl⟩:∃ y l,ys=y::l:=by
    cases ys with
    | nil=>exact absurd rfl hy
    | cons y l=>exact ⟨y,l,rfl⟩
   simp only [qL,h.u,h.s,hi1,hz,hi.1,vr,Option.bind_eq_bind,zAB,zBS,zAs,zAD,if_false,if_true];cases xs with
   | nil =>
    simp only [qt,zAW];rw [hi.2,hn0];simp only [List.length_nil,zAT,zAS] at hroom;simp [hroom]
   | cons x xs =>
    simp only [qt,zAY];rw [hi.2,hn0];simp only [zAS] at hroom;simp [hroom]
theorem zml {P:Program} {H:Hp} {t e n:Nat} {xs:List V} (hu:P.underlying t=some (.slice e)):kO P H t (clr (qt n e xs))=some (xs.length:Int):=by
 cases xs with
 | nil=>simp [qt,clr,kO,hu]
 | cons x xs=>simp [qt,clr,kO,hu]
theorem zhF {n:Nat} {e:TypeId} {xs:List V}:clr (clr (qt n e xs))=clr (qt n e xs):=by cases xs<;>rfl
def lkL (n:Nat) (xs:List V):V:=match xs with|[]=>.snil|xs=>.sl n xs .lock
def zhG (b off:Nat) (xs:List V):List (Nat×Nat):=match xs with|[]=>[]|_=>[(b,off)]
theorem zmm {P:Program} {t:TypeId} {env:List V} {H:Hp} {df:List (V×List V)} {b off n:Nat} {e:TypeId} {xs cs:List V} {ty:TypeId} (ha:jG P t=some false) (hb:H.get b=some (.cells cs ty)) (hn:nth cs off=some (qt n e xs)) :
  zeF P t env H [] df (some (.ptr b off))=some (.val (qt n e xs),⟨env,H.set b (.cells (cs.set off (lkL n xs)) ty),zhG b off xs,df⟩):=by
 cases xs with
 | nil =>
  simp only [zeF,ha,hb,hn,qt,lkL,zhG];have h1:cs.set off .snil=cs:=zaO hn;have h2:H.set b (.cells cs ty)=H:=by
   obtain ⟨bs,es⟩:=H;simp only [Hp.set];rw [zaO hb]
  rw [h1,h2]
 | cons x xs =>
  simp only [zeF,ha,hb,hn,qt,lkL,zhG];rw [zpC (by simp [V.top])]
theorem zmn {b off n:Nat} {xs cs:List V} (h:off<cs.length):vY (zhG b off xs) b off 1 ((cs.set off (lkL n xs)).drop off)=true:=by
 have h2:(cs.set off (lkL n xs)).drop off=lkL n xs::cs.drop (off+1):=by
  rw [zBT (by simpa using h)]
  simp [List.drop_set]
 rw [h2];cases xs<;>simp [vY,lkL,zhG,locked]
theorem znE {n:Nat} {e:TypeId} {xs:List V}:okC (qt n e xs)=true:=by cases xs<;>rfl
theorem zhH {n:Nat} {e:TypeId} {xs:List V}:(qt n e xs).laid=[qt n e xs]:=by cases xs<;>rfl
theorem jy {P:Program} {t:TypeId} {x y:Operand} {k:Nat} (h:k<2 ^ 60):kD P .add t x y (some (.int .i64 k)) (some (.int .i64 1))=some (.int .i64 ((k+1:Nat):Int)):=by
 rw [znc,zmj (by omega) (by omega)];simp
def zqv (env:List V) (t n:Nat) (e:TypeId) (xs:List V):Option (V×List V):=jV env t (some (qt n e xs))
open Classical in
theorem zfj {env:List V} {t n:Nat} {e:TypeId} {xs:List V}:jV env t (some (qt n e xs))=if nth env t=some (qt n e xs) then some (qt n e xs,env.set t (clr (qt n e xs))) else zqv env t n e xs:=by
 split
 ·rename_i h;rw [<- h,<- ze];exact zmk h
 ·rfl
def zjB (want:Bool) (env:List V):Option (Option Tmp)->Option Bool
 | some (some d)=>zcY want (nth env d)
 | _=>none
theorem qa {l:List Oper} {dst:Option Tmp} {op:Op} {type:TypeId} {pos:String} {after:Array Edge} {j:Nat} {want:Bool} {env:List V}:zS l.toArray ⟨dst,op,type,pos,after,some (j,want)⟩ env=zjB want env ((nth l j).map (·.dst)):=by
 have hj:l.toArray[j]?=nth l j:=by rw [zq,List.getElem?_toArray]
 cases hd:nth l j with
 | none =>
  unfold zS;simp only [hj,hd];rfl
 | some o =>
  cases ho:o.dst with
  | none =>
   unfold zS;simp only [hj,hd,zAB,ho];simp only [zAC,ho,zjB]
  | some d =>
   rw [zkE (d:=d) (by rw [hj,hd];exact ho)]
   simp only [zAC,ho,zjB]
theorem jh {want:Bool} {env:List V} {d:Tmp}:zjB want env (some (some d))=zcY want (nth env d):=rfl
theorem wantB_tt:zcY true (some (.bool true))=some true:=rfl
theorem wantB_tf:zcY true (some (.bool false))=some false:=rfl
theorem wantB_ft:zcY false (some (.bool true))=some false:=rfl
theorem wantB_ff:zcY false (some (.bool false))=some true:=rfl
theorem xh {a b:Prop}:gdQ a b (some true) ↔ a:=Iff.rfl
theorem xT {a b:Prop}:gdQ a b (some false) ↔ b:=Iff.rfl
theorem ja {a b:Option V}:zlu a b (some (.bool true))=a:=rfl
theorem jb {a b:Option V}:zlu a b (some (.bool false))=b:=rfl
end Go.Vm
