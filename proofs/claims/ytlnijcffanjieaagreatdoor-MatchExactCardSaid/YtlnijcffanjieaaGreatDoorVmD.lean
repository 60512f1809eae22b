/- Vm: what the machine answers, the program does. Conditions: none but those named. -/
import Derived.Orders
import Derived.RangeFuncFrom
import Derived.RangeFuncCalls
import Derived.LoopNIn
import Derived.OrdersIn
import Derived.RangeFuncNested
import Derived.Carry
import Derived.OpenShut
import Derived.ProofKit
import Derived.LaidLaws
import Derived.LaidMore
import Derived.FnData
import Derived.ChangeArms
import Derived.Lib.Bytealg
import Derived.Test.YtlnijcffanjieaaGreatDoorVmB
import Derived.Test.YtlnijcffanjieaaGreatDoorVmC
set_option linter.defProp false
namespace Go.Vm
open Go
section
variable{P:aD}{g:Gh}{w:aB}
structure nW(P:aD)(gl:Gl):Prop where
 pure:∀f args v,gl.hk f args=some v->∀d H g w aM l,gv P gl g->m8 g H.af w->dG g H.af.length args aM->Calls P f aM w (dP d H g w l (.ret v) H)
 heap:∀n f args H out H',gl.fB n f args H=some (out,H')->∀d,2 * (n+1)<=d->∀g w aM l,gv P gl g->m8 g H.af w->dG g H.af.length args aM->Calls P f aM w (dP d H g w l out H')
 it:R8 P gl.uq
def zhN{gl:Gl}(gx:yQ P)(eB:wQ P)(Fh:nW P gl)(fD:∀n B,Qf P { P,gl,call:=zl P gl n,uq:=gl.uq } B/\Qg P { P,gl,call:=zl P gl n,uq:=gl.uq } B):∀n,xQ P gl (zl P gl n) (2 * n)
 | 0=>λf args H out H' hc=>by simp[zl] at hc
 | n+1=>by
  have ih:=zhN gx eB Fh fD n;intro f args H out H' hc g w aM l cU hw ha;obtain⟨bs,es⟩:=H;simp only[zl] at hc;split at hc
  next v hv=>simp only[aO,bP] at hc;obtain⟨rfl,rfl⟩:=hc;exact Fh.pure f args v hv _ _ g w aM l cU hw ha
  split at hc
  next r hv=>simp only[aO] at hc;subst hc;exact Fh.heap n f args _ out H' hv _ (bV _) g w aM l cU hw ha
  split at hc<;>try (cases hc;done)
  rename_i fn hf;split at hc<;>try (cases hc;done)
  rename_i body hb;simp only[qh,dN] at hc;split at hc<;>try (cases hc;done)
  rename_i ex env H1 lk df hx;split at hc<;>try (cases hc;done)
  rename_i iV By;have hd1:2 * n<2 * (n+1):=by omega
  have Qe:2 * n+1<2 * (n+1):=by omega
  have mu:pY P { P,gl,call:=zl P gl n,uq:=gl.uq } ⟨2 * (n+1),bs,g,w,[]⟩:=⟨rfl,gx,eB,cU,2 * n,hd1,ih⟩;have h0:=zhK (H:=⟨bs,es⟩) hw ha (2 * (n+1)) fn.ntmps;refine zcV hf hb (Code.wp_mono ?_ (zj4 mu (fD n _).1 (fD n _).2 n body _ _ ex g _ w hx h0));rintro e a' w' ⟨g',h1,h2⟩;obtain⟨dc,w0,Io,H9⟩:=zj6 df a'.defers w' h1
  have Vz:∃pc,oR g' H1.af.length iV pc/\∀R,Leaves P fn a'.tmps R dc (eO pc false) w0->zfw P fn R e a' w':=by
   cases ex<;>cases e<;>simp only[AO,aO,reduceCtorEq] at By<;>try (exact h2.elim)
   ·subst By;exact⟨none,trivial,λR h=>⟨dc,w0,Io,h⟩⟩
   ·subst By;exact⟨none,trivial,λR h=>⟨dc,w0,Io,h⟩⟩
   ·subst By;obtain⟨cv,rfl,h3,h4⟩:=h2;exact⟨some cv,⟨h3,h4⟩,λR h=>⟨dc,w0,Io,h⟩⟩
  obtain⟨pc,hp,lI⟩:=Vz;refine lI _ ?_;split at hc<;>try (cases hc;done)
  ·rename_i v H2 K2;rw[kI] at hc;simp only[aO,bP] at hc;obtain⟨rfl,rfl⟩:=hc;refine Vw (B:=⟨2 * (n+1),bs,g,w,[]⟩) gx eB ih (fD n) Qe cU (ef df) iV pc env H1 lk g' dc w0 H9 hp K2 λg2 Qh w2 h3 h4=>?_;cases Qh with
   | none=>exact h4.elim
   | some cv =>
    obtain⟨f1,f2,f3⟩:=Y2 hw h3 h4.2;exact⟨v,cv,g2,rfl,rfl,f1,h4.1,f2⟩
  ·rename_i H2 K2;split at hc<;>try (cases hc;done)
   rename_i vs K3;rw[zQ,kI] at hc;simp only[aO,bP] at hc;obtain⟨rfl,rfl⟩:=hc;refine Vw (B:=⟨2 * (n+1),bs,g,w,[]⟩) gx eB ih (fD n) Qe cU (ef df) iV pc env H1 lk g' dc w0 H9 hp K2 λg2 Qh w2 h3 h4=>?_;cases Qh with
   | some cv=>exact h4.elim
   | none =>
    obtain⟨g3,s3,cv,r1,r2,r3,r4,r5,r6⟩:=zef h3 K3 l;have r5':=r5;obtain⟨f1,f2,f3⟩:=Y2 (s:=s3) hw r3 (top:=(fN vs).top) (by rw[r2];exact r6)
    rw[r2] at f1 f2 f3;exact⟨cv,r1,fN vs,g3,rfl,f1,r4,r5.less f3,f2⟩
end
section
variable{P:aD}
def gO(env bE:aj)(xs:List aH):Prop:=∀t,Operand.tmp t∈xs->env[t]?=bE[t]?
def gO.mono{env bE:aj}{xs ys:List aH}(h:gO env bE xs)(hs:∀x∈ys,x∈xs):gO env bE ys:=λt ht=>h t (hs _ ht)
def gO.aq{env bE:aj}{xs:List aH}(h:gO env bE xs):∀x∈xs,Vm.aq env x=Vm.aq bE x:=λx hx=>by
 cases x with
 | tmp t=>simp only[Vm.aq,zf,h t hx]
 | _=>rfl
def gO.bt{env bE:aj}{xs:List aH}(h:gO env bE xs):∀{ys:List aH},(∀y∈ys,y∈xs)->Vm.bt env ys=Vm.bt bE ys
 | [],_=>rfl
 | y::ys,hy=>by
  simp only[Vm.bt,h.aq y (hy y (ew ..)),h.bt (ys:=ys) λz hz=>hy z (cZ _ hz)]
def gO.d_{env bE:aj}{xs:List aH}(h:gO env bE xs){x:Option aH}(hx:∀y,x=some y->y∈xs):Vm.d_ env x=Vm.d_ bE x:=by
 cases x with
 | none=>rfl
 | some y=>simp only[Vm.d_,h.aq y (hx y rfl)]
def zdo{env bE:aj}{xs:List aH}(h:gO env bE xs){place:Nat->Option (Nat×Nat)}:∀{ps:List (Nat×aH)}{cs:aj},(∀p∈ps,p.2∈xs)->vN cs place env ps=vN cs place bE ps
 | [],_,_=>rfl
 | (i,x)::ps,cs,hp=>by
  simp only[vN,h.aq x (hp (i,x) (ew ..))];have ih:=λcs=>zdo h (place:=place) (ps:=ps) (cs:=cs) λp hq=>hp p (cZ _ hq);simp only[ih]
def zei{env bE:aj}{xs:List aH}(h:gO env bE xs){n len:Nat}:∀{ps:List (Nat×aH)}{cs:aj},(∀p∈ps,p.2∈xs)->DM n len env cs ps=DM n len bE cs ps
 | [],_,_=>rfl
 | (i,x)::ps,cs,hp=>by
  simp only[DM,h.aq x (hp (i,x) (ew ..))];have ih:=λcs=>zei h (n:=n) (len:=len) (ps:=ps) (cs:=cs) λp hq=>hp p (cZ _ hq);simp only[ih]
def zgu{env bE:aj}{xs:List aH}(h:gO env bE xs){t:ai}{ps:Array (Nat×aH)}(hp:∀p∈ps.toList,p.2∈xs):ki P t ps env=ki P t ps bE:=by
 unfold ki;simp only[zdo h hp]
def zhO{env bE:aj}{gl:Nat->Nat->bS}{o:Oper}{H:Hp}(h:gO env bE o.op.operands.toList):qi P gl o env H=qi P gl o bE H:=by
 obtain⟨dst,op,type,pos,after,guard⟩:=o;have hp:=h.aq;cases op<;>simp only[Op.operands] at h hp
 case build t ps=>simp only[qi,zgu h (ps:=ps) λp hq=>by simpa using G0 (f:=(·.2)) hq]
 case buildSlice t n ps=>simp only[qi,λa b c=>zei h (n:=a) (len:=b) (cs:=c) (ps:=ps.toList) λp hq=>by simpa using G0 (f:=(·.2)) hq]
 case makeFunc fn first cap =>
  simp only[qi,h.bt (ys:=first.toList) λy hy=>by simp at hy ⊢;exact .inl hy,h.bt (ys:=cap.toList) λy hy=>by simp at hy ⊢;exact .inr hy]
 case slice t x lo hi mx =>
  simp only[qi,hp x (by simp),h.d_ (x:=lo) λy hy=>by subst hy;simp,h.d_ (x:=hi) λy hy=>by subst hy;simp]
 all_goals first
  |rfl
  |(simp[qi,hp];done)
end
section
variable{P:aD}
def kp(env:aj):aH->aj
 | .tmp t=>match env[t]? with
  | some (.sl sz xs (.yes _))=>env.set t (.sl sz xs .no)
  | _=>env
 | _=>env
def o9(env:aj):Option aH->aj
 | some x=>kp env x
 | none=>env
def zfx{env:aj}{t sz:Nat}{xs:aj}{e:ai}(h:env[t]?=some (.sl sz xs (.yes e))):kp env (.tmp t)=env.set t (.sl sz xs .no):=by
 simp only[kp,h]
def VA{env:aj}{t:Nat}{v:V}(h:env[t]?=some v)(hn:∀sz xs e,v≠.sl sz xs (.yes e)):kp env (.tmp t)=env:=by
 simp only[kp,h];split
 next h1=>cases h1;exact(hn _ _ _ rfl).elim
 ·rfl
def zhP{env:aj}{t sz:Nat}{xs:aj}{e:ai}(h:env[t]?=some (.sl sz xs (.yes e))):take env (.tmp t)=some (.sl sz xs (.yes e),env.set t (.sl sz xs .no)):=by
 simp only[take,zf,h,eV]
def zj7{env:aj}{t:Nat}{v:V}(h:env[t]?=some v)(hn:∀sz xs e,v≠.sl sz xs (.yes e)):take env (.tmp t)=some (aX v,env):=by
 cases v with
 | sl sz xs o=>cases o with
  | yes e=>exact(hn _ _ _ rfl).elim
  | _=>simp only[take,zf,h]
 | _=>simp only[take,zf,h]
def wt{env bE:aj}{x:aH}(h:gO env bE [x]){v:V}{e:aj}(ht:take env x=some (v,e)):e=kp env x/\take bE x=some (v,kp bE x):=by
 cases x with
 | tmp t =>
  have ha:=h t (by simp)
  cases hv:env[t]? with
  | none=>simp[take,zf,hv] at ht
  | some v0 =>
   have Ci:bE[t]?=some v0:=by rw[<- ha,hv]
   by_cases hy:∃sz xs e,v0=.sl sz xs (.yes e)
   ·obtain⟨sz,xs,e',rfl⟩:=hy;rw[zhP hv] at ht;cases ht;exact⟨(zfx hv).symm,by rw[zhP Ci,zfx Ci]⟩
   ·have hn:∀sz xs e,v0≠.sl sz xs (.yes e):=λsz xs e h=>hy ⟨sz,xs,e,h⟩;rw[zj7 hv hn] at ht;cases ht;exact⟨(VA hv hn).symm,by rw[zj7 Ci hn,VA Ci hn]⟩
 | const c =>
  simp only[take,aq,nq,bP] at ht;obtain⟨u,hu,rfl,rfl⟩:=ht;exact⟨rfl,by simp[take,aq,hu,kp]⟩
 | global k =>
  simp only[take,aq,cA,aO,bP] at ht;obtain⟨rfl,rfl⟩:=ht;exact⟨rfl,by simp[take,aq,kp]⟩
 | func f =>
  simp only[take,aq,cA,aO,bP] at ht;obtain⟨rfl,rfl⟩:=ht;exact⟨rfl,by simp[take,aq,kp]⟩
end
section
variable{P:aD}
def zfk{cx:Cx}{b:Builtin}{ts:Array ai}{args:nO}{env bE:aj}{H:Hp}{xs:List aH}{r:OR}{e:aj}{k:Option aH}(h:gO env bE xs)(hx:∀x∈args.toList,x∈xs)
  (hb:cx.builtin b ts args env H=some (r,e)) (hk:k=match b with|.append=>args.toList.head?|_=>none):e=o9 env k/\cx.builtin b ts args bE H=some (r,o9 bE k):=by
 have hp:=h.aq;unfold Cx.builtin at hb ⊢;split at hb
 ·rename_i x t ha ht hb;have e1:=hp x (hx x (by simp[ha]))
  simp only[<- e1] at hk ⊢;subst hk;simp only[Option.bind_eq_bind,fy,aO,bP] at hb;obtain⟨u,h1,v,h2,h3,rfl⟩:=hb;refine⟨rfl,?_⟩;simp[h1,h2,h3,o9]
 ·rename_i x y t u ha ht hb;have e1:=hp y (hx y (by simp[ha]))
  simp only[ha,<- e1] at hk ⊢;subst hk;split at hb<;>try (cases hb;done)
  rename_i hg;rw[if_neg hg];simp only[Option.bind_eq_bind,fy,aO,bP] at hb;obtain⟨y',h1,⟨v,e'⟩,h2,w,h3,h4,rfl⟩:=hb;obtain⟨t1,t2⟩:=wt (h.mono (xs:=xs) (ys:=[x]) (by simpa using hx x (by simp[ha]))) h2
  refine⟨t1,?_⟩;simp[h1,t2,h3,h4,o9]
 ·rename_i x y ha hb;have e1:=hp x (hx x (by simp[ha]))
  have e2:=hp y (hx y (by simp[ha]))
  simp only[<- e1,<- e2] at hk ⊢;subst hk;simp only[Option.bind_eq_bind,fy] at hb;obtain⟨u,h1,v,h2,h3⟩:=hb;simp only[Option.bind_eq_bind,h1,h2,cG];split at h3<;>simp only[aO,reduceCtorEq,bP] at h3;obtain⟨rfl,rfl⟩:=h3;exact⟨rfl,rfl⟩
 ·rename_i x y ha hb;have e1:=hp x (hx x (by simp[ha]))
  have e2:=hp y (hx y (by simp[ha]))
  simp only[<- e1,<- e2] at hk ⊢;subst hk;simp only[Option.bind_eq_bind,fy] at hb;obtain⟨u,h1,v,h2,h3⟩:=hb;simp only[Option.bind_eq_bind,h1,h2,cG];split at h3<;>simp only[aO,reduceCtorEq,bP] at h3;obtain⟨rfl,rfl⟩:=h3;exact⟨rfl,rfl⟩
 ·cases hb
def zej{env:aj}{x:aH}{v:V}(h:aq env x=some v)(hn:∀sz xs o,v≠.sl sz xs o):kp env x=env:=by
 cases x with
 | tmp t =>
  simp only[aq,zf] at h;split at h<;>simp only[aO,reduceCtorEq] at h;rename_i v0 h0;refine VA h0 λsz xs e e0=>?_;subst e0;exact hn sz xs .no h.symm
 | _=>rfl
def zfl{cx:Cx}{t:ai}{x y:aH}{env bE:aj}{H:Hp}{lk:aC}{df:aV}{r:OR}{s':St}(hx:aq env x=aq bE x)(hy:aq env y=aq bE y)(az:cx.m6 t x y env H lk df=some (r,s')) :
  s'.env=kp env x/\cx.m6 t x y bE H lk df=some (r,{ s' with env:=kp bE x }):=by
 unfold Cx.m6 at az ⊢;rw[<- hx,<- hy];simp only[Option.bind_eq_bind,fy] at az;obtain⟨td,ht,az⟩:=az;simp only[Option.bind_eq_bind,ht,cG];split at az<;>try (cases az;done)
 simp only[fy] at az;obtain⟨n,hn,i,hi,z,hz,yv,h1,ys,AQ,az⟩:=az;simp only[hn,hi,hz,h1,AQ,cG];split at az<;>try (cases az;done)
 rename_i hc;rw[if_neg hc];simp only[fy] at az;obtain⟨xv,h2,az⟩:=az;simp only[h2,cG];have key:(∀sz xs o,xv≠.sl sz xs o)->kp env x=env/\kp bE x=bE:=λhn=>⟨zej h2 hn,zej (hx ▸ h2) hn⟩;split at az
 ·obtain⟨k1,k2⟩:=key (λ_ _ _ e=>by cases e)
  rw[k1,k2];split at az
  ·simp only[aO,bP] at az;obtain⟨rfl,rfl⟩:=az;exact⟨rfl,rfl⟩
  ·split at az<;>try (cases az;done)
   rename_i KZ;simp only[dD,qh,qb,aO,bP] at az;obtain⟨rfl,rfl⟩:=az;refine⟨rfl,?_⟩;simp only[KZ,aT,dD,qh,qb]
 ·obtain⟨k1,k2⟩:=key (λ_ _ _ e=>by cases e)
  rw[k1,k2];split at az<;>try (cases az;done)
  rename_i h3
  try simp only[h3]
  split at az<;>try (cases az;done)
  rename_i h4;rw[if_pos h4];simp only[dD,qh,qx,aO,bP] at az ⊢;obtain⟨rfl,rfl⟩:=az;exact⟨rfl,rfl,rfl⟩
 ·obtain⟨k1,k2⟩:=key (λ_ _ _ e=>by cases e)
  rw[k1,k2];split at az<;>try (cases az;done)
  rename_i h3
  try simp only[h3]
  split at az<;>try (cases az;done)
  rename_i h4;rw[if_pos h4];simp only[dD,qh,qx,aO,bP] at az ⊢;obtain⟨rfl,rfl⟩:=az;exact⟨rfl,rfl,rfl⟩
 ·cases az
def zhQ{cx:Cx}{t:ai}{x y:aH}{env bE:aj}{H:Hp}{lk:aC}{df:aV}{r:OR}{s':St}(hx:aq env x=aq bE x)(hy:aq env y=aq bE y)(az:cx.uh t x y env H lk df=some (r,s')) :
  s'.env=env/\cx.uh t x y bE H lk df=some (r,{ s' with env:=bE }):=by
 unfold Cx.uh at az ⊢;rw[<- hx,<- hy];simp only[Option.bind_eq_bind,fy] at az;obtain⟨td,ht,az⟩:=az;simp only[Option.bind_eq_bind,ht,cG];split at az<;>try (cases az;done)
 simp only[fy] at az;obtain⟨n,hn,yv,h1,ys,AQ,xv,h2,az⟩:=az;simp only[hn,h1,AQ,h2,cG];split at az<;>try (cases az;done)
 split at az<;>try (cases az;done)
 rename_i h3
 try simp only[h3]
 split at az<;>try (cases az;done)
 rename_i h4;rw[if_pos h4];simp only[dD,qx,aO,bP] at az ⊢;obtain⟨rfl,rfl⟩:=az;exact⟨rfl,rfl,rfl⟩
def zgv{cx:Cx}{t:ai}{x:aH}{lo hi:Option aH}{env bE:aj}{H:Hp}{lk:aC}{df:aV}{r:OR}{s':St}(hx:aq env x=aq bE x)(hl:d_ env lo=d_ bE lo)(hh:d_ env hi=d_ bE hi)(az:cx.oZ t x lo hi env H lk df=some (r,s')) :
  s'.env=env/\cx.oZ t x lo hi bE H lk df=some (r,{ s' with env:=bE }):=by
 unfold Cx.oZ at az ⊢;rw[<- hx,<- hl,<- hh];split at az<;>try (cases az;done)
 ·rename_i h1 h2 h3 h4
  try simp only[h1,h2,h3,h4]
  split at az<;>try (cases az;done)
  rename_i h5 h6
  try simp only[h5,h6]
  split at az<;>try (cases az;done)
  rename_i h7;rw[if_pos h7];simp only[dN,qh,qx,aO,bP] at az ⊢;obtain⟨rfl,rfl⟩:=az;exact⟨rfl,rfl,rfl⟩
 ·rename_i h1 h2 h3
  try simp only[h1,h2,h3]
  split at az<;>simp only[aO,reduceCtorEq,bP] at az;rename_i h5
  try simp only[h5]
  obtain⟨rfl,rfl⟩:=az;exact⟨rfl,rfl⟩
def zmz{P:aD}{a b:ai}{x:aH}{env:aj}{r:V×aj}(h:vO P a b x env=some r):Nat.beq a b=true:=by
 unfold vO at h;split at h
 next e _=>exact e
 ·cases h
def zdp{P:aD}{a b:ai}{x:aH}{env bE e:aj}{v:V}(h:gO env bE [x])(hm:vO P a b x env=some (v,e)):e=kp env x/\vO P a b x bE=some (v,kp bE x):=by
 unfold vO at hm ⊢;split at hm<;>try (cases hm;done)
 rename_i h1 h2
 try simp only[h1,h2]
 split at hm<;>simp only[aO,reduceCtorEq,bP] at hm;rename_i h3 h4;obtain⟨rfl,rfl⟩:=hm;obtain⟨k1,k2⟩:=wt h h4;simp only[k2,h3];exact⟨k1,trivial⟩
def zjf{P:aD}{a b:ai}{x:aH}{env bE:aj}(h:gO env bE [x])(hm:vO P a b x env=none):vO P a b x bE=none:=by
 cases h2:vO P a b x bE with
 | none=>rfl
 | some r =>
  obtain⟨v,e⟩:=r;have h':gO bE env [x]:=λt ht=>(h t ht).symm;rw[(zdp h' h2).2] at hm;cases hm
def zln{P:aD}{a b:ai}{sz:Nat}{xs:aj}{o:Own}(h:Nat.beq a b=true):vM P a b (.sl sz xs o)=none:=by
 have h':=eT h;subst h';simp only[vM,Option.bind_eq_bind];cases P.underlying a with
 | none=>rfl
 | some d =>
  simp only[cG]
def VB{cx : Cx}{takes : bA}{o : Oper}{env bE : aj}{H : Hp}{lk : aC}{df : aV}{r : OR}{s' : St}(h : gO env bE o.op.operands.toList)(az : cx.op takes o env H lk df = some (r, s')) :
    s'.env = o9 env (ke takes o) /\ cx.op takes o bE H lk df = some (r, { s' with env := o9 bE (ke takes o) }) := by
  have Qd := zhO (P := cx.P) (gl := cx.gl) (H := H) h;obtain⟨dst, op, type, pos, after, guard⟩ := o;have hp := h.aq;have read : ke takes ⟨dst, op, type, pos, after, guard⟩ = none -> (match qi cx.P cx.gl ⟨dst, op, type, pos, after, guard⟩ env H with | none => none | some v => some (OR.val v, (⟨env, H, lk, df⟩ : St))) = some (r, s') ->
      s'.env = o9 env (ke takes ⟨dst, op, type, pos, after, guard⟩) /\ (match qi cx.P cx.gl ⟨dst, op, type, pos, after, guard⟩ bE H with | none => none | some v => some (OR.val v, (⟨bE, H, lk, df⟩ : St))) = some (r, { s' with env := o9 bE (ke takes ⟨dst, op, type, pos, after, guard⟩) }) := by
    intro iX hh;rw[<- Qd, iX];split at hh <;> simp only[aO, reduceCtorEq, bP] at hh;rename_i v hv;obtain⟨rfl, rfl⟩ := hh;exact⟨rfl, rfl⟩
  have R9 : (match qi cx.P cx.gl ⟨dst, op, type, pos, after, guard⟩ env H with | none => none | some v => some (OR.val v, (⟨env, H, lk, df⟩ : St))) = some (r, s') ->
      s'.env = env /\ (match qi cx.P cx.gl ⟨dst, op, type, pos, after, guard⟩ bE H with | none => none | some v => some (OR.val v, (⟨bE, H, lk, df⟩ : St))) = some (r, { s' with env := bE }) := by
    intro hh;rw[<- Qd];split at hh <;> simp only[aO, reduceCtorEq, bP] at hh;obtain⟨rfl, rfl⟩ := hh;exact⟨rfl, rfl⟩
  cases op
  case pick => exact read rfl az
  case build => exact read rfl az
  case buildSlice => exact read rfl az
  case nilCheck => exact read rfl az
  case binOp => exact read rfl az
  case unOp => exact read rfl az
  case convert c d x =>
    simp only[Cx.op] at az ⊢;cases hm : vO cx.P c d x env with
    | some ve =>
      obtain⟨v, e⟩ := ve;simp only[hm, aO, bP] at az;obtain⟨rfl, rfl⟩ := az;obtain⟨h1, h2⟩ := zdp (h.mono (by simp[Op.operands])) hm
      have o_ := zmz hm;simp only[h2, ke, o_, aT];exact⟨h1, rfl⟩
    | none =>
      simp only[hm] at az;have Qj := zjf (h.mono (by simp[Op.operands])) hm
      simp only[Qj];cases o_ : Nat.beq c d with
      | false => exact read (by simp only[ke, o_]; rfl) az
      | true =>
        have hq : ∀e2, (∀t, x = .tmp t -> e2[t]? = env[t]?) -> kp e2 x = e2 := λe2 K4 => by
          cases x with
          | tmp t =>
            cases hn : env[t]? with
            | none => simp[kp, K4 t rfl, hn]
            | some v0 =>
              refine VA ((K4 t rfl).trans hn) λsz xs e e0 => ?_;subst e0;have : aq env (.tmp t) = some (.sl sz xs .no) := by simp[aq, zf, hn, aX]
              simp only[qi, this, Option.bind_eq_bind, cG, zln o_] at az;cases az
          | _ => rfl
        have := R9 az;obtain⟨h1, h2⟩ := this;have e1 : kp env x = env := hq env λ_ _ => rfl;have e2 : kp bE x = bE := hq bE λt e => (h t (by simp[e, Op.operands])).symm
        simp only[ke, o_, aT, o9, e1, e2];exact⟨h1, h2⟩
  case makeInterface => exact read rfl az
  case makeFunc => exact read rfl az
  case slice t x lo hi mx =>
    cases mx with
    | some m => exact read rfl az
    | none =>
      simp only[Cx.op] at az ⊢;cases hu : CB cx.P cx.uq t with
      | false =>
        simp only[hu] at az;exact read rfl az
      | true =>
        simp only[hu] at az;have ho : ∀y : Option aH, (∀z, y = some z -> z ∈ (Op.slice t x lo hi none).operands.toList) -> d_ env y = d_ bE y := λy hy => by
          cases y with
          | none => rfl
          | some z => simp only[d_]; rw[hp z (hy z rfl)]
        obtain⟨e1, e2⟩ := zgv (hp x (by simp[Op.operands])) (ho lo λz e => by subst e; simp[Op.operands]) (ho hi λz e => by subst e; simp[Op.operands]) az
        exact⟨e1, e2⟩
  case fieldAddr => exact read rfl az
  case field => exact read rfl az
  case indexAddr => exact read rfl az
  case index => exact read rfl az
  case lookup => exact read rfl az
  case typeAssert => exact read rfl az
  case extract => exact read rfl az
  case ready => exact read rfl az
  case waits => exact read rfl az
  case sliceToArrayPointer => exact read rfl az
  case makeChan => exact read rfl az
  case mapEntry => exact read rfl az
  case entryStore => exact read rfl az
  case entry => exact read rfl az
  case go => exact read rfl az
  case send => exact read rfl az
  case recv => exact read rfl az
  case select => exact read rfl az
  case assign x =>
    simp only[Cx.op] at az ⊢;split at az <;> simp only[aO, reduceCtorEq, bP] at az;rename_i v e ht;obtain⟨rfl, rfl⟩ := az;obtain⟨t1, t2⟩ := wt (h.mono (by simp[Op.operands])) ht
    simp only[t2];exact⟨t1, rfl⟩
  case box t x =>
    simp only[Cx.op] at az ⊢;split at az <;> try (cases az; done)
    rename_i v e ht;split at az <;> try (cases az; done)
    rename_i hk;simp only[zQ, dD, qb, aO, bP] at az;obtain⟨rfl, rfl⟩ := az;obtain⟨t1, t2⟩ := wt (h.mono (by simp[Op.operands])) ht
    simp only[t2, hk, zQ, dD, qb];exact⟨t1, rfl⟩
  case move x =>
    have yes : ke takes ⟨dst, .move x, type, pos, after, guard⟩ = some x -> (match take env x with | none => none | some (v, env) => some (OR.val v, (⟨env, H, lk, df⟩ : St))) = some (r, s') ->
        s'.env = o9 env (ke takes ⟨dst, .move x, type, pos, after, guard⟩) /\ (match take bE x with | none => none | some (v, env) => some (OR.val v, (⟨env, H, lk, df⟩ : St))) = some (r, { s' with env := o9 bE (ke takes ⟨dst, .move x, type, pos, after, guard⟩) }) := by
      intro iX az;split at az <;> simp only[aO, reduceCtorEq, bP] at az;rename_i v e ht;obtain⟨rfl, rfl⟩ := az;obtain⟨t1, t2⟩ := wt (h.mono (by simp[Op.operands])) ht
      simp only[t2, iX];exact⟨t1, rfl⟩
    cases dst with
    | none => exact read rfl az
    | some d =>
      cases hb : takes.any (Nat.beq d) with
      | true =>
        simp only[Cx.op, hb] at az ⊢;exact yes (by simp only[ke, hb, aT]) az
      | false =>
        simp only[Cx.op, hb] at az ⊢;exact read (by simp only[ke, hb]; rfl) az
  case alloc t =>
    simp only[Cx.op] at az ⊢;split at az <;> try (cases az; done)
    rename_i z hz;split at az <;> try (cases az; done)
    rename_i hk;simp only[zQ, qb, aO, bP] at az;obtain⟨rfl, rfl⟩ := az;simp only[hk, zQ, qb];exact⟨rfl, rfl⟩
  case makeMap t rr =>
    simp only[Cx.op] at az ⊢;split at az <;> try (cases az; done)
    simp only[qb, aO, bP] at az;obtain⟨rfl, rfl⟩ := az;simp only[qb];exact⟨rfl, rfl⟩
  case range t x =>
    simp only[Op.operands] at hp;simp only[Cx.op] at az ⊢;rw[<- hp x (by simp)]
    split at az <;> try (cases az; done)
    rename_i l h1 h2;simp only[qb, aO, bP] at az;obtain⟨rfl, rfl⟩ := az;simp only[qb];exact⟨rfl, rfl⟩
  case panic x =>
    simp only[Op.operands] at hp;simp only[Cx.op] at az ⊢;rw[<- hp x (by simp)]
    split at az <;> simp only[aO, reduceCtorEq, bP] at az;rename_i t v h1;obtain⟨rfl, rfl⟩ := az;simp only[];exact⟨rfl, rfl⟩
  case mapUpdate t m k x =>
    simp only[Op.operands] at hp;simp only[Cx.op] at az ⊢;rw[<- hp m (by simp), <- hp k (by simp), <- hp x (by simp)]
    split at az <;> try (cases az; done)
    rename_i b kv v h1 h2 h3
    try simp only[h1, h2, h3]
    split at az <;> try (cases az; done)
    rename_i hk;rw[if_neg hk];simp only[zQ, dN, qx] at az ⊢;split at az <;> try (cases az; done)
    rename_i es h4
    try simp only[h4]
    split at az <;> simp only[aO, reduceCtorEq, bP] at az;rename_i fJ h5;obtain⟨rfl, rfl⟩ := az
    try simp only[]
    exact⟨rfl, rfl⟩
  case insert t m k x =>
    simp only[Op.operands] at hp;simp only[Cx.op] at az ⊢;rw[<- hp m (by simp), <- hp k (by simp), <- hp x (by simp)]
    split at az <;> try (cases az; done)
    rename_i b kv v h1 h2 h3
    try simp only[h1, h2, h3]
    split at az <;> try (cases az; done)
    rename_i hk;rw[if_neg hk];simp only[zQ, dN, qx] at az ⊢;split at az <;> try (cases az; done)
    rename_i es h4
    try simp only[h4]
    split at az <;> simp only[aO, reduceCtorEq, bP] at az;rename_i fJ h5;obtain⟨rfl, rfl⟩ := az
    try simp only[]
    exact⟨rfl, rfl⟩
  case defer c =>
    simp only[Op.operands] at hp h;simp only[Cx.op] at az ⊢;split at az <;> try (cases az; done)
    rename_i f gV;simp only[Call.operands, gV] at hp h;rw[<- hp f (by simp), <- h.bt (ys := c.args.toList) (λy hy => by simp at hy ⊢; exact .inr hy)]
    split at az <;> simp only[aO, reduceCtorEq, bP] at az;rename_i f' first cap args h1 h2
    obtain⟨rfl, rfl⟩ := az;simp only[];exact⟨rfl, rfl⟩
  case makeSlice t l c =>
    simp only[Op.operands] at hp;simp only[Cx.op] at az ⊢;rw[<- hp l (by simp), <- hp c (by simp)]
    split at az <;> try (cases az; done)
    rename_i e k1 l' k2 c' h1 h2 h3
    try simp only[h1, h2, h3]
    split at az <;> try (cases az; done)
    rename_i n i z g1 g2 g3
    try simp only[g1, g2, g3]
    split at az <;> try (cases az; done)
    rename_i g4;rw[if_neg g4];split at az
    · rename_i g5
      try simp only[g5]
      simp only[dD, qh, qb, aO, bP] at az ⊢;obtain⟨rfl, rfl⟩ := az;exact⟨rfl, rfl, rfl⟩
    rename_i F5
    try simp only[F5]
    split at az
    · rename_i g5
      rw[if_pos g5];simp only[aO, bP] at az;obtain⟨rfl, rfl⟩ := az;exact⟨rfl, rfl⟩
    · rename_i g5
      rw[if_neg g5];split at az <;> try (cases az; done)
      rename_i g6;rw[if_pos g6];simp only[dD, qb, aO, bP] at az ⊢;obtain⟨rfl, rfl⟩ := az;exact⟨rfl, rfl, rfl⟩
  case next it b =>
    cases b with
    | false => exact read rfl az
    | true =>
      simp only[Op.operands] at hp;simp only[Cx.op] at az ⊢;rw[<- hp it (by simp)]
      split at az <;> try (cases az; done)
      rename_i bb h1
      try simp only[h1]
      split at az <;> try (cases az; done)
      rename_i l pos h2
      try simp only[h2]
      split at az
      · rename_i g5
        rw[if_pos g5];simp only[qh, qx, aO, bP] at az ⊢;obtain⟨rfl, rfl⟩ := az;exact⟨rfl, rfl, rfl⟩
      · rename_i g5
        rw[if_neg g5];simp only[aO, bP] at az ⊢;obtain⟨rfl, rfl⟩ := az;exact⟨rfl, rfl, rfl⟩
  case store t a x =>
    simp only[Op.operands] at hp h;simp only[Cx.op] at az ⊢;rw[<- hp a (by simp)]
    split at az <;> try (cases az; done)
    · rename_i b off h1
      try simp only[h1]
      split at az <;> try (cases az; done)
      rename_i v e n cs ty h2 h3 h4;obtain⟨t1, t2⟩ := wt (h.mono (by simp)) h2
      try simp only[t2, h3, h4]
      simp only[zQ, dD, dN, qx] at az ⊢;split at az <;> try (cases az; done)
      rename_i g5;rw[if_pos g5];simp only[aO, bP] at az ⊢;obtain⟨rfl, rfl⟩ := az;exact⟨t1, rfl, rfl⟩
    · rename_i b u k h1
      try simp only[h1]
      split at az <;> try (cases az; done)
      rename_i v e n bZ sz cs ty h2 h3 h4;obtain⟨t1, t2⟩ := wt (h.mono (by simp)) h2
      try simp only[t2, h3, h4]
      simp only[zQ, dN, qx] at az ⊢;split at az <;> try (cases az; done)
      rename_i g5;rw[if_pos g5];simp only[aO, bP] at az ⊢;obtain⟨rfl, rfl⟩ := az;exact⟨t1, rfl, rfl⟩
  case load t a =>
    have yes : ke takes ⟨dst, .load t a, type, pos, after, guard⟩ = none := rfl;have nK : aq env a = aq bE a := hp a (by simp[Op.operands])
    cases dst with
    | none => exact read yes az
    | some d =>
      cases hb : takes.any (Nat.beq d) with
      | false =>
        simp only[Cx.op, hb] at az ⊢;exact read yes az
      | true =>
        simp only[Cx.op, hb] at az ⊢;rw[<- nK];split at az <;> try (cases az; done)
        rename_i b off h1 h2
        try simp only[h1, h2]
        split at az <;> try (cases az; done)
        rename_i cs ty h3
        try simp only[h3]
        split at az <;> try (cases az; done)
        · rename_i sz xs e h4
          try simp only[h4]
          simp only[eV, qx, aO, bP] at az ⊢;obtain⟨rfl, rfl⟩ := az;exact⟨rfl, rfl, rfl⟩
        · rename_i h4
          try simp only[h4]
          simp only[aO, bP] at az ⊢;obtain⟨rfl, rfl⟩ := az;exact⟨rfl, rfl, rfl⟩
        · rename_i h4
          try simp only[h4]
          simp only[aO, bP] at az ⊢;obtain⟨rfl, rfl⟩ := az;exact⟨rfl, rfl, rfl⟩
  case call c =>
    simp only[Op.operands] at hp h;simp only[Cx.op] at az ⊢;cases gV : c.callee with
    | value f =>
      simp only[gV] at az ⊢;simp only[Call.operands, gV] at hp h;rw[<- hp f (by simp), <- h.bt (ys := c.args.toList) (λy hy => by simp at hy ⊢; exact .inr hy)]
      split at az <;> try (cases az; done)
      rename_i f' args h1 h2
      try simp only[h1, h2]
      split at az <;> simp only[aO, reduceCtorEq, bP] at az;rename_i r' H' h3;obtain⟨rfl, rfl⟩ := az
      try simp only[]
      refine⟨?_, ?_⟩ <;> simp[ke, gV, o9]
    | invoke rc m =>
      simp only[gV] at az ⊢;simp only[Call.operands, gV] at hp h;rw[<- hp rc (by simp), <- h.bt (ys := c.args.toList) (λy hy => by simp at hy ⊢; exact .inr hy)]
      split at az <;> try (cases az; done)
      rename_i f' args h1 h2
      try simp only[h1, h2]
      split at az <;> simp only[aO, reduceCtorEq, bP] at az;rename_i r' H' h3;obtain⟨rfl, rfl⟩ := az
      try simp only[]
      refine⟨?_, ?_⟩ <;> simp[ke, gV, o9]
    | builtin b =>
      simp only[gV] at az ⊢;simp only[Call.operands, gV] at hp h;have plain : (match cx.builtin b c.argTypes c.args env H with | none => none | some (r, env) => some (r, (⟨env, H, lk, df⟩ : St))) = some (r, s') ->
          s'.env = o9 env (ke takes ⟨dst, .call c, type, pos, after, guard⟩) /\ (match cx.builtin b c.argTypes c.args bE H with | none => none | some (r, env) => some (r, (⟨env, H, lk, df⟩ : St))) = some (r, { s' with env := o9 bE (ke takes ⟨dst, .call c, type, pos, after, guard⟩) }) := by
        intro az;split at az <;> simp only[aO, reduceCtorEq, bP] at az;rename_i r' e h1;obtain⟨rfl, rfl⟩ := az;have hg : e = o9 env (ke takes ⟨dst, .call c, type, pos, after, guard⟩) /\ cx.builtin b c.argTypes c.args bE H = some (r', o9 bE (ke takes ⟨dst, .call c, type, pos, after, guard⟩)) := by
          exact zfk (xs := c.args.toList) (h.mono λy hy => by simpa using hy) (λy hy => hy) h1 (by cases b <;> simp[ke, gV])
        obtain⟨rfl, hg⟩ := hg;refine⟨rfl, ?_⟩;simp only[hg]
      split at az
      · rename_i x y t ts de D4
        obtain⟨e1, e2⟩ := zhQ (hp x (by have : x ∈ c.args.toList := by rw[de]; simp
                                        simpa using this)) (hp y (by have : y ∈ c.args.toList := by rw[de]; simp
                                                                     simpa using this)) az
        have : ke takes ⟨dst, .call c, type, pos, after, guard⟩ = none := by simp[ke, gV]
        rw[this];exact⟨e1, e2⟩
      · rename_i x y t u de D4
        have : ke takes ⟨dst, .call c, type, pos, after, guard⟩ = some x := by simp[ke, gV, de]
        split at az
        · rename_i hu
          split at az <;> try (cases az; done)
          rename_i NV
          obtain⟨e1, e2⟩ := zfl (hp x (by have : x ∈ c.args.toList := by rw[de]; simp
                                          simpa using this)) (hp y (by have : y ∈ c.args.toList := by rw[de]; simp
                                                                       simpa using this)) az
          simp only[NV, aT, this, o9];exact⟨e1, e2⟩
        · exact plain az
      · exact plain az
end
section
variable{P:aD}
def Bz:∀{a b:aR},sU a b=true->a=b
 | [],[],_=>rfl
 | [],_::_,h=>by simp[sU] at h
 | _::_,[],h=>by simp[sU] at h
 | x::xs,y::ys,h=>by
  simp only[sU,bN] at h;rw[eT h.1,Bz h.2]
mutual
def V.iB:∀{a b:V},V.same a b=true->a=b
 | .bool a,b,h=>by cases b<;>simp[V.same] at h<;>simp[h]
 | .int k n,b,h=>by cases b<;>simp[V.same] at h;simp[h]
 | .str a,b,h=>by cases b<;>simp[V.same] at h;simp[Bz h]
 | .dx,b,h=>by cases b<;>simp[V.same] at h;rfl
 | .ptr x y,b,h=>by cases b<;>simp[V.same] at h;simp[h]
 | .gj x y,b,h=>by cases b<;>simp[V.same] at h;simp[h]
 | .obj x,b,h=>by cases b<;>simp[V.same] at h;simp[h]
 | .vp xs,b,h=>by cases b<;>simp[V.same] at h;rw[gp h]
 | .aU,b,h=>by cases b<;>simp[V.same] at h;rfl
 | .sl z xs o,b,h=>by cases b<;>simp[V.same] at h;rw[h.1,gp h.2.2,h.2.1]
 | .sr x y z u,b,h=>by cases b<;>simp[V.same] at h;simp[h]
 | .mB,b,h=>by cases b<;>simp[V.same] at h;rfl
 | .map x,b,h=>by cases b<;>simp[V.same] at h;simp[h]
 | .nx,b,h=>by cases b<;>simp[V.same] at h;rfl
 | .fn f as cs,b,h=>by
  cases b<;>try (simp[V.same] at h;done)
  rename_i f' K5 cs';simp only[V.same,bN] at h;obtain⟨⟨h1,h2⟩,h3⟩:=h;split at h1
  next e=>rw[e,gp h2,gp h3]
  ·cases h1
 | .bq,b,h=>by cases b<;>simp[V.same] at h;rfl
 | .bf t v,b,h=>by cases b<;>simp[V.same] at h;rw[h.1,V.iB h.2]
 | .agg xs,b,h=>by cases b<;>simp[V.same] at h;rw[gp h]
 | .bx xs,b,h=>by cases b<;>simp[V.same] at h;rw[gp h]
 | .mC,b,h=>by cases b<;>simp[V.same] at h;rfl
 | .fA x y z,b,h=>by cases b<;>simp[V.same] at h;simp[h]
 | .ny x y z,b,h=>by cases b<;>simp[V.same] at h;simp[h]
def gp:∀{a b:aj},gA a b=true->a=b
 | [],[],_=>rfl
 | [],_::_,h=>by simp[gA] at h
 | _::_,[],h=>by simp[gA] at h
 | x::xs,y::ys,h=>by
  simp only[gA,bN] at h;rw[V.iB h.1,gp h.2]
end
def pZ:∀(a:aR),sU a a=true
 | []=>rfl
 | x::xs=>by simp[sU,pZ xs]
mutual
def V.ej:∀(a:V),V.same a a=true
 | .bool a=>by simp[V.same]
 | .int k n=>by simp[V.same]
 | .str a=>by simp[V.same,pZ]
 | .dx=>rfl
 | .ptr x y=>by simp[V.same]
 | .gj x y=>by simp[V.same]
 | .obj x=>by simp[V.same]
 | .vp xs=>by simp[V.same,eP xs]
 | .aU=>rfl
 | .sl z xs o=>by simp[V.same,eP xs]
 | .sr x y z u=>by simp[V.same]
 | .mB=>rfl
 | .map x=>by simp[V.same]
 | .nx=>rfl
 | .fn f as cs=>by simp[V.same,eP as,eP cs]
 | .bq=>rfl
 | .bf t v=>by simp[V.same,V.ej v]
 | .agg xs=>by simp[V.same,eP xs]
 | .bx xs=>by simp[V.same,eP xs]
 | .mC=>rfl
 | .fA x y z=>by simp[V.same]
 | .ny x y z=>by simp[V.same]
def eP:∀(a:aj),gA a a=true
 | []=>rfl
 | x::xs=>by simp[gA,V.ej x,eP xs]
end
def yC(m i:Nat):bit m i=m.testBit i:=by
 unfold bit;rw[Nat.testBit_eq_decide_div_mod_eq];show Nat.beq ((m >>> i) % 2) 1=_;rw[U_];cases h:Nat.beq (m / 2 ^ i % 2) 1 with
 | true=>simp[eT h]
 | false=>have:=Nat.ne_of_beq_eq_false h;simp;omega
def qW(a b i:Nat):bit (Nat.lor a b) i=(bit a i || bit b i):=by
 simp only[yC];exact Nat.testBit_or a b i
def jh(k i:Nat):bit (Nat.pow 2 k) i=decide (k=i):=by
 rw[yC];exact Nat.testBit_two_pow
def zhR{a b i:Nat}(h:Nat.beq (Nat.land a b) 0=true)(ha:bit a i=true)(hb:bit b i=true):False:=by
 have h1:a &&& b=0:=eT h;have h2:(a &&& b).testBit i=(a.testBit i && b.testBit i):=Nat.testBit_and a b i;rw[yC] at ha hb;rw[h1,ha,hb] at h2;simp at h2
def wR(i:Nat):bit 0 i=false:=by rw[yC];simp
def wC{t:Nat}:∀{xs:List aH},Operand.tmp t∈xs->bit (gK xs) t=true
 | .tmp u::xs,h=>by
  simp only[gK,qW,jh,gZ,decide_eq_true_eq];rcases cS.1 h with h|h
  ·cases h;exact .inl rfl
  ·exact .inr (wC h)
 | .const _::xs,h=>by
  simp only[gK];rcases cS.1 h with h|h
  ·cases h
  ·exact wC h
 | .global _::xs,h=>by
  simp only[gK];rcases cS.1 h with h|h
  ·cases h
  ·exact wC h
 | .func _::xs,h=>by
  simp only[gK];rcases cS.1 h with h|h
  ·cases h
  ·exact wC h
def zdq{j m:Nat}:∀{rs:List Rec},maskAt rs j=some m->∃q∈rs,q.idx=j/\q.m=m
 | [],h=>by simp[maskAt] at h
 | r::rs,h=>by
  simp only[maskAt] at h;split at h
  next hb=>cases h;exact⟨r,ew ..,eT hb,rfl⟩
  ·obtain⟨q,h1,h2⟩:=zdq h;exact⟨q,cZ _ h1,h2⟩
def yR{rs:List Rec}:∀{es:List Edge}{m:Nat},kG rs es=some m->(∀e∈es,Region.binds .any e=true->∃q∈rs,q.idx=e.on) /\
  ∀i,bit m i=true->∃e∈es,Region.binds .any e=true/\(e.on=i\/∃q∈rs,q.idx=e.on/\bit q.m i=true)
 | [],m,h=>by
  simp only[kG,aO] at h;subst h;exact⟨λe he=>by simp at he,λi hi=>by rw[wR] at hi;cases hi⟩
 | e::es,m,h=>by
  simp only[kG] at h;split at h
  ·rename_i hb;obtain⟨h1,h2⟩:=yR h;refine⟨λe' he bY=>?_,λi hi=>?_⟩
   ·rcases cS.1 he with rfl|he
    ·rw[hb] at bY;cases bY
    ·exact h1 e' he bY
   ·obtain⟨e',he,r⟩:=h2 i hi;exact⟨e',cZ _ he,r⟩
  ·rename_i hb;split at h<;>try (cases h;done)
   rename_i m1 VC;split at h<;>try (cases h;done)
   rename_i k hk;cases h;obtain⟨q,hq,Dx,hqm⟩:=zdq VC;obtain⟨h1,h2⟩:=yR hk;refine⟨λe' he bY=>?_,λi hi=>?_⟩
   ·rcases cS.1 he with rfl|he
    ·exact⟨q,hq,Dx⟩
    ·exact h1 e' he bY
   ·simp only[qW,jh,gZ,decide_eq_true_eq] at hi;rcases hi with hi|hi|hi
    ·obtain⟨e',he,r⟩:=h2 i hi;exact⟨e',cZ _ he,r⟩
    ·exact⟨e,ew ..,hb,.inr ⟨q,hq,Dx,by rw[hqm];exact hi⟩⟩
    ·exact⟨e,ew ..,hb,.inl hi⟩
def wS{cx:Cx}{takes:bA}{o:Oper}{env:aj}{H:Hp}{lk:aC}{df:aV}{r:OR}{s':St}(hn:qF cx.P cx.uq takes o=false)(az:cx.op takes o env H lk df=some (r,s')) :
  ∃v,r=.val v/\s'=⟨o9 env (ke takes o),H,lk,df⟩/\∀lV pL,cx.op takes o env H lV pL=some (.val v,⟨o9 env (ke takes o),H,lV,pL⟩):=by
 have oK:=(VB (bE:=env) (λt _=>rfl) az).1
 suffices h:∃v e,r=.val v/\s'=⟨e,H,lk,df⟩/\∀lV pL,cx.op takes o env H lV pL=some (.val v,⟨e,H,lV,pL⟩) by
  obtain⟨v,e,h1,h2,h3⟩:=h;rw[h2] at oK;simp only at oK;subst oK;exact⟨v,h1,h2,h3⟩
 have read:(match qi cx.P cx.gl o env H with|none=>none|some v=>some (OR.val v,(⟨env,H,lk,df⟩:St)))=some (r,s')->∃v e,r=.val v/\s'=⟨e,H,lk,df⟩/\∀lV pL,(match qi cx.P cx.gl o env H with|none=>none|some v=>some (OR.val v,(⟨env,H,lV,pL⟩:St)))=some (.val v,⟨e,H,lV,pL⟩):=by
  intro hh;split at hh<;>simp only[aO,reduceCtorEq,bP] at hh;rename_i v hv;obtain⟨rfl,rfl⟩:=hh;exact⟨v,env,rfl,rfl,λ_ _=>rfl⟩
 have mv:∀x,(match take env x with|none=>none|some (v,env)=>some (OR.val v,(⟨env,H,lk,df⟩:St)))=some (r,s')->∃v e,r=.val v/\s'=⟨e,H,lk,df⟩/\∀lV pL,(match take env x with|none=>none|some (v,env)=>some (OR.val v,(⟨env,H,lV,pL⟩:St)))=some (.val v,⟨e,H,lV,pL⟩):=by
  intro x hh;split at hh<;>simp only[aO,reduceCtorEq,bP] at hh;rename_i v e hv;obtain⟨rfl,rfl⟩:=hh;exact⟨v,e,rfl,rfl,λ_ _=>rfl⟩
 obtain⟨dst,op,type,pos,after,guard⟩:=o;cases op<;>simp only[qF,Cz] at hn
 case load t a =>
  cases dst with
  | none=>exact read az
  | some d =>
   simp only at hn;simp only[Cx.op,hn] at az ⊢;exact read az
 case move x =>
  cases dst with
  | none=>exact read az
  | some d =>
   cases hb:takes.any (Nat.beq d) with
   | true =>
    simp only[Cx.op,hb] at az ⊢;exact mv x az
   | false =>
    simp only[Cx.op,hb] at az ⊢;exact read az
 case assign x =>
  simp only[Cx.op] at az ⊢;exact mv x az
 case slice t x lo hi mx =>
  cases mx with
  | some m=>exact read az
  | none =>
   simp only at hn;simp only[Cx.op,hn] at az ⊢;exact read az
 case call c =>
  cases gV:c.callee<;>simp only[gV,Cz] at hn;rename_i bi;have Ip:∀lk df,cx.op takes ⟨dst,.call c,type,pos,after,guard⟩ env H lk df=(match cx.builtin bi c.argTypes c.args env H with|none=>none|some (r,env)=>some (r,(⟨env,H,lk,df⟩:St))):=by
   intro lk df;simp only[Cx.op,gV];split
   ·simp at hn
   next x y t u de D4=>simp only[D4] at hn;simp only[hn];cases cx.builtin .append c.argTypes c.args env H<;>rfl
   ·rfl
  simp only[Ip] at az ⊢;clear Ip;split at az<;>simp only[aO,reduceCtorEq,bP] at az;rename_i r' e h1;obtain⟨rfl,rfl⟩:=az;have:∃v,r'=.val v:=by
   unfold Cx.builtin at h1;split at h1<;>try (cases h1;done)
   ·simp only[Option.bind_eq_bind,fy,aO,bP] at h1;obtain⟨u,_,v,_,h3,rfl⟩:=h1;exact⟨_,h3.symm⟩
   ·split at h1<;>try (cases h1;done)
    simp only[Option.bind_eq_bind,fy,aO,bP] at h1;obtain⟨y',_,⟨v,e'⟩,_,w,_,h4,rfl⟩:=h1;exact⟨_,h4.symm⟩
   all_goals
    simp only[Option.bind_eq_bind,fy] at h1;obtain⟨u,_,v,_,h3⟩:=h1;split at h3<;>simp only[aO,reduceCtorEq,bP] at h3;exact⟨_,h3.1.symm⟩
  obtain⟨v,rfl⟩:=this
  try simp only[h1]
  exact⟨v,e,rfl,rfl,λ_ _=>rfl⟩
 case convert c d x =>
  simp only[Cx.op] at az ⊢;split at az
  next v e hv=>simp only[aO,bP] at az;obtain⟨rfl,rfl⟩:=az;exact⟨v,e,rfl,rfl,λ_ _=>rfl⟩
  ·exact read az
 all_goals exact read az
def zj8{cx:Cx}{takes:bA}{o:Oper}{env:aj}{H H2:Hp}{lk:aC}{df:aV}{v:V}{s':St}(hn:qF cx.P cx.uq takes o=false)(hf:wM cx.P cx.uq o=false)(az:cx.op takes o env H lk df=some (.val v,s')) :
  ∀lV pL,∃s2,cx.op takes o env H2 lV pL=some (.val v,s2):=by
 intro lV pL;have read:qi cx.P cx.gl o env H2=qi cx.P cx.gl o env H->(match qi cx.P cx.gl o env H with|none=>none|some v=>some (OR.val v,(⟨env,H,lk,df⟩:St)))=some (.val v,s')->∃s2,(match qi cx.P cx.gl o env H2 with|none=>none|some v=>some (OR.val v,(⟨env,H2,lV,pL⟩:St)))=some (.val v,s2):=by
  intro e hh;rw[e];split at hh<;>simp only[aO,reduceCtorEq,bP] at hh;rename_i u hv;obtain⟨h1,rfl⟩:=hh;cases h1;exact⟨_,rfl⟩
 have mv:∀x,(match take env x with|none=>none|some (v,env)=>some (OR.val v,(⟨env,H,lk,df⟩:St)))=some (.val v,s')->∃s2,(match take env x with|none=>none|some (v,env)=>some (OR.val v,(⟨env,H2,lV,pL⟩:St)))=some (.val v,s2):=by
  intro x hh;split at hh<;>simp only[aO,reduceCtorEq,bP] at hh;rename_i u e hv;obtain⟨h1,rfl⟩:=hh;cases h1;exact⟨_,rfl⟩
 obtain⟨dst,op,type,pos,after,guard⟩:=o;cases op<;>simp only[qF,wM,Cz] at hn hf
 case move x =>
  cases dst with
  | none=>exact read rfl az
  | some d =>
   cases hb:takes.any (Nat.beq d) with
   | true =>
    simp only[Cx.op,hb] at az ⊢;exact mv x az
   | false =>
    simp only[Cx.op,hb] at az ⊢;exact read rfl az
 case assign x =>
  simp only[Cx.op] at az ⊢;exact mv x az
 case slice t x lo hi mx =>
  cases mx with
  | some m=>exact read rfl az
  | none =>
   simp only at hn;simp only[Cx.op,hn] at az ⊢;exact read rfl az
 case convert c d x =>
  simp only[Cx.op] at az ⊢;split at az
  next v' e hv=>simp only[aO,bP] at az;obtain⟨h1,rfl⟩:=az;cases h1;exact⟨_,rfl⟩
  ·exact read rfl az
 all_goals exact read rfl az
end
section
variable{cx:Cx}{all:Array Oper}{takes:bA}
def Kg(all:Array Oper)(takes:bA)(r:Rec):aj :=
 if zN all r.o r.env=some true then aI (o9 r.env (ke takes r.o)) r.o.dst r.v else aI r.env r.o.dst r.v
def yS(rs:List Rec)(q:Rec)(D:Nat):Prop:=∀d∈rs,d.hp=true->bit q.m d.idx=true->bit D d.idx=true
structure RI(cx:Cx)(all:Array Oper)(takes:bA)(s0:St)(Ev:Nat->aj)(i:Nat)(rs:List Rec)(cs:List eZ)(s:St):Prop where
 ex:∀j,j<i->∃r∈rs,r.idx=j
 lt:∀r∈rs,r.idx<i
 uniq:∀r∈rs,∀q∈rs,r.idx=q.idx->r=q
 get:∀r∈rs,all[r.idx]?=some r.o
 tm:∀r∈rs,∀t,(r.o.dst=some t\/ke takes r.o=some (.tmp t))->bit r.tm t=true
 lm:∀r∈rs,∀t,(bit r.tm t=true\/t∈r.o.looksAt all)->bit r.lm t=true
 bQ:∀r∈rs,∀e∈r.o.after,Region.binds .any e=true->e.on<r.idx
 mlt:∀r∈rs,∀b,bit r.m b=true->b<r.idx
 mask:∀r∈rs,∀b,bit r.m b=true->∃e∈r.o.after,Region.binds .any e=true/\(e.on=b\/∃q∈rs,q.idx=e.on/\bit q.m b=true)
 slots:∀r∈rs,∀q∈rs,q.idx<r.idx->jG r q=true
 ev:∀r∈rs,Ev r.idx=r.env
 VD:Ev 0=s0.env
 VF:Ev i=s.env
 R_:∀r∈rs,Ev (r.idx+1)=Kg all takes r
 off:∀r∈rs,zN all r.o r.env≠some true->zN all r.o r.env=some false/\r.hp=false/\r.v=.bx []
 calm:∀r∈rs,zN all r.o r.env=some true->r.hp=qF cx.P cx.uq takes r.o/\(qF cx.P cx.uq takes r.o=false->∃H lk df s1,cx.op takes r.o r.env H lk df=some (.val r.v,s1))
 free:∀r∈rs,zN all r.o r.env=some true->r.free=true->wM cx.P cx.uq r.o=false
 c0:∃c∈cs,c.D=0/\c.H=s0.H/\c.lk=s0.lk/\c.df=s0.defers
 top:∃c cs',cs=c::cs'/\c.D=cn rs/\c.H=s.H/\c.lk=s.lk/\c.df=s.defers
 cD:∀c∈cs,∀b,bit c.D b=true->∃q∈rs,q.hp=true/\q.idx=b
 AU:∀c∈cs,∀d∈cs,c.D=d.D->c=d
 g1:∀c∈cs,∀q∈rs,q.hp=true->bit c.D q.idx=false->yS rs q c.D->∃c3∈cs,c3.D=Nat.lor c.D (Nat.pow 2 q.idx)/\cx.dX takes q.o q.env c c3.D=some (q.v,c3)
 g2:∀c∈cs,∀q∈rs,q.hp=false->q.free=false->yS rs q c.D->(∀d∈rs,d.hp=true->bit c.D d.idx=true->bit d.m q.idx=false)->∃c2,cx.dX takes q.o q.env c 0=some (q.v,c2)
def CP:∀{a b:List (V×V)},uj a b=true->a=b
 | [],[],_=>rfl
 | [],_::_,h=>by simp[uj] at h
 | _::_,[],h=>by simp[uj] at h
 | (x,y)::xs,(z,u)::ys,h=>by
  simp only[uj,bN] at h;rw[V.iB h.1.1,V.iB h.1.2,CP h.2]
def sx:∀{a b:aC},mg a b=true->a=b
 | [],[],_=>rfl
 | [],_::_,h=>by simp[mg] at h
 | _::_,[],h=>by simp[mg] at h
 | (x,y)::xs,(z,u)::ys,h=>by
  simp only[mg,bN] at h;rw[eT h.1.1,eT h.1.2,sx h.2]
def AW:∀{a b:aV},nQ a b=true->a=b
 | [],[],_=>rfl
 | [],_::_,h=>by simp[nQ] at h
 | _::_,[],h=>by simp[nQ] at h
 | (x,y)::xs,(z,u)::ys,h=>by
  simp only[nQ,bN] at h;rw[V.iB h.1.1,gp h.1.2,AW h.2]
def D6:∀{a b:aN},gM a b=true->a=b
 | .cells a t,b,h=>by
  cases b<;>simp only[gM,bN,bH] at h;rw[eT h.1,gp h.2]
 | .map a,b,h=>by
  cases b<;>simp only[gM,bH] at h;rw[CP h]
 | .iter a i,b,h=>by
  cases b<;>simp only[gM,bN,bH] at h;rw[eT h.1,Bz h.2]
 | .ul v z a e,b,h=>by
  cases b<;>simp only[gM,bN,bH] at h;rw[eT h.1.1.1,eT h.1.1.2,eT h.1.2,gp h.2]
def AX:∀{a b:List aN},m7 a b=true->a=b
 | [],[],_=>rfl
 | [],_::_,h=>by simp[m7] at h
 | _::_,[],h=>by simp[m7] at h
 | x::xs,z::ys,h=>by
  simp only[m7,bN] at h;rw[D6 h.1,AX h.2]
def zjg{a b:eZ}(h:RA a b=true):a.H=b.H/\a.lk=b.lk/\a.df=b.df:=by
 obtain⟨D,⟨bs,es⟩,lk,df⟩:=a;obtain⟨D',⟨bs',fJ⟩,oM,Fb⟩:=b;simp only[RA,bN] at h;exact⟨by rw[AX h.2,sx h.1.2],sx h.1.1.1,AW h.1.1.2⟩
def zcb{D:Nat}{c:eZ}:∀{cs:List eZ},xP D cs=some c->c∈cs/\c.D=D
 | [],h=>by simp[xP] at h
 | d::cs,h=>by
  simp only[xP] at h;split at h
  next hb=>cases h;exact⟨ew ..,eT hb⟩
  ·obtain⟨h1,h2⟩:=zcb h;exact⟨cZ _ h1,h2⟩
def kx{α:Type}{f:α->Bool}:∀{l:List α},jW f l=true->∀x∈l,f x=true
 | [],_,x,hx=>by simp at hx
 | y::l,h,x,hx=>by
  simp only[jW] at h;split at h
  ·rename_i hy;rcases cS.1 hx with rfl|hx
   ·exact hy
   ·exact kx h x hx
  ·cases h
def ep{b:Nat}:∀{rs:List Rec},bit (cn rs) b=true ↔ ∃q∈rs,q.hp=true/\q.idx=b
 | []=>by simp[cn,wR]
 | r::rs=>by
  have ih:=ep (b:=b) (rs:=rs);simp only[cn];split
  ·rename_i h;simp only[qW,jh,gZ,decide_eq_true_eq,ih,cS];constructor
   ·rintro(h1|⟨q,h1,h2⟩)
    ·exact⟨r,.inl rfl,h,h1⟩
    ·exact⟨q,.inr h1,h2⟩
   ·rintro⟨q,rfl|h1,h2⟩
    ·exact .inl h2.2
    ·exact .inr ⟨q,h1,h2⟩
  ·rename_i h;rw[ih];simp only[cS];constructor
   ·rintro⟨q,h1,h2⟩;exact⟨q,.inr h1,h2⟩
   ·rintro⟨q,rfl|h1,h2⟩
    ·rw[h] at h2;cases h2.1
    ·exact⟨q,h1,h2⟩
def kK{a b:Nat}(h:∀i,bit a i=bit b i):a=b:=by
 apply Nat.eq_of_testBit_eq;intro i;rw[<- yC,<- yC];exact h i
def qX(a b i:Nat):bit (Nat.land a b) i=(bit a i && bit b i):=by
 simp only[yC];exact Nat.testBit_and a b i
def bR{a b:Nat}:kj a b=true ↔ ∀i,bit a i=true->bit b i=true:=by
 unfold kj;constructor
 ·intro h i hi;have h1:=eT h;rw[<- h1,qX,bN] at hi;exact hi.2
 ·intro h;have:Nat.land a b=a:=by
   apply kK;intro i;rw[qX];cases hi:bit a i with
   | false=>rfl
   | true=>simp[h i hi]
  rw[this];exact pP a
def mJ{rs:List Rec}{q:Rec}{D:Nat}:kj (Nat.land q.m (cn rs)) D=true ↔ yS rs q D:=by
 rw[bR];constructor
 ·intro h d hd hh hb;exact h d.idx (by rw[qX,hb,ug];exact ep.2 ⟨d,hd,hh,rfl⟩)
 ·intro h i hi;rw[qX,bN] at hi;obtain⟨d,h1,h2,rfl⟩:=ep.1 hi.2;exact h d h1 h2 hi.1
def zdr{D:Nat}{q:Rec}:∀{rs:List Rec},(∀d∈rs,d.hp=true->bit D d.idx=true->bit d.m q.idx=false)->q9 D q rs=false
 | [],_=>rfl
 | c::cs,h=>by
  simp only[q9,zdr λd hd=>h d (cZ _ hd),Bool.or_false];cases h1:c.hp with
  | false=>rfl
  | true=>cases h2:bit D c.idx with
   | false=>rfl
   | true=>simp[h c (ew ..) h1 h2]
def uB{o:Oper}{env:aj}{c:eZ}{D:Nat}{v:V}{c2:eZ}(h:cx.dX takes o env c D=some (v,c2))(D':Nat):c2.D=D/\cx.dX takes o env c D'=some (v,{ c2 with D:=D' }):=by
 unfold Cx.dX at h ⊢;split at h<;>simp only[aO,reduceCtorEq,bP] at h
 ·obtain⟨rfl,rfl⟩:=h;exact⟨rfl,by simp only[*]⟩
 ·obtain⟨rfl,rfl⟩:=h;exact⟨rfl,by simp only[*]⟩
def Zf{o:Oper}{env:aj}{v:V}{m b:Nat}:∀{cs l:List eZ},cx.lE takes o env v m b cs=some l ->
  (∀c∈cs,kj m c.D=true->∃c2∈l,c2.D=Nat.lor c.D b/\cx.dX takes o env c c2.D=some (v,c2))/\(∀c2∈l,∃c∈cs,kj m c.D=true/\c2.D=Nat.lor c.D b/\cx.dX takes o env c c2.D=some (v,c2))
 | [],l,h=>by
  simp only[Cx.lE,aO] at h;subst h;exact⟨λc hc=>by simp at hc,λc hc=>by simp at hc⟩
 | c::cs,l,h=>by
  simp only[Cx.lE] at h;split at h
  ·rename_i hs;obtain⟨h1,h2⟩:=Zf h;refine⟨λc' hc hb=>?_,λc2 hc=>?_⟩
   ·rcases cS.1 hc with rfl|hc
    ·rw[hs] at hb;cases hb
    ·exact h1 c' hc hb
   ·obtain⟨c',h3,h4⟩:=h2 c2 hc;exact⟨c',cZ _ h3,h4⟩
  ·rename_i hs;split at h<;>try (cases h;done)
   rename_i u c2 hr;split at h<;>try (cases h;done)
   rename_i eW;have:=V.iB eW;subst this;split at h<;>try (cases h;done)
   rename_i l' hl;simp only[aO] at h;subst h;obtain⟨h1,h2⟩:=Zf hl;have hD:=(uB hr 0).1;refine⟨λc' hc hb=>?_,λc3 hc=>?_⟩
   ·rcases cS.1 hc with rfl|hc
    ·exact⟨c2,ew ..,hD,by rw[hD];exact hr⟩
    ·obtain⟨c3,h3,h4⟩:=h1 c' hc hb;exact⟨c3,cZ _ h3,h4⟩
   ·rcases cS.1 hc with rfl|hc
    ·exact⟨c,ew ..,hs,hD,by rw[hD];exact hr⟩
    ·obtain⟨c',h3,h4⟩:=h2 c3 hc;exact⟨c',cZ _ h3,h4⟩
end
section
variable{cx:Cx}{all:Array Oper}{takes:bA}
def zfy{o:Oper}{env:aj}{v:V}{c:eZ}(h:cx.eU takes o env v c=true):∃c2,cx.dX takes o env c 0=some (v,c2):=by
 unfold Cx.eU at h;split at h
 next u c2 hr=>rw[V.iB h] at hr;exact⟨c2,hr⟩
 ·cases h
def RI.start(s:St):RI cx all takes s (λ_=>s.env) 0 [] [⟨0,s.H,s.lk,s.defers⟩] s :=
 {ex:=λj hj=>by omega,lt:=λr hr=>by simp at hr,uniq:=λr hr=>by simp at hr,get:=λr hr=>by simp at hr,tm:=λr hr=>by simp at hr,lm:=λr hr=>by simp at hr,
  bQ:=λr hr=>by simp at hr,mlt:=λr hr=>by simp at hr,mask:=λr hr=>by simp at hr,slots:=λr hr=>by simp at hr,ev:=λr hr=>by simp at hr,VD:=rfl,VF:=rfl,
  R_:=λr hr=>by simp at hr,
  off:=λr hr=>by simp at hr,calm:=λr hr=>by simp at hr,free:=λr hr=>by simp at hr,
  c0:=⟨_,ew ..,rfl,rfl,rfl,rfl⟩,top:=⟨_,[],rfl,rfl,rfl,rfl,rfl⟩,
  cD:=λc hc b hb=>by simp only[HM] at hc;subst hc;rw[wR] at hb;exact absurd hb (by simp),
  AU:=λc hc d hd _=>by simp only[HM] at hc hd;rw[hc,hd],g1:=λc _ q hq=>by simp at hq,g2:=λc _ q hq=>by simp at hq }
def zhS{o:Oper}{t:Nat}(h:t∈o.looksAt all):bit (tG all o) t=true:=by
 rw[tG,qW,gZ];rcases rO.1 h with h|h
 ·left
  obtain⟨x,hx,RE⟩:=List.mem_filterMap.1 h;split at RE<;>simp only[aO,reduceCtorEq] at RE;subst RE;exact wC hx
 ·right
  unfold zfq;split at h
  next g b hg=>rw[hg];simp only;rw[Option.mem_toList] at h;rw[show(all[g]?).bind (·.dst)=some t from h];simp only[jh,decide_true]
  ·simp at h
def zgw{o:Oper}{t:Nat}(h:o.dst=some t\/ke takes o=some (.tmp t)) :
  bit (lT takes o) t=true:=by
 unfold lT;rcases h with h|h
 ·rw[h];simp only[qW,jh,decide_true,Bool.true_or]
 ·rw[h];have:bit (gK [Operand.tmp t]) t=true:=wC (ew ..);split
  ·simp only[qW,this,Bool.or_true]
  ·exact this
structure N5(cx:Cx)(takes:bA)(s0:St)(rs:List Rec)(cs:List eZ)(s:St):Prop where
 c0:∃c∈cs,c.D=0/\c.H=s0.H/\c.lk=s0.lk/\c.df=s0.defers
 top:∃c cs',cs=c::cs'/\c.D=cn rs/\c.H=s.H/\c.lk=s.lk/\c.df=s.defers
 cD:∀c∈cs,∀b,bit c.D b=true->∃q∈rs,q.hp=true/\q.idx=b
 AU:∀c∈cs,∀d∈cs,c.D=d.D->c=d
 g1:∀c∈cs,∀q∈rs,q.hp=true->bit c.D q.idx=false->yS rs q c.D->∃c3∈cs,c3.D=Nat.lor c.D (Nat.pow 2 q.idx)/\cx.dX takes q.o q.env c c3.D=some (q.v,c3)
 g2:∀c∈cs,∀q∈rs,q.hp=false->q.free=false->yS rs q c.D->(∀d∈rs,d.hp=true->bit c.D d.idx=true->bit d.m q.idx=false)->∃c2,cx.dX takes q.o q.env c 0=some (q.v,c2)
def zlo{s0:St}{rs:List Rec}{cs:List eZ}{s s1:St}{r:Rec}{i:Nat}(hG:N5 cx takes s0 rs cs s)(bu:∀q∈rs,q.idx<i)(_huq:∀r∈rs,∀q∈rs,r.idx=q.idx->r=q)(_hmlt:∀q∈rs,∀b,bit q.m b=true->b<q.idx)(Cl:r.idx=i)(Ic:∀b,bit r.m b=true->b<i)
  (N6:r.hp=false->s1.H=s.H/\s1.lk=s.lk/\s1.defers=s.defers) (sy:r.hp=false->r.free=false->∃c2,∀D,cx.dX takes r.o r.env ⟨D,s.H,s.lk,s.defers⟩ 0=some (r.v,c2))
  (VG:r.hp=true->∀D D',cx.dX takes r.o r.env ⟨D,s.H,s.lk,s.defers⟩ D'=some (r.v,⟨D',s1.H,s1.lk,s1.defers⟩))
  {k:List eZ->Option (Ex×St)} {res:Ex×St} {c0:eZ} {BB:List eZ} (dA:cs=c0::BB) (hk:cx.lF takes rs r c0 ⟨Nat.lor c0.D (Nat.pow 2 i),s1.H,s1.lk,s1.defers⟩ BB k=some res) :
  ∃cs',k cs'=some res/\N5 cx takes s0 (r::rs) cs' s1:=by
 subst dA;obtain⟨g0,gt,gD,gu,g1,g2⟩:=hG;obtain⟨ct,cs',he,CQ,Hf,gI,o_⟩:=gt;simp only[rZ] at he;obtain⟨rfl,rfl⟩:=he;have D7:∀c∈c0::BB,bit c.D i=false:=λc hc=>by
  cases h:bit c.D i with
  | false=>rfl
  | true =>
   obtain⟨q,hq,_,he⟩:=gD c hc i h;have:=bu q hq;omega
 unfold Cx.lF at hk;cases hp:r.hp with
 | false =>
  simp only[hp] at hk;split at hk<;>try (cases hk;done)
  rename_i hv;obtain⟨e1,e2,e3⟩:=N6 hp;have ha:∀q D,yS (r::rs) q D->yS rs q D:=λq D h d hd=>h d (cZ _ hd);refine⟨_,hk,⟨g0,⟨c0,BB,rfl,?_,by rw[e1,Hf],by rw[e2,gI],by rw[e3,o_]⟩,λc hc b hb=>?_,gu,?_,?_⟩⟩
  ·simp only[cn,hp];exact CQ
  ·obtain⟨q,hq,hh⟩:=gD c hc b hb;exact⟨q,cZ _ hq,hh⟩
  ·intro c hc q hq fh Kh Hg;rcases cS.1 hq with rfl|hq
   ·rw[hp] at fh;cases fh
   ·exact g1 c hc q hq fh Kh (ha q _ Hg)
  ·intro c hc q hq fh oA Hg Sa;rcases cS.1 hq with rfl|hq
   ·rw[oA,Bl] at hv;rcases cS.1 hc with rfl|hc
    ·obtain⟨c2,h2⟩:=sy hp oA;refine⟨c2,?_⟩;rw[<- h2 c.D,<- Hf,<- gI,<- o_]
    ·have h1:=kx hv c hc;rw[mJ.2 (ha q _ Hg)] at h1;exact zfy h1
   ·exact g2 c hc q hq fh oA (ha q _ Hg) λd hd=>Sa d (cZ _ hd)
 | true =>
  simp only[hp] at hk;split at hk<;>try (cases hk;done)
  rename_i l hl;split at hk<;>try (cases hk;done)
  rename_i fZ;obtain⟨l1,l2⟩:=Zf hl;have fZ:=kx fZ;have hN:∀c2,c2∈(⟨Nat.lor c0.D (Nat.pow 2 i),s1.H,s1.lk,s1.defers⟩:eZ)::l->∃c∈c0::BB,yS rs r c.D/\c2.D=Nat.lor c.D (Nat.pow 2 i)/\cx.dX takes r.o r.env c c2.D=some (r.v,c2):=by
   intro c2 um;rcases cS.1 um with rfl|um
   ·refine⟨c0,ew ..,λd hd hh _=>?_,rfl,?_⟩
    ·rw[CQ];exact ep.2 ⟨d,hd,hh,rfl⟩
    ·have:=VG hp c0.D (Nat.lor c0.D (Nat.pow 2 i));rw[<- Hf,<- gI,<- o_] at this;exact this
   ·obtain⟨c,hc,hs,hD,hr⟩:=l2 c2 um;rw[Cl] at hD;exact⟨c,cZ _ hc,mJ.1 hs,hD,hr⟩
  have hN':∀c∈c0::BB,yS rs r c.D->∃c2∈(⟨Nat.lor c0.D (Nat.pow 2 i),s1.H,s1.lk,s1.defers⟩:eZ)::l,c2.D=Nat.lor c.D (Nat.pow 2 i)/\cx.dX takes r.o r.env c c2.D=some (r.v,c2):=by
   intro c hc ha;rcases cS.1 hc with rfl|hc
   ·refine⟨_,ew ..,rfl,?_⟩;have:=VG hp c.D (Nat.lor c.D (Nat.pow 2 i));rw[<- Hf,<- gI,<- o_] at this;exact this
   ·obtain⟨c2,um,hD,hr⟩:=l1 c hc (mJ.2 ha);rw[Cl] at hD;exact⟨c2,cZ _ um,hD,hr⟩
  have N7:∀(c:eZ)(b:Nat),bit (Nat.lor c.D (Nat.pow 2 i)) b=true ↔ bit c.D b=true\/b=i:=λc b=>by
   rw[qW,jh,gZ,decide_eq_true_eq];exact⟨λh=>h.imp id Eq.symm,λh=>h.imp id Eq.symm⟩
  have fE:∀c,c∈(⟨Nat.lor c0.D (Nat.pow 2 i),s1.H,s1.lk,s1.defers⟩:eZ)::l++c0::BB ↔ c∈(⟨Nat.lor c0.D (Nat.pow 2 i),s1.H,s1.lk,s1.defers⟩:eZ)::l\/c∈c0::BB:=λc=>rO;refine⟨_,hk,⟨?_,⟨_,_,rfl,?_,rfl,rfl,rfl⟩,?_,?_,?_,?_⟩⟩
  ·obtain⟨c,hc,h⟩:=g0;exact⟨c,(fE c).2 (.inr hc),h⟩
  ·simp only[cn,hp,Cl];rw[CQ];exact kK λb=>by rw[qW,qW,Bool.or_comm]
  ·intro c hc b hb;rcases (fE c).1 hc with hc|hc
   ·obtain⟨d,hd,_,hD,_⟩:=hN c hc;rw[hD,N7] at hb;rcases hb with hb|rfl
    ·obtain⟨q,hq,hh⟩:=gD d hd b hb;exact⟨q,cZ _ hq,hh⟩
    ·exact⟨r,ew ..,hp,Cl⟩
   ·obtain⟨q,hq,hh⟩:=gD c hc b hb;exact⟨q,cZ _ hq,hh⟩
  ·have key:∀c∈c0::BB,∀d∈c0::BB,Nat.lor c.D (Nat.pow 2 i)=Nat.lor d.D (Nat.pow 2 i)->c=d:=by
    intro c hc d hd he;refine gu c hc d hd (kK λb=>?_)
    by_cases hb:b=i
    ·rw[hb,D7 c hc,D7 d hd]
    ·have h1:=N7 c b;have h2:=N7 d b;rw[he] at h1;simp only[hb,E1] at h1 h2;exact FY.2 (h1.symm.trans h2)
   intro c hc d hd he;rcases (fE c).1 hc with hc|hc<;>rcases (fE d).1 hd with hd|hd
   ·obtain⟨c',ez,_,N8,Ms⟩:=hN c hc;obtain⟨d',sA,_,N9,fD⟩:=hN d hd;have:=key c' ez d' sA (by rw[<- N8,<- N9,he])
    subst this;rw[he,fD] at Ms;simp only[aO,bP,fK] at Ms;exact Ms.symm
   ·obtain⟨c',ez,_,N8,Ms⟩:=hN c hc;have h1:=D7 d hd;rw[<- he,N8,(N7 c' i).2 (.inr rfl)] at h1;cases h1
   ·obtain⟨d',sA,_,N9,fD⟩:=hN d hd;have h1:=D7 c hc;rw[he,N9,(N7 d' i).2 (.inr rfl)] at h1;cases h1
   ·exact gu c hc d hd he
  ·
   intro c hc q hq fh Kh Hg;have F6:yS rs q c.D:=λd hd=>Hg d (cZ _ hd);rcases (fE c).1 hc with hc|hc
   ·rcases cS.1 hq with rfl|hq
    ·obtain⟨d,hd,_,hD,_⟩:=hN c hc;rw[hD,Cl,(N7 d i).2 (.inr rfl)] at Kh;cases Kh
    ·have h1:=kx (fZ c hc) q hq;rw[mJ.2 F6] at h1;simp only[fh,Kh] at h1;split at h1
     next u c2 c3 hr hf=>rw[bN] at h1;obtain⟨h1,h2⟩:=h1;have hu:=V.iB h1;subst hu;obtain⟨e1,e2,e3⟩:=zjg h2;obtain⟨f1,f2⟩:=zcb hf;refine⟨c3,f1,f2,?_⟩;have:=(uB hr c3.D).2;rw[this,e1,e2,e3]
     ·cases h1
   ·rcases cS.1 hq with rfl|hq
    ·have:yS rs q c.D:=F6;obtain⟨c2,um,hD,hr⟩:=hN' c hc this;exact⟨c2,(fE c2).2 (.inl um),by rw[Cl];exact hD,hr⟩
    ·obtain⟨c3,KR,hD,hr⟩:=g1 c hc q hq fh Kh F6;exact⟨c3,(fE c3).2 (.inr KR),hD,hr⟩
  ·intro c hc q hq fh oA Hg Sa;have F6:yS rs q c.D:=λd hd=>Hg d (cZ _ hd);rcases cS.1 hq with rfl|hq
   ·rw[hp] at fh;cases fh
   rcases (fE c).1 hc with hc|hc
   ·have h1:=kx (fZ c hc) q hq;rw[mJ.2 F6] at h1;simp only[fh,oA,Bl] at h1
    have hrb:bit r.m q.idx=false:=Sa r (ew ..) hp (by
     obtain⟨d,hd,_,hD,_⟩:=hN c hc;rw[hD,Cl]
     exact(N7 d i).2 (.inr rfl))
    rw[hrb,zdr λd hd=>Sa d (cZ _ hd),Bl,Bl] at h1;exact zfy h1
   ·exact g2 c hc q hq fh oA F6 λd hd=>Sa d (cZ _ hd)
end
section
variable{cx:Cx}{all:Array Oper}{takes:bA}
def RI.Zg{s0:St}{Ev:Nat->aj}{i:Nat}{rs:List Rec}{cs:List eZ}{s:St}(h:RI cx all takes s0 Ev i rs cs s):N5 cx takes s0 rs cs s:=⟨h.c0,h.top,h.cD,h.AU,h.g1,h.g2⟩
def RI.step{s0:St}{Ev:Nat->aj}{i:Nat}{rs:List Rec}{cs:List eZ}{s s1:St}(h:RI cx all takes s0 Ev i rs cs s){r:Rec}(Cl:r.idx=i)(dO:all[i]?=some r.o)(hm:kG rs r.o.after.toList=some r.m)(oK:r.env=s.env)
  (htm:r.tm=lT takes r.o)
  (hlm:r.lm=Nat.lor r.tm (tG all r.o))
  (uC:jW (jG r) rs=true) (hE:s1.env=Kg all takes r)
  (Sb:zN all r.o r.env≠some true->zN all r.o r.env=some false/\r.hp=false/\r.v=.bx []/\r.free=true)
  (AY:zN all r.o r.env=some true->r.hp=qF cx.P cx.uq takes r.o/\(qF cx.P cx.uq takes r.o=false->∃H lk df s1,cx.op takes r.o r.env H lk df=some (.val r.v,s1)))
  (Sc:zN all r.o r.env=some true->r.free=true->wM cx.P cx.uq r.o=false)
  (N6:r.hp=false->s1.H=s.H/\s1.lk=s.lk/\s1.defers=s.defers) (sy:r.hp=false->r.free=false->∃c2,∀D,cx.dX takes r.o r.env ⟨D,s.H,s.lk,s.defers⟩ 0=some (r.v,c2))
  (VG:r.hp=true->∀D D',cx.dX takes r.o r.env ⟨D,s.H,s.lk,s.defers⟩ D'=some (r.v,⟨D',s1.H,s1.lk,s1.defers⟩))
  {k:List eZ->Option (Ex×St)} {res:Ex×St} {c0:eZ} {BB:List eZ} (dA:cs=c0::BB) (hk:cx.lF takes rs r c0 ⟨Nat.lor c0.D (Nat.pow 2 i),s1.H,s1.lk,s1.defers⟩ BB k=some res) :
  ∃cs' VH,k cs'=some res/\RI cx all takes s0 VH (i+1) (r::rs) cs' s1:=by
 obtain⟨m1,m2⟩:=yR hm;have Ic:∀b,bit r.m b=true->b<i:=λb hb=>by
  obtain⟨e,he,K6,N_⟩:=m2 b hb;rcases N_ with rfl|⟨q,hq,Dx,Kh⟩
  ·obtain⟨q,hq,Dx⟩:=m1 e he K6;rw[<- Dx];exact h.lt q hq
  ·exact Nat.lt_trans (h.mlt q hq b Kh) (h.lt q hq)
 obtain⟨cs',Ds,hG⟩:=zlo h.Zg h.lt h.uniq h.mlt Cl Ic N6 sy VG dA hk;refine⟨cs',λj=>if j<=i then Ev j else s1.env,Ds,?_⟩
 have fE:∀{q:Rec},q∈r::rs->q=r\/q∈rs:=λhq=>cS.1 hq;refine { ex:=?_,lt:=?_,uniq:=?_,get:=?_,tm:=?_,lm:=?_,bQ:=?_,mlt:=?_,mask:=?_,slots:=?_,ev:=?_,VD:=?_,VF:=?_,R_:=?_,off:=?_,calm:=?_,free:=?_,c0:=hG.c0,top:=hG.top,cD:=hG.cD,AU:=hG.AU,g1:=hG.g1,g2:=hG.g2 }
 ·intro j hj
  by_cases Zh:j=i
  ·exact⟨r,ew ..,by rw[Cl,Zh]⟩
  ·obtain⟨q,hq,hqj⟩:=h.ex j (by omega)
   exact⟨q,cZ _ hq,hqj⟩
 ·intro q hq;rcases fE hq with rfl|hq
  ·omega
  ·have:=h.lt q hq;omega
 ·intro a ha b hb he;rcases fE ha with rfl|p6<;>rcases fE hb with rfl|bY
  ·rfl
  ·have:=h.lt b bY;omega
  ·have:=h.lt a p6;omega
  ·exact h.uniq a p6 b bY he
 ·intro q hq;rcases fE hq with rfl|hq
  ·rw[Cl];exact dO
  ·exact h.get q hq
 ·intro q hq t ht;rcases fE hq with rfl|hq
  ·rw[htm];exact zgw ht
  ·exact h.tm q hq t ht
 ·intro q hq t ht;rcases fE hq with rfl|hq
  ·rw[hlm,qW,gZ];rcases ht with ht|ht
   ·exact .inl ht
   ·exact .inr (zhS ht)
  ·exact h.lm q hq t ht
 ·intro q hq e he hb;rcases fE hq with rfl|hq
  ·obtain⟨p,hp,hpi⟩:=m1 e (by simpa using he) hb
   rw[<- hpi,Cl];exact h.lt p hp
  ·exact h.bQ q hq e he hb
 ·intro q hq b hb;rcases fE hq with rfl|hq
  ·rw[Cl];exact Ic b hb
  ·exact h.mlt q hq b hb
 ·intro q hq b hb;rcases fE hq with rfl|hq
  ·obtain⟨e,he,K6,N_⟩:=m2 b hb;refine⟨e,by simpa using he,K6,N_.imp id ?_⟩
   rintro⟨p,hp,hh⟩;exact⟨p,cZ _ hp,hh⟩
  ·obtain⟨e,he,K6,N_⟩:=h.mask q hq b hb;refine⟨e,he,K6,N_.imp id ?_⟩;rintro⟨p,hp,hh⟩;exact⟨p,cZ _ hp,hh⟩
 ·intro a ha b hb bu;rcases fE ha with rfl|p6<;>rcases fE hb with rfl|bY
  ·omega
  ·exact kx uC b bY
  ·have:=h.lt a p6;omega
  ·exact h.slots a p6 b bY bu
 ·intro q hq;rcases fE hq with rfl|hq
  ·rw[Cl,if_pos (bV _),h.VF,oK]
  ·rw[if_pos (DK (h.lt q hq))];exact h.ev q hq
 ·rw[if_pos (dJ _)];exact h.VD
 ·rw[if_neg (by omega)]
 ·intro q hq;rcases fE hq with rfl|hq
  ·rw[Cl,if_neg (by omega)];exact hE
  ·have:=h.lt q hq;rw[if_pos (by omega)];exact h.R_ q hq
 ·intro q hq hw;rcases fE hq with rfl|hq
  ·obtain⟨a,b,c,_⟩:=Sb hw;exact⟨a,b,c⟩
  ·exact h.off q hq hw
 ·intro q hq hw;rcases fE hq with rfl|hq
  ·exact AY hw
  ·exact h.calm q hq hw
 ·intro q hq hw hf;rcases fE hq with rfl|hq
  ·exact Sc hw hf
  ·exact h.free q hq hw hf
def xz{s0:St}{ex:Ex}{s':St}:∀(os:List Oper)(i:Nat)(rs:List Rec)(cs:List eZ)(s:St)(Ev:Nat->aj),cx.mh all takes i rs cs os s=some (ex,s')->RI cx all takes s0 Ev i rs cs s->os=all.toList.drop i ->
  ex=.normal/\∃Ev rs cs,RI cx all takes s0 Ev all.size rs cs s'
 | [],i,rs,cs,s,Ev,hc,h,ho=>by
  simp only[Cx.mh,aO,bP] at hc;obtain⟨rfl,rfl⟩:=hc;refine⟨rfl,Ev,rs,cs,?_⟩;have h1:all.size<=i:=by
   have:=congrArg List.length ho;simp at this;omega
  have h2:i<=all.size:=by
   rcases iT all.size i with h3|h3
   ·obtain⟨r,hr,he⟩:=h.ex all.size h3;have:=h.get r hr;rw[he] at this;simp at this
   ·exact h3
  rw[Nat.le_antisymm h1 h2];exact h
 | o::os,i,rs,cs,⟨env,H,lk,df⟩,Ev,hc,h,ho=>by
  have dO:all[i]?=some o:=by
   have:=congrArg (·[0]?) ho;simp at this;exact this.symm
  have Au:os=all.toList.drop (i+1):=by
   have:=congrArg List.tail ho;simpa using this
  simp only[Cx.mh] at hc;split at hc<;>try (cases hc;done)
  rename_i m hm;simp only[qh] at hc;split at hc<;>try (cases hc;done)
  ·
   rename_i hw;simp only[zQ,jc] at hc;split at hc<;>try (cases hc;done)
   rename_i c0 BB pN;obtain⟨cs',VH,hk,Sd⟩:=h.step (r:=⟨i,o,m,_,_,false,true,env,.bx []⟩) (s1:=⟨aI env o.dst (.bx []),H,lk,df⟩) rfl dO hm rfl rfl rfl pN (by simp[Kg,hw]) (λ_=>⟨hw,rfl,rfl,rfl⟩) (λhh=>by rw[hw] at hh;cases hh) (λhh=>by rw[hw] at hh;cases hh)
    (λ_=>⟨rfl,rfl,rfl⟩) (λ_ hf=>nomatch hf) (λhf=>nomatch hf) rfl hc
   exact xz os (i+1) _ _ _ _ hk Sd Au
  ·rename_i hw;split at hc<;>try (cases hc;done)
   ·rename_i v s1 az;obtain⟨bT,H1,c7,dB⟩:=s1;simp only[zQ,jc] at hc;split at hc<;>try (cases hc;done)
    rename_i c0 BB pN;have he:bT=o9 env (ke takes o):=(VB (bE:=env) (λt _=>rfl) az).1;obtain⟨cs',VH,hk,Sd⟩:=h.step (r:=⟨i,o,m,_,_,qF cx.P cx.uq takes o,!wM cx.P cx.uq o,env,v⟩) (s1:=⟨aI bT o.dst v,H1,c7,dB⟩) rfl dO hm rfl rfl rfl pN (by simp[Kg,hw,he]) (λhh=>absurd hw hh) (λ_=>⟨rfl,λ_=>⟨_,_,_,_,az⟩⟩) (λ_ hf=>by simpa using hf)
     (λhf=>by
      obtain⟨v',e1,e2,e3⟩:=wS hf az;cases e2
      exact⟨rfl,rfl,rfl⟩)
     (λhf _=>by
      refine⟨⟨0,H1,c7,dB⟩,λD=>?_⟩
      simp only[Cx.dX,az])
     (λhf D D'=>by simp only[Cx.dX,az]) rfl hc
    exact xz os (i+1) _ _ _ _ hk Sd Au
   ·rename_i s1 az;obtain⟨bT,H1,c7,dB⟩:=s1;simp only[zQ,jc] at hc;split at hc<;>try (cases hc;done)
    rename_i c0 BB pN;have he:bT=o9 env (ke takes o):=(VB (bE:=env) (λt _=>rfl) az).1;have Al:qF cx.P cx.uq takes o=true:=by
     cases hb:qF cx.P cx.uq takes o with
     | true=>rfl
     | false=>obtain⟨v',e1,_⟩:=wS hb az;cases e1
    obtain⟨cs',VH,hk,Sd⟩:=h.step (r:=⟨i,o,m,_,_,qF cx.P cx.uq takes o,false,env,.bx []⟩) (s1:=⟨aI bT o.dst (.bx []),H1,c7,dB⟩) rfl dO hm rfl rfl rfl pN (by simp[Kg,hw,he]) (λhh=>absurd hw hh) (λ_=>⟨rfl,λhf=>by rw[Al] at hf;cases hf⟩) (λ_ hf=>nomatch hf)
     (λhf=>by simp only[Al,Cz] at hf) (λhf=>by simp only[Al,Cz] at hf) (λhf D D'=>by simp only[Cx.dX,az]) rfl hc
    exact xz os (i+1) _ _ _ _ hk Sd Au
end
section
variable{cx:Cx}{all:Array Oper}{takes:bA}
abbrev nL(l:Array Bool)(j:Nat):Prop:=l.getD j false=true
def VI(all:Array Oper)(l:Array Bool):Prop:=∀(j:Nat)(o:Oper),all[j]?=some o->nL l j->∀e∈o.after,Region.binds .any e=true->nL l e.on
def Mt(rs:List Rec)(t j:Nat):Prop:=∃r∈rs,r.idx=j/\bit r.tm t=true
structure Inv(all:Array Oper)(rs:List Rec)(cs:List eZ)(Ev:Nat->aj)(l:Array Bool)(s:St):Prop where
 down:VI all l
 size:l.size=all.size
 env:∀t m,m<=all.size->(∀j,j<m->Mt rs t j->nL l j)->(∀j,m<=j->Mt rs t j->¬nL l j)->s.env[t]?=(Ev m)[t]?
 mem:∃c∈cs,(∀b,bit c.D b=true ↔ ∃q∈rs,q.hp=true/\q.idx=b/\nL l b)/\s.H=c.H/\s.lk=c.lk/\s.defers=c.df
section
variable{s0 s' s:St}{Ev:Nat->aj}{rs:List Rec}{cs:List eZ}{l:Array Bool}
def vR(hR:RI cx all takes s0 Ev all.size rs cs s')(hd:VI all l):∀(n:Nat)(r:Rec),r∈rs->r.idx<=n->(∀e∈r.o.after,Region.binds .any e=true->nL l e.on)->∀b,bit r.m b=true->nL l b
 | 0,r,hr,hn,_,b,hb=>by
  have:=hR.mlt r hr b hb;omega
 | n+1,r,hr,hn,he,b,hb=>by
  obtain⟨e,h1,h2,h3⟩:=hR.mask r hr b hb;rcases h3 with rfl|⟨q,hq,Dx,Kh⟩
  ·exact he e h1 h2
  ·have hl:=he e h1 h2;rw[<- Dx] at hl;have:=hR.bQ r hr e h1 h2;exact vR hR hd n q hq (by omega) (hd q.idx q.o (hR.get q hq) hl) b Kh
def yD(hR:RI cx all takes s0 Ev all.size rs cs s')(hd:VI all l){r:Rec}(hr:r∈rs)(hl:nL l r.idx){b:Nat}(hb:bit r.m b=true):nL l b :=
 vR hR hd r.idx r hr (bV _) (hd r.idx r.o (hR.get r hr) hl) b hb
def Zi(hR:RI cx all takes s0 Ev all.size rs cs s'){q r:Rec}(hq:q∈rs)(hr:r∈rs)(bu:q.idx<r.idx){t:Nat}(h:(bit q.tm t=true/\bit r.lm t=true)\/(bit r.tm t=true/\bit q.lm t=true)):bit r.m q.idx=true:=by
 have hs:=hR.slots r hr q hq bu;unfold jG at hs;split at hs
 ·assumption
 ·rw[bN] at hs;rcases h with h|h
  ·exact(zhR hs.1 h.1 h.2).elim
  ·exact(zhR hs.2 h.1 h.2).elim
def zek{env bE:aj}{dst:eC}{v:V}{t:Nat}(h:env[t]?=bE[t]?):(aI env dst v)[t]?=(aI bE dst v)[t]?:=by
 cases dst with
 | none=>exact h
 | some d=>simp only[aI,List.getElem?_set',h]
def VJ{env:aj}{dst:eC}{v:V}{t:Nat}(h:dst≠some t):(aI env dst v)[t]?=env[t]?:=by
 cases dst with
 | none=>rfl
 | some d =>
  have:d≠t:=λe=>h (by rw[e])
  simp only[aI,AM,this,aZ]
def zhT(env:aj)(x:aH):kp env x=env\/∃u sz xs e,x=.tmp u/\env[u]?=some (.sl sz xs (.yes e))/\kp env x=env.set u (.sl sz xs .no):=by
 cases x with
 | tmp t =>
  simp only[kp];split
  next sz xs e h=>exact .inr ⟨t,sz,xs,e,rfl,h,rfl⟩
  ·exact .inl rfl
 | _=>exact .inl rfl
def zmA{env:aj}{k:Option aH}{t:Nat}(h:k≠some (.tmp t)):(o9 env k)[t]?=env[t]?:=by
 cases k with
 | none=>rfl
 | some x =>
  simp only[o9];rcases zhT env x with h1|⟨u,sz,xs,e,rfl,_,h1⟩
  ·rw[h1]
  ·have:u≠t:=λe=>h (by rw[e])
   rw[h1];simp only[AM,this,aZ]
def zlp{env bE:aj}{k:Option aH}{t:Nat}(h:env[t]?=bE[t]?)(hk:∀u,k=some (.tmp u)->env[u]?=bE[u]?):(o9 env k)[t]?=(o9 bE k)[t]?:=by
 cases k with
 | none=>exact h
 | some x =>
  cases x with
  | tmp u =>
   have hu:=hk u rfl;simp only[o9,kp,hu];split
   ·simp only[List.getElem?_set',h]
   ·exact h
  | _=>exact h
def zmB{r:Rec}{t:Nat}(h1:r.o.dst≠some t)(h2:ke takes r.o≠some (.tmp t)):(Kg all takes r)[t]?=r.env[t]?:=by
 unfold Kg;split
 ·rw[VJ h1,zmA h2]
 ·rw[VJ h1]
def Zj(hR:RI cx all takes s0 Ev all.size rs cs s'){t a:Nat}:∀{b:Nat},a<=b->b<=all.size->(∀j,a<=j->j<b->¬Mt rs t j)->(Ev b)[t]?=(Ev a)[t]?
 | 0,h,_,_=>by rw[Nat.le_zero.1 h]
 | b+1,h,hb,hT=>by
  by_cases e:a=b+1
  ·rw[e]
  ·have AT:a<=b:=by omega
   rw[<- Zj hR AT (by omega) λj h1 h2=>hT j h1 (by omega)]
   obtain⟨r,hr,Cl⟩:=hR.ex b (by omega)
   have h1:=hR.R_ r hr;have h2:=hR.ev r hr;rw[Cl] at h1 h2;have lC:bit r.tm t=false:=by
    cases hb:bit r.tm t with
    | false=>rfl
    | true=>exact(hT b AT (by omega) ⟨r,hr,Cl,hb⟩).elim
   have hd:r.o.dst≠some t:=λe=>by rw[hR.tm r hr t (.inl e)] at lC;cases lC
   have hk:ke takes r.o≠some (.tmp t):=λe=>by rw[hR.tm r hr t (.inr e)] at lC;cases lC
   rw[h1,h2,zmB hd hk]
def Inv.agree(hR:RI cx all takes s0 Ev all.size rs cs s')(hI:Inv all rs cs Ev l s){r:Rec}(hr:r∈rs)(Bw:¬nL l r.idx)(ek:∀e∈r.o.after,Region.binds .any e=true->nL l e.on){t:Nat}(ht:bit r.lm t=true):s.env[t]?=r.env[t]?:=by
 have hb:=vR hR hI.down r.idx r hr (bV _) ek;rw[<- hR.ev r hr];refine hI.env t r.idx (DK (hR.lt r hr)) ?_ ?_
 ·rintro j hj ⟨q,hq,rfl,CR⟩;exact hb q.idx (Zi hR hq hr hj (.inl ⟨CR,ht⟩))
 ·rintro j hj ⟨q,hq,rfl,CR⟩ hl;rcases iT r.idx q.idx with h|h
  ·exact Bw (yD hR hI.down hq hl (Zi hR hr hq h (.inr ⟨CR,ht⟩)))
  ·have:=hR.uniq q hq r hr (Nat.le_antisymm h hj);subst this;exact Bw hl
def zjh{o:Oper}{t:Nat}(h:Operand.tmp t∈o.op.operands.toList):t∈o.looksAt all :=
 DI _ (List.mem_filterMap.2 ⟨.tmp t,h,rfl⟩)
def zgy{o:Oper}{env bE:aj}(h:∀t∈o.looksAt all,env[t]?=bE[t]?):zN all o env=zN all o bE:=by
 unfold zN;cases hg:o.guard with
 | none=>rfl
 | some jw =>
  obtain⟨j,want⟩:=jw;simp only;cases hd:(all[j]?).bind (·.dst) with
  | none=>rfl
  | some d =>
   have:d∈o.looksAt all:=by
    refine FQ _ ?_;rw[hg];simp[hd]
   simp only[zf,h d this]
def wl{i j:Nat}(hs:i<l.size):nL (l.setIfInBounds i true) j ↔ j=i\/nL l j:=by
 unfold nL
 by_cases h:i=j
 ·subst h;simp[hs]
 ·rw[getD_set_ne false h];constructor
  ·exact .inr
  ·rintro(rfl|h')
   ·exact(h rfl).elim
   ·exact h'
def Inv.Fi(hR:RI cx all takes s0 Ev all.size rs cs s')(hI:Inv all rs cs Ev l s){r:Rec}(hr:r∈rs)(Bw:¬nL l r.idx)(ek:∀e∈r.o.after,Region.binds .any e=true->nL l e.on){E:aj}
  (cg:∀t,bit r.tm t=false->E[t]?=s.env[t]?) (hto:∀t,bit r.tm t=true->E[t]?=(Kg all takes r)[t]?) :
  ∀t m,m<=all.size->(∀j,j<m->Mt rs t j->nL (l.setIfInBounds r.idx true) j)->(∀j,m<=j->Mt rs t j->¬nL (l.setIfInBounds r.idx true) j)->E[t]?=(Ev m)[t]?:=by
 intro t m hm h1 h2;have bu:=hR.lt r hr;have fR:r.idx<l.size:=by rw[hI.size];exact bu
 cases hb:bit r.tm t with
 | false =>
  rw[cg t hb];have lC:¬Mt rs t r.idx:=by
   rintro⟨q,hq,Dx,CR⟩;have:=hR.uniq q hq r hr Dx;subst this;rw[hb] at CR;cases CR
  refine hI.env t m hm (λj hj ht=>?_) (λj hj ht hl=>h2 j hj ht ((wl fR).2 (.inr hl)));rcases (wl fR).1 (h1 j hj ht) with rfl|h
  ·exact(lC ht).elim
  ·exact h
 | true =>
  rw[hto t hb,<- hR.R_ r hr];have him:r.idx<m:=by
   rcases iT r.idx m with h|h
   ·exact h
   ·exact(h2 r.idx h ⟨r,hr,rfl,hb⟩ ((wl fR).2 (.inl rfl))).elim
  refine(Zj hR (a:=r.idx+1) (b:=m) him hm λj hj hjm=>?_).symm;rintro⟨q,hq,rfl,CR⟩;rcases (wl fR).1 (h1 q.idx hjm ⟨q,hq,rfl,CR⟩) with h|h
  ·omega
  ·exact Bw (yD hR hI.down hq h (Zi hR hr hq (by omega) (.inr ⟨CR,hR.lm r hr t (.inl hb)⟩)))
def Inv.Iq(hI:Inv all rs cs Ev l s){r:Rec}(dO:all[r.idx]?=some r.o)(ek:∀e∈r.o.after,Region.binds .any e=true->nL l e.on):VI all (l.setIfInBounds r.idx true):=by
 have bu:r.idx<all.size:=(ud.1 dO).1;have fR:r.idx<l.size:=by rw[hI.size];exact bu
 intro j o ho hl e he hb;refine(wl fR).2 (.inr ?_);rcases (wl fR).1 hl with rfl|h
 ·rw[dO] at ho;cases ho;exact ek e he hb
 ·exact hI.down j o ho h e he hb
def Inv.step(hR:RI cx all takes s0 Ev all.size rs cs s')(hI:Inv all rs cs Ev l s){r:Rec}(hr:r∈rs)(Bw:¬nL l r.idx)(ek:∀e∈r.o.after,Region.binds .any e=true->nL l e.on) :
  (zN all r.o s.env=some false/\Inv all rs cs Ev (l.setIfInBounds r.idx true) { s with env:=aI s.env r.o.dst (.bx []) }) \/
  (zN all r.o s.env=some true/\∃res s2,cx.op takes r.o s.env s.H s.lk s.defers=some (res,s2)/\(res=.val r.v\/res=.skip/\r.v=.bx [])/\Inv all rs cs Ev (l.setIfInBounds r.idx true) { s2 with env:=aI s2.env r.o.dst r.v }):=by
 have bu:=hR.lt r hr;have fR:r.idx<l.size:=by rw[hI.size];exact bu
 have nD:=λt ht=>Inv.agree hR hI hr Bw ek (t:=t) ht;have oS:∀t∈r.o.looksAt all,s.env[t]?=r.env[t]?:=λt ht=>nD t (hR.lm r hr t (.inr ht));have hw:=zgy oS;have Ir:∀t,bit r.tm t=false->r.o.dst≠some t:=λt h e=>by rw[hR.tm r hr t (.inl e)] at h;cases h
 have iX:∀t,bit r.tm t=false->ke takes r.o≠some (.tmp t):=λt h e=>by rw[hR.tm r hr t (.inr e)] at h;cases h
 have Fj:=hI.Iq (hR.get r hr) ek;obtain⟨c,hc,CQ,Hf,gI,o_⟩:=hI.mem;have same:r.hp=false->∀b,(∃q∈rs,q.hp=true/\q.idx=b/\nL l b) ↔ ∃q∈rs,q.hp=true/\q.idx=b/\nL (l.setIfInBounds r.idx true) b:=by
  intro hh b;constructor
  ·rintro⟨q,h1,h2,h3,h4⟩;exact⟨q,h1,h2,h3,(wl fR).2 (.inr h4)⟩
  ·rintro⟨q,h1,h2,h3,h4⟩;rcases (wl fR).1 h4 with h5|h5
   ·have:=hR.uniq q h1 r hr (h3.trans h5);subst this;rw[hh] at h2;cases h2
   ·exact⟨q,h1,h2,h3,h5⟩
 by_cases CS:zN all r.o r.env=some true
 ·right
  have Oa:∀{H lk df res s1},cx.op takes r.o r.env H lk df=some (res,s1)->s1.env=o9 r.env (ke takes r.o)/\cx.op takes r.o s.env H lk df=some (res,{ s1 with env:=o9 s.env (ke takes r.o) }):=λh=>VB (λt ht=>(oS t (zjh ht)).symm) h
  have oK:∀t m,m<=all.size->(∀j,j<m->Mt rs t j->nL (l.setIfInBounds r.idx true) j)->(∀j,m<=j->Mt rs t j->¬nL (l.setIfInBounds r.idx true) j)->(aI (o9 s.env (ke takes r.o)) r.o.dst r.v)[t]?=(Ev m)[t]?:=by
   refine Inv.Fi hR hI hr Bw ek (λt ht=>by rw[VJ (Ir t ht),zmA (iX t ht)]) (λt ht=>?_)
   rw[Kg,if_pos CS];exact zek (zlp (nD t (hR.lm r hr t (.inl ht))) λu hu=>nD u (hR.lm r hr u (.inl (hR.tm r hr u (.inr hu)))))
  refine⟨hw.trans CS,?_⟩;cases Al:r.hp with
  | true =>
   have hb:bit c.D r.idx=false:=by
    cases h:bit c.D r.idx with
    | false=>rfl
    | true=>obtain⟨q,_,_,_,h4⟩:=(CQ r.idx).1 h;exact(Bw h4).elim
   have ha:yS rs r c.D:=λd hd VK Se=>(CQ d.idx).2 ⟨d,hd,VK,rfl,vR hR hI.down r.idx r hr (bV _) ek d.idx Se⟩;obtain⟨c3,KR,hD3,cj⟩:=hR.g1 c hc r hr Al hb ha;have Mu:∀b,bit c3.D b=true ↔ ∃q∈rs,q.hp=true/\q.idx=b/\nL (l.setIfInBounds r.idx true) b:=by
    intro b;rw[hD3,qW,jh,gZ,decide_eq_true_eq,CQ];constructor
    ·rintro(⟨q,h1,h2,h3,h4⟩|rfl)
     ·exact⟨q,h1,h2,h3,(wl fR).2 (.inr h4)⟩
     ·exact⟨r,hr,Al,rfl,(wl fR).2 (.inl rfl)⟩
    ·rintro⟨q,h1,h2,h3,h4⟩;rcases (wl fR).1 h4 with h5|h5
     ·exact .inr h5.symm
     ·exact .inl ⟨q,h1,h2,h3,h5⟩
   unfold Cx.dX at cj;split at cj<;>simp only[aO,reduceCtorEq,bP] at cj
   ·rename_i v s1 az;obtain⟨rfl,e2⟩:=cj;rw[<- Hf,<- gI,<- o_] at az;refine⟨_,_,(Oa az).2,.inl rfl,⟨Fj,by simpa using hI.size,oK,c3,KR,Mu,?_⟩⟩
    rw[<- e2];exact⟨rfl,rfl,rfl⟩
   ·rename_i s1 az;obtain⟨e1,e2⟩:=cj;rw[<- Hf,<- gI,<- o_] at az;refine⟨_,_,(Oa az).2,.inr ⟨rfl,e1.symm⟩,⟨Fj,by simpa using hI.size,oK,c3,KR,Mu,?_⟩⟩
    rw[<- e2];exact⟨rfl,rfl,rfl⟩
  | false =>
   obtain⟨hh,hex⟩:=hR.calm r hr CS;have AY:qF cx.P cx.uq takes r.o=false:=by rw[<- hh];exact Al
   obtain⟨H0,lk0,df0,s1,Zk⟩:=hex AY;have sy:∃s2,cx.op takes r.o r.env s.H s.lk s.defers=some (.val r.v,s2):=by
    cases ey:r.free with
    | true=>exact zj8 AY (hR.free r hr CS ey) Zk s.lk s.defers
    | false =>
     have ha:yS rs r c.D:=λd hd VK Se=>(CQ d.idx).2 ⟨d,hd,VK,rfl,vR hR hI.down r.idx r hr (bV _) ek d.idx Se⟩
     obtain⟨c2,cj⟩:=hR.g2 c hc r hr Al ey ha (λd hd VK Se=>by
      cases h:bit d.m r.idx with
      | false=>rfl
      | true =>
       obtain⟨q,_,_,_,h4⟩:=(CQ d.idx).1 Se
       exact(Bw (yD hR hI.down hd h4 h)).elim)
     unfold Cx.dX at cj;rw[<- Hf,<- gI,<- o_] at cj;split at cj<;>simp only[aO,reduceCtorEq,bP] at cj
     next v s2 az=>obtain⟨rfl,_⟩:=cj;exact⟨s2,az⟩
     next s2 az=>obtain⟨v',e1,_⟩:=wS AY az;cases e1
   obtain⟨s2,az⟩:=sy;obtain⟨v',e1,e2,_⟩:=wS AY az;refine⟨_,_,(Oa az).2,.inl rfl,⟨Fj,by simpa using hI.size,oK,c,hc,λb=>(CQ b).trans (same Al b),?_⟩⟩
   rw[e2];exact⟨Hf,gI,o_⟩
 ·left
  obtain⟨h1,h2,h3⟩:=hR.off r hr CS;refine⟨hw.trans h1,⟨Fj,by simpa using hI.size,?_,c,hc,λb=>(CQ b).trans (same h2 b),Hf,gI,o_⟩⟩
  refine Inv.Fi hR hI hr Bw ek (λt ht=>by rw[VJ (Ir t ht)]) (λt ht=>?_)
  rw[Kg,if_neg CS,h3];exact zek (nD t (hR.lm r hr t (.inl ht)))
def Inv.final(hR:RI cx all takes s0 Ev all.size rs cs s')(hI:Inv all rs cs Ev l s)(dz:∀j,j<all.size->nL l j):s=s':=by
 have oK:s.env=s'.env:=by
  apply HO;intro t;rw[<- hR.VF];refine hI.env t all.size (bV _) (λj hj _=>dz j hj) ?_;rintro j hj ⟨q,hq,rfl,_⟩;have:=hR.lt q hq;omega
 obtain⟨c,hc,CQ,Hf,gI,o_⟩:=hI.mem;obtain⟨c1,BB,rfl,h1,h2,h3,h4⟩:=hR.top;have:c=c1:=by
  refine hR.AU c hc c1 (ew ..) (kK λb=>?_);rw[h1];refine FY.2 ((CQ b).trans (Iff.trans ?_ ep.symm));constructor
  ·rintro⟨q,a1,a2,a3,_⟩;exact⟨q,a1,a2,a3⟩
  ·rintro⟨q,a1,a2,rfl⟩;exact⟨q,a1,a2,rfl,dz _ (hR.lt q a1)⟩
 subst this;obtain⟨e,H,lk,df⟩:=s;obtain⟨e',H',oM,Fb⟩:=s';simp only at *;simp only[oK,Hf,gI,o_,h2,h3,h4]
def Inv.start(hR:RI cx all takes s0 Ev all.size rs cs s'):Inv all rs cs Ev (Array.replicate all.size false) s0:=by
 have lC:∀j,¬nL (Array.replicate all.size false) j:=λj h=>by
  unfold nL at h;simp[Array.getElem?_replicate] at h;split at h<;>simp_all
 refine⟨λj o _ hl=>(lC j hl).elim,by simp,λt m hm h1 _=>?_,?_⟩
 ·rw[<- hR.VD];refine(Zj hR (dJ m) hm λj _ hj hT=>lC j (h1 j hj hT)).symm
 ·obtain⟨c,hc,h0,h1,h2,h3⟩:=hR.c0;refine⟨c,hc,λb=>?_,h1.symm,h2.symm,h3.symm⟩;rw[h0,wR];constructor
  ·intro h;cases h
  ·rintro⟨_,_,_,_,h⟩;exact(lC b h).elim
end
end
section
variable{P:aD}{cx:Cx}{all:Array Oper}{takes:bA}{B:dK}{g:Gh}{s:St}{a:Act}{w:aB}
def left(l:Array Bool):Nat->Nat
 | 0=>0
 | k+1=>left l k+if l.getD k false=true then 0 else 1
def zdt{l:Array Bool}{i:Nat}:∀k,left (l.setIfInBounds i true) k<=left l k
 | 0=>bV _
 | k+1=>by
  have ih:=zdt (l:=l) (i:=i) k;simp only[left]
  by_cases h:l.getD k false=true
  ·rw[if_pos (getD_set_true h),if_pos h];exact ih
  ·rw[if_neg h];split<;>omega
def zdu{l:Array Bool}{i:Nat}(hi:i<l.size)(hl:¬nL l i):∀{k},i<k->left (l.setIfInBounds i true) k+1<=left l k
 | 0,h=>by omega
 | k+1,h=>by
  simp only[left]
  by_cases e:i=k
  ·subst e;have h1:=zdt (l:=l) (i:=i) i;have h2:(l.setIfInBounds i true).getD i false=true:=(wl hi).2 (.inl rfl);rw[if_pos h2,if_neg hl];omega
  ·have h1:=zdu hi hl (k:=k) (by omega)
   rw[getD_set_ne false e];omega
def zfz{l:Array Bool}:∀{k},left l k=0->∀j,j<k->nL l j
 | 0,_,j,hj=>by omega
 | k+1,h,j,hj=>by
  simp only[left] at h
  by_cases e:j=k
  ·subst e
   by_cases hl:l.getD j false=true
   ·exact hl
   ·rw[if_neg hl] at h;omega
  ·exact zfz (k:=k) (by omega) j (by omega)
def Rel.AZ(h:Rel B g s a w):Rel B g s a { w with drawn:=w.drawn+1 }:=by
 refine h.ij (b0:=none) (l0:=none) (g':=g) (s':=s) (w':={ w with drawn:=w.drawn+1 }) ⟨.refl _ _,λ_ _ _ _=>rfl,λ_ _ _=>rfl,λ_ _ _ _=>rfl,bV _,λ_ _ _=>rfl,λ_ h=>(by cases h),λ_ h=>(by cases h),λ_ _ _ _=>rfl,rfl,rfl,rfl⟩ (bV _) (λ_ _ _=>rfl) ?_ ?_ ?_ ?_ ?_ ?_ rfl rfl ?_ h.aS h.gm h.nB ?_
 ·intro b x hb hx;rcases hb with hb|hb
  ·cases hb
  ·have:=(dW.1 hx).1;omega
 ·intro b h1 h2;omega
 ·intro b b' h1 h2;omega
 ·exact h.bW.mem
 ·exact h.bW.dF
 ·intro _ _ h;cases h
 ·intro t x hx;exact⟨x,hx,.inl ⟨rfl,by simp⟩⟩
 ·intro t h;cases h
def zj9{s0 s':St}{Ev:Nat->aj}{rs:List Rec}{cs:List eZ}(hR:RI cx all takes s0 Ev all.size rs cs s')(mu:pY P cx B) :
  ∀(fuel:Nat)(l:Array Bool)(s:St)(g:Gh)(a:Act)(w:aB),left l all.size<=fuel->Inv all rs cs Ev l s->Rel B g s a w->wpAny P .any all (yB B .normal s') fuel l a w:=by
 have fin:∀(l:Array Bool)(s:St)(g:Gh)(a:Act)(w:aB),Inv all rs cs Ev l s->Rel B g s a w->(∀j,j<all.size->nL l j)->yB B .normal s' .normal a w:=by
  intro l s g a w hI h dz;have:=hI.final hR dz;subst this;exact⟨g,h,trivial⟩
 have nil:∀(l:Array Bool)(s:St),Inv all rs cs Ev l s->Region.ready .any all l=[]->∀j,j<all.size->nL l j:=by
  intro l s hI hr j
  induction j using Nat.strongRecOn with
  | ind j ih =>
   intro hj;cases hl:l.getD j false with
   | true=>exact hl
   | false =>
    obtain⟨r,BC,mX⟩:=hR.ex j hj;have dO:=hR.get r BC
    have:j∈Region.ready .any all l:=mem_ready.2 ⟨by
     have:j<l.size:=by rw[hI.size];exact hj
     simp[this] at hl ⊢
     exact hl,r.o,by rw[<- mX];exact dO,λe he hb=>ih e.on (by rw[<- mX];exact hR.bQ r BC e he hb) (by
      have h1:=hR.bQ r BC e he hb
      omega)⟩
    rw[hr] at this;cases this
 intro fuel
 induction fuel with
 | zero =>
  intro l s g a w hle hI h;have dz:=zfz (l:=l) (k:=all.size) (by omega)
  refine⟨?_,fin l s g a w hI h dz⟩;cases hr:Region.ready .any all l with
  | nil=>rfl
  | cons x xs =>
   have hx:x∈Region.ready .any all l:=by rw[hr];exact ew ..
   obtain⟨h1,o,ho,_⟩:=mem_ready.1 hx;have bu:x<all.size:=(ud.1 ho).1;have h2:=dz x bu;have:x<l.size:=by rw[hI.size];exact bu
   unfold nL at h2;simp[this] at h1 h2;rw[h1] at h2;cases h2
 | succ fuel ih =>
  intro l s g a w hle hI h;refine⟨λhr=>fin l s g a w hI h (nil l s hI hr),λi hi=>?_⟩;obtain⟨h1,o,ho,ek⟩:=mem_ready.1 hi;have bu:i<all.size:=(ud.1 ho).1;have fR:i<l.size:=by rw[hI.size];exact bu
  have Bw:¬nL l i:=by
   unfold nL;simp[fR] at h1 ⊢;exact h1
  obtain⟨r,BC,rfl⟩:=hR.ex i bu;have dO:=hR.get r BC;rw[dO] at ho;cases ho;have lY:=zdu fR Bw bu;unfold wpOp;simp only[dO];rcases Inv.step hR hI BC Bw ek with⟨hw,Oc⟩|⟨hw,res,s2,az,fG,Oc⟩
  ·rw[if_neg (by rw[ym h hw];simp)]
   exact ih _ _ g _ w (by omega) Oc (yx (xy h r.o))
  ·rw[if_pos (ym h hw)]
   left
   refine NZ mu h az ⟨λv' hv g' cv a' w' hk=>?_,λhv g' a' w' hk=>?_,λv' hv=>?_⟩
   ·rcases fG with rfl|⟨rfl,_⟩
    ·cases hv;exact ih _ _ g' _ w' (by omega) Oc (yx hk)
    ·cases hv
   ·rcases fG with rfl|⟨_,he⟩
    ·cases hv
    ·rw[he] at Oc;exact ih _ _ g' _ w' (by omega) Oc (yx (xy hk r.o))
   ·rcases fG with rfl|⟨rfl,_⟩<;>cases hv
def zoH(iJ:P.follows .mixedOrders=true):Qf P cx B:=by
 intro mu id ops s s' ex g a w hc h;obtain⟨env,H,lk,df⟩:=s;unfold Cx.draw at hc;obtain⟨rfl,Ev,rs,cs,hR⟩:=xz ops.toList 0 [] _ _ _ hc (RI.start (⟨env,H,[],df⟩:St)) (by simp)
 refine wp_region_any iJ ?_
 exact zj9 hR mu ops.size _ _ g a _ (by
  have:∀k,left (Array.replicate ops.size false) k<=k:=by
   intro k
   induction k with
   | zero=>exact bV _
   | succ k ih=>simp only[left];split<;>omega
  exact this _) (Inv.start hR) h.bD.AZ
end
section
variable{P:aD}{B:dK}{g:Gh}{s:St}{a:Act}{w:aB}
def zlq{l n:Nat}{row:String}{args:cO}{R:aP->aB->Prop}(h:Rows P row args w R):RowsIn (Fence.wide.inRound l) n P row args w R:=λc cs _=>by
 obtain⟨v,w',r,st⟩:=h c cs;exact⟨v,w',r,stepsIn_wide.2 st⟩
def zka{l n:Nat}{o:Oper}{next:Act->aB->Prop}{Q:Exit->Act->aB->Prop}(hd:Mi o=true)(h:o.wp P a w next Q):o.wpIn (Fence.wide.inRound l) n P a w next Q:=by
 refine⟨λf _=>trivial,?_⟩;have hs:o.semAt (Fence.wide.inRound l).round a.eval=execOp a.eval o:=Oper.semAt_some l a.eval o λc hc=>by
  unfold Mi at hd;rw[hc] at hd;cases hd
 rw[hs];unfold Oper.wp at h;have Sf:∀{p:Prop},(Fence.wide.inRound l).depth.isSome=true->p:=λ{p} e=>by
  have:(Fence.wide.inRound l).depth=none:=rfl;rw[this] at e;cases e
 cases hr:(execOp a.eval o).run P w with
 | ok x w' =>
  rw[hr] at h;cases x with
  | enter f args=>exact⟨λe=>Sf e,(callsIn_wide.2 h).inRound l⟩
  | row r args=>exact⟨λe=>Sf e,zlq h⟩
  | round=>exact h.elim
  | _=>exact h
 | halt x w' =>
  rw[hr] at h;cases x<;>exact h
def zhU{ex:Ex}{s':St}:¬LetsOut (yB B ex s'):=by
 rintro⟨a,w,g,_,h⟩;cases ex<;>exact h.elim
def Zl{l n:Nat}{ops:Array Oper}{Q:Exit->Act->aB->Prop}(hQ:¬LetsOut Q):∀(os:List Oper)(a:Act)(w:aB),os.all Mi=true->wpList P ops Q os a w->wpListIn (Fence.wide.inRound l) n P ops Q os a w
 | [],a,w,_,h=>h
 | o::os,a,w,hd,h=>by
  simp only[List.all_cons,bN] at hd;unfold wpList at h;unfold wpListIn;split
  next hw=>rw[if_pos hw] at h;have h':=h.resolve_right λe=>hQ e.2;refine zka hd.1 ?_;exact Oper.wp_mono (λa' w' k=>Zl hQ os a' w' hd.2 k) h'
  next hw=>rw[if_neg hw] at h;exact⟨λf _=>trivial,Zl hQ os _ w hd.2 h⟩
def zoI{l n:Nat}{ops:Array Oper}{Q:Exit->Act->aB->Prop}(hQ:¬LetsOut Q)(hd:ops.toList.all Mi=true){i:Nat}{K:Act->aB->Prop}(h:wpOp P ops Q i K a w):wpOpIn (Fence.wide.inRound l) n P ops Q i K a w:=by
 unfold wpOp at h;unfold wpOpIn;split
 next hn=>rw[hn] at h;exact h
 ·rename_i o ho;rw[ho] at h;simp only at h
  have hod:Mi o=true:=Cf.1 hd o (by
   rw[<- Me] at ho
   exact oH ho)
  split
  next hw=>rw[if_pos hw] at h;exact zka hod (h.resolve_right λe=>hQ e.2)
  next hw=>rw[if_neg hw] at h;exact⟨λf _=>trivial,h⟩
def zhV{l n:Nat}{md:Region.Mode}{ops:Array Oper}{Q:Exit->Act->aB->Prop}(hQ:¬LetsOut Q)(hd:ops.toList.all Mi=true):∀(fuel:Nat)(listed:Array Bool)(a:Act)(w:aB),wpAny P md ops Q fuel listed a w->wpAnyIn (Fence.wide.inRound l) n P md ops Q fuel listed a w
 | 0,_listed,_a,_w,h=>h
 | fuel+1,_listed,_a,_w,h=>⟨h.1,λi hi=>zoI hQ hd (wpOp_mono (λa' w' k=>zhV hQ hd fuel _ a' w' k) (h.2 i hi))⟩
def zmD(iJ:P.follows .mixedOrders=true){cx:Cx}(mu:pY P cx B){l n id:Nat}{ops:Array Oper}{s s':St}{ex:Ex}(hd:ops.toList.all Mi=true)(hc:cx.draw ops s=some (ex,s'))(h:Rel B g s a w):(Code.region id ops true).wpIn (Fence.wide.inRound l) n P (yB B ex s') a w:=by
 obtain⟨env,H,lk,df⟩:=s;unfold Cx.draw at hc;obtain⟨rfl,Ev,rs,cs,hR⟩:=xz ops.toList 0 [] _ _ _ hc (RI.start (⟨env,H,[],df⟩:St)) (by simp)
 refine wpIn_region_any iJ ?_;refine zhV zhU hd _ _ _ _ ?_
 exact zj9 hR mu ops.size _ _ g a _ (by
  have:∀k,left (Array.replicate ops.size false) k<=k:=by
   intro k
   induction k with
   | zero=>exact bV _
   | succ k ih=>simp only[left];split<;>omega
  exact this _) (Inv.start hR) h.bD.AZ
def VL(iJ:P.follows .mixedOrders=true){cx:Cx}(mu:pY P cx B){l n0:Nat}(n:Nat):∀(c:Code)(s s':St)(ex:Ex)(g:Gh)(a:Act)(w:aB),calm c=true->cx.code n c s=some (ex,s')->Rel B g s a w->c.wpIn (Fence.wide.inRound l) n0 P (yB B ex s') a w:=by
 intro c
 induction c with
 | skip =>
  intro s s' ex g a w hd hc h;simp only[Cx.code,aO,bP] at hc;obtain⟨rfl,rfl⟩:=hc;exact Go.wpIn_skip ⟨g,h,trivial⟩
 | label l =>
  intro s s' ex g a w hd hc h;simp only[Cx.code,aO,bP] at hc;obtain⟨rfl,rfl⟩:=hc;exact wpIn_label ⟨g,h,trivial⟩
 | region id ops draw =>
  intro s s' ex g a w hd hc h;simp only[calm] at hd;cases draw with
  | false =>
   obtain⟨env,H,lk,df⟩:=s;simp only[Cx.code] at hc;exact wpIn_region_list (Zl zhU _ _ _ hd (YZ mu (λ_ _ _ q=>q) _ _ g a w h.bD hc))
  | true =>
   simp only[Cx.code] at hc;exact zmD iJ mu hd hc h
 | seq x y Fc Il =>
  intro s s' ex g a w hd hc h;simp only[calm,bN] at hd;simp only[Cx.code] at hc;split at hc<;>try (cases hc;done)
  next s1 hx=>refine wpIn_seq (Go.wpIn_mono (Fc s s1 .normal g a w hd.1 hx h) (wA (λ_ g' a' w' h'=>Il s1 s' ex g' a' w' hd.2 hc h') (λe=>absurd rfl e)))
  next e1 s1 cg hx=>simp only[aO,bP] at hc;obtain⟨rfl,rfl⟩:=hc;refine wpIn_seq (Go.wpIn_mono (Fc s _ _ g a w hd.1 hx h) (wA (λe=>absurd e ?_) (λ_ _ _ _ q=>q)));exact λe=>by simp_all
 | cond c x y Fc Il =>
  intro s s' ex g a w hd hc h;simp only[calm,bN] at hd;simp only[Cx.code] at hc;split at hc<;>try (cases hc;done)
  next hp=>have c1:=(zD h hp).1;generalize pK:a.eval c=cc at c1;cases c1;exact wpIn_cond_true pK (Fc s s' ex g a w hd.1 hc h)
  next hp=>have c1:=(zD h hp).1;generalize pK:a.eval c=cc at c1;cases c1;exact wpIn_cond_false pK (Il s s' ex g a w hd.2 hc h)
 | block id c ih =>
  intro s s' ex g a w hd hc h;simp only[calm] at hd;simp only[Cx.code] at hc;split at hc<;>try (cases hc;done)
  ·rename_i i s1 hx;simp only[aO,bP] at hc;obtain⟨rfl,rfl⟩:=hc;refine wpIn_block (Go.wpIn_mono (ih s s1 (.exit i) g a w hd hx h) ?_);rintro e a' w' ⟨g',h1,h2⟩;cases e<;>first|(exact h2.elim)|skip
   rename_i j;have:i=j:=h2;subst this;simp only[Exit.inBlock];split
   next e=>subst e;exact⟨g',h1,by simp[R3]⟩
   ·rename_i e;refine⟨g',h1,?_⟩;have:Nat.beq i id=false:=by
     cases hb:Nat.beq i id with
     | false=>rfl
     | true=>exact absurd (eT hb) e
    simp[this,R3]
  ·rename_i e1 s1 cg hx;simp only[aO,bP] at hc;obtain⟨rfl,rfl⟩:=hc;refine wpIn_block (Go.wpIn_mono (ih s _ _ g a w hd hx h) ?_);rintro e a' w' ⟨g',h1,h2⟩;cases e with
   | exit j=>cases e1<;>first|(exact h2.elim)|(exact(cg _ rfl).elim)
   | _=>exact⟨g',h1,h2⟩
 | loop c ih =>
  intro s s' ex g a w hd hc h;simp only[calm] at hd;simp only[Cx.code] at hc;refine wpIn_loop_rounds n ?_;have key:∀(m:Nat)(s:St)(g:Gh)(a:Act)(w:aB),yP (cx.code n c) m s=some (ex,s')->Rel B g s a w->Code.roundsIn (Fence.wide.inRound l) n0 P c (yB B ex s') m a w:=by
   intro m
   induction m with
   | zero=>intro s g a w hi;simp[yP] at hi
   | succ m Y0 =>
    intro s g a w hi h;simp only[yP] at hi;rw[roundsIn_succ];split at hi<;>try (cases hi;done)
    next s1 hx=>exact Go.wpIn_mono (ih s s1 .normal g a w hd hx h) (wA (λ_ g' a' w' h'=>Y0 s1 g' a' w' hi h') (λe=>absurd rfl e))
    next e1 s1 cg hx=>simp only[aO,bP] at hi;obtain⟨rfl,rfl⟩:=hi;exact Go.wpIn_mono (ih s _ _ g a w hd hx h) (wA (λe=>absurd e (λe=>by simp_all)) (λ_ _ _ _ q=>q))
  exact key n s g a w hc h
 | exit id =>
  intro s s' ex g a w hd hc h;simp only[Cx.code,aO,bP] at hc;obtain⟨rfl,rfl⟩:=hc;exact wpIn_exit ⟨g,h,rfl⟩
 | ret =>
  intro s s' ex g a w hd hc h;simp only[Cx.code,aO,bP] at hc;obtain⟨rfl,rfl⟩:=hc;exact wpIn_ret ⟨g,h,trivial⟩
 | scope c ih=>intro s s' ex g a w hd;simp[calm] at hd
 | rangeFunc f ps as bd=>intro s s' ex g a w hd;simp[calm] at hd
 | _=>intro s s' ex g a w hd hc;simp[Cx.code] at hc
end
section
open Go.RowKit
variable{P:aD}
def zoJ(B:Nat)(Kp:aB->aB->Prop)(I:Nat->aB->Prop)(Ix:Code->aB->Prop)(k:Nat)(W:aB):Exit->Act->aB->Prop
 | .normal,_,W'=>KeepsFrom B W W'/\Kp W W'/\I (k+1) W'
 | .ret,_,W'=>KeepsFrom B W W'/\Ix .ret W'
 | .exit id,_,W'=>KeepsFrom B W W'/\Ix (.exit id) W'
 | _,_,_=>False
def zlr{g:aH}{ps:Array Tmp}{assign body:Code}{Q:Exit->Act->aB->Prop}{a:Act}{w w0:aB}{gf:Nat}{lb:cO}(hg:a.eval g=.func (.func gf) #[] lb)(eg:∀args w,(callFunc gf args).run P w=.ok (.enter gf args) w)
  {bl:Nat->cO} {len:Nat} {Kp:aB->aB->Prop} (DT:Zd P gf lb bl len Kp w0) (pg:Below w0.heap.size w0 w) (Vj:∀k,(bl k).size=ps.size)
  (Zm:∀{A B C:aB},Kp A B->Kp B C->Kp A C) (VM:∀(W:aB)(l:Nat)(o o':Obj),w.heap.size<=l->W.heap[l]?=some o->o.isCells=false->o.isWalk=false->Kp W (W.putObj l o'))
  (I:Nat->aB->Prop) (Ix:Code->aB->Prop) (M:Nat->Act->aB->Prop) (hI:OwnFrom w.heap.size I) (Zn:OwnFrom w.heap.size Ix) (hM:∀k a',OwnFrom w.heap.size (λ(_:Unit) W=>M k a' W)) (h0:I 0 w)
  (K7:∀(l k:Nat)(W:aB)(K:Act->aB->Prop),k<len->I k W->(∀a' W',KeepsFrom w.heap.size W W'->Kp W W'->M k a' W'->K a' W') ->
   assign.wpIn (Fence.wide.inRound l) 1 P (Exit.then K (λ_ _ _=>False)) { tmps:=(ps.zip (bl k)).foldl (λt (p,v)=>t.setIfInBounds p v) a.tmps,defers:=[] } W)
  (lI:∀(l k:Nat)(a':Act)(W:aB),k<len->M k a' W->body.wpIn (Fence.wide.inRound l) 1 P (zoJ w.heap.size Kp I Ix k W) a' W)
  (Sh:∀(D:Nat)(W:aB),w.heap.size<=D->I len W->W.heap[D]?=some (.deferred (some []))->Q .normal { a with defers:={ target:=.collected D,args:=#[] }::a.defers } W)
  (Si:∀(D:Nat)(c:Code)(W:aB),w.heap.size<=D->Ix c W->W.heap[D]?=some (.deferred (some []))->c.wpIn Fence.wide 3 P Q { a with defers:={ target:=.collected D,args:=#[] }::a.defers } W) :
  (Code.rangeFunc g ps assign body).wpIn Fence.wide 3 P Q a w:=by
 refine wpIn_rangeFunc ?_;intro fn su
 let lg:LoopState->Option Code->Loop:=λst pe=>{ state:=st,pending:=pe,fn,tmps:=a.tmps,params:=ps,assign,body,defers:=w.heap.size }
 have mH:∀st pe,lg st pe={ state:=st,pending:=pe,fn,tmps:=a.tmps,params:=ps,assign,body,defers:=w.heap.size }:=λ_ _=>rfl;generalize lg=rec at mH;obtain⟨W1,Sj⟩:∃W1,(w.alloc (.deferred (some []))).alloc (.loop (rec .ready none))=W1:=⟨_,rfl⟩;have hL1:W1.heap[w.heap.size+1]?=some (.loop (rec .ready none)):=by
  rw[<- Sj];have:=World.alloc_heap_new (w.alloc (.deferred (some []))) (.loop (rec .ready none))
  rwa [World.size_alloc] at this
 have hD1:W1.heap[w.heap.size]?=some (.deferred (some [])):=by
  rw[<- Sj];exact(Below.heap_alloc _ _ _ (by simp)).trans (World.alloc_heap_new w _)
 have hI1:I 0 W1:=by rw[<- Sj];exact hI.alloc _ (hI.alloc _ h0)
 have hb1:Below w0.heap.size w0 W1:=by
  rw[<- Sj];exact pg.trans ((((Below.refl _ w).alloc (bV _) _).alloc (by simp) _).mono pg.size)
 refine⟨w.heap.size+1,[{ target:=.collected w.heap.size,args:=#[] }],W1,{ target:=.fn (.func gf) lb,args:=#[.func (.yield (w.heap.size+1)) #[] #[]] },W1,gf,
  #[.func (.yield (w.heap.size+1)) #[] #[]]++lb,W1,?_,?_,λ_ _=>trivial,?_,(λe=>nomatch e),?_⟩
 ·rw[<- Sj,mH];exact run_enterLoop_outer _ _ _ _ _
 ·simp only[resolve,hg];simp[go_sem]
 ·simp[invoke,go_sem,eg]
 ·refine(DT (w.heap.size+1) (λk W=>I k W/\W.heap[w.heap.size+1]?=some (.loop (rec .ready none))/\W.heap[w.heap.size]?=some (.deferred (some [])))
   (λW=>∃c,Ix c W/\W.heap[w.heap.size+1]?=some (.loop (rec .done (some c)))/\W.heap[w.heap.size]?=some (.deferred (some []))) W1 hb1 ?_ ⟨hI1,hL1,hD1⟩).mono ?_
  ·rintro k W hk ⟨hi,hl,hd⟩;have hy:=run_yield (P:=P) (args:=bl k) hl (by rw[mH];exact Vj k)
   rw[mH] at hy;refine⟨fn,_,assign,body,hy,roundIn_of_wpIn (F:=Fence.wide) trivial (K7 _ k W _ hk hi ?_)⟩;clear hy;intro a' Wa hkf hkp hm
   replace hl:=hkf.same _ _ (by omega) hl rfl
   replace hd:=hkf.same _ _ (bV _) hd rfl
   have bu:w.heap.size+1<Wa.heap.size:=(ud.1 hl).1;refine⟨_,run_beginRound hl (by rw[mH]),?_⟩
   generalize VN:Wa.putObj (w.heap.size+1) (.loop { rec .ready none with state:=.busy })=Wb;have Aj:Wb.heap[w.heap.size+1]?=some (.loop { rec .ready none with state:=.busy }):=by rw[<- VN];exact World.putObj_heap_same bu
   have Qe:Wb.heap[w.heap.size]?=some (.deferred (some [])):=by rw[<- VN];exact(World.putObj_heap_other (by omega)).trans hd
   have Zo:Kp Wa Wb:=by rw[<- VN];exact VM _ _ _ _ (by omega) hl rfl rfl
   have Qj:M k a' Wb:=by rw[<- VN];exact(hM k a').putObj (s:=()) _ hm (by omega) hl rfl
   refine Go.wpIn_mono (lI (w.heap.size+1) k a' Wb hk Qj) ?_;have fin:∀(jump:Option Code)(W3:aB),KeepsFrom w.heap.size Wb W3 ->
     (Instr.endRound (w.heap.size+1) jump).run P W3=.ok (.bool jump.isNone) (W3.putObj (w.heap.size+1) (.loop (rec (if jump.isNone then .ready else .done) jump))) /\
     W3.heap[w.heap.size+1]?=some (.loop { rec .ready none with state:=.busy }) /\
     (W3.putObj (w.heap.size+1) (.loop (rec (if jump.isNone then .ready else .done) jump))).heap[w.heap.size+1]?=some (.loop (rec (if jump.isNone then .ready else .done) jump)) /\
     (W3.putObj (w.heap.size+1) (.loop (rec (if jump.isNone then .ready else .done) jump))).heap[w.heap.size]?=some (.deferred (some [])):=λjump W3 D8=>by
    have sB:=D8.same _ _ (by omega) Aj rfl
    have:=run_endRound (P:=P) jump sB;rw[mH] at this;rw[mH];exact⟨this,sB,World.putObj_heap_same (ud.1 sB).1,(World.putObj_heap_other (by omega)).trans (D8.same _ _ (bV _) Qe rfl)⟩
   rintro e a3 W3 hp;cases e with
   | normal =>
    obtain⟨D8,Zp,Sk⟩:=hp;obtain⟨hr,sB,Mv,Sl⟩:=fin none W3 D8;exact⟨_,_,hr,.inl ⟨rfl,⟨hI.putObj _ Sk (by omega) sB rfl,Mv,Sl⟩,Zm hkp (Zm (Zm Zo Zp) (VM _ _ _ _ (by omega) sB rfl rfl))⟩⟩
   | ret =>
    obtain⟨D8,Sk⟩:=hp;obtain⟨hr,sB,Mv,Sl⟩:=fin (some .ret) W3 D8;exact⟨_,_,hr,.inr ⟨rfl,.ret,Zn.putObj _ Sk (by omega) sB rfl,Mv,Sl⟩⟩
   | exit id =>
    obtain⟨D8,Sk⟩:=hp;obtain⟨hr,sB,Mv,Sl⟩:=fin (some (.exit id)) W3 D8;exact⟨_,_,hr,.inr ⟨rfl,.exit id,Zn.putObj _ Sk (by omega) sB rfl,Mv,Sl⟩⟩
   | goto t=>exact hp.elim
   | panic ch=>exact hp.elim
   | outgrown=>exact hp.elim
  ·rintro e W2 ⟨⟨v,rfl⟩,(⟨hi,hl,hd⟩|⟨c,hi,hl,hd⟩)⟩
   ·have:=run_endLoop (P:=P) hl (by rw[mH];simp)
    rw[mH] at this;exact⟨none,_,this,Sh _ _ (bV _) (hI.putObj _ hi (by omega) hl rfl) ((World.putObj_heap_other (by omega)).trans hd)⟩
   ·have:=run_endLoop (P:=P) hl (by rw[mH];simp)
    rw[mH] at this;exact⟨some c,_,this,Si _ c _ (bV _) (Zn.putObj _ hi (by omega) hl rfl) ((World.putObj_heap_other (by omega)).trans hd)⟩
end
section
open Go.RowKit
variable{P:aD}{B:dK}{g:Gh}{w:aB}
structure p7(g:Gh)(n L:Nat)(env:aj)(tmps:cO):Prop where
 len:env.length=tmps.size
 L:env.length=L
 rel:∀(t:Nat)(x:V)(v:aP),env[t]?=some x->tmps[t]?=some v->aL g x v
 top:∀(t:Nat)(x:V),env[t]?=some x->x.top<=n
 aX:∀(t:Nat)(x:V),env[t]?=some x->aX x=x
def p7.le{n n' L:Nat}{g g':Gh}{env:aj}{tmps:cO}(h:p7 g n L env tmps)(hg:Gh.Le n g g')(hn:n<=n'):p7 g' n' L env tmps :=
 ⟨h.len,h.L,λt x v hx hv=>(h.rel t x v hx hv).le hg (h.top t x hx),λt x hx=>cR (h.top t x hx) hn,h.aX⟩
def p8(x:V):aX (aX x)=aX x:=by cases x<;>rfl
def Rel.Is{s:St}{a:Act}(h:Rel B g s a w):p7 g s.H.af.length s.env.length (s.env.map aX) a.tmps:=by
 refine⟨by rw[oO];exact h.len,by rw[oO],λt x v hx hv=>?_,λt x hx=>?_,λt x hx=>?_⟩
 ·rw[pH] at hx;obtain⟨y,hy,rfl⟩:=nq.1 hx;exact(h.env t y v hy hv).1.aX
 ·rw[pH] at hx;obtain⟨y,hy,rfl⟩:=nq.1 hx;rw[dw];exact h.b_ t y hy
 ·rw[pH] at hx;obtain⟨y,hy,rfl⟩:=nq.1 hx;exact p8 y
def Rel.Od{s:St}{a:Act}(h:Rel B g s a w):Rel B g ⟨s.env.map aX,s.H,[],s.defers⟩ a w:=by
 have he:=h.Is;refine { bW:=h.bW,len:=he.len,env:=λt x v hx hv=>⟨he.rel t x v hx hv,?_⟩,b_:=he.top,n0:=h.n0,aS:=h.aS,cK:=h.cK,fr:=h.fr,gm:=h.gm,nB:=λ_ hp=>by simp at hp,bh:=λp hp=>?_,cY:=h.cY,defers:=h.defers,marks:=h.marks,iD:=h.iD }
 ·rw[<- he.aX t x hx];exact ko _ _ _ _ _ _
 ·obtain⟨p1,p⟩:=h.bh p hp;exact⟨by rw[oO];exact p1,p⟩
def Rel.enter{eN bT:aj}{H:Hp}{lk:aC}{df:aV}{a:Act}{tmps:cO}(h:Rel B g ⟨eN,H,lk,df⟩ a w)(he:p7 g H.af.length bT.length bT tmps)(G_:∀p∈B.bh,bT.length<p.t) :
  Rel ⟨B.d,H.af,g,w,B.bh⟩ g ⟨bT,⟨H.af,[]⟩,[],[]⟩ { tmps:=tmps,defers:=[] } w:=by
 refine { bW:=h.bW,len:=he.len,env:=λt x v hx hv=>⟨he.rel t x v hx hv,?_⟩,b_:=he.top,n0:=bV _,aS:=λb x hx=>.inr (.inr ⟨x,hx,bV _⟩),cK:=λb h1 h2=>absurd h1 (Nat.not_le.2 h2),fr:=.refl _ _ _ _,gm:=λb off hl=>?_,nB:=λ_ hp=>by simp at hp,bh:=λp hp=>?_,cY:=rfl,defers:=(λ_ _ _ hx=>by simp at hx),marks:=(λ_ hd=>by simp at hd),iD:=.nil }
 ·rw[<- he.aX t x hx];exact ko _ _ _ _ _ _
 ·rcases hl with hl|⟨q,hq,Hg⟩
  ·exact hl
  ·exact h.gm b off (.inr ⟨q,hq,Hg⟩)
 ·obtain⟨p1,pr⟩:=h.bh p hp;exact⟨G_ p hp,pr⟩
def Rel.leave{eN e1:aj}{H H1:Hp}{lk c7:aC}{df dB:aV}{a a1:Act}{g':Gh}{w':aB}(h:Rel B g ⟨eN,H,lk,df⟩ a w)(hc:∀(t:Nat)(x:V),eN[t]?=some x->aX x=x)
  (h1:Rel ⟨B.d,H.af,g,w,B.bh⟩ g' ⟨e1,H1,c7,dB⟩ a1 w'):Rel B g' ⟨eN,⟨H1.af,H1.aS++H.aS⟩,[],df⟩ a w':=by
 have hl:H.af.length<=H1.af.length:=h1.n0;have hle:=h1.fr.le
 refine { bW:=h1.bW,len:=h.len,env:=λt x v hx hv=>⟨(h.env t x v hx hv).1.le hle (h.b_ t x hx),?_⟩,b_:=λt x hx=>cR (h.b_ t x hx) hl,n0:=cR h.n0 hl,aS:=λb x hx=>?_,cK:=λb h2 h3=>?_,fr:=?_,gm:=λb off hb=>?_,nB:=λ_ hp=>by simp at hp,bh:=λp hp=>?_,cY:=h.cY,defers:=λj x q hx hq=>(h.defers j x q hx hq).le hle hl,marks:=λd hd D hD=>?_,iD:=h.iD }
 ·rw[<- hc t x hx];exact ko _ _ _ _ _ _
 ·rcases h1.aS b x hx with k|⟨m,k1,k2⟩|⟨y,k1,k2⟩
  ·exact .inl k
  ·exact .inr (.inl ⟨m,DI _ k1,k2⟩)
  ·rcases h.aS b y k1 with k3|⟨m,k3,k4⟩|⟨z,k3,k4⟩
   ·exact .inl (cR k2 k3)
   ·exact .inr (.inl ⟨m,FQ _ k3,cR k2 k4⟩)
   ·exact .inr (.inr ⟨z,k3,cR k2 k4⟩)
 ·rcases iT b H.af.length with h4|h4
  ·rw[hle.br b h4];exact h.cK b h2 h4
  ·exact cR h.fr.size (h1.cK b h4 h3)
 ·exact h.fr.trans h.n0 h.cK (λb off hl=>h.gm b off (.inl hl)) h1.fr
 ·rcases hb with hb|⟨q,hq,Hg⟩
  ·exact h1.gm b off (.inl (h.gm b off (.inl hb)))
  ·exact h1.gm b off (.inr ⟨q,hq,Hg⟩)
 ·obtain⟨p1,p2,p3,p4,p5⟩:=h1.bh p hp;exact⟨(h.bh p hp).1,p2,p3,p4,p5⟩
 ·obtain⟨m0,m1,m2,m3⟩:=h.marks d hd D hD;have bu:D<w.heap.size:=(ud.1 m1).1;have hp:pR B.d H.af.length g w D:=⟨bu,m2,.inl m3⟩;refine⟨m0,(h1.fr.heap D hp).trans m1,λb hb e=>?_,(h1.fr.own D hp).trans m3⟩;rcases iT b H.af.length with h4|h4
  ·rw[hle.br b h4] at e;exact m2 b h4 e
  ·have:w.heap.size<=g'.br b:=h1.cK b h4 hb;omega
def F7(N:Nat)(g:Gh)(w:aB):Prop:=∀c l,N<=c->g.own c=some l->∃o:Obj,w.heap[c]?=some o/\o.isCells=true
open Classical in
noncomputable def jB(N:Nat)(g:Gh)(w:aB):Gh:={ g with own:=λc=>if N<=c/\¬∃o:Obj,w.heap[c]?=some o/\o.isCells=true then none else g.own c }
def zfA{N:Nat}{c:Nat}(h:∃o:Obj,w.heap[c]?=some o/\o.isCells=true):(jB N g w).own c=g.own c:=by
 unfold jB;simp only;rw[if_neg (λe=>e.2 h)]
def Zq{N:Nat}{c:Nat}(h:g.own c=none):(jB N g w).own c=none:=by
 unfold jB;simp only;split
 ·rfl
 ·exact h
def Sm{N n:Nat}:Gh.Le n g (jB N g w):=⟨λ_ _ _ h=>h,λ_ _=>rfl,rfl,λ_ _ _ _ h=>h⟩
def zji{N c:Nat}{l:Loc}(h:(jB N g w).own c=some l):g.own c=some l:=by
 unfold jB at h;simp only at h;split at h
 ·cases h
 ·exact h
def Zr{N:Nat}:F7 N (jB N g w) w:=λc l hN h=>by
 unfold jB at h;simp only at h;split at h
 ·cases h
 ·rename_i hn
  by_cases hx:∃o:Obj,w.heap[c]?=some o/\o.isCells=true
  ·exact hx
  ·exact absurd ⟨hN,hx⟩ hn
def zfB{base e sz n:Nat}{cv:aP}{xs:dy}(h:w.ownsRow base e sz cv n xs):∀c,cv.ownBlock=some c->∃o:Obj,w.heap[c]?=some o/\o.isCells=true:=λc hc=>by
 rcases h.2 with⟨rfl,_⟩|⟨c',cap,cur,rfl,_,h1,_⟩
 ·cases hc
 ·cases hc;exact⟨_,h1,rfl⟩
def cq.reset{N n:Nat}{l:Loc}{x:V}{cv:aP}(h:cq g n w l x cv):cq (jB N g w) n w l x cv:=by
 unfold cq at *;split
 ·obtain⟨xs,h1,h2⟩:=h;refine⟨xs,h1,λc hc=>?_⟩;obtain⟨k1,k2,k3⟩:=h2 c hc;exact⟨by rw[zfA (zfB h1 c hc)];exact k1,k2,k3⟩
 ·trivial
def fO.reset{N n b:Nat}{x:aN}(ht:x.top<=n)(h:fO g n w b x):fO (jB N g w) n w b x:=by
 have hle:Gh.Le n g (jB N g w):=Sm;cases x with
 | cells cs t =>
  obtain⟨arr,h1,h2,h3⟩:=h;refine⟨arr,h1,h2,λj x v hx hv=>?_⟩;obtain⟨k1,k2,k3,k4⟩:=h3 j x v hx hv;exact⟨k1,k2.le hle (cR (zk (zy hx)) ht),k3.reset,k4⟩
 | map es =>
  obtain⟨en,ck,h1,h2,h3⟩:=h;have Mw:=Ar.1 (show max (aA (es.map (·.1))) (aA (es.map (·.2)))<=n from ht);refine⟨en,ck,h1,h2,λj x me hx hm=>?_⟩;obtain⟨k1,k2⟩:=h3 j x me hx hm;exact⟨k1.le hle (cR (zk (G0 (f:=(·.1)) (zy hx))) Mw.1),k2.le hle (cR (zk (G0 (f:=(·.2)) (zy hx))) Mw.2)⟩
 | iter s pos=>exact h
 | ul bZ sz cs e =>
  obtain⟨c,len,cap,vs,hu⟩:=h;refine⟨c,len,cap,vs,hu.fD,hu.pos,hu.row,hu.uk.imp id λh=>?_,hu.M,hu.others,hu.len,λj x v hx hv=>?_,hu.fresh⟩
  ·rw[zfA (zfB hu.row c rfl)];exact h
  ·obtain⟨k1,k2⟩:=hu.cells j x v hx hv;exact⟨k1,k2.le hle (cR (zk (zy hx)) ht)⟩
def Rel.reset{s:St}{a:Act}(h:Rel B g s a w){N:Nat}(hN:B.w.heap.size<=N):Rel B (jB N g w) s a w:=by
 have hle:∀{n:Nat},Gh.Le n g (jB N g w):=λ{n}=>Sm
 refine { bW:=⟨h.bW.mem,h.bW.lt,h.bW.inj,h.bW.apart,λc l hc=>h.bW.dF c l (zji hc),λb hb=>Zq (h.bW.cF b hb),λb x hx=>(h.bW.ok b x hx).reset (h.bW.aA b x hx),h.bW.aA,λc hc=>?_⟩,len:=h.len,env:=λt x v hx hv=>⟨(h.env t x v hx hv).1.le hle (h.b_ t x hx),(h.env t x v hx hv).2.reset⟩,b_:=h.b_,n0:=h.n0,aS:=h.aS,cK:=h.cK,fr:=?_,gm:=h.gm,nB:=h.nB,bh:=λp hp=>?_,cY:=h.cY,defers:=λj x q hx hq=>(h.defers j x q hx hq).le hle (bV _),marks:=λd hd D hD=>?_,iD:=h.iD }
 ·obtain⟨k1,k2,k3⟩:=h.bW.laid c hc;exact⟨k1,Zq k2,k3⟩
 ·refine⟨h.fr.le.trans hle,h.fr.heap,λc hc=>?_,h.fr.M,h.fr.size,h.fr.lk,h.fr.os,h.fr.tape,h.fr.output⟩;have bu:¬N<=c:=by have:=hc.1;omega
  have:(jB N g w).own c=g.own c:=by
   unfold jB;simp only;rw[if_neg λe=>bu e.1]
  rw[this];exact h.fr.own c hc
 ·obtain⟨p1,p2,p3,p4,p5⟩:=h.bh p hp;exact⟨p1,p2.le hle p4,p3.reset,p4,p5⟩
 ·obtain⟨m0,m1,m2,m3⟩:=h.marks d hd D hD;exact⟨m0,m1,m2,Zq m3⟩
structure dS(n0 N:Nat)(g:Gh)(H:Hp):Prop where
 len:n0<=H.af.length
 new:∀(b:Nat)(x:aN),n0<=b->H.af[b]?=some x->x.isCells=true
 old:∀b,b<n0->g.br b<N
def zgz{n0:Nat}{bs:List aN}(h:jp n0 bs=true):∀(b:Nat)(x:aN),n0<=b->bs[b]?=some x->x.isCells=true:=λb x hb hx=>by
 unfold jp at h;refine Cf.1 h x ?_;have:(bs.drop n0)[b - n0]?=some x:=by rw[HN,show n0+(b - n0)=b by omega];exact hx
 exact oH this
def dS.NH{n0 N:Nat}{H:Hp}(h:dS n0 N g H){r:Nat}(hr:N<=r):∀(b:Nat)(x:aN),H.af[b]?=some x->x.NH=false->g.br b≠r:=λb x hx hc e=>by
 rcases iT b n0 with h1|h1
 ·have:=h.old b h1;omega
 ·have:=h.new b x h1 hx;cases x<;>simp[aN.NH,aN.isCells] at hc this
def zgA{eN e1:aj}{H H1:Hp}{lk c7:aC}{df dB:aV}{a a1:Act}{g':Gh}{w':aB}{n0 N:Nat}(h:Rel B g ⟨eN,H,lk,df⟩ a w)(hn:dS n0 N g H)(ho:F7 N g w)
  (h1:Rel ⟨B.d,H.af,g,w,B.bh⟩ g' ⟨e1,H1,c7,dB⟩ a1 w'):KeepsFrom N w w':=by
 refine⟨h1.fr.size,λk o hk VO hc=>?_⟩;have bu:k<w.heap.size:=(ud.1 VO).1;refine(h1.fr.heap k ⟨bu,λb hb e=>?_,.inl ?_⟩).trans VO
 ·rcases iT b n0 with h2|h2
  ·have h3:=hn.old b h2;have e':g.br b=k:=e;omega
  ·have s7:H.af[b]?=some H.af[b]:=lB hb;have gI:=hn.new b _ h2 s7;have eA:=h.bW.ok b _ s7;cases hx:H.af[b] with
   | cells cs t =>
    rw[hx] at eA;obtain⟨arr,k1,_⟩:=eA;rw[e,VO] at k1;cases k1;cases hc
   | _=>rw[hx] at gI;cases gI
 ·cases Mm:g.own k with
  | none=>rfl
  | some l =>
   obtain⟨o',k1,k2⟩:=ho k l hk Mm;rw[VO] at k1;cases k1;rw[hc] at k2;cases k2
def F7.CO{N:Nat}{w':aB}(h:F7 N g w)(hk:wB w w'):F7 N g w':=λc l hc hl=>by
 obtain⟨o,h1,h2⟩:=h c l hc hl;cases o with
 | cells cs t k=>exact⟨_,(hk c cs t k h1).trans h1,rfl⟩
 | _=>cases h2
end
section
open Go.RowKit
variable{P:aD}{B:dK}{g:Gh}{w:aB}
def aL.ow{g:Gh}{sz:Nat}{xs:aj}{o o':Own}{v:aP}(h:aL g (.sl sz xs o) v):aL g (.sl sz xs o') v:=by
 cases h with
 | sl f h1 h2 h3 h4 h5 h6=>exact .sl f h1 h2 h3 h4 h5 h6
def zel{g:Gh}{n:Nat}{w:aB}{l:Loc}{sz:Nat}{xs:aj}{o:Own}{v:aP}(h:∀e,o≠.yes e):cq g n w l (.sl sz xs o) v:=by
 cases o with
 | yes e=>exact absurd rfl (h e)
 | _=>trivial
def Rel.box{s:St}{a:Act}(h:Rel B g s a w){b:Nat}{ty:ai}{x:V}(hb:s.H.af[b]?=some (.cells [x] ty)):∃v,w.heap[g.br b]?=some (.cells #[v] ty (0,0))/\aL g x v/\NJ g b 0 x v:=by
 obtain⟨arr,h1,h2,h3⟩:=h.bW.ok b _ hb;obtain⟨v,rfl⟩:∃v,arr=#[v]:=by
  obtain⟨l⟩:=arr
  match l,h2 with
  | [v],_=>exact⟨v,rfl⟩
 obtain⟨_,k2,_,k4⟩:=h3 0 x v rfl rfl;exact⟨v,h1,k2,k4⟩
def zmE{s:St}{a:Act}(h:Rel B g s a w){b:Nat}{ty:ai}{sz:Nat}{xs:aj}(hb:s.H.af[b]?=some (.cells [.sl sz xs .no] ty)):¬HU B b 0:=λhh=>by
 obtain⟨cs,t,mj,Cj,h1,h2⟩:=h.gm b 0 hh;rw[hb] at h1;cases h1;simp at h2
def Rel.cE{s:St}{a:Act}(h:Rel B g s a w){b:Nat}{ty:ai}{sz:Nat}{xs:aj}(hb:s.H.af[b]?=some (.cells [.sl sz xs .no] ty)) :
  ∃g',Gh.Le s.H.af.length g g'/\g'.own=g.own/\(∃v,w.heap[g.br b]?=some (.cells #[v] ty (0,0))/\g'.lk b 0=v/\aL g (.sl sz xs .no) v)/\Rel B g' ⟨s.env,⟨Vm.cE b ty sz xs s.H.af,s.H.aS⟩,[],s.defers⟩ a w:=by
 obtain⟨v,hv,hr,_⟩:=h.box hb;have bu:b<s.H.af.length:=(dW.1 hb).1;have mq:¬qP s.H.af b 0:=λ⟨cs,t,mj,Cj,h1,h2⟩=>by
  rw[hb] at h1;cases h1;simp at h2
 let g':Gh:={ g with lk:=λb' o=>if b'=b/\o=0 then v else g.lk b' o }
 have hle:∀{n},Gh.Le n g g':=λ{n}=>⟨λ_ _ _ h=>h,λ_ _=>rfl,rfl,λ_ _ _ _ h=>h⟩;refine⟨g',hle,rfl,⟨v,hv,by simp[g'],hr⟩,?_⟩
 have iH:∀b',(Vm.cE b ty sz xs s.H.af)[b']?=if b=b' then some (.cells [.sl sz xs .lock] ty) else s.H.af[b']?:=λb'=>by
  unfold Vm.cE
  by_cases e:b=b'
  ·subst e;simp[bu]
  ·simp[e]
 have hlen:(Vm.cE b ty sz xs s.H.af).length=s.H.af.length:=by simp[Vm.cE]
 refine h.ij (b0:=some b) (l0:=some (.cell b 0)) (g':=g') (w':=w) (s':=⟨s.env,⟨Vm.cE b ty sz xs s.H.af,s.H.aS⟩,[],s.defers⟩)
  ⟨hle,λ_ _ _ _=>rfl,λ_ _ _=>rfl,λ_ _ _ _=>rfl,bV _,λb' o hh=>?_,λl hl=>?_,λb' e=>?_,λ_ _ _ _=>rfl,rfl,rfl,rfl⟩ (by rw[hlen];exact bV _) (λb' h1 h2=>?_) (λb' x h1 h2=>?_) (λb' h1 h2=>?_) (λb' b'' h1 h2=>?_) h.bW.mem h.bW.dF (λb' j e=>?_) rfl rfl (λt x hx=>⟨x,hx,.inl ⟨rfl,by simp⟩⟩) (λb' x hx=>?_) (λb' o hh=>?_) (λp hp=>by simp at hp) (λt e=>by simp at e)
 ·have:¬(b'=b/\o=0):=λ⟨e1,e2⟩=>hh _ rfl (by rw[e1,e2])
  simp only[g',if_neg this]
 ·cases hl;exact .inr ⟨b,0,rfl,rfl⟩
 ·cases e;exact bu
 ·show(Vm.cE b ty sz xs s.H.af)[b']?=_;rw[iH,if_neg λe=>h2 (by rw[e])]
 ·have sW:(Vm.cE b ty sz xs s.H.af)[b']?=some x:=h2;have:b'=b:=by
   rcases h1 with h1|h1
   ·cases h1;rfl
   ·have:=(dW.1 sW).1;rw[hlen] at this;omega
  subst this;rw[iH,if_pos rfl] at sW;cases sW;refine⟨⟨#[v],hv,rfl,λj y u hy hu=>?_⟩,?_⟩
  ·match j,hy,hu with
   | 0,hy,hu =>
    simp only[Ce,aO] at hy;subst hy;have:u=v:=by simpa using hu.symm
    subst this;exact⟨rfl,(hr.ow).le hle (by have:=h.bW.aA b' _ hb;simpa[aN.top,aA,V.top] using this),zel (by simp),by simp[NJ,g']⟩
   | j+1,hy,_=>simp at hy
  ·have:=h.bW.aA b' _ hb;show aN.top _<=(Vm.cE b' ty sz xs s.H.af).length;rw[hlen];simpa[aN.top,aA,V.top] using this
 ·have sW:b'<(Vm.cE b ty sz xs s.H.af).length:=h2;rw[hlen] at sW;omega
 ·intro h3 h4;have sW:b'<(Vm.cE b ty sz xs s.H.af).length:=h2;rw[hlen] at sW;omega
 ·cases e;exact mq
 ·have m_:(Vm.cE b ty sz xs s.H.af)[b']?=some x:=hx;rw[iH] at m_;split at m_
  ·rename_i e;subst e;cases m_;rcases h.aS b _ hb with k|k|⟨y,k1,k2⟩
   ·exact .inl (by simpa[aN.top,aA,V.top] using k)
   ·obtain⟨m,k1,k2⟩:=k;exact .inr (.inl ⟨m,k1,by simpa[aN.top,aA,V.top] using k2⟩)
   ·exact .inr (.inr ⟨y,k1,by simpa[aN.top,aA,V.top] using k2⟩)
  ·exact h.aS b' x m_
 ·obtain⟨cs,t,mj,Cj,k1,k2⟩:=h.gm b' o hh;refine⟨cs,t,mj,Cj,?_,k2⟩;show(Vm.cE b ty sz xs s.H.af)[b']?=_;rw[iH,if_neg λe=>?_]
  ·exact k1
  ·subst e;rw[hb] at k1;cases k1;cases o with
   | zero=>simp at k2
   | succ o=>simp at k2
def Rel.iA{s:St}{a:Act}(h:Rel B g s a w){b:Nat}{ty:ai}{sz:Nat}{xs:aj}(hb:s.H.af[b]?=some (.cells [.sl sz xs .lock] ty))(hn:¬HU B b 0) :
  Rel B g ⟨s.env,⟨s.H.af.set b (.cells [.sl sz xs .no] ty),s.H.aS⟩,[],s.defers⟩ a w:=by
 obtain⟨v,hv,hr,_⟩:=h.box hb;have bu:b<s.H.af.length:=(dW.1 hb).1;have iH:∀b',(s.H.af.set b (.cells [.sl sz xs .no] ty))[b']?=if b=b' then some (.cells [.sl sz xs .no] ty) else s.H.af[b']?:=λb'=>by
  by_cases e:b=b'
  ·subst e;simp[bu]
  ·simp[e]
 have hlen:(s.H.af.set b (.cells [.sl sz xs .no] ty)).length=s.H.af.length:=by simp
 refine h.ij (b0:=some b) (l0:=none) (g':=g) (w':=w) (s':=⟨s.env,⟨s.H.af.set b (.cells [.sl sz xs .no] ty),s.H.aS⟩,[],s.defers⟩)
  ⟨.refl _ _,λ_ _ _ _=>rfl,λ_ _ _=>rfl,λ_ _ _ _=>rfl,bV _,λb' o hh=>rfl,λl hl=>(by cases hl),λb' e=>?_,λ_ _ _ _=>rfl,rfl,rfl,rfl⟩ (by rw[hlen];exact bV _) (λb' h1 h2=>?_) (λb' x h1 h2=>?_) (λb' h1 h2=>?_) (λb' b'' h1 h2=>?_) h.bW.mem h.bW.dF (λb' j e=>(by cases e)) rfl rfl (λt x hx=>⟨x,hx,.inl ⟨rfl,by simp⟩⟩) (λb' x hx=>?_) (λb' o hh=>?_) (λp hp=>by simp at hp) (λt e=>by simp at e)
 ·cases e;exact bu
 ·show(s.H.af.set b (.cells [.sl sz xs .no] ty))[b']?=_;rw[iH,if_neg λe=>h2 (by rw[e])]
 ·have sW:(s.H.af.set b (.cells [.sl sz xs .no] ty))[b']?=some x:=h2;have:b'=b:=by
   rcases h1 with h1|h1
   ·cases h1;rfl
   ·have:=(dW.1 sW).1;rw[hlen] at this;omega
  subst this;rw[iH,if_pos rfl] at sW;cases sW;refine⟨⟨#[v],hv,rfl,λj y u hy hu=>?_⟩,?_⟩
  ·match j,hy,hu with
   | 0,hy,hu =>
    simp only[Ce,aO] at hy;subst hy;have:u=v:=by simpa using hu.symm
    subst this;exact⟨rfl,hr.ow,zel (by simp),trivial⟩
   | j+1,hy,_=>simp at hy
  ·have:=h.bW.aA b' _ hb;show aN.top _<=(s.H.af.set b' (.cells [.sl sz xs .no] ty)).length;rw[hlen];simpa[aN.top,aA,V.top] using this
 ·have sW:b'<(s.H.af.set b (.cells [.sl sz xs .no] ty)).length:=h2;rw[hlen] at sW;omega
 ·intro h3 h4;have sW:b'<(s.H.af.set b (.cells [.sl sz xs .no] ty)).length:=h2;rw[hlen] at sW;omega
 ·have m_:(s.H.af.set b (.cells [.sl sz xs .no] ty))[b']?=some x:=hx;rw[iH] at m_;split at m_
  ·rename_i e;subst e;cases m_;rcases h.aS b _ hb with k|k|⟨y,k1,k2⟩
   ·exact .inl (by simpa[aN.top,aA,V.top] using k)
   ·obtain⟨m,k1,k2⟩:=k;exact .inr (.inl ⟨m,k1,by simpa[aN.top,aA,V.top] using k2⟩)
   ·exact .inr (.inr ⟨y,k1,by simpa[aN.top,aA,V.top] using k2⟩)
  ·exact h.aS b' x m_
 ·obtain⟨cs,t,mj,Cj,k1,k2⟩:=h.gm b' o hh;refine⟨cs,t,mj,Cj,?_,k2⟩;show(s.H.af.set b (.cells [.sl sz xs .no] ty))[b']?=_;rw[iH,if_neg λe=>?_]
  ·exact k1
  ·subst e;rw[hb] at k1;cases k1;cases o with
   | zero=>exact hn hh
   | succ o=>simp at k2
end
section
open Go.RowKit
variable{P:aD}{B:dK}{g:Gh}{w:aB}
def zqF{x:V}{ag:Bool}{sz i:Nat}{f:Nat->aP}(hx:nR x=ag)(hl:x.cells.length=sz)(h1:∀(r:Nat)(y:V),x.cells[r]?=some y->y.one=true/\aL g y (f (i * sz+r))):aL g x (N4 ag sz f i):=by
 subst hx;cases x with
 | agg cs =>
  have lY:cs.length=sz:=hl;simp only[nR,N4,aT];refine .agg (by simp[lY]) (λj y hy=>(h1 j y hy).1) λj y v hy hv=>?_
  have hj:j<sz:=by rw[<- lY];exact(dW.1 hy).1
  simp only[List.getElem?_toArray,pH,List.getElem?_range hj,cA,aO] at hv;subst hv;exact(h1 j y hy).2
 | _ =>
  simp only[nR,N4,bH,aZ];have:=(h1 0 _ rfl).2
  rwa [rP] at this
def zhW{n L:Nat}:∀(l:bA)(xs:aj)(vs:dy)(env:aj)(tmps:cO),p7 g n L env tmps->(∀(j:Nat)(x:V)(v:aP),xs[j]?=some x->vs[j]?=some v->aL g x v/\x.top<=n)->xs.length=vs.length ->
  p7 g n L (G8 env l xs) ((l.zip vs).foldl (λt p=>t.setIfInBounds p.1 p.2) tmps)
 | [],xs,vs,env,tmps,h,_,_=>h
 | p::l,[],[],env,tmps,h,_,_=>h
 | p::l,[],v::vs,env,tmps,h,_,hl=>by simp at hl
 | p::l,x::xs,[],env,tmps,h,_,hl=>by simp at hl
 | p::l,x::xs,v::vs,env,tmps,h,hx,hl=>by
  have h0:=hx 0 x v rfl rfl;refine zhW l xs vs (env.set p (aX x)) (tmps.setIfInBounds p v) ?_ (λj y u hy hu=>hx (j+1) y u (by simpa using hy) (by simpa using hu)) (by simpa using hl)
  refine⟨by simp[h.len],by simp[h.L],λt y u hy hu=>?_,λt y hy=>?_,λt y hy=>?_⟩
  ·rw[AM] at hy;rw[Array.getElem?_setIfInBounds] at hu
   by_cases e:p=t
   ·subst e;simp only[aT] at hy hu;split at hy
    ·split at hu
     ·cases hy;cases hu;exact h0.1.aX
     ·cases hu
    ·cases hy
   ·simp only[e,aZ] at hy hu;exact h.rel t y u hy hu
  ·rw[AM] at hy
   by_cases e:p=t
   ·subst e;simp only[aT] at hy;split at hy
    ·cases hy;rw[dw];exact h0.2
    ·cases hy
   ·simp only[e,aZ] at hy;exact h.top t y hy
  ·rw[AM] at hy
   by_cases e:p=t
   ·subst e;simp only[aT] at hy;split at hy
    ·cases hy;exact p8 x
    ·cases hy
   ·simp only[e,aZ] at hy;exact h.aX t y hy
def zls{ag back:Bool}{sz n:Nat}{ys:aj}{f:Nat->aP}(nD:∀x∈ys,nR x=ag)(hl:∀x∈ys,x.cells.length=sz)(bX:aA ys<=n)
  (h1:∀(j:Nat)(y:V),(zL ys)[j]?=some y->y.one=true/\aL g y (f j)) {k:Nat} (hk:k<ys.length) :
  ∃xk,(jk back ys)[k]?=some xk/\xk.length=(F4 back ag sz ys.length f k).toList.length/\∀(j:Nat)(x:V)(v:aP),xk[j]?=some x->(F4 back ag sz ys.length f k).toList[j]?=some v->aL g x v/\x.top<=n:=by
 have aW:∀(i:Nat)(x:V),ys[i]?=some x->aL g x (N4 ag sz f i)/\x.top<=n:=λi x hx=>by
  have hm:=oH hx;exact⟨zqF (nD x hm) (hl x hm) λr y hy=>h1 _ y (RF hl hx r y hy),cR (zk hm) bX⟩
 cases back with
 | true =>
  have bu:ys.length - 1 - k<ys.length:=by omega
  have dO:ys[ys.length - 1 - k]?=some ys[ys.length - 1 - k]:=lB bu;refine⟨[.int .i64 ((ys.length - 1 - k:Nat):Int),ys[ys.length - 1 - k]],?_,by simp[F4],λj x v hx hv=>?_⟩
  ·simp only[jk,aT];rw[pH,List.getElem?_range hk,cA,zf,dO];rfl
  ·simp only[F4,aT] at hv
   match j,hx,hv with
   | 0,hx,hv =>
    simp at hx hv;subst hx hv;exact⟨.int _ _,dJ _⟩
   | 1,hx,hv =>
    simp at hx hv;subst hx hv;exact aW _ _ dO
   | j+2,hx,_=>simp at hx
 | false =>
  have dO:ys[k]?=some ys[k]:=lB hk;refine⟨[ys[k]],?_,by simp[F4],λj x v hx hv=>?_⟩
  ·simp only[jk,bH,aZ];rw[pH,dO];rfl
  ·simp only[F4,bH,aZ] at hv
   match j,hx,hv with
   | 0,hx,hv =>
    simp at hx hv;subst hx hv;exact aW _ _ dO
   | j+1,hx,_=>simp at hx
def zhX{back:Bool}{ys:aj}:(jk back ys).length=ys.length:=by
 cases back<;>simp[jk]
def zs0(H:Hp)(b:Nat)(ty:ai)(sz:Nat)(ag:Bool):Option (Nat×aj)->Prop
 | none=>H.get b=some (.cells [.aU] ty)
 | some (mj,ys)=>H.get b=some (.cells [.sl mj ys .no] ty)/\mj=sz/\(∀x∈ys,nR x=ag)/\ys.length<=140737488355328
def zoK{cx:Cx}{fv:V}{H:Hp}{b:Nat}{ty:ai}{lv:Option (Nat×aj)}{back:Bool}(h:cx.DN fv H=some (b,ty,lv,back)) :
  ∃gf e sz ag,fv=.fn (.func gf) [] [.ptr b 0]/\cx.P.underlying ty=some (.slice e)/\z9 cx.P e=some sz/\jI cx.P e=some ag/\0<sz/\(show Nat from ty)<1048576/\cx.uq (yr gf back ty)=true /\
   zs0 H b ty sz ag lv:=by
 unfold Cx.DN at h;split at h<;>try (cases h;done)
 rename_i gf b';generalize hb:H.get b'=ob at h;split at h<;>try (cases h;done)
 rename_i x Hh;generalize hu:cx.P.underlying Hh=ou at h;split at h<;>try (cases h;done)
 rename_i e;generalize hs:z9 cx.P e=os at h;generalize ha:jI cx.P e=oa at h;split at h<;>try (cases h;done)
 rename_i sz ag;simp only at h;split at h<;>try (cases h;done)
 rename_i hc;have fR:0<sz:=by
  rcases NB sz with e|e
  ·subst e;simp at hc
  ·exact e
 have J':(show Nat from Hh)<1048576:=by
  cases hb:Nat.blt Hh 1048576 with
  | true=>exact pO hb
  | false=>rw[hb] at hc;simp at hc
 have K8:cx.uq (yr gf (cx.uq (yr gf true Hh)) Hh)=true:=by
  cases hk:cx.uq (yr gf true Hh) with
  | true=>exact hk
  | false =>
   cases fB:cx.uq (yr gf false Hh) with
   | true=>rfl
   | false=>rw[hk,fB] at hc;simp at hc
 split at h<;>try (cases h;done)
 ·simp only[aO,bP] at h;obtain⟨rfl,rfl,rfl,rfl⟩:=h;exact⟨gf,e,sz,ag,rfl,hu,hs,ha,fR,J',K8,hb⟩
 ·rename_i mj xs;split at h<;>try (cases h;done)
  rename_i lX;simp only[aO,bP] at h;obtain⟨rfl,rfl,rfl,rfl⟩:=h;simp only[bN] at lX;obtain⟨⟨c1,c2⟩,c3⟩:=lX;refine⟨gf,e,sz,ag,rfl,hu,hs,ha,fR,J',K8,hb,(eT c1).symm,λx hx=>?_,pO c3⟩;have:=Cf.1 c2 x hx;exact beq_iff_eq.1 this
end
section
open Go.RowKit
variable{P:aD}{B:dK}{g:Gh}{w:aB}
def Rel.K9{eN:aj}{H:Hp}{lk:aC}{df:aV}{a:Act}(h:Rel B g ⟨eN,H,lk,df⟩ a w){D:Nat}(hD:w.heap[D]?=some (.deferred (some [])))(h0:B.w.heap.size<=D)(hb:∀b,b<H.af.length->g.br b≠D)(ho:g.own D=none)
  (hd:∀d∈a.defers,∀D',d.target=.collected D'->D'≠D):Rel B g ⟨eN,H,[],(.dx,[])::df⟩ { a with defers:={ target:=.collected D,args:=#[] }::a.defers } w:=by
 refine { bW:=h.bW,len:=h.len,env:=h.env,b_:=h.b_,n0:=h.n0,aS:=h.aS,cK:=h.cK,fr:=h.fr,gm:=h.gm,nB:=λ_ hp=>by simp at hp,bh:=h.bh,cY:=by simp[h.cY],defers:=λj x q hx hq=>?_,marks:=λd Zs D' Qi=>?_,iD:=.cons (λd' sA D' e=>?_) h.iD }
 ·cases j with
  | zero =>
   simp only[Ce,aO] at hx hq;subst hx hq;exact .inr ⟨rfl,D,rfl⟩
  | succ j=>exact h.defers j x q (by simpa using hx) (by simpa using hq)
 ·rcases cS.1 Zs with e|Zs
  ·subst e;cases Qi;exact⟨h0,hD,hb,ho⟩
  ·exact h.marks d Zs D' Qi
 ·cases e;intro e;exact hd d' sA D e rfl
structure RS(B:dK)(g2:Gh)(n0 N:Nat)(eN:aj)(df:aV)(a:Act)(b:Nat)(lc:Bool)(v:aP)(gi:Gh)(Hi:Hp)(W:aB):Prop where
 rel:Rel B gi ⟨eN,Hi,[],df⟩ a W
 own:F7 N gi W
 new:dS n0 N gi Hi
 le:Gh.Le n0 g2 gi
 lk:lc=true->gi.lk b 0=v/\qP Hi.af b 0
variable{g2 gi:Gh}{n0 N b:Nat}{eN:aj}{df:aV}{a:Act}{lc:Bool}{v:aP}{Hi:Hp}{W W':aB}
def RS.CO(h:RS B g2 n0 N eN df a b lc v gi Hi W)(hN:B.w.heap.size<=N)(hm:∀d∈a.defers,∀D,d.target=.collected D->D<N){row:Option Nat}(hg:W.grownBy W' row)(hr:∀r,row=some r->N<=r/\∃o:Obj,W.heap[r]?=some o/\o.isCells=false) :
  RS B g2 n0 N eN df a b lc v gi Hi W' :=
 ⟨h.rel.CO hg λr e=>⟨cR hN (hr r e).1,(hr r e).2,h.new.NH (hr r e).1,λd hd D hD e'=>by
   have:=hm d hd D hD;have:=(hr r e).1
   omega⟩,h.own.CO (Zb hg λr e=>(hr r e).2),h.new,h.le,h.lk⟩
def RS.round(h:RS B g2 n0 N eN df a b lc v gi Hi W)(hN:B.w.heap.size<=N)(hc:∀(t:Nat)(x:V),eN[t]?=some x->aX x=x){g':Gh}{e1:aj}{H1:Hp}{c7:aC}{dB:aV}{a1:Act}
  (h1:Rel ⟨B.d,Hi.af,gi,W,B.bh⟩ g' ⟨e1,H1,c7,dB⟩ a1 W') (hn:jp n0 H1.af=true):RS B g2 n0 N eN df a b lc v (jB N g' W') ⟨H1.af,H1.aS++Hi.aS⟩ W'/\KeepsFrom N W W':=by
 have hlen:Hi.af.length<=H1.af.length:=h1.n0;have hle:Gh.Le n0 gi g':=h1.fr.le.mono h.new.len;refine⟨⟨(h.rel.leave hc h1).reset hN,Zr,⟨cR h.new.len hlen,zgz hn,λb hb=>?_⟩,(h.le.trans hle).trans Sm,λhl=>?_⟩,zgA h.rel h.new h.own h1⟩
 ·show g'.br b<N;rw[hle.br b hb];exact h.new.old b hb
 ·obtain⟨k1,k2⟩:=h.lk hl;have k3:g'.lk b 0=gi.lk b 0:=h1.fr.lk b 0 k2;exact⟨k3.trans k1,h1.gm b 0 (.inl k2)⟩
def RS.box(h:RS B g2 n0 N eN df a b true v gi Hi W)(hb:b<n0):W.cell? ⟨g2.br b,0,none⟩=some v:=by
 obtain⟨k1,cs,t,sz,xs,k2,k3⟩:=h.lk rfl;obtain⟨arr,m1,m2,m3⟩:=h.rel.bW.ok b _ k2;have bu:0<arr.size:=by rw[<- m2];exact(dW.1 k3).1
 have k_:arr[0]?=some arr[0]:=HI bu;obtain⟨_,_,_,m4⟩:=m3 0 _ _ k3 k_;have hv:arr[0]=v:=by
  have:arr[0]=gi.lk b 0:=m4;rw[this,k1]
 rw[<- h.le.br b hb];simp[World.cell?,m1,k_,hv]
def RS.marked(h:RS B g2 n0 N eN df a b lc v gi Hi W)(hN:B.w.heap.size<=N)(hm:∀d∈a.defers,∀D,d.target=.collected D->D<N){H':Hp}(fF:Rel B gi ⟨eN,H',[],df⟩ a W)(hl:H'.af.length=Hi.af.length){D:Nat}(hD:W.heap[D]?=some (.deferred (some [])))(Qk:N<=D) :
  Rel B gi ⟨eN,H',[],(.dx,[])::df⟩ { a with defers:={ target:=.collected D,args:=#[] }::a.defers } W:=by
 refine fF.K9 hD (cR hN Qk) (λb' bY e=>?_) ?_ (λd hd D' Qi e=>?_)
 ·rcases iT b' n0 with h2|h2
  ·have:=h.new.old b' h2;omega
  ·rw[hl] at bY;have s7:Hi.af[b']?=some Hi.af[b']:=lB bY;have gI:=h.new.new b' _ h2 s7;have eA:=h.rel.bW.ok b' _ s7;cases hx:Hi.af[b'] with
   | cells cs t =>
    rw[hx] at eA;obtain⟨arr,k1,_⟩:=eA;rw[e,hD] at k1;cases k1
   | _=>rw[hx] at gI;cases gI
 ·cases Mm:gi.own D with
  | none=>rfl
  | some l =>
   obtain⟨o',k1,k2⟩:=h.own D l Qk Mm;rw[hD] at k1;cases k1;cases k2
 ·have:=hm d hd D' Qi;omega
end
section
open Go.RowKit
variable{P:aD}{B:dK}{g:Gh}{w:aB}
def zmF{ps:Array Tmp}{vs tmps:cO}:(ps.zip vs).foldl (λt (p,v)=>t.setIfInBounds p v) tmps=(ps.toList.zip vs.toList).foldl (λt p=>t.setIfInBounds p.1 p.2) tmps:=by
 rw[<- Array.foldl_toList,Array.toList_zip]
def A0:∀(l:bA)(xs:aj)(env:aj),(G8 env l xs).length=env.length
 | [],xs,env=>rfl
 | p::l,[],env=>rfl
 | p::l,x::xs,env=>by
  have:=A0 l xs (env.set p (aX x));rw[cI] at this;exact this
def zhY(iJ:P.follows .mixedOrders=true){cx:Cx}(mu:pY P cx B){n:Nat}{f:aH}{ps:Array Tmp}{as bd:Code}{ex:Ex}{s':St}{a:Act}{g2:Gh}{n0 b:Nat}{eN:aj}{df:aV}{lc:Bool}{v:aP}{H0 H':Hp}{gf sz cap c o:Nat}{back ag:Bool}{ys:aj}{aa:Option Addr}{fM:Nat->aP}
  (hN:B.w.heap.size<=w.heap.size) (hm:∀d∈a.defers,∀D,d.target=.collected D->D<w.heap.size) (Bx:∀(t:Nat)(x:V),eN[t]?=some x->aX x=x)
  (Oe:RS B g2 n0 w.heap.size eN df a b lc v g2 H0 w) (G_:∀p∈B.bh,eN.length<p.t) (Ai:b<n0) (Ak:0<ys.length->lc=true) (hv:v=.slice aa ys.length cap) (VP:calm as=true) (Ql:calm bd=true) (K_:ps.size=if back then 2 else 1)
  (hg:a.eval f=.func (.func gf) #[] #[.pointer (some ⟨g2.br b,0,none⟩)]) (VQ:∀args w,(callFunc gf args).run P w=.ok (.enter gf args) w)
  (nD:∀x∈ys,nR x=ag) (hlen:∀x∈ys,x.cells.length=sz) (bX:aA ys<=n0) (nT:∀(j:Nat)(y:V),(zL ys)[j]?=some y->y.one=true/\g2.M c (o+j)=some (fM j)/\aL g2 y (fM j)) (Zt:∀(j:Nat)(y:V),(zL ys)[j]?=some y->y.top<=n0)
  (DT:∀C:Addr->aP->Prop,C ⟨g2.br b,0,none⟩ v->(∀j,j<ys.length * sz->C ⟨c,o+j,none⟩ (fM j))->Zd P gf #[.pointer (some ⟨g2.br b,0,none⟩)] (F4 back ag sz ys.length fM) ys.length (Vy C) w)
  (Hj:yu (λx bs=>cx.code n as ⟨G8 eN ps.toList x,⟨bs,[]⟩,[],[]⟩) (λe bs=>cx.code n bd ⟨e,⟨bs,[]⟩,[],[]⟩) (jp n0) (jk back ys) H0=some (ex,H'))
  (D5:∀(gi:Gh)(W:aB)(D:Nat),RS B g2 n0 w.heap.size eN df a b lc v gi H' W->W.heap[D]?=some (.deferred (some []))->w.heap.size<=D->∃g,Rel B g s' { a with defers:={ target:=.collected D,args:=#[] }::a.defers } W) :
  (Code.rangeFunc f ps as bd).wpIn Fence.wide 3 P (yB B ex s') a w:=by
 generalize Zu:(λx bs=>cx.code n as ⟨G8 eN ps.toList x,⟨bs,[]⟩,[],[]⟩)=Mj at Hj;generalize Of:(λe bs=>cx.code n bd ⟨e,⟨bs,[]⟩,[],[]⟩)=Zv at Hj
 let C:Addr->aP->Prop:=λad u=>(ad=⟨g2.br b,0,none⟩/\u=v)\/∃j,j<ys.length * sz/\ad=⟨c,o+j,none⟩/\u=fM j
 have Sn:(zL ys).length=ys.length * sz:=qd hlen;have hC:∀gi Hi W,RS B g2 n0 w.heap.size eN df a b lc v gi Hi W->0<ys.length->∀ad u,C ad u->W.cell? ad=some u:=λgi Hi W hS iq ad u Ia=>by
  rcases Ia with⟨rfl,rfl⟩|⟨j,hj,rfl,rfl⟩
  ·have:=Ak iq;subst this;exact hS.box Ai
  ·have hy:(zL ys)[j]?=some (zL ys)[j]:=lB (by rw[Sn];exact hj)
   exact hS.rel.bW.mem _ _ _ (hS.le.M _ _ _ (nT j _ hy).2.1)
 have La:∀gi Hi W,RS B g2 n0 w.heap.size eN df a b lc v gi Hi W->pY P cx ⟨B.d,Hi.af,gi,W,B.bh⟩:=λgi Hi W hS=>⟨mu.prog,mu.num,mu.YX,mu.gl.le hS.rel.fr.le,mu.calls⟩
 refine zlr (w0:=w) (len:=ys.length) hg VQ (DT C (.inl ⟨rfl,rfl⟩) λj hj=>.inr ⟨j,hj,rfl,rfl⟩) (Below.refl _ _) (λk=>?_) (λh1 h2 ad u Ia hx=>h2 ad u Ia (h1 ad u Ia hx)) (λW l ob ob' hl tI hnc _ ad u _ hx=>?_)
  (λk W=>k<=ys.length/\∃gi Hi,RS B g2 n0 w.heap.size eN df a b lc v gi Hi W/\yu Mj Zv (jp n0) ((jk back ys).drop k) Hi=some (ex,H'))
  (λcd W=>∃gi,RS B g2 n0 w.heap.size eN df a b lc v gi H' W/\((cd=.ret/\ex=.ret)\/∃i,cd=.exit i/\ex=.exit i))
  (λk a' W=>∃gi iU AN e1,RS B g2 n0 w.heap.size eN df a b lc v gi ⟨iU,AN⟩ W/\p7 gi iU.length e1.length e1 a'.tmps/\a'.defers=[]/\(∀p∈B.bh,e1.length<p.t) /\
   (match Zv e1 iU with
    | some (.normal,⟨_,⟨j_,nS⟩,_,[]⟩)=>if !jp n0 j_ then none else yu Mj Zv (jp n0) ((jk back ys).drop (k+1)) ⟨j_,nS++AN⟩
    | some (.ret,⟨_,⟨j_,nS⟩,_,[]⟩)=>if !jp n0 j_ then none else some (.ret,⟨j_,nS++AN⟩)
    | some (.exit i,⟨_,⟨j_,nS⟩,_,[]⟩)=>if !jp n0 j_ then none else some (.exit i,⟨j_,nS++AN⟩)
    | _=>none)=some (ex,H'))
  (λk W W' row hI Sq hr=>⟨hI.1,hI.2.elim λgi h=>h.elim λHi h=>⟨gi,Hi,h.1.CO hN hm Sq hr,h.2⟩⟩)
  (λcd W W' row hI Sq hr=>hI.elim λgi h=>⟨gi,h.1.CO hN hm Sq hr,h.2⟩)
  (λk a' _ W W' row hI Sq hr=>by
   obtain⟨gi,iU,AN,e1,q1,q2⟩:=hI
   exact⟨gi,iU,AN,e1,q1.CO hN hm Sq hr,q2⟩)
  ⟨dJ _,g2,H0,Oe,Hj⟩ ?_ ?_ ?_ ?_
 ·cases back<;>simp[F4,K_]
 ·exact zeh (Zb (grownBy_putObj' W l ob') λr e=>by cases e;exact⟨ob,tI,hnc⟩) hx
 ·
  rintro l k W K hk ⟨_,gi,⟨Zw,esi⟩,hS,hr⟩ hK;have r_:n0<=Zw.length:=hS.new.len;obtain⟨xk,x1,x2,x3⟩:=zls (g:=gi) (back:=back) (n:=Zw.length) nD hlen (cR bX r_) (λj y hy=>⟨(nT j y hy).1,((nT j y hy).2.2).le hS.le (Zt j y hy)⟩) hk;have Fk:(jk back ys).drop k=xk::(jk back ys).drop (k+1):=by
   obtain⟨bu,hx⟩:=dW.1 x1;rw[J6 bu,hx]
  rw[Fk] at hr;simp only[yu] at hr;split at hr<;>try (cases hr;done)
  rename_i e iU AN c7 Ki;split at hr<;>try (cases hr;done)
  rename_i eA;rw[dN] at hr;rw[<- Zu] at Ki;simp only at Ki;have hE0:p7 gi Zw.length eN.length eN a.tmps:=⟨hS.rel.len,rfl,λt x u hx hu=>(hS.rel.env t x u hx hu).1,hS.rel.b_,Bx⟩;have hE:=zhW ps.toList xk (F4 back ag sz ys.length fM k).toList eN a.tmps hE0 x3 x2;have o6:(G8 eN ps.toList xk).length=eN.length:=A0 _ _ _;rw[zmF]
  have hR:=hS.rel.enter (by rw[o6];exact hE) (λp hp=>by rw[o6];exact G_ p hp)
  refine Go.wpIn_mono (VL iJ (La _ _ _ hS) n as _ _ _ gi _ W VP Ki hR) ?_;rintro e' a' W' ⟨g',q1,q2⟩;cases e'<;>first|(exact q2.elim)|skip
  obtain⟨r1,r2⟩:=hS.round hN Bx q1 (by simpa using eA)
  have iq:0<ys.length:=by omega
  refine hK a' W' r2 (λad u Ia _=>hC _ _ _ r1 iq ad u Ia) ⟨_,iU,AN++esi,e.map aX,r1,?_,Md.1 (by rw[<- q1.cY];rfl),λp hp=>?_,hr⟩
  ·have:=q1.Is.le (g':=jB w.heap.size g' W') (n':=iU.length) Sm (bV _);rw[oO];exact this
  ·rw[oO];exact(q1.bh p hp).1
 ·
  rintro l k ⟨tm,dfr⟩ W hk ⟨gi,iU,AN,e1,hS,hE,hd,Zx,hr⟩;simp only at hd hE;subst hd;have iq:0<ys.length:=by omega
  have hR:=hS.rel.enter hE Zx;split at hr<;>try (cases hr;done)
  ·rename_i e2 j_ nS lV hb;split at hr<;>try (cases hr;done)
   rename_i eA;rw[<- Of] at hb;simp only at hb;refine Go.wpIn_mono (VL iJ (La _ _ _ hS) n bd _ _ _ gi _ W Ql hb hR) ?_;rintro e' a' W' ⟨g',q1,q2⟩;cases e'<;>first|(exact q2.elim)|skip
   obtain⟨r1,r2⟩:=hS.round hN Bx q1 (by simpa using eA)
   exact⟨r2,λad u Ia _=>hC _ _ _ r1 iq ad u Ia,by omega,_,_,r1,hr⟩
  ·rename_i e2 j_ nS lV hb;split at hr<;>try (cases hr;done)
   rename_i eA;rw[<- Of] at hb;simp only at hb;simp only[aO,bP] at hr;obtain⟨rfl,rfl⟩:=hr;refine Go.wpIn_mono (VL iJ (La _ _ _ hS) n bd _ _ _ gi _ W Ql hb hR) ?_;rintro e' a' W' ⟨g',q1,q2⟩;cases e'<;>first|(exact q2.elim)|skip
   obtain⟨r1,r2⟩:=hS.round hN Bx q1 (by simpa using eA)
   exact⟨r2,_,r1,.inl ⟨rfl,rfl⟩⟩
  ·rename_i i e2 j_ nS lV hb;split at hr<;>try (cases hr;done)
   rename_i eA;rw[<- Of] at hb;simp only at hb;simp only[aO,bP] at hr;obtain⟨rfl,rfl⟩:=hr;refine Go.wpIn_mono (VL iJ (La _ _ _ hS) n bd _ _ _ gi _ W Ql hb hR) ?_;rintro e' a' W' ⟨g',q1,q2⟩;cases e'<;>first|(exact q2.elim)|skip
   rename_i j;have:i=j:=q2;subst this;obtain⟨r1,r2⟩:=hS.round hN Bx q1 (by simpa using eA)
   exact⟨r2,_,r1,.inr ⟨i,rfl,rfl⟩⟩
 ·rintro D W hD ⟨_,gi,Hi,hS,hr⟩ hW;rw[List.drop_of_length_le (by rw[zhX];exact bV _)] at hr
  simp only[yu,aO,bP] at hr;obtain⟨rfl,rfl⟩:=hr;obtain⟨g,fF⟩:=D5 gi W D hS hW hD;exact⟨g,fF,trivial⟩
 ·rintro D cd W hD ⟨gi,hS,o_⟩ hW;obtain⟨g,fF⟩:=D5 gi W D hS hW hD;rcases o_ with⟨rfl,rfl⟩|⟨i,rfl,rfl⟩
  ·exact wpIn_ret ⟨g,fF,trivial⟩
  ·exact wpIn_exit ⟨g,fF,rfl⟩
end
section
open Go.RowKit
variable{P:aD}{B:dK}{g:Gh}{w:aB}
def zhZ{b:Nat}{v:aP}{ty:ai}(h:w.heap[b]?=some (.cells #[v] ty (0,0))):w.cell? ⟨b,0,none⟩=some v:=by
 simp[World.cell?,h]
def zjj(iJ:P.follows .mixedOrders=true){cx:Cx}(DT:R8 P cx.uq):Qg P cx B:=by
 intro mu n f ps as bd s s' ex g a w hc h;obtain⟨env,⟨bs,es⟩,lk,df⟩:=s;simp only[Cx.code] at hc;split at hc<;>try (cases hc;done)
 rename_i fv hp;split at hc<;>try (cases hc;done)
 rename_i b ty lv back hio;cases hx:(calm as && calm bd && Nat.beq ps.size (if back then 2 else 1)) with
 | false=>simp only[hx,Dr,aT,reduceCtorEq] at hc
 | true =>
 simp only[hx,pI,bH,aZ] at hc;rw[dN] at hc;obtain⟨gf,e,sz,ag,rfl,hu,hs,ha,fR,J',K8,Og⟩:=zoK hio;rw[mu.prog] at hu hs ha;obtain⟨VQ,Mx⟩:=DT gf back ty J' K8;simp only[bN] at hx;obtain⟨⟨VP,Ql⟩,hpz⟩:=hx;have K_:ps.size=if back then 2 else 1:=eT hpz
 have hcf:a.eval f=.func (.func gf) #[] #[.pointer (some ⟨g.br b,0,none⟩)]:=by
  have hrf:=(zD h hp).1;generalize a.eval f=cf at hrf;cases hrf with
  | fn e1 e2 e3 e4 =>
   rename_i fa fc;have h1:fa=#[]:=Array.eq_empty_of_size_eq_zero e1.symm;obtain⟨u,rfl⟩:∃u,fc=#[u]:=by
    obtain⟨l⟩:=fc
    match l,e2 with
    | [u],_=>exact⟨u,rfl⟩
   have hp:=e4 0 _ u rfl rfl;cases hp;rw[h1]
 have hN:B.w.heap.size<=w.heap.size:=h.fr.size;have hm:∀d∈a.defers,∀D,d.target=.collected D->D<w.heap.size:=λd hd D hD=>(ud.1 (h.marks d hd D hD).2.1).1;have gI:=h.Od;have Bx:∀(t:Nat)(x:V),(env.map aX)[t]?=some x->aX x=x:=h.Is.aX;have G_:∀p∈B.bh,(env.map aX).length<p.t:=λp hp=>(gI.bh p hp).1;rw[<- wpIn_wide (n:=3)];cases lv with
 | none =>
  simp only[aO,bP] at hc;obtain⟨rfl,rfl⟩:=hc;have s7:bs[b]?=some (.cells [.aU] ty):=by
   have:nth bs b=some (.cells [.aU] ty):=Og
   rwa [zf] at this
  have lU:b<bs.length:=(dW.1 s7).1;obtain⟨v,hv,hr,_⟩:=gI.box s7;cases hr;have Oe:RS B (jB w.heap.size g w) bs.length w.heap.size (env.map aX) df a b false (.slice none 0 0) (jB w.heap.size g w) ⟨bs,es⟩ w :=
   ⟨gI.reset hN,Zr,⟨bV _,λb' x h1 h2=>by have:=(dW.1 h2).1;simp only at this;omega,λb' bY=>h.bW.lt b' bY⟩,.refl _ _,λe=>by cases e⟩
  refine zhY (n:=n) (ys:=[]) (aa:=none) (cap:=0) (c:=0) (o:=0) (sz:=sz) (ag:=ag) (back:=back) (fM:=λ_=>undef) iJ mu hN hm Bx Oe G_ lU (λh=>by simp at h) rfl VP Ql K_ hcf VQ (λx hx=>by cases hx) (λx hx=>by cases hx) (dJ _) (λj y hy=>by simp[zL] at hy) (λj y hy=>by simp[zL] at hy) (λC c1 c2=>?_) ?_ (λgi W D hS hD Qk=>⟨gi,hS.marked hN hm hS.rel rfl hD Qk⟩)
  ·exact Mx e sz ag hu hs ha fR w (g.br b) none 0 0 0 0 (λ_=>undef) C (h.bW.lt b lU) (λh=>by simp at h) (zhZ hv) (λh=>by simp at h) (λj hj=>by simp at hj) c1 (λj hj=>by simp at hj) (by omega)
  ·cases back<;>rfl
 | some p =>
  obtain⟨mj,ys⟩:=p;obtain⟨pg,rfl,nD,hyl⟩:=Og;have s7:bs[b]?=some (.cells [.sl mj ys .no] ty):=by
   have:nth bs b=some (.cells [.sl mj ys .no] ty):=pg
   rwa [zf] at this
  have lU:b<bs.length:=(dW.1 s7).1;simp only at hc;split at hc<;>try (cases hc;done)
  rename_i ex1 H1 Hj;split at hc<;>try (cases hc;done)
  rename_i H2 ey;simp only[aO,bP] at hc;obtain⟨rfl,rfl⟩:=hc;have hnh:¬HU B b 0:=zmE gI s7;obtain⟨g1,DQ,ae7,⟨v,hv,Zy,hrv⟩,Sr⟩:=gI.cE s7;have pT:aA ys<=bs.length:=by
   have:=h.bW.aA b _ s7;simpa[aN.top,aA,V.top] using this
  cases hrv with
  | sl fM k1 k2 k3 k4 k5 k6 =>
  rename_i aa cap c o;have KO:(cE b ty mj ys bs).length=bs.length:=by simp[cE]
  have Oe:RS B (jB w.heap.size g1 w) bs.length w.heap.size (env.map aX) df a b true (.slice aa ys.length cap) (jB w.heap.size g1 w) ⟨cE b ty mj ys bs,es⟩ w:=by
   refine⟨Sr.reset hN,Zr,⟨by simp only[KO];exact bV _,λb' x h1 h2=>?_,λb' bY=>?_⟩,.refl _ _,λ_=>⟨Zy,?_⟩⟩
   ·have:=(dW.1 h2).1;simp only[KO] at this;omega
   ·show g1.br b'<_;rw[DQ.br b' bY];exact h.bW.lt b' bY
   ·refine⟨[.sl mj ys .lock],ty,mj,ys,?_,rfl⟩;show(cE b ty mj ys bs)[b]?=_;simp[cE,lU]
  have m9:(jB w.heap.size g1 w).br b=g.br b:=DQ.br b lU;have Qm:∀(j:Nat)(y:V),(zL ys)[j]?=some y->y.top<=bs.length:=λj y hy=>by
   obtain⟨x,hx,Zz⟩:=List.mem_flatMap.1 (oH hy);refine cR ?_ (cR (zk hx) pT);cases x<;>simp only[V.cells,HM] at Zz<;>first|(subst Zz;exact bV _)|exact zk Zz
  refine zhY (ys:=ys) (aa:=aa) (cap:=cap) (c:=c) (o:=o) (sz:=mj) (ag:=ag) (back:=back) (fM:=fM) iJ mu hN hm Bx Oe G_ lU (λ_=>rfl) rfl VP Ql K_ (by rw[m9];exact hcf) VQ nD k1 pT (λj y hy=>⟨k4 j y hy,DQ.M _ _ _ (k5 j y hy),(k6 j y hy).le (DQ.trans Sm) (Qm j y hy)⟩) Qm (λC c1 c2=>?_) Hj (λgi W D hS hD Qk=>?_)
  ·rw[m9] at c1 ⊢;have nT:=qd k1;refine Mx e mj ag hu hs ha fR w (g.br b) aa ys.length cap c o fM C (h.bW.lt b lU) (λiq=>?_) (zhZ hv) (λiq=>k3 (NA.1 iq)) (λj hj=>?_) c1 c2 hyl
   ·have h0:0<(zL ys).length:=by rw[nT];exact Nat.mul_pos iq fR
    have ZA:(zL ys)[0]?=some (zL ys)[0]:=lB h0;obtain⟨ob,m1,_⟩:=cells_of_cell (h.bW.mem _ _ _ (k5 0 _ ZA));exact(ud.1 m1).1
   ·have ZA:(zL ys)[j]?=some (zL ys)[j]:=lB (by rw[nT];exact hj)
    exact h.bW.mem _ _ _ (k5 j _ ZA)
  ·unfold iA at ey;split at ey<;>try (cases ey;done)
   rename_i sz2 xs2 ty2 G9;rw[zf] at G9;simp only[aO] at ey;subst ey;have Ss:=hS.rel.iA G9 hnh;exact⟨gi,hS.marked hN hm Ss (by simp) hD Qk⟩
end
section
variable{P:aD}
def wD{gl:Gl}(iJ:P.follows .mixedOrders=true)(gx:yQ P)(eB:wQ P)(Fh:nW P gl)(n:Nat):xQ P gl (zl P gl n) (2 * n) :=
 zhN gx eB Fh (λ_ _=>⟨zoH iJ,zjj iJ Fh.it⟩) n
end
section
open Go.ChangeShapes Go.WideShapes Go.ChangeAt Go.RowKit
def xR(W:aB):Gh :=
 {M:=λc o=>W.cell? ⟨c,o,none⟩,br:=λ_=>0,own:=λ_=>none,lk:=λ_ _=>undef,fD:=λ_ _=>none,
  obj:=⟨λk=>match W.cell? ⟨k,0,none⟩ with|some (.iface _ (.pointer (some a)))=>a|_=>⟨0,0,none⟩,λc=>∃cs t,W.heap[c]?=some (.cells cs t (0,0))⟩ }
def zmG(W:aB):m8 (xR W) [] W :=
 {mem:=λ_ _ _ h=>h,lt:=λb h=>by simp at h,inj:=λb _ h=>by simp at h,apart:=λb h=>by simp at h,dF:=(λc l h=>by cases h),cF:=λb h=>by simp at h,
  ok:=λb x h=>by simp at h,aA:=λb x h=>by simp at h,laid:=λc hc=>⟨hc,rfl,λb hb=>by simp at hb⟩ }
def Lb(U:ai)(ks:aR):Nat->Nat->bS:=λg o=>if Nat.beq o 0 && ks.any (Nat.beq g) then some (.bf U (.obj g)) else none
structure Iu(U:ai)(W:aB)(ks:aR):Prop where
 at_:∀k∈ks,∃a,W.cell? ⟨k,0,none⟩=some (.iface U (.pointer (some a)))/\∃cs t,W.heap[a.block]?=some (.cells cs t (0,0))
 two:∀k∈ks,∀k'∈ks,∀a,W.cell? ⟨k,0,none⟩=some (.iface U (.pointer (some a)))->W.cell? ⟨k',0,none⟩=some (.iface U (.pointer (some a)))->k=k'
def ZB{U:ai}{ks:aR}{k off:Nat}{v:V}(hv:Lb U ks k off=some v):k∈ks/\off=0/\v=.bf U (.obj k):=by
 unfold Lb at hv;split at hv<;>simp only[aO,reduceCtorEq] at hv;rename_i hb;rw[bN] at hb;obtain⟨x,hx,hkx⟩:=List.any_eq_true.1 hb.2;have e2:=eT hkx;subst e2;exact⟨hx,eT hb.1,hv.symm⟩
def VR{U:ai}{W:aB}{k:Nat}{a:Addr}(ha:W.cell? ⟨k,0,none⟩=some (.iface U (.pointer (some a)))):(xR W).obj k=a:=by simp only[xR,ha]
def zoL{P:aD}{U:ai}{ks:aR}{W:aB}(h:Iu U W ks):gv P (Lb U ks) (xR W):=by
 refine⟨?_,λk u j hv=>?_⟩
 rotate_left
 ·obtain⟨hk,_,e⟩:=ZB hv;cases e;obtain⟨a,ha,hc⟩:=h.at_ _ hk;refine⟨by rw[VR ha];exact hc,λk' u' j' cP e=>?_⟩
  obtain⟨Ds,_,e'⟩:=ZB cP;cases e';obtain⟨a',p6,_⟩:=h.at_ _ Ds;rw[VR ha,VR p6] at e;subst e;exact h.two _ hk _ Ds _ ha p6
 intro k off v hv;obtain⟨hk,rfl,rfl⟩:=ZB hv;obtain⟨a,ha,_⟩:=h.at_ _ hk;refine⟨_,ha,.bf ?_,rfl⟩;rw[<- VR ha];exact .obj k
def zlt{P:aD}{gl:Gl}(iJ:P.follows .mixedOrders=true)(gx:yQ P)(eB:wQ P)(Fh:nW P gl){n:Nat}{f:FuncId}{args:aj}{aM:cO}{W:aB}{H':Hp}
  (hc:zl P gl n f args ⟨[],[]⟩=some (.ret (.bool true),H')) (cU:gv P gl (xR W)) (ha:dG (xR W) 0 args aM):Calls P f aM W λe W'=>e=.returned (.bool true)/\Below W.heap.size W W':=by
 refine Calls.mono (wD iJ gx eB Fh n f args ⟨[],[]⟩ _ _ hc (xR W) W aM .ret cU (zmG W) ha) λe W' he=>?_;cases e with
 | returned cv =>
  obtain⟨v,g',h1,h2,h3,_,_⟩:=he;cases h1;cases h3;exact⟨rfl,h2.fr.os,h2.fr.tape,h2.fr.output,h2.fr.size,λc lX=>h2.fr.heap c ⟨lX,λb hb=>by simp at hb,.inl rfl⟩⟩
 | panicked chain =>
  obtain⟨v,cv,g',h1,_⟩:=he;cases h1
 | outgrown=>exact he.elim
def zem{H:Type}{enc:ai×aP->H}{P:aD}{W W':aB}(hl:laidOutB P=true)(hb:Below W.heap.size W W'):∀{ts:List ai}{vs:dy}{ds:List (DataW H)}{ps:List MemPlace},
  (∀t∈ts,P.readableRec t=true/\t<P.types.size)->DataW.TrodAll enc P W 0 (λ_=>true) true ts vs ds ps->(∀x∈ps,x.block<W.heap.size)->DataW.TrodAll enc P W' 0 (λb=>decide (b<W.heap.size)) true ts vs ds ps
 | [],vs,ds,ps,_,h,_=>by
  cases vs<;>cases ds<;>first|exact h|exact h.elim
 | t::ts,vs,ds,ps,ht,h,bu=>by
  cases vs<;>cases ds<;>first|exact h.elim|skip
  obtain⟨p,q,h1,h2,rfl⟩:=h
  exact⟨p,q,Below.trod hl (ht t (ew ..)).1 (ht t (ew ..)).2 h1 hb λx hx=>bu x (DI _ hx),
   zem hl hb (λu hu=>ht u (cZ _ hu)) h2 λx hx=>bu x (FQ _ hx),rfl⟩
def zmH{H:Type}{enc:ai×aP->H}{P:aD}{f:Func}{s:ChangeSpec}{apart fresh handsOn:Bool}{W W':aB}{args:cO}{ds gs:List (DataW H)}{before:List MemPlace}{tb:ai}
  (My:s.vars=[]) (hrt:f.resultTypes=#[tb]) (Qn:P.underlying tb=some .bool) (hl:laidOutB P=true) (Su:∀t∈f.params.toList,P.readableRec t=true/\t<P.types.size)
  (su:s.fn H (ds++[])={ results:=[.lit (.bool true)],args:=ds }) (hW:DataW.Whole enc P f.params.toList s.vars apart W args.toList ds gs before) (hb:Below W.heap.size W W') :
  s.post enc P f apart fresh handsOn false W args (.bool true) W':=by
 have VS:=hW;obtain⟨p,q,hA,hV,rfl,_,_⟩:=hW;rw[My] at hV;obtain⟨rfl,rfl⟩:gs=[]/\q=[]:=by
  cases gs with
  | nil=>exact⟨rfl,hV⟩
  | cons g r=>exact absurd hV (by intro h;cases h)
 refine⟨ds,[],_,[],p,[],VS,?_,?_,?_,hb.frame _,λh=>by cases h⟩
 ·rw[su,hrt];exact trodAll_mk1 (shut_bool Qn true)
 ·rw[su];exact zem hl hb Su hA λx hx=>VS.lt x (by simpa using hx)
 ·rw[su,My];rfl
def VT(P:aD)(x:String×DataW Unit):Bool :=
 match P.globalNamed x.1,x.2 with
 | some g,.iface nm (.ptr _) =>
  (match (P.globals[g]?).map (·.type) with
  | some t=>match P.underlying t with
   | some (.interface _)=>true
   | _=>false
  | none=>false) && nm == "*errors.errorString"
 | _,_=>false
structure l6(P:aD)(w:aB)(ps:List MemPlace)(x:String×DataW Unit)(g t:Nat)(cs:cO)(fuel:Nat)(p:List MemPlace):Prop where
 named:P.globalNamed x.1=some g
 type:(P.globals[g]?).map (·.type)=some t
 var:w.var? P x.1=some cs
 trod:DataW.trod (λ_=>()) P w 0 (λ_=>true) false fuel t cs.toList=some (x.2,p)
 row:∀y∈MemPlace.row ⟨g,0,none⟩ cs.size,y∈ps
 sub:∀y∈p,y∈ps
def l6.more{P:aD}{w:aB}{ps ps':List MemPlace}{x:String×DataW Unit}{g t:Nat}{cs:cO}{fuel:Nat}{p:List MemPlace}(h:l6 P w ps x g t cs fuel p)(hs:∀y∈ps,y∈ps'):l6 P w ps' x g t cs fuel p :=
 {h with row:=λy hy=>hs y (h.row y hy),sub:=λy hy=>hs y (h.sub y hy) }
def VU{P:aD}{w:aB}:∀{l:List (String×DataW Unit)}{ps:List MemPlace},DataW.LaidVars P w l ps->∀x∈l,∃g t cs fuel p,l6 P w ps x g t cs fuel p
 | [],_,_,x,hx=>by simp at hx
 | (n,d)::r,ps,h,x,hx=>by
  obtain⟨g,t,cs,fuel,p,q,h1,h2,h3,h4,h5,h6⟩:=h;rcases cS.1 hx with rfl|hx
  ·exact⟨g,t,cs,fuel,p,h1,h2,h3,h4,λy hy=>by rw[h6];exact DI _ (DI _ hy),λy hy=>by rw[h6];exact DI _ (FQ _ hy)⟩
  ·obtain⟨g',t',cs',f',p',a⟩:=VU h5 x hx;exact⟨g',t',cs',f',p',a.more λy hy=>by rw[h6];exact FQ _ hy⟩
def zh0{P:aD}{w:aB}:∀{l:List (String×DataW Unit)}{ps:List MemPlace},DataW.LaidVars P w l ps->ps.Nodup->∀x∈l,∀x'∈l,∃g t cs fuel p g' t' cs' Mz p',l6 P w ps x g t cs fuel p/\l6 P w ps x' g' t' cs' Mz p'/\(g=g'\/∀y∈p,y ∉ p')
 | [],_,_,_,x,hx,_,_=>by simp at hx
 | (n,d)::r,ps,h,hn,x,hx,x',m_=>by
  obtain⟨g,t,cs,fuel,p,q,h1,h2,h3,h4,h5,h6⟩:=h;have hd:l6 P w ps (n,d) g t cs fuel p:=⟨h1,h2,h3,h4,λy hy=>by rw[h6];exact DI _ (DI _ hy),λy hy=>by rw[h6];exact DI _ (FQ _ hy)⟩
  have hq:∀y∈q,y∈ps:=λy hy=>by rw[h6];exact FQ _ hy
  rw[h6] at hn;obtain⟨_,hnq,Sv⟩:=List.nodup_append.1 hn;rcases cS.1 hx with rfl|hx<;>rcases cS.1 m_ with rfl|m_
  ·exact⟨g,t,cs,fuel,p,g,t,cs,fuel,p,hd,hd,.inl rfl⟩
  ·obtain⟨g',t',cs',f',p',a⟩:=VU h5 x' m_;exact⟨g,t,cs,fuel,p,g',t',cs',f',p',hd,a.more hq,.inr λy hy Sw=>Sv y (FQ _ hy) y (a.sub y Sw) rfl⟩
  ·obtain⟨g',t',cs',f',p',a⟩:=VU h5 x hx;exact⟨g',t',cs',f',p',g,t,cs,fuel,p,a.more hq,hd,.inr λy hy Sw=>Sv y (FQ _ Sw) y (a.sub y hy) rfl⟩
  ·obtain⟨g1,t1,BB,f1,p1,g2,t2,Ke,f2,p2,a1,a2,a3⟩:=zh0 h5 hnq x hx x' m_;exact⟨g1,t1,BB,f1,p1,g2,t2,Ke,f2,p2,a1.more hq,a2.more hq,a3⟩
def ZC{P:aD}{U:ai}{W:aB}{ps:List MemPlace}(eA:∀b off,MemPlace.cell b off∈ps->(∃c t,W.heap[b]?=some (.cells c t (0,0)))/\∀u v,W.cell? ⟨b,off,none⟩=some (.iface u v)->Value.okWide P W .any 0 u v)
  (nX:∀u,P.typeName? 3 u=some "*errors.errorString"->u=U) {e:ai} (hU:P.underlying U=some (.pointer e)) (he:0<P.cellsOf e) {x:String×DataW Unit} {k t:Nat} {cs:cO} {fuel:Nat} {p:List MemPlace} (h:l6 P W ps x k t cs fuel p) (hB:VT P x=true) :
  ∃a,W.cell? ⟨k,0,none⟩=some (.iface U (.pointer (some a)))/\MemPlace.cell a.block a.off∈p:=by
 obtain⟨h1,h2,h3,h4,gU,_⟩:=h;unfold VT at hB;rw[h1] at hB;split at hB<;>try (cases hB;done)
 rename_i g' nm d' P6 sA;cases P6;rw[h2] at hB;simp only[bN] at hB;obtain⟨Qo,hB3⟩:=hB;split at Qo<;>try (cases Qo;done)
 rename_i ms hti;have Sy:nm= "*errors.errorString":=by simpa using hB3
 subst Sy;rw[sA] at h4;cases fuel with
 | zero=>simp[DataW.trod] at h4
 | succ fuel =>
  obtain⟨l0⟩:=cs;simp only[DataW.trod,hti] at h4;have key:∃u v,l0=[.iface u v]/\P.typeName? 3 u=some "*errors.errorString"/\∃d2,DataW.trod (λ_=>()) P W 0 (λ_=>true) false fuel u v.cells.toList=some (.ptr d2,p):=by
   match l0,h4 with
   | [.iface u v],h4 =>
    simp only at h4;split at h4<;>try (cases h4;done)
    rename_i name nX;obtain⟨x1,Dw,Cm⟩:=nq.1 h4;simp only[bP,DataW.iface.injEq] at Cm;refine⟨u,v,rfl,by rw[nX,Cm.1.1],d',?_⟩
    rw[Dw,<- Cm.1.2,<- Cm.2]
   | [.nilIface],h4=>simp at h4
   | [],h4=>simp at h4
   | _::_::_,h4=>simp at h4
  obtain⟨u,v,rfl,hn,d2,Iv⟩:=key;have hu:u=U:=nX u hn;subst hu;have Bx:W.cell? ⟨k,0,none⟩=some (.iface u v):=by
   have:=World.var?_cell h1 h3 0;simpa using this
  have hvo:=(eA k 0 (gU _ (by simp[MemPlace.row]))).2 u v Bx
  have Oh:∃a,v=.pointer (some a):=by
   simp only[Value.okWide,hU,Cell.okWide] at hvo;cases fuel with
   | zero=>simp[DataW.trod] at Iv
   | succ fuel =>
    simp only[DataW.trod,hU] at Iv;cases v<;>simp[Cell.ok,hU] at hvo;rename_i oa;cases oa with
    | none=>simp[Value.cells] at Iv
    | some a=>exact⟨a,rfl⟩
  obtain⟨a,rfl⟩:=Oh;refine⟨a,Bx,?_⟩;cases fuel with
  | zero=>simp[DataW.trod] at Iv
  | succ fuel =>
   have ht3:DataW.trod (λ_=>()) P W 0 (λ_=>true) false (fuel+1) u [.pointer (some a)]=some (.ptr d2,p):=Iv;simp only[DataW.trod,hU] at ht3;obtain⟨z,VV,Qp⟩:=nq.1 ht3;simp only[bP] at Qp;rw[<- Qp.2];exact DI _ (by simp only[MemPlace.row,r7,List.mem_range];exact⟨0,he,rfl⟩)
def zgC{P:aD}{U:ai}{W:aB}{l:List (String×DataW Unit)}(h:laidMet P l W)(nX:∀u,P.typeName? 3 u=some "*errors.errorString"->u=U) {e:ai} (hU:P.underlying U=some (.pointer e)) (he:0<P.cellsOf e):Iu U W ((l.filter (VT P)).filterMap (λx=>P.globalNamed x.1)):=by
 obtain⟨ps,hv,DU,eA⟩:=h;refine⟨λk hk=>?_,λk hk k' Ds a ha p6=>?_⟩
 ·obtain⟨x,m_,Sz⟩:=List.mem_filterMap.1 hk;obtain⟨hx,hB⟩:=List.mem_filter.1 m_;obtain⟨g,t,cs,fuel,p,h1⟩:=VU hv x hx;have:=h1.named;rw[this] at Sz;cases Sz;obtain⟨a,h2,h3⟩:=ZC eA nX hU he h1 hB;exact⟨a,h2,(eA _ _ (h1.sub _ h3)).1⟩
 ·obtain⟨x,NO,Sz⟩:=List.mem_filterMap.1 hk;obtain⟨hx,hB⟩:=List.mem_filter.1 NO;obtain⟨x',ZD,SB⟩:=List.mem_filterMap.1 Ds;obtain⟨m_,ZE⟩:=List.mem_filter.1 ZD;obtain⟨g,t,cs,fuel,p,g',t',cs',Mz,p',h1,H9,h2⟩:=zh0 hv DU x hx x' m_;have e1:=h1.named;rw[e1] at Sz;cases Sz;have KQ:=H9.named;rw[KQ] at SB;cases SB;rcases h2 with h2|h2
  ·exact h2
  ·obtain⟨b,c1,c2⟩:=ZC eA nX hU he h1 hB;obtain⟨b',Kb,Yy⟩:=ZC eA nX hU he H9 ZE;rw[ha] at c1;rw[p6] at Kb;cases c1;cases Kb;exact absurd Yy (h2 _ c2)
end
section
open Go.ChangeShapes Go.WideShapes Go.ChangeAt Go.RowKit
def Oi(P:aD)(t:ai):Bool :=
 match P.underlying t with
 | some (.struct _)|some (.array _ _)=>true
 | _=>false
def xS(P:aD)(e:ai)(cs:aj):V:=if Oi P e then .agg cs else cs.headD .mC
def Qq(P:aD):Nat->List Field->Nat->Bool
 | off,[],n=>Nat.beq off n
 | off,f::fs,n=>Nat.beq f.offset off && Qq P (off+P.cellsOf f.type) fs n
def VW(P:aD)(S:List ai)(t:ai):Bool :=
 match P.underlying t with
 | some .bool|some (.int _)|some .string=>Nat.beq (P.cellsOf t) 1
 | some (.slice e)=>Nat.beq (P.cellsOf t) 1 && S.any (Nat.beq e) && Nat.blt 0 (P.cellsOf e)
 | some (.struct fs)=>Qq P 0 fs.toList (P.cellsOf t) && fs.toList.all λf=>S.any (Nat.beq f.type)
 | some (.array n e)=>Nat.beq (n * P.cellsOf e) (P.cellsOf t) && S.any (Nat.beq e)
 | _=>false
def jx(P:aD):Nat->ai->aj->Prop
 | 0,_,_=>False
 | n+1,t,xs =>
  match P.underlying t with
  | some .bool=>∃b,xs=[.bool b]
  | some (.int k)=>∃z,xs=[.int k z]/\(Lit.int k z).wf=true
  | some .string=>∃s,xs=[.str s]/\(∀b∈s,b<256)/\s.length<=maxLen
  | some (.slice e)=>xs=[.aU]\/∃ys,xs=[.sl (P.cellsOf e) ys .no]/\(ys.length<=maxLen/\ys.length * P.bytesOf e<=reachBytes)/\∀y∈ys,∃cs,jx P n e cs/\y=xS P e cs
  | some (.struct fs)=>xs.length=P.cellsOf t/\∀f∈fs.toList,jx P n f.type ((xs.drop f.offset).take (P.cellsOf f.type))
  | some (.array m e)=>xs.length=P.cellsOf t/\∀i,i<m->jx P n e ((xs.drop (i * P.cellsOf e)).take (P.cellsOf e))
  | _=>False
def ZF(g:Gh)(x:V)(v:aP):Prop:=x.one=true/\aL g x v/\x.top=0/\∀sz ys e,x≠.sl sz ys (.yes e)
def RC(g:Gh):aj->dy->Prop
 | [],[]=>True
 | x::xs,v::vs=>ZF g x v/\RC g xs vs
 | _,_=>False
def RC.append{g:Gh}:∀{xs ys:aj}{vs us:dy},RC g xs vs->RC g ys us->RC g (xs++ys) (vs++us)
 | [],_,[],_,_,h=>h
 | _::_,_,_::_,_,h,k=>⟨h.1,RC.append h.2 k⟩
 | [],_,_::_,_,h,_=>h.elim
 | _::_,_,[],_,h,_=>h.elim
def RC.length{g:Gh}:∀{xs:aj}{vs:dy},RC g xs vs->xs.length=vs.length
 | [],[],_=>rfl
 | _::_,_::_,h=>by simp[RC.length h.2]
 | [],_::_,h=>h.elim
 | _::_,[],h=>h.elim
def RC.get{g:Gh}:∀{xs:aj}{vs:dy},RC g xs vs->∀(j:Nat)(x:V),xs[j]?=some x->∃v,vs[j]?=some v/\ZF g x v
 | [],[],_,j,x,hx=>by simp at hx
 | y::ys,u::us,h,0,x,hx=>by
  simp only[Ce,aO] at hx;subst hx;exact⟨u,rfl,h.1⟩
 | y::ys,u::us,h,j+1,x,hx=>RC.get h.2 j x (by simpa using hx)
 | [],_::_,h,_,_,_=>h.elim
 | _::_,[],h,_,_,_=>h.elim
def zjk{P:aD}{e:ai}{cs:aj}{vs:dy}{g:Gh}(h:RC g cs vs)(hlen:Oi P e=false->cs.length=1):(xS P e cs).cells=cs:=by
 unfold xS;split
 ·rfl
 ·rename_i ha;have:=hlen (by simpa using ha)
  match cs,this with
  | [x],_ =>
   obtain⟨v,_,hx⟩:=RC.get h 0 x rfl;have h1:=hx.1;cases x<;>first|rfl|(simp[V.one,oJ] at h1)
def ZG{S:List ai}{e:ai}(h:S.any (Nat.beq e)=true):e∈S:=by
 obtain⟨x,hx,hb⟩:=List.any_eq_true.1 h;rw[eT hb];exact hx
def ZH{α β:Type}{f:α->Option β}:∀{l:List α}{r:List β},l.mapM f=some r->r.length=l.length/\∀(i:Nat)(a:α),l[i]?=some a->∃b,r[i]?=some b/\f a=some b
 | [],r,h=>by
  simp at h;subst h;exact⟨rfl,λi a ha=>by simp at ha⟩
 | x::l,r,h=>by
  simp only[List.mapM_cons,Option.bind_eq_bind,fy,Option.pure_def,aO] at h;obtain⟨b,hb,r',Qb,rfl⟩:=h;obtain⟨h1,h2⟩:=ZH Qb;refine⟨by simp[h1],λi a ha=>?_⟩
  cases i with
  | zero =>
   simp only[Ce,aO] at ha;subst ha;exact⟨b,rfl,hb⟩
  | succ i=>exact h2 i a (by simpa using ha)
def zeo{W:aB}{base:Nat}{a:Addr}{n:Nat}{cs:dy}(h:W.cells? base a n=some cs):cs.length=n/\∀i,i<n->W.cell? (a.add i)=cs[i]?:=by
 unfold World.cells? at h;split at h<;>try (cases h;done)
 refine⟨?_,λi hi=>?_⟩
 ·have:=(ZH h).1;simpa using this
 ·obtain⟨b,h1,h2⟩:=(ZH h).2 i i (by simp[hi])
  rw[h1,h2]
def zh1(a:Addr)(hs:a.spot=none)(n:Nat):a.add n=⟨a.block,a.off+n,none⟩:=by
 obtain⟨b,o,s⟩:=a;subst hs;unfold Addr.add;split
 next h=>subst h;rfl
 ·rfl
def zmI(s:ByteArray):bytes (s.data.toList.map UInt8.toNat)=s:=by
 unfold bytes;have:(s.data.toList.map UInt8.toNat).map UInt8.ofNat=s.data.toList:=by
  rw[List.map_map];exact(List.map_congr_left λb _=>by simp).trans (List.map_id _)
 rw[this]
def zep{g:Gh}{W:aB}{P:aD}{e:ai}{b o c:Nat}{f:Nat->aj}{v:Nat->dy}:∀(len:Nat),(∀i,i<len->(xS P e (f i)).cells=f i/\RC g (f i) (v i)/\(f i).length=c/\∀r,r<c->W.cell? ⟨b,o+(i * c+r),none⟩=(v i)[r]?) ->
  (zL ((List.range len).map λi=>xS P e (f i))).length=len * c/\∀j x,(zL ((List.range len).map λi=>xS P e (f i)))[j]?=some x->∃u,W.cell? ⟨b,o+j,none⟩=some u/\ZF g x u
 | 0,_=>by simp[zL]
 | len+1,h=>by
  obtain⟨h1,h2⟩:=zep len λi hi=>h i (by omega)
  obtain⟨k1,k2,k3,k4⟩:=h len (by omega)
  have e:zL ((List.range (len+1)).map λi=>xS P e (f i))=zL ((List.range len).map λi=>xS P e (f i))++f len:=by
   simp only[List.range_succ,List.map_append,iC,Bm,zL,List.flatMap_append,FU,List.flatMap_nil,uf,k1]
  rw[e];refine⟨by rw[oI,h1,k3,Nat.succ_mul],λj x hx=>?_⟩
  by_cases hj:j<len * c
  ·rw[nH (by rw[h1];exact hj)] at hx
   exact h2 j x hx
  ·rw[nN (by rw[h1];omega),h1] at hx
   obtain⟨u,hu,hg⟩:=RC.get k2 _ x hx;have hr:j - len * c<c:=by
    have:=(dW.1 hx).1;omega
   refine⟨u,?_,hg⟩;rw[<- hu,<- k4 _ hr]
   congr 2
   omega
def sC:∀{xs:aj},(∀x∈xs,x.top=0)->aA xs=0
 | [],_=>rfl
 | x::xs,h=>by simp[aA,h x (ew ..),sC λy hy=>h y (cZ _ hy)]
def zrG{g:Gh}{P:aD}{n:Nat}{total:Nat}:∀(fs:List Field)(off:Nat)(cs:dy),Qq P off fs total=true->cs.length=total - off->off<=total ->
  (∀f∈fs,∃xs,jx P n f.type xs/\RC g xs ((cs.drop (f.offset - off)).take (P.cellsOf f.type))/\xs.length=P.cellsOf f.type) ->
  ∃ys,RC g ys cs/\ys.length=total - off/\∀f∈fs,off<=f.offset/\jx P n f.type ((ys.drop (f.offset - off)).take (P.cellsOf f.type))
 | [],off,cs,ht,hl,ho,_=>by
  have:=eT ht;have:cs=[]:=Md.1 (by omega)
  subst this;exact⟨[],trivial,by simp;omega,λf hf=>by simp at hf⟩
 | f::fs,off,cs,ht,hl,ho,h=>by
  simp only[Qq,bN] at ht;have hf0:=eT ht.1;obtain⟨xs,x1,x2,x3⟩:=h f (ew ..);rw[hf0,G4,E0] at x2;have tH:∀(fs:List Field)(o:Nat),Qq P o fs total=true->o<=total/\∀f∈fs,o<=f.offset:=by
   intro fs
   induction fs with
   | nil=>intro o ho;have:=eT ho;exact⟨by omega,λf hf=>by simp at hf⟩
   | cons k ks ih =>
    intro o ho;simp only[Qq,bN] at ho;have h1:=eT ho.1;obtain⟨i1,i2⟩:=ih _ ho.2;refine⟨by omega,λf hf=>?_⟩
    rcases cS.1 hf with rfl|hf
    ·omega
    ·have:=i2 f hf;omega
  obtain⟨g1,g2⟩:=tH fs _ ht.2
  obtain⟨ys,y1,y2,y3⟩:=zrG (g:=g) (n:=n) fs (off+P.cellsOf f.type) (cs.drop (P.cellsOf f.type)) ht.2 (by simp;omega) g1 (λk hk=>by
   obtain⟨zs,z1,z2,z3⟩:=h k (cZ _ hk);refine⟨zs,z1,?_,z3⟩;have:=g2 k hk;rw[List.drop_drop];rw[show P.cellsOf f.type+(k.offset - (off+P.cellsOf f.type))=k.offset - off by omega]
   exact z2)
  refine⟨xs++ys,?_,by simp[x3,y2];omega,λk hk=>?_⟩
  ·have:=RC.append x2 y1
   rwa [Cy] at this
  ·rcases cS.1 hk with rfl|hk
   ·refine⟨by omega,?_⟩
    rw[hf0,G4,E0,List.take_append_of_le_length (by omega),<- x3,G2]
    exact x1
   ·obtain⟨a1,a2⟩:=y3 k hk;refine⟨by omega,?_⟩
    rw[show k.offset - off=xs.length+(k.offset - (off+P.cellsOf f.type)) by omega,List.drop_append]
    rw[List.drop_eq_nil_of_le (by omega),gF]
    rw[show xs.length+(k.offset - (off+P.cellsOf f.type)) - xs.length=k.offset - (off+P.cellsOf f.type) by omega]
    exact a2
def zp1{g:Gh}{P:aD}{n c:Nat}{e:ai}:∀(m:Nat)(cs:dy),cs.length=m * c->(∀i,i<m->∃xs,jx P n e xs/\RC g xs ((cs.drop (i * c)).take c)/\xs.length=c) ->
  ∃ys,RC g ys cs/\ys.length=m * c/\∀i,i<m->jx P n e ((ys.drop (i * c)).take c)
 | 0,cs,hl,_=>by
  have:cs=[]:=Md.1 (by simpa using hl)
  subst this;exact⟨[],trivial,by simp,λi hi=>by omega⟩
 | m+1,cs,hl,h=>by
  have hm:∀i,i<m->i * c+c<=m * c:=λi hi=>by
   have:=Nz c (show i+1<=m from hi)
   rwa [Nat.succ_mul] at this
  rw[Nat.succ_mul] at hl
  obtain⟨ys,y1,y2,y3⟩:=zp1 (g:=g) (P:=P) (n:=n) (c:=c) (e:=e) m (cs.take (m * c)) (by rw[tR];omega) (λi hi=>by
   obtain⟨xs,x1,x2,x3⟩:=h i (by omega)
   refine⟨xs,x1,?_,x3⟩;rw[List.drop_take,List.take_take,NC (by have:=hm i hi;omega)]
   exact x2)
  obtain⟨xs,x1,x2,x3⟩:=h m (by omega)
  rw[Af (by simp;omega)] at x2
  refine⟨ys++xs,?_,by rw[oI,y2,x3,Nat.succ_mul],λi hi=>?_⟩
  ·have:=RC.append y1 x2
   rwa [Cy] at this
  ·by_cases he:i=m
   ·subst he;rw[<- y2,List.drop_left,<- x3,G2];exact x1
   ·have tF:i<m:=by omega
    have:=hm i tF;rw[List.drop_append_of_le_length (by omega),List.take_append_of_le_length (by simp;omega)]
    exact y3 i tF
def yE{H:Type}{P:aD}{e:ai}{d:DataW H}:∀{l:List (DataW H)},d∈l->∀w∈d.weights P e,w∈DataW.weightsAll P e l
 | x::l,h,w,hw=>by
  simp only[DataW.weightsAll,rO];rcases cS.1 h with rfl|h
  ·exact .inl hw
  ·exact .inr (yE h w hw)
def zap{H:Type}{P:aD}{t:ai}{d:DataW H}:∀{i:Nat}{ts:List ai}{l:List (DataW H)},ts[i]?=some t->l[i]?=some d->∀w∈d.weights P t,w∈DataW.weightsEach P ts l
 | 0,u::ts,x::l,h1,h2,w,hw=>by
  simp only[Ce,aO] at h1 h2;subst h1 h2;simp only[DataW.weightsEach,rO];exact .inl hw
 | i+1,u::ts,x::l,h1,h2,w,hw=>by
  simp only[DataW.weightsEach,rO];exact .inr (zap (i:=i) (by simpa using h1) (by simpa using h2) w hw)
def zh2{H:Type}{enc:ai×aP->H}{P:aD}{W:aB}{S:List ai}(hS:S.all (VW P S)=true):∀(n:Nat)(t:ai)(cs:dy)(x:DataW H×List MemPlace),t∈S->DataW.trod enc P W 0 (λ_=>true) true n t cs=some x->(∀w∈x.1.weights P t,w<=reachBytes) ->
  ∃xs,jx P n t xs/\RC (xR W) xs cs/\xs.length=P.cellsOf t
 | 0,_,_,_,_,h,_=>by simp[DataW.trod] at h
 | n+1,t,cs,x,ht,h,CS=>by
  have ih:=zh2 (enc:=enc) (W:=W) hS n;have hc:=Cf.1 hS t ht;unfold VW at hc;unfold jx;cases hu:P.underlying t with
  | none=>rw[hu] at hc;cases hc
  | some d =>
   rw[hu] at hc;cases d<;>simp only[bH] at hc
   case bool =>
    have e1:=eT hc;simp only[DataW.trod,hu] at h
    match cs,h with
    | [.bool b],h=>exact⟨[.bool b],⟨b,rfl⟩,⟨⟨rfl,.bool b,rfl,λ_ _ _ e=>by cases e⟩,trivial⟩,e1.symm⟩
   case int k =>
    have e1:=eT hc;simp only[DataW.trod,hu] at h
    match cs,h with
    | [.int k' z],h =>
     simp only at h;split at h<;>try (cases h;done)
     rename_i hk;obtain⟨rfl,hw⟩:=hk;exact⟨[.int k' z],⟨z,rfl,hw⟩,⟨⟨rfl,.int k' z,rfl,λ_ _ _ e=>by cases e⟩,trivial⟩,e1.symm⟩
   case string =>
    have e1:=eT hc;obtain⟨s,rfl,_,fR⟩:=DataW.trod_string hu h;have hb:∀b∈s.data.toList.map UInt8.toNat,b<256:=λb hb=>by
     obtain⟨c,_,rfl⟩:=r7.1 hb;exact c.toNat_lt
    refine⟨[.str (s.data.toList.map UInt8.toNat)],⟨_,rfl,hb,by simpa using fR⟩,⟨⟨rfl,?_,rfl,λ_ _ _ e=>by cases e⟩,trivial⟩,e1.symm⟩
    have:=aL.str (g:=xR W) hb
    rwa [zmI] at this
   case slice e =>
    simp only[bN] at hc;have e1:=eT hc.1.1;have he:=ZG hc.1.2;have iq:0<P.cellsOf e:=by
     have:=hc.2;exact rY (PV 0) (pO this)
    rcases DataW.trod_slice hu h with⟨rfl,_⟩|⟨a,len,cap,elems,rest,m,hm,rfl,SD,_,Ak,sZ,aW,dO,_,_⟩
    ·exact⟨[.aU],.inl rfl,⟨⟨rfl,.aU,rfl,λ_ _ _ e=>by cases e⟩,trivial⟩,e1.symm⟩
    ·cases hm;have Lc:∀w∈DataW.weights P t (.slice (elems.map (·.1)) (rest.map (·.1))),w<=reachBytes:=by rw[SD] at CS;exact CS
     simp only[DataW.weights,hu] at Lc;have Oj:len * P.bytesOf e<=reachBytes:=by
      refine cR (Nz _ ?_) (Lc _ (ew ..));simp[aW]
     have each:∀i,∃(f:aj)(v:dy),i<len->jx P n e f/\RC (xR W) f v/\f.length=P.cellsOf e/\W.cells? 0 (a.add (i * P.cellsOf e)) (P.cellsOf e)=some v:=by
      intro i
      by_cases hi:i<len
      ·have h1:=dO i hi;have h2:∃y,elems[i]?=some y:=⟨elems[i]'(by omega),by simp[aW,hi]⟩
       obtain⟨y,hy⟩:=h2;rw[hy] at h1;obtain⟨v,hv,Iv⟩:=fy.1 h1;obtain⟨xs,x1,x2,x3⟩:=ih e v y he Iv λw hw=>Lc w (cZ _ (DI _ (yE (G0 (f:=(·.1)) (oH hy)) w hw)));exact⟨xs,v,λ_=>⟨x1,x2,x3,hv⟩⟩
      ·exact⟨[],[],λh=>absurd h hi⟩
     have hf:∃f:Nat->aj,∃v:Nat->dy,∀i,i<len->jx P n e (f i)/\RC (xR W) (f i) (v i)/\(f i).length=P.cellsOf e/\W.cells? 0 (a.add (i * P.cellsOf e)) (P.cellsOf e)=some (v i) :=
      ⟨λi=>Classical.choose (each i),λi=>Classical.choose (KC (each i)),λi=>KC (KC (each i))⟩
     obtain⟨f,v,E_⟩:=hf;have sn:Oi P e=false->P.cellsOf e=1:=λha=>by
      have pK:=Cf.1 hS e he;unfold VW at pK;unfold Oi at ha;split at pK<;>simp_all
     have eS:∀i,i<len->(xS P e (f i)).cells=f i:=λi hi=>zjk (E_ i hi).2.1 λha=>(E_ i hi).2.2.1.trans (sn ha);have MA:0<len->a.spot=none:=λhl=>by
      obtain⟨_,_,_,hv⟩:=E_ 0 hl;obtain⟨l1,l2⟩:=zeo hv;have h0:=l2 0 iq;have h3:∃u,(v 0)[0]?=some u:=⟨(v 0)[0]'(by omega),by simp[l1,iq]⟩
      obtain⟨u,ZI⟩:=h3;rw[ZI] at h0;have:(a.add (0 * P.cellsOf e)).add 0=a:=by simp[Addr.add]
      rw[this] at h0;unfold World.cell? at h0;split at h0<;>try (cases h0;done)
      split at h0<;>try (cases h0;done)
      rename_i hs;simpa using hs
     obtain⟨nT,Iw⟩:=zep (g:=xR W) (W:=W) (P:=P) (e:=e) (b:=a.block) (o:=a.off) (c:=P.cellsOf e) (f:=f) (v:=v) len λi hi=>by
      obtain⟨a1,a2,a3,a4⟩:=E_ i hi;refine⟨eS i hi,a2,a3,λr hr=>?_⟩;obtain⟨l1,l2⟩:=zeo a4;rw[<- l2 r hr,zh1 a (MA (by omega)) (i * P.cellsOf e),zh1 _ rfl r]
      simp[HP]
     refine⟨[.sl (P.cellsOf e) ((List.range len).map λi=>xS P e (f i)) .no],.inr ⟨_,rfl,⟨by simp;omega,by simpa using Oj⟩,λy hy=>?_⟩,⟨⟨rfl,?_,?_,λ_ _ _ e=>by cases e⟩,trivial⟩,e1.symm⟩
     ·obtain⟨i,hi,rfl⟩:=r7.1 hy;exact⟨f i,(E_ i (List.mem_range.1 hi)).1,rfl⟩
     ·have hl:((List.range len).map λi=>xS P e (f i)).length=len:=by simp
      have:=aL.sl (g:=xR W) (sz:=P.cellsOf e) (xs:=(List.range len).map λi=>xS P e (f i)) (ow:=.no) (a:=some a) (cap:=cap) (c:=a.block) (o:=a.off) (λj=>(W.cell? ⟨a.block,a.off+j,none⟩).getD undef)
       (λx hx=>by
        obtain⟨i,hi,rfl⟩:=r7.1 hx;rw[eS i (List.mem_range.1 hi)]
        exact(E_ i (List.mem_range.1 hi)).2.2.1)
       (by rw[hl];exact Ak)
       (λcg=>by
        have:0<len:=by
         rcases NB len with h0|h0
         ·subst h0;simp at cg
         ·exact h0
        have hs:=MA this;obtain⟨ab,ao,asp⟩:=a;simp only at hs;subst hs
        rfl)
       (λj x hx=>(Iw j x hx).elim λu hu=>hu.2.1)
       (λj x hx=>by
        obtain⟨u,KP,Ka⟩:=Iw j x hx;show W.cell? _=_
        rw[KP];rfl)
       (λj x hx=>by
        obtain⟨u,KP,Ka⟩:=Iw j x hx;rw[KP]
        exact Ka.2.1)
      rwa [hl] at this
     ·simp only[V.top];refine sC λx hx=>?_;obtain⟨i,hi,rfl⟩:=r7.1 hx;have tF:=List.mem_range.1 hi;unfold xS;split
      ·simp only[V.top];refine sC λz hz=>?_;obtain⟨j,hj⟩:=List.mem_iff_getElem?.1 hz;exact(RC.get (E_ i tF).2.1 j z hj).elim λu hu=>hu.2.2.2.1
      ·rename_i ha;have lH:=(E_ i tF).2.2.1.trans (sn (by simpa using ha))
       match hfi:f i,lH with
       | [z],_ =>
        have:=RC.get (E_ i tF).2.1 0 z (by rw[hfi];rfl)
        exact this.elim λu hu=>hu.2.2.2.1
   case struct fs =>
    simp only[bN] at hc;obtain⟨xs,m,hm,SD,hlen,_,dO⟩:=DataW.trod_struct hu h;cases hm
    obtain⟨ys,y1,y2,y3⟩:=zrG (g:=xR W) (n:=n) (total:=P.cellsOf t) fs.toList 0 cs hc.1 (by simpa using hlen) (dJ _) (λf hf=>by
     obtain⟨i,hi⟩:=List.mem_iff_getElem?.1 hf;have h1:=dO i f (by simpa using hi)
     have hfS:=ZG (Cf.1 hc.2 f hf)
     have h2:∃y,xs[i]?=some y:=⟨xs[i]'(by
      have:=(dW.1 hi).1;simp at this
      omega),by simp⟩
     obtain⟨y,hy⟩:=h2;rw[hy] at h1;have Lc:∀w∈DataW.weights P t (.agg (xs.map (·.1))),w<=reachBytes:=by rw[SD] at CS;exact CS
     simp only[DataW.weights,hu] at Lc
     simpa using ih f.type _ y hfS h1 λw hw=>Lc w (zap (i:=i) (t:=f.type) (d:=y.1) (by simp at hi ⊢;simp[hi]) (by simp[hy]) w hw))
    refine⟨ys,⟨by simpa using y2,λf hf=>by simpa using (y3 f hf).2⟩,y1,by simpa using y2⟩
   case array m e =>
    simp only[bN] at hc;have hmc:=eT hc.1;have he:=ZG hc.2;obtain⟨xs,k,hk,SD,hlen,hxl,dO⟩:=DataW.trod_array hu h;cases hk
    obtain⟨ys,y1,y2,y3⟩:=zp1 (g:=xR W) (n:=n) (P:=P) (e:=e) (c:=P.cellsOf e) m cs (by omega) (λi hi=>by
     have h1:=dO i hi;have h2:∃y,xs[i]?=some y:=⟨xs[i]'(by omega),by simp[hxl,hi]⟩
     obtain⟨y,hy⟩:=h2;rw[hy] at h1;have Lc:∀w∈DataW.weights P t (.agg (xs.map (·.1))),w<=reachBytes:=by rw[SD] at CS;exact CS
     simp only[DataW.weights,hu] at Lc
     exact ih e _ y he h1 λw hw=>Lc w (yE (G0 (f:=(·.1)) (oH hy)) w hw))
    exact⟨ys,⟨by omega,y3⟩,y1,by omega⟩
end
def zdE{P:aD}{f:FuncId}{fn:Func}{e:cO->Sem aP}{args:cO}{w w':aB}{v:aP}(hf:P.funcs[f]?=some fn)(nX:(fn.name == "runtime.NumGoroutine")=false) (hb:fn.body=none) (hn:Extern.findNext fn=none) (he:Extern.find fn=some e)
  (hr:(e args).run P w=.ok v w'):(callFunc f args).run P w=.ok (.value v) w':=by
 unfold callFunc;have cg:¬fn.name= "runtime.NumGoroutine":=by simpa using nX
 simp[hf,cg,hb,hn,he,hr]
def idx_eq:∀(s:aR)(c:Nat),(∀b∈s,b<256)->c<256->Lib.indexByte (s.map UInt8.ofNat) c.toUInt8=(match s.findIdx? (λ(b:Nat)=>Nat.beq b c) with|some i=>(i:Int)|none=>-1)
 | [],c,_,_=>rfl
 | b::s,c,hs,hc=>by
  have ih:=idx_eq s c (λx hx=>hs x (cZ _ hx)) hc;have hb:=hs b (ew ..);simp only[iC,Lib.indexByte,List.findIdx?_cons];have e:(UInt8.ofNat b == c.toUInt8)=Nat.beq b c:=by
   cases h:Nat.beq b c with
   | true =>
    have:=eT h;subst this;simp
   | false =>
    have:=Nat.ne_of_beq_eq_false h;rw[beq_eq_false_iff_ne];intro he;have:=congrArg UInt8.toNat he;simp at this;omega
  rw[e,ih];cases Nat.beq b c with
  | true=>rfl
  | false =>
   simp only[bH,aZ];cases hfi:s.findIdx? (λ(b:Nat)=>Nat.beq b c) with
   | none=>simp
   | some i =>
    simp only[cA];have:((i:Int) == -1)=false:=by rw[beq_eq_false_iff_ne];omega
    rw[this];simp
def zlu{P:aD}{k:FuncId}{fk:Func}(Iy:(List.range P.funcs.size).all (λf=>match P.funcs[f]? with|some fn=>fn.name != "internal/bytealg.IndexByteString" || f == k|none=>true)=true)
  (hfk:P.funcs[k]?=some fk) (nX:(fk.name == "runtime.NumGoroutine")=false) (hn:Extern.findNext fk=none) (he:Extern.find fk=some Extern.BytealgIndexByte.indexByte):wQ P:=by
 intro f fn args v hf hb hp g n aM w ha;unfold Yd at hp;split at hp<;>try (cases hp;done)
 rename_i nm l s c Sy;split at hp<;>try (cases hp;done)
 rename_i hc;simp only[aO] at hp;have bu:f<P.funcs.size:=(ud.1 hf).1;have h1:=Cf.1 Iy f (List.mem_range.2 bu);rw[hf] at h1;have ZJ:f=k:=by
  simp only[Sy,bne_self_eq_false,Bl] at h1;simpa using h1
 subst ZJ;rw[hf] at hfk;cases hfk;obtain⟨al,ar,_,_⟩:=ha
 match aM,al,ar with
 | ⟨[c0,c1]⟩,_,ar =>
  have r0:=ar 0 _ c0 rfl rfl;have r1:=ar 1 _ c1 rfl rfl;cases r1;have hs:∀b∈s,b<256:=by cases r0;assumption
  cases r0;refine⟨_,zdE hf nX hb hn he (Lib.run_indexByteString (bytes s) c w),?_,by rw[<- hp];rfl,λ_ _=>by rw[<- hp];trivial⟩
  have e1:(bytes s).data.toList=s.map UInt8.ofNat:=by simp[bytes]
  rw[e1,idx_eq s c.toNat hs (by omega),<- hp]
  exact .int _ _
 | ⟨[]⟩,al,_=>simp at al
 | ⟨[_]⟩,al,_=>simp at al
 | ⟨_::_::_::_⟩,al,_=>simp at al
def zs1(P:aD):Bool:=P.funcs.toList.all λfn=>!(fn.name == "runtime.NumGoroutine")
def zmJ{P:aD}(h:zs1 P=true):yQ P:=λf fn hf=>by
 have:=Cf.1 h fn (by
  have:=Array.mem_of_getElem? hf
  simpa using this)
 simpa using this
section
open Go.ChangeShapes Go.WideShapes Go.ChangeAt Go.RowKit
def zjl{d n:Nat}{g:Gh}{w w':aB}(hb:Below w.heap.size w w'):lG d none none n g w g w' :=
 ⟨.refl _ _,λc hc _ _=>hb.block c hc,λ_ _ _=>rfl,λ_ _ _ _=>rfl,hb.size,λ_ _ _=>rfl,λ_ h=>(by cases h),λ_ h=>(by cases h),λ_ _ _ _=>rfl,hb.os,hb.tape,hb.output⟩
def zeq{w w':aB}(hb:Below w.heap.size w w'){c o:Nat}{v:aP}(h:w.cell? ⟨c,o,none⟩=some v):w'.cell? ⟨c,o,none⟩=some v:=by
 have hc:c<w.heap.size:=by
  rcases iT c w.heap.size with hc|hc
  ·exact hc
  ·have:w.heap[c]?=none:=Array.getElem?_eq_none hc;simp[World.cell?,this] at h
 have:=hb.block c hc;simp only[World.cell?,this] at h ⊢;exact h
def ZK{d:Nat}{H:Hp}{g:Gh}{w w':aB}(hw:m8 g H.af w)(hb:Below w.heap.size w w'):iY d H g w H g w' where
 bW :=
  {mem:=λc o v h=>zeq hb (hw.mem c o v h)
   lt:=λb h=>rY (hw.lt b h) hb.size
   inj:=hw.inj
   apart:=hw.apart
   dF:=λc l h=>rY (hw.dF c l h) hb.size
   cF:=hw.cF
   ok:=λb x hx=>by
    have bu:b<H.af.length:=(dW.1 hx).1;exact fO.same (d:=d) (zjl hb) (by simp) bu (hw.lt b bu) (hw.cF b bu) (λ_ h=>by cases h) (λc h1 h2=>by omega) (hw.aA b x hx) (hw.ok b x hx)
   aA:=hw.aA
   laid:=λc hc=>by
    obtain⟨⟨cs,t,h1⟩,h2⟩:=hw.laid c hc
    exact⟨⟨cs,t,by rw[hb.block c (ud.1 h1).1];exact h1⟩,h2⟩ }
 fr:=⟨.refl _ _,λc hc=>hb.block c hc.1,λ_ _=>rfl,λ_ _ _=>rfl,hb.size,λ_ _ _=>rfl,hb.os,hb.tape,hb.output⟩
 len:=bV _
 cK:=λb h1 h2=>by omega
 aS:=λb x hx=>.inr (.inr ⟨x,hx,bV _⟩)
 uz:=λ_ h=>h
 gm:=λ_ _ h=>h
end
section
def Gh.bare(g:Gh):Gh:={ g with own:=λ_=>none }
def Gh.over(n:Nat)(g g':Gh):Gh :=
 {M:=λc o=>if c<n then g.M c o else g'.M c o,br:=g.br,obj:=g.obj,own:=λc=>if c<n then g.own c else g'.own c,lk:=g.lk,fD:=g.fD }
def xU{w:aB}{c o:Nat}{v:aP}(h:w.cell? ⟨c,o,none⟩=some v):c<w.heap.size:=by
 rcases iT c w.heap.size with hc|hc
 ·exact hc
 ·have:w.heap[c]?=none:=Array.getElem?_eq_none hc;simp[World.cell?,this] at h
variable{P:aD}{gl:Gl}{d:Nat}{H:Hp}{g g':Gh}{w w':aB}
def zh3{bs:List aN}(hw:m8 g bs w):m8 g.bare [] w :=
 {mem:=hw.mem,lt:=λb h=>by simp at h,inj:=λb _ h=>by simp at h,apart:=λb h=>by simp at h,dF:=(λc l h=>by cases h),cF:=λb h=>by simp at h,ok:=λb x h=>by simp at h,aA:=λb x h=>by simp at h,laid:=λc hc=>⟨(hw.laid c hc).1,rfl,λb hb=>by simp at hb⟩ }
def tV:Gh.Le 0 g g.bare:=⟨λ_ _ _ h=>h,λb h=>by omega,rfl,λ_ _ _ h=>by omega⟩
def kq{dd:Nat}(hf:Fr dd [] g.bare w g' w'){c:Nat}(hc:c<w.heap.size):w'.heap[c]?=w.heap[c]?/\g'.own c=none/\∀o,g'.M c o=g.M c o:=by
 have hp:pR dd ([]:List aN).length g.bare w c:=⟨hc,λb hb=>by simp at hb,.inl rfl⟩
 exact⟨hf.heap c hp,hf.own c hp,hf.M c hp⟩
def zmK{dd:Nat}(hf:Fr dd [] g.bare w g' w'):Gh.Le 0 g' (Gh.over w.heap.size g g'):=by
 refine⟨λc o v h=>?_,λb h=>by omega,hf.le.obj.symm,λ_ _ _ h=>by omega⟩
 simp only[Gh.over];split
 next hc=>rw[<- (kq hf hc).2.2 o];exact h
 ·exact h
def zfD{n dd:Nat}{bs:List aN}(hw:m8 g bs w)(hf:Fr dd [] g.bare w g' w'):lG d none none n g w (Gh.over w.heap.size g g') w':=by
 refine⟨⟨λc o v h=>?_,λ_ _=>rfl,rfl,λ_ _ _ _ h=>h⟩,λc hc _ _=>(kq hf hc).1,λc hc _=>by simp[Gh.over,hc],λc hc _ o=>by simp[Gh.over,hc],hf.size,λ_ _ _=>rfl,λ_ h=>(by cases h),λ_ h=>(by cases h),λ_ _ _ _=>rfl,hf.os,hf.tape,hf.output⟩
 have:=xU (hw.mem c o v h);simp[Gh.over,this,h]
def zjm{dd:Nat}(hw:m8 g H.af w){bs':List aN}(Kj:m8 g' bs' w')(hf:Fr dd [] g.bare w g' w'):iY d H g w H (Gh.over w.heap.size g g') w' where
 bW :=
  {mem:=λc o v h=>by
    simp only[Gh.over] at h;split at h
    next hc=>have h0:=hw.mem c o v h;simp only[World.cell?,(kq hf hc).1] at h0 ⊢;exact h0
    ·exact Kj.mem c o v h
   lt:=λb h=>rY (hw.lt b h) hf.size
   inj:=hw.inj
   apart:=λb h o=>by simp only[Gh.over,hw.lt b h,aT];exact hw.apart b h o
   dF:=λc l h=>by
    simp only[Gh.over] at h;split at h
    ·exact rY (hw.dF c l h) hf.size
    ·exact Kj.dF c l h
   cF:=λb h=>by simp only[Gh.over,hw.lt b h,aT];exact hw.cF b h
   ok:=λb x hx=>by
    have bu:b<H.af.length:=(dW.1 hx).1;exact fO.same (d:=d) (zfD hw hf) (by simp) bu (hw.lt b bu) (hw.cF b bu) (λ_ h=>by cases h) (λc h1 h2=>by omega) (hw.aA b x hx) (hw.ok b x hx)
   aA:=hw.aA
   laid:=λc hc=>by
    obtain⟨⟨cs,t,h1⟩,h2,h3⟩:=hw.laid c hc;have bu:=(ud.1 h1).1
    exact⟨⟨cs,t,by rw[(kq hf bu).1];exact h1⟩,by simp only[Gh.over,bu,aT];exact h2,h3⟩ }
 fr:=⟨(zfD (d:=d) (n:=H.af.length) hw hf).le,λc hc=>(kq hf hc.1).1,λc hc=>by simp[Gh.over,hc.1],λc hc o=>by simp[Gh.over,hc.1],hf.size,λ_ _ _=>rfl,hf.os,hf.tape,hf.output⟩
 len:=bV _
 cK:=λb h1 h2=>by omega
 aS:=λb x hx=>.inr (.inr ⟨x,hx,bV _⟩)
 uz:=λ_ h=>h
 gm:=λ_ _ h=>h
def zmL{dd:Nat}(hw:m8 g H.af w)(hf:Fr dd [] g.bare w g' w'){n:Nat}{l:Loc}{v:V}{cv:aP}(h:cq g' n w' l v cv):cq (Gh.over w.heap.size g g') H.af.length w' l v cv:=by
 unfold cq at *;split
 ·rename_i sz xs e;have h':iW g' n w' l e sz xs.length cv:=h;obtain⟨vs,h1,h2⟩:=h';refine⟨vs,h1,λc hc=>?_⟩;have tH:¬c<w.heap.size:=λbu=>by
   have:=(h2 c hc).1;rw[(kq hf bu).2.1] at this;cases this
  refine⟨by simp only[Gh.over,tH,aZ];exact(h2 c hc).1,λo ho=>by simp only[Gh.over,tH,aZ];exact(h2 c hc).2.1 o ho,λb hb e=>?_⟩
  have:=hw.lt b hb;rw[show(Gh.over w.heap.size g g').br b=g.br b from rfl] at e;omega
 ·trivial
def vD(iJ:P.follows .mixedOrders=true)(gx:yQ P)(eB:wQ P)(Fh:nW P gl){n:Nat}{f:FuncId}{args:aj}{v:V}{H':Hp}
  (hc:zl P gl n f args ⟨[],[]⟩=some (.ret v,H')) (ht:aA args=0) (hv:v.top=0) {aM:cO} {l:Loc} (h1:gv P gl g) (h2:m8 g H.af w) (h3:dG g H.af.length args aM) :
  Calls P f aM w (dP d H g w l (.ret v) H):=by
 refine Calls.mono (wD iJ gx eB Fh n f args ⟨[],[]⟩ _ _ hc g.bare w aM l (h1.le tV) (zh3 h2) ⟨h3.len,λj x c hx nJ=>(h3.rel j x c hx nJ).le tV (cR (zk (zy hx)) (by omega)),by simp[ht],h3.no⟩) λe w' he=>?_
 cases e with
 | returned cv =>
  obtain⟨v',g',e1,e2,e3,e4,_⟩:=he;cases e1;exact⟨v,_,rfl,zjm h2 e2.bW e2.fr,e3.le (zmK e2.fr) (by omega),zmL h2 e2.fr e4,by omega⟩
 | panicked chain =>
  obtain⟨v',cv,g',e1,_⟩:=he;cases e1
 | outgrown=>exact he.elim
abbrev uD:=List (FuncId×aj×V)
def uF:uD->FuncId->aj->bS
 | [],_,_=>none
 | (f,xs,v)::r,f',ys=>match Nat.beq f' f with
  | true=>match gA ys xs with
   | true=>some v
   | false=>uF r f' ys
  | false=>uF r f' ys
def Qr(P:aD)(g0:Nat->Nat->bS)(l:uD):Prop:=nW P { g:=g0,hk:=uF l }
def zlv{g0:Nat->Nat->bS}:Qr P g0 []:=⟨λf args v h=>(by cases h),λn f args H out H' h=>(by cases h),λ_ _ _ _ h=>(by cases h)⟩
def zlw{a b:aj}(h:gA a b=true):a=b:=by
 have:V.same (.bx a) (.bx b)=true:=h;have:=V.iB this;cases this;rfl
structure Ol where
 n:Nat
 f:FuncId
 args:aj
 H:Hp
 out:Out
 H':Hp
def zqH(a b:Hp):Bool:=mg a.aS b.aS && m7 a.af b.af
def CT:List Ol->Nat->FuncId->aj->Hp->Option (Out×Hp)
 | [],_,_,_,_=>none
 | m::r,n,f,args,H=>match Nat.beq f m.f with
  | true=>match Nat.ble m.n (n+1) && (gA args m.args && zqH H m.H) with
   | true=>some (m.out,m.H')
   | false=>CT r n f args H
  | false=>CT r n f args H
def zkb(P:aD)(g0:Nat->Nat->bS)(l:uD)(ms:List Ol):Prop:=nW P { g:=g0,hk:=uF l,fB:=CT ms }
def zjn(iJ:P.follows .mixedOrders=true)(gx:yQ P)(eB:wQ P){g0:Nat->Nat->bS}{l:uD}{ms:List Ol}(hl:zkb P g0 l ms){n:Nat}{f:FuncId}{args:aj}{v:V}{H':Hp}
  {uq:ai->Bool} (hc:zl P { g:=g0,hk:=uF l,uq:=uq,fB:=CT ms } n f args ⟨[],[]⟩=some (.ret v,H')) (ht:aA args=0) (hv:v.top=0) (DT:R8 P uq:=by intro _ _ _ _ h;cases h):zkb P g0 ((f,args,v)::l) ms:=by
 refine⟨λf' dU v' h d H g w aM lc h1 h2 h3=>?_,hl.heap,hl.it⟩;simp only[uF] at h;cases hb:Nat.beq f' f with
 | false=>rw[hb] at h;exact hl.pure f' dU v' h d H g w aM lc h1 h2 h3
 | true =>
  rw[hb] at h;cases hs:gA dU args with
  | false=>rw[hs] at h;exact hl.pure f' dU v' h d H g w aM lc h1 h2 h3
  | true =>
   rw[hs] at h;cases h;have:=eT hb;subst this;have:=zlw hs;subst this;exact vD (gl:={ g:=g0,hk:=uF l,uq:=uq,fB:=CT ms }) iJ gx eB ⟨hl.pure,hl.heap,DT⟩ hc ht hv h1 h2 h3
def iY.mono{d d':Nat}(h:d<=d'){H H':Hp}{g g':Gh}{w w':aB}(hA:iY d H g w H' g' w'):iY d' H g w H' g' w':={ hA with fr:=hA.fr.mono h }
def dP.mono{d d':Nat}(h:d<=d'){H H':Hp}{g:Gh}{w w':aB}{l:Loc}{out:Out}{e:Ending}(hp:dP d H g w l out H' e w'):dP d' H g w l out H' e w':=by
 cases e with
 | returned cv =>
  obtain⟨v,g',h1,h2,h3,h4,h5⟩:=hp;exact⟨v,g',h1,h2.mono h,h3,h4,h5⟩
 | panicked chain =>
  obtain⟨v,cv,g',h1,h2,h3,h4⟩:=hp;exact⟨v,cv,g',h1,h2,h3.mono h,h4⟩
 | outgrown=>exact hp.elim
def ZL(iJ:P.follows .mixedOrders=true)(gx:yQ P)(eB:wQ P){g0:Nat->Nat->bS}{l:uD}(hl:Qr P g0 l){n:Nat}{f:FuncId}{args:aj}{v:V}{H':Hp}
  {uq:ai->Bool} (hc:zl P { g:=g0,hk:=uF l,uq:=uq } n f args ⟨[],[]⟩=some (.ret v,H')) (ht:aA args=0) (hv:v.top=0) (DT:R8 P uq:=by intro _ _ _ _ h;cases h):Qr P g0 ((f,args,v)::l) :=
 zjn (ms:=[]) iJ gx eB hl hc ht hv DT
end
section
def Gh.CU(n:Nat)(g:Gh)(w':aB):Gh :=
 {M:=λc o=>if c<n then g.M c o else w'.cell? ⟨c,o,none⟩,br:=g.br,obj:=g.obj,own:=λc=>if c<n then g.own c else none,lk:=g.lk,fD:=g.fD }
variable{P:aD}{gl:Gl}{d:Nat}{H:Hp}{g g':Gh}{w w':aB}
def zoM{dd:Nat}{bs':List aN}(Kj:m8 g' bs' w')(hf:Fr dd [] g.bare w g' w'):Gh.Le 0 g' (Gh.CU w.heap.size g w'):=by
 refine⟨λc o v h=>?_,λb h=>by omega,hf.le.obj.symm,λ_ _ _ h=>by omega⟩
 simp only[Gh.CU];split
 next hc=>rw[<- (kq hf hc).2.2 o];exact h
 ·exact Kj.mem c o v h
def zh4{n dd:Nat}{bs:List aN}(hw:m8 g bs w)(hf:Fr dd [] g.bare w g' w'):lG d none none n g w (Gh.CU w.heap.size g w') w':=by
 refine⟨⟨λc o v h=>?_,λ_ _=>rfl,rfl,λ_ _ _ _ h=>h⟩,λc hc _ _=>(kq hf hc).1,λc hc _=>by simp[Gh.CU,hc],λc hc _ o=>by simp[Gh.CU,hc],hf.size,λ_ _ _=>rfl,λ_ h=>(by cases h),λ_ h=>(by cases h),λ_ _ _ _=>rfl,hf.os,hf.tape,hf.output⟩
 have:=xU (hw.mem c o v h);simp[Gh.CU,this,h]
def zlx{dd:Nat}(hw:m8 g H.af w){bs':List aN}(_hw':m8 g' bs' w')(hf:Fr dd [] g.bare w g' w'):iY d H g w H (Gh.CU w.heap.size g w') w' where
 bW :=
  {mem:=λc o v h=>by
    simp only[Gh.CU] at h;split at h
    next hc=>have h0:=hw.mem c o v h;simp only[World.cell?,(kq hf hc).1] at h0 ⊢;exact h0
    ·exact h
   lt:=λb h=>rY (hw.lt b h) hf.size
   inj:=hw.inj
   apart:=λb h o=>by simp only[Gh.CU,hw.lt b h,aT];exact hw.apart b h o
   dF:=λc l h=>by
    simp only[Gh.CU] at h;split at h
    ·exact rY (hw.dF c l h) hf.size
    ·cases h
   cF:=λb h=>by simp only[Gh.CU,hw.lt b h,aT];exact hw.cF b h
   ok:=λb x hx=>by
    have bu:b<H.af.length:=(dW.1 hx).1;exact fO.same (d:=d) (zh4 hw hf) (by simp) bu (hw.lt b bu) (hw.cF b bu) (λ_ h=>by cases h) (λc h1 h2=>by omega) (hw.aA b x hx) (hw.ok b x hx)
   aA:=hw.aA
   laid:=λc hc=>by
    obtain⟨⟨cs,t,h1⟩,h2,h3⟩:=hw.laid c hc;have bu:=(ud.1 h1).1
    exact⟨⟨cs,t,by rw[(kq hf bu).1];exact h1⟩,by simp only[Gh.CU,bu,aT];exact h2,h3⟩ }
 fr:=⟨(zh4 (d:=d) (n:=H.af.length) hw hf).le,λc hc=>(kq hf hc.1).1,λc hc=>by simp[Gh.CU,hc.1],λc hc o=>by simp[Gh.CU,hc.1],hf.size,λ_ _ _=>rfl,hf.os,hf.tape,hf.output⟩
 len:=bV _
 cK:=λb h1 h2=>by omega
 aS:=λb x hx=>.inr (.inr ⟨x,hx,bV _⟩)
 uz:=λ_ h=>h
 gm:=λ_ _ h=>h
inductive mL(H:Hp):V->V->Prop where
 |same {v:V}:v.top=0->mL H v v
 |sr {b off len cap:Nat} {cs:aj} {t:ai}:H.af[b]?=some (.cells cs t)->aA cs=0->off+len<=cs.length->mL H (.sr b off len cap) (.sl 1 ((cs.drop off).take len) .no)
 |ul {b u len:Nat} {cs:aj} {e:ai}:H.af[b]?=some (.ul u 1 cs e)->aA cs=0->mL H (.fA b u len) (.sl 1 cs .no)
 |sl {xs ys:aj} {o:Own}:xs.length=ys.length->(∀(j:Nat)(x:V),xs[j]?=some x->x.cells=[x]/\x.one=true)->(∀(j:Nat)(y:V),ys[j]?=some y->y.cells=[y]/\y.one=true)->(∀(j:Nat)(x y:V),xs[j]?=some x->ys[j]?=some y->mL H x y)->mL H (.sl 1 xs o) (.sl 1 ys .no)
 |agg {xs ys:aj}:xs.length=ys.length->(∀(j:Nat)(y:V),ys[j]?=some y->y.one=true)->(∀(j:Nat)(x y:V),xs[j]?=some x->ys[j]?=some y->mL H x y)->mL H (.agg xs) (.agg ys)
 |bx {xs ys:aj}:xs.length=ys.length->(∀(j:Nat)(x y:V),xs[j]?=some x->ys[j]?=some y->mL H x y)->mL H (.bx xs) (.bx ys)
def mM:∀{xs:aj},(∀(j:Nat)(x:V),xs[j]?=some x->x.cells=[x])->zL xs=xs
 | [],_=>rfl
 | x::xs,h=>by
  have h0:=h 0 x rfl;have ih:=mM (xs:=xs) λj y hy=>h (j+1) y hy;simp only[zL,FU] at ih ⊢;rw[h0,ih];rfl
def VX{x:V}(h:x.one=true):x.cells=[x]:=by
 cases x<;>first|rfl|(simp[V.one,oJ] at h)
def mL.top{v v':V}(h:mL H v v'):v'.top=0:=by
 have hz:∀{l:aj},(∀y∈l,y.top=0)->aA l=0:=λ{l} hl=>Nat.le_zero.1 (qU λy hy=>by rw[hl y hy];exact bV _)
 induction h with
 | same h=>exact h
 | sr hb hc hl =>
  simp only[V.top];refine hz λy hy=>?_;have:=zk (FR (EZ hy));omega
 | ul hb hc=>simp only[V.top];exact hc
 | sl hl h1 h2 h3 ih =>
  simp only[V.top];refine hz λy hy=>?_;obtain⟨j,hj,e⟩:=List.getElem_of_mem hy;exact ih j _ y (lB (by omega)) (by rw[lB hj,e])
 | agg hl h1 h2 ih =>
  simp only[V.top];refine hz λy hy=>?_;obtain⟨j,hj,e⟩:=List.getElem_of_mem hy;exact ih j _ y (lB (by omega)) (by rw[lB hj,e])
 | bx hl h2 ih =>
  simp only[V.top];refine hz λy hy=>?_;obtain⟨j,hj,e⟩:=List.getElem_of_mem hy;exact ih j _ y (lB (by omega)) (by rw[lB hj,e])
def mL.SE{H':Hp}{G:Gh}(Kj:m8 g' H'.af w')(hle:Gh.Le 0 g' G)(eS:∀b,b<H'.af.length->∀o v,w'.cell? ⟨g'.br b,o,none⟩=some v->G.M (g'.br b) o=some v)
  (gU:∀b c,b<H'.af.length->(c=g'.br b\/g'.own c=some (.cell b 0))->∀o v,w'.cell? ⟨c,o,none⟩=some v->G.M c o=some v) {v v':V} (h:mL H' v v'):∀{cv:aP},aL g' v cv->aL G v' cv:=by
 induction h with
 | same h=>intro cv hr;exact hr.le hle (by omega)
 | sr hb hc hl =>
  rename_i b off len cap cs t;intro cv hr;cases hr with
  | sr tJ =>
   have bu:b<H'.af.length:=(dW.1 hb).1;obtain⟨arr,h1,h2,h3⟩:=Kj.ok b _ hb;have hlen:((cs.drop off).take len).length=len:=by simp;omega
   have gI:∀(j:Nat)(x:V),((cs.drop off).take len)[j]?=some x->cs[off+j]?=some x/\j<len:=λj x hx=>by
    rw[Bk] at hx;split at hx
    ·rw[HN] at hx;exact⟨hx,by assumption⟩
    ·cases hx
   have sn:∀(j:Nat)(x:V),((cs.drop off).take len)[j]?=some x->x.one=true/\∃a,arr[off+j]?=some a/\aL g' x a:=λj x hx=>by
    obtain⟨e1,e2⟩:=gI j x hx;have hj:off+j<arr.size:=by rw[<- h2];exact(dW.1 e1).1
    have:=h3 (off+j) x _ e1 (HI hj);exact⟨this.1,_,HI hj,this.2.1⟩
   have nT:zL ((cs.drop off).take len)=(cs.drop off).take len:=mM λj x hx=>VX (sn j x hx).1;have:=aL.sl (g:=G) (sz:=1) (xs:=(cs.drop off).take len) (ow:=.no) (a:=some ⟨g'.br b,off,none⟩) (cap:=cap) (c:=g'.br b) (o:=off) (λj=>arr[off+j]?.getD (.bool false))
    (λx hx=>by
     obtain⟨j,hj,e⟩:=List.getElem_of_mem hx
     rw[VX (sn j x (by rw[lB hj,e])).1];rfl)
    (by rw[hlen];exact tJ) (λ_=>rfl)
    (λj x hx=>(sn j x (by rwa [nT] at hx)).1)
    (λj x hx=>by
     rw[nT] at hx;obtain⟨_,a,ha,_⟩:=sn j x hx;refine eS b bu _ _ ?_;simp only[World.cell?,h1,ha]
     simp[])
    (λj x hx=>by
     rw[nT] at hx;obtain⟨_,a,ha,hr⟩:=sn j x hx;simp only[ha,tS];refine hr.le hle ?_;have:=zk (FR (EZ (oH hx)))
     omega)
   rw[hlen] at this;exact this
 | ul hb hc =>
  rename_i b u len cs e;intro cv hr;have bu:b<H'.af.length:=(dW.1 hb).1;obtain⟨c,l0,cap,vs,hu⟩:=Kj.ok b _ hb;cases hr with
  | fA hh =>
   rw[hu.fD] at hh;cases hh;obtain⟨E8,hr|⟨c',o5,cur,hv,h0,nC,h5,h6,h7,h8⟩⟩:=hu.row
   ·cases hr.1
   cases hv;have hlen:cs.length=len:=by rw[hu.len,E8,ND]
   have CE:∀(j:Nat)(x:V),cs[j]?=some x->∃v,vs[j]?=some v/\x.one=true/\aL g' x v/\w'.cell? ⟨c,j,none⟩=some v:=λj x hx=>by
    have hj:=(dW.1 hx).1;obtain⟨v0,Qs⟩:∃v0,vs[j]?=some v0:=⟨vs[j]'(by rw[<- hu.len];exact hj),lB _⟩
    obtain⟨k1,k2⟩:=hu.cells j x _ hx Qs;refine⟨_,Qs,k1,k2,?_⟩;rw[<- h8,Bk] at Qs;split at Qs<;>try (cases Qs;done)
    rw[cell_of_row w' c j cur e (0,0) nC];simpa using Qs
   have nT:zL cs=cs:=mM λj x hx=>VX (CE j x hx).choose_spec.2.1;rw[<- hlen];refine .sl (sz:=1) (xs:=cs) (ow:=.no) (c:=c) (o:=0) (λj=>vs[j]?.getD (.bool false)) (λx hx=>?_) (by rw[hlen];exact h5) (λ_=>rfl) (λj x hx=>?_) (λj x hx=>?_) (λj x hx=>?_)
   ·obtain⟨j,hj⟩:=List.getElem?_of_mem hx;rw[VX (CE j x hj).choose_spec.2.1];rfl
   ·rw[nT] at hx;exact(CE j x hx).choose_spec.2.1
   ·rw[nT] at hx;obtain⟨v,k0,_,_,k3⟩:=CE j x hx;rw[k0,eM];exact gU b c bu hu.uk j v k3
   ·rw[nT] at hx;obtain⟨v,k0,_,k2,_⟩:=CE j x hx;rw[k0];exact k2.le hle (by have:=zk (zy hx);omega)
 | sl hl h1 h2 h3 ih =>
  rename_i xs ys o;intro cv hr;have hfx:zL xs=xs:=mM λj x hx=>(h1 j x hx).1;have Qm:zL ys=ys:=mM λj y hy=>(h2 j y hy).1;cases hr with
  | sl f e1 e2 e3 e4 e5 e6 =>
   rw[hfx] at e4 e5 e6;rw[hl];have hx:∀(j:Nat)(y:V),ys[j]?=some y->∃x,xs[j]?=some x:=λj y hy=>⟨_,lB (by rw[hl];exact(dW.1 hy).1)⟩
   refine .sl f (λy hy=>?_) (by rw[<- hl];exact e2) (λcg=>e3 λe=>cg (List.eq_nil_of_length_eq_zero (by rw[<- hl,e];rfl))) (λj y hy=>?_) (λj y hy=>?_) (λj y hy=>?_)
   ·obtain⟨j,hj,e⟩:=List.getElem_of_mem hy;rw[(h2 j y (by rw[lB hj,e])).1];rfl
   ·rw[Qm] at hy;exact(h2 j y hy).2
   ·rw[Qm] at hy;obtain⟨x,hx⟩:=hx j y hy;exact hle.M _ _ _ (e5 j x hx)
   ·rw[Qm] at hy;obtain⟨x,hx⟩:=hx j y hy;exact ih j x y hx hy (e6 j x hx)
 | agg hl h1 h2 ih =>
  rename_i xs ys;intro cv hr;cases hr with
  | agg e1 e2 e3 =>
   refine .agg (by rw[<- hl,e1]) (λj y hy=>h1 j y hy) λj y v hy hv=>?_
   have SF:xs[j]?=some (xs[j]'(by rw[hl];exact(dW.1 hy).1)):=lB _
   exact ih j _ y SF hy (e3 j _ v SF hv)
 | bx hl h2 ih =>
  rename_i xs ys;intro cv hr;cases hr with
  | bx e1 e3 =>
   refine .bx (by rw[<- hl,e1]) λj y v hy hv=>?_
   have SF:xs[j]?=some (xs[j]'(by rw[hl];exact(dW.1 hy).1)):=lB _
   exact ih j _ y SF hy (e3 j _ v SF hv)
def mL.rel{dd:Nat}{H':Hp}(Kj:m8 g' H'.af w')(hf:Fr dd [] g.bare w g' w')(fZ:∀b,b<H'.af.length->w.heap.size<=g'.br b){v v':V}(h:mL H' v v'){cv:aP}(hr:aL g' v cv):aL (Gh.CU w.heap.size g w') v' cv:=by
 refine h.SE Kj (zoM Kj hf) (λb hb o v hv=>?_) (λb c hb hc o v hv=>?_) hr
 ·simp only[Gh.CU,if_neg (J9.2 (fZ b hb))];exact hv
 ·have tH:¬c<w.heap.size:=λbu=>by
   rcases hc with e|e
   ·have:=fZ b hb;omega
   ·rw[(kq hf bu).2.1] at e;cases e
  simp only[Gh.CU,if_neg tH];exact hv
def ZM(iJ:P.follows .mixedOrders=true)(gx:yQ P)(eB:wQ P)(Fh:nW P gl){n:Nat}{f:FuncId}{args:aj}{v v':V}{H':Hp}
  (hc:zl P gl n f args ⟨[],[]⟩=some (.ret v,H')) (ht:aA args=0) (hv:mL H' v v') (lC:∀sz xs e,v'≠.sl sz xs (.yes e)) {aM:cO} {l:Loc} (h1:gv P gl g) (h2:m8 g H.af w) (h3:dG g H.af.length args aM) :
  Calls P f aM w (dP d H g w l (.ret v') H):=by
 refine Calls.mono (wD iJ gx eB Fh n f args ⟨[],[]⟩ _ _ hc g.bare w aM l (h1.le tV) (zh3 h2) ⟨h3.len,λj x c hx nJ=>(h3.rel j x c hx nJ).le tV (cR (zk (zy hx)) (by omega)),by simp[ht],h3.no⟩) λe w' he=>?_
 cases e with
 | returned cv =>
  obtain⟨u,g',e1,e2,e3,e4,_⟩:=he;cases e1;refine⟨v',_,rfl,zlx h2 e2.bW e2.fr,hv.rel e2.bW e2.fr (λb hb=>e2.cK b (dJ _) hb) e3,?_,by rw[hv.top];exact dJ _⟩
  unfold cq;split
  next sz xs e=>exact absurd rfl (lC sz xs e)
  ·trivial
 | panicked chain =>
  obtain⟨u,cv,g',e1,_⟩:=he;cases e1
 | outgrown=>exact he.elim
end
section
variable{cx:Cx}{n:Nat}{all:Array Oper}{takes:bA}
def W(cx:Cx)(n:Nat)(c:Code)(s:St)(Q:Ex->St->Prop):Prop:=∃ex s',cx.code n c s=some (ex,s')/\Q ex s'
def O(cx:Cx)(all:Array Oper)(takes:bA)(ops:List Oper)(s:St)(Q:Ex->St->Prop):Prop:=∃ex s',cx.ops all takes ops s=some (ex,s')/\Q ex s'
def F8{α β:Type}{a:α}{b:β}{Q:α->β->Prop}:(∃x y,(a=x/\b=y)/\Q x y) ↔ Q a b :=
 ⟨λ⟨_,_,⟨h1,h2⟩,h⟩=>by subst h1 h2;exact h,λh=>⟨_,_,⟨rfl,rfl⟩,h⟩⟩
def Ld(K:St->Prop)(Q:Ex->St->Prop):Ex->St->Prop
 | .normal,s=>K s
 | ex,s=>Q ex s
@[simp] theorem bL {K:St->Prop} {Q:Ex->St->Prop} {s:St}:Ld K Q .normal s=K s:=rfl
@[simp] theorem dV {K:St->Prop} {Q:Ex->St->Prop} {s:St} {i:Nat}:Ld K Q (.exit i) s=Q (.exit i) s:=rfl
@[simp] theorem VY {K:St->Prop} {Q:Ex->St->Prop} {s:St}:Ld K Q .ret s=Q .ret s:=rfl
@[simp] theorem VZ {K:St->Prop} {Q:Ex->St->Prop} {s:St} {v:V}:Ld K Q (.rQ v) s=Q (.rQ v) s:=rfl
@[simp] theorem SG {K:St->Prop} {Q:Ex->St->Prop} {s:St} {i:Nat}:Ld K Q (.goto i) s=Q (.goto i) s:=rfl
def br(id:Nat)(Q:Ex->St->Prop):Ex->St->Prop
 | .exit i,s=>Q (if Nat.beq i id then .normal else .exit i) s
 | ex,s=>Q ex s
@[simp] theorem Om {id:Nat} {Q:Ex->St->Prop} {s:St}:br id Q .normal s=Q .normal s:=rfl
@[simp] theorem SH {id i:Nat} {Q:Ex->St->Prop} {s:St}:br id Q (.exit i) s=Q (if Nat.beq i id then .normal else .exit i) s:=rfl
@[simp] theorem V0 {id:Nat} {Q:Ex->St->Prop} {s:St}:br id Q .ret s=Q .ret s:=rfl
@[simp] theorem V1 {id:Nat} {Q:Ex->St->Prop} {s:St} {v:V}:br id Q (.rQ v) s=Q (.rQ v) s:=rfl
@[simp] theorem SI {id i:Nat} {Q:Ex->St->Prop} {s:St}:br id Q (.goto i) s=Q (.goto i) s:=rfl
def zqI{s:St}{Q:Ex->St->Prop}:W cx n .skip s Q ↔ Q .normal s:=by
 unfold W;simp[Cx.code,F8]
def zrH{s:St}{Q:Ex->St->Prop}:W cx n .ret s Q ↔ Q .ret s:=by
 unfold W;simp[Cx.code,F8]
def zqJ{s:St}{i:Nat}{Q:Ex->St->Prop}:W cx n (.exit i) s Q ↔ Q (.exit i) s:=by
 unfold W;simp[Cx.code,F8]
def zrI{a b:Code}{s:St}{Q:Ex->St->Prop}:W cx n (.seq a b) s Q ↔ W cx n a s (Ld (λs=>W cx n b s Q) Q):=by
 unfold W;simp only[Cx.code];cases h:cx.code n a s with
 | none=>simp
 | some r =>
  obtain⟨ex,s1⟩:=r;cases ex<;>simp[F8]
def zoN{id:Nat}{c:Code}{s:St}{Q:Ex->St->Prop}:W cx n (.block id c) s Q ↔ W cx n c s (br id Q):=by
 unfold W;simp only[Cx.code];cases h:cx.code n c s with
 | none=>simp
 | some r =>
  obtain⟨ex,s1⟩:=r;cases ex<;>simp[F8]
def zmM{id:Nat}{ops:Array Oper}{env:aj}{H:Hp}{lk:aC}{df:aV}{Q:Ex->St->Prop} :
  W cx n (.region id ops false) ⟨env,H,lk,df⟩ Q ↔ O cx ops (wi ops) ops.toList ⟨env,H,[],df⟩ Q:=by
 unfold W O;simp only[Cx.code]
def zrJ{s:St}{Q:Ex->St->Prop}:O cx all takes [] s Q ↔ Q .normal s:=by
 unfold O;simp[Cx.ops,F8]
def MB(dst:eC)(K:St->Prop)(Q:Ex->St->Prop):Option (OR×St)->Prop
 | some (.val v,⟨env,H,lk,df⟩)=>K ⟨aI env dst v,H,lk,df⟩
 | some (.skip,⟨env,H,lk,df⟩)=>K ⟨aI env dst (.bx []),H,lk,df⟩
 | some (.rQ v,s)=>Q (.rQ v) s
 | none=>False
@[simp] theorem au {dst:eC} {K:St->Prop} {Q:Ex->St->Prop} {v:V} {env:aj} {H:Hp} {lk:aC} {df:aV}:MB dst K Q (some (.val v,⟨env,H,lk,df⟩))=K ⟨aI env dst v,H,lk,df⟩:=rfl
@[simp] theorem bK {dst:eC} {K:St->Prop} {Q:Ex->St->Prop} {env:aj} {H:Hp} {lk:aC} {df:aV}:MB dst K Q (some (.skip,⟨env,H,lk,df⟩))=K ⟨aI env dst (.bx []),H,lk,df⟩:=rfl
@[simp] theorem V2 {dst:eC} {K:St->Prop} {Q:Ex->St->Prop} {v:V} {s:St}:MB dst K Q (some (.rQ v,s))=Q (.rQ v) s:=rfl
@[simp] theorem SJ {dst:eC} {K:St->Prop} {Q:Ex->St->Prop}:MB dst K Q none=False:=rfl
def zoO{dst:eC}{op:Op}{type:ai}{pos:String}{after:Array Edge}{os:List Oper}{env:aj}{H:Hp}{lk:aC}{df:aV}{Q:Ex->St->Prop} :
  O cx all takes (⟨dst,op,type,pos,after,none⟩::os) ⟨env,H,lk,df⟩ Q ↔ MB dst (λs=>O cx all takes os s Q) Q (cx.op takes ⟨dst,op,type,pos,after,none⟩ env H lk df):=by
 unfold O;simp only[Cx.ops,zN];cases h:cx.op takes ⟨dst,op,type,pos,after,none⟩ env H lk df with
 | none=>simp
 | some r =>
  obtain⟨r,s1⟩:=r;obtain⟨bT,H1,c7,dB⟩:=s1;cases r<;>simp[jc,F8]
end
end Go.Vm
