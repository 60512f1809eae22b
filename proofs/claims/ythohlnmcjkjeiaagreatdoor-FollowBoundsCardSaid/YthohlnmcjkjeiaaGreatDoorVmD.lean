/- Vm: what the machine answers, the program does. Conditions: none but those named. -/
import Derived.Orders
import Derived.RangeFuncFrom
import Derived.RangeFuncCalls
import Derived.LoopNIn
import Derived.OrdersIn
import Derived.RangeFuncNested
import Derived.Carry
import Derived.OpenShut
import Derived.ProofKit
import Derived.LaidLaws
import Derived.LaidMore
import Derived.FnData
import Derived.ChangeArms
import Derived.Lib.Bytealg
import Derived.Test.YthohlnmcjkjeiaaGreatDoorVmB
import Derived.Test.YthohlnmcjkjeiaaGreatDoorVmC
set_option linter.defProp false
namespace Go.Vm
open Go
section
variable{P:aM}{g:Gh}{w:aK}
structure sG(P:aM)(gl:Gl):Prop where
 pure:∀f args v,gl.hk f args=some v->∀d H g w bx l,lg P gl g->rj g H.aj w->gz g H.aj.length args bx->Calls P f bx w (hO d H g w l (.ret v) H)
 heap:∀n f args H out H',gl.iA n f args H=some (out,H')->∀d,2 * (n+1)<=d->∀g w bx l,lg P gl g->rj g H.aj w->gz g H.aj.length args bx->Calls P f bx w (hO d H g w l out H')
 it:Uu P gl.uq
def ziU{gl:Gl}(gT:xL P)(eV:vQ P)(Fs:sG P gl)(gC:∀n B,Oq P { P,gl,call:=qt P gl n,uq:=gl.uq } B/\Ot P { P,gl,call:=qt P gl n,uq:=gl.uq } B):∀n,L9 P gl (qt P gl n) (2 * n)
 | 0=>λf args H out H' hc=>by simp[qt] at hc
 | n+1=>by
  have ih:=ziU gT eV Fs gC n;intro f args H out H' hc g w bx l ez hw ha;obtain⟨bs,es⟩:=H;simp only[qt] at hc;split at hc
  next v hv=>simp only[aR,bS] at hc;obtain⟨rfl,rfl⟩:=hc;exact Fs.pure f args v hv _ _ g w bx l ez hw ha
  split at hc
  next r hv=>simp only[aR] at hc;subst hc;exact Fs.heap n f args _ out H' hv _ (ek _) g w bx l ez hw ha
  split at hc<;>try (cases hc;done)
  rename_i fn hf;split at hc<;>try (cases hc;done)
  rename_i body hb;simp only[jr,fj] at hc;split at hc<;>try (cases hc;done)
  rename_i ex env H1 lk df hx;split at hc<;>try (cases hc;done)
  rename_i i_ rA;have hd1:2 * n<2 * (n+1):=by omega
  have Gi:2 * n+1<2 * (n+1):=by omega
  have mh:pM P { P,gl,call:=qt P gl n,uq:=gl.uq } ⟨2 * (n+1),bs,g,w,[]⟩:=⟨rfl,gT,eV,ez,2 * n,hd1,ih⟩;have h0:=ziR (H:=⟨bs,es⟩) hw ha (2 * (n+1)) fn.ntmps;refine zdE hf hb (Code.wp_mono ?_ (zlp mh (gC n _).1 (gC n _).2 n body _ _ ex g _ w hx h0));rintro e a' w' ⟨g',h1,h2⟩;obtain⟨dc,w0,Gm,Fl⟩:=zlr df a'.defers w' h1
  have hpc:∃pc,oF g' H1.aj.length i_ pc/\∀R,Leaves P fn a'.tmps R dc (fe pc false) w0->zgB P fn R e a' w':=by
   cases ex<;>cases e<;>simp only[Bv,aR,reduceCtorEq] at rA<;>try (exact h2.elim)
   ·subst rA;exact⟨none,trivial,λR h=>⟨dc,w0,Gm,h⟩⟩
   ·subst rA;exact⟨none,trivial,λR h=>⟨dc,w0,Gm,h⟩⟩
   ·subst rA;obtain⟨cv,rfl,h3,h4⟩:=h2;exact⟨some cv,⟨h3,h4⟩,λR h=>⟨dc,w0,Gm,h⟩⟩
  obtain⟨pc,hp,iP⟩:=hpc;refine iP _ ?_;split at hc<;>try (cases hc;done)
  ·rename_i v H2 Gn;rw[wy] at hc;simp only[aR,bS] at hc;obtain⟨rfl,rfl⟩:=hc;refine Us (B:=⟨2 * (n+1),bs,g,w,[]⟩) gT eV ih (gC n) Gi ez (fZ df) i_ pc env H1 lk g' dc w0 Fl hp Gn λg2 Ou w2 h3 h4=>?_;cases Ou with
   | none=>exact h4.elim
   | some cv =>
    obtain⟨f1,f2,f3⟩:=Yl hw h3 h4.2;exact⟨v,cv,g2,rfl,rfl,f1,h4.1,f2⟩
  ·rename_i H2 Gn;split at hc<;>try (cases hc;done)
   rename_i vs I7;rw[qd,wy] at hc;simp only[aR,bS] at hc;obtain⟨rfl,rfl⟩:=hc;refine Us (B:=⟨2 * (n+1),bs,g,w,[]⟩) gT eV ih (gC n) Gi ez (fZ df) i_ pc env H1 lk g' dc w0 Fl hp Gn λg2 Ou w2 h3 h4=>?_;cases Ou with
   | some cv=>exact h4.elim
   | none =>
    obtain⟨g3,s3,cv,r1,r2,r3,r4,r5,r6⟩:=zfg h3 I7 l;have r5':=r5;obtain⟨f1,f2,f3⟩:=Yl (s:=s3) hw r3 (top:=(iI vs).top) (by rw[r2];exact r6)
    rw[r2] at f1 f2 f3;exact⟨cv,r1,iI vs,g3,rfl,f1,r4,r5.less f3,f2⟩
end
section
variable{P:aM}
def gW(env bK:aA)(xs:List aO):Prop:=∀t,Operand.tmp t∈xs->env[t]?=bK[t]?
def gW.mono{env bK:aA}{xs ys:List aO}(h:gW env bK xs)(hs:∀x∈ys,x∈xs):gW env bK ys:=λt ht=>h t (hs _ ht)
def gW.aB{env bK:aA}{xs:List aO}(h:gW env bK xs):∀x∈xs,Vm.aB env x=Vm.aB bK x:=λx hx=>by
 cases x with
 | tmp t=>simp only[Vm.aB,zV,h t hx]
 | _=>rfl
def gW.aL{env bK:aA}{xs:List aO}(h:gW env bK xs):∀{ys:List aO},(∀y∈ys,y∈xs)->Vm.aL env ys=Vm.aL bK ys
 | [],_=>rfl
 | y::ys,hy=>by
  simp only[Vm.aL,h.aB y (hy y (eS ..)),h.aL (ys:=ys) λz hz=>hy z (dB _ hz)]
def gW.dU{env bK:aA}{xs:List aO}(h:gW env bK xs){x:Option aO}(hx:∀y,x=some y->y∈xs):Vm.dU env x=Vm.dU bK x:=by
 cases x with
 | none=>rfl
 | some y=>simp only[Vm.dU,h.aB y (hx y rfl)]
def zd9{env bK:aA}{xs:List aO}(h:gW env bK xs){place:Nat->Option (Nat×Nat)}:∀{ps:List (Nat×aO)}{cs:aA},(∀p∈ps,p.2∈xs)->xJ cs place env ps=xJ cs place bK ps
 | [],_,_=>rfl
 | (i,x)::ps,cs,hp=>by
  simp only[xJ,h.aB x (hp (i,x) (eS ..))];have ih:=λcs=>zd9 h (place:=place) (ps:=ps) (cs:=cs) λp hq=>hp p (dB _ hq);simp only[ih]
def zfj{env bK:aA}{xs:List aO}(h:gW env bK xs){n len:Nat}:∀{ps:List (Nat×aO)}{cs:aA},(∀p∈ps,p.2∈xs)->CE n len env cs ps=CE n len bK cs ps
 | [],_,_=>rfl
 | (i,x)::ps,cs,hp=>by
  simp only[CE,h.aB x (hp (i,x) (eS ..))];have ih:=λcs=>zfj h (n:=n) (len:=len) (ps:=ps) (cs:=cs) λp hq=>hp p (dB _ hq);simp only[ih]
def zhD{env bK:aA}{xs:List aO}(h:gW env bK xs){t:aq}{ps:Array (Nat×aO)}(hp:∀p∈ps.toList,p.2∈xs):wx P t ps env=wx P t ps bK:=by
 unfold wx;simp only[zd9 h hp]
def ziV{env bK:aA}{gl:Nat->Nat->cP}{o:Oper}{H:Hp}(h:gW env bK o.op.operands.toList):jA P gl o env H=jA P gl o bK H:=by
 obtain⟨dst,op,type,pos,after,guard⟩:=o;have hp:=h.aB;cases op<;>simp only[Op.operands] at h hp
 case build t ps=>simp only[jA,zhD h (ps:=ps) λp hq=>by simpa using HQ (f:=(·.2)) hq]
 case buildSlice t n ps=>simp only[jA,λa b c=>zfj h (n:=a) (len:=b) (cs:=c) (ps:=ps.toList) λp hq=>by simpa using HQ (f:=(·.2)) hq]
 case makeFunc fn first cap =>
  simp only[jA,h.aL (ys:=first.toList) λy hy=>by simp at hy ⊢;exact .inl hy,h.aL (ys:=cap.toList) λy hy=>by simp at hy ⊢;exact .inr hy]
 case slice t x lo hi mx =>
  simp only[jA,hp x (by simp),h.dU (x:=lo) λy hy=>by subst hy;simp,h.dU (x:=hi) λy hy=>by subst hy;simp]
  cases mx with
  | none=>rfl
  | some m=>simp only[hp m (by simp)]
 all_goals first
  |rfl
  |(simp[jA,hp];done)
end
section
variable{P:aM}
def kO(env:aA):aO->aA
 | .tmp t=>match env[t]? with
  | some (.sl sz xs (.yes _))=>env.set t (.sl sz xs .no)
  | _=>env
 | _=>env
def oA(env:aA):Option aO->aA
 | some x=>kO env x
 | none=>env
def zgC{env:aA}{t sz:Nat}{xs:aA}{e:aq}(h:env[t]?=some (.sl sz xs (.yes e))):kO env (.tmp t)=env.set t (.sl sz xs .no):=by
 simp only[kO,h]
def QA{env:aA}{t:Nat}{v:V}(h:env[t]?=some v)(hn:∀sz xs e,v≠.sl sz xs (.yes e)):kO env (.tmp t)=env:=by
 simp only[kO,h];split
 next h1=>cases h1;exact(hn _ _ _ rfl).elim
 ·rfl
def ziW{env:aA}{t sz:Nat}{xs:aA}{e:aq}(h:env[t]?=some (.sl sz xs (.yes e))):take env (.tmp t)=some (.sl sz xs (.yes e),env.set t (.sl sz xs .no)):=by
 simp only[take,zV,h,fB]
def zls{env:aA}{t:Nat}{v:V}(h:env[t]?=some v)(hn:∀sz xs e,v≠.sl sz xs (.yes e)):take env (.tmp t)=some (aT v,env):=by
 cases v with
 | sl sz xs o=>cases o with
  | yes e=>exact(hn _ _ _ rfl).elim
  | _=>simp only[take,zV,h]
 | _=>simp only[take,zV,h]
def wV{env bK:aA}{x:aO}(h:gW env bK [x]){v:V}{e:aA}(ht:take env x=some (v,e)):e=kO env x/\take bK x=some (v,kO bK x):=by
 cases x with
 | tmp t =>
  have ha:=h t (by simp)
  cases hv:env[t]? with
  | none=>simp[take,zV,hv] at ht
  | some v0 =>
   have Fj:bK[t]?=some v0:=by rw[<- ha,hv]
   by_cases hy:∃sz xs e,v0=.sl sz xs (.yes e)
   ·obtain⟨sz,xs,e',rfl⟩:=hy;rw[ziW hv] at ht;cases ht;exact⟨(zgC hv).symm,by rw[ziW Fj,zgC Fj]⟩
   ·have hn:∀sz xs e,v0≠.sl sz xs (.yes e):=λsz xs e h=>hy ⟨sz,xs,e,h⟩;rw[zls hv hn] at ht;cases ht;exact⟨(QA hv hn).symm,by rw[zls Fj hn,QA Fj hn]⟩
 | const c =>
  simp only[take,aB,l8,bS] at ht;obtain⟨u,hu,rfl,rfl⟩:=ht;exact⟨rfl,by simp[take,aB,hu,kO]⟩
 | global k =>
  simp only[take,aB,bG,aR,bS] at ht;obtain⟨rfl,rfl⟩:=ht;exact⟨rfl,by simp[take,aB,kO]⟩
 | func f =>
  simp only[take,aB,bG,aR,bS] at ht;obtain⟨rfl,rfl⟩:=ht;exact⟨rfl,by simp[take,aB,kO]⟩
end
section
variable{P:aM}
def zgn{cx:Cx}{b:Builtin}{ts:Array aq}{args:ot}{env bK:aA}{H:Hp}{xs:List aO}{r:OR}{e:aA}{k:Option aO}(h:gW env bK xs)(hx:∀x∈args.toList,x∈xs)
  (hb:cx.builtin b ts args env H=some (r,e)) (hk:k=match b with|.append=>args.toList.head?|_=>none):e=oA env k/\cx.builtin b ts args bK H=some (r,oA bK k):=by
 have hp:=h.aB;unfold Cx.builtin at hb ⊢;split at hb
 ·rename_i x t ha ht hb;have e1:=hp x (hx x (by simp[ha]))
  simp only[<- e1] at hk ⊢;subst hk;simp only[Option.bind_eq_bind,fJ,aR,bS] at hb;obtain⟨u,h1,v,h2,h3,rfl⟩:=hb;refine⟨rfl,?_⟩;simp[h1,h2,h3,oA]
 ·rename_i x y t u ha ht hb;have e1:=hp y (hx y (by simp[ha]))
  simp only[ha,<- e1] at hk ⊢;subst hk;split at hb<;>try (cases hb;done)
  rename_i hg;rw[if_neg hg];simp only[Option.bind_eq_bind,fJ,aR,bS] at hb;obtain⟨y',h1,⟨v,e'⟩,h2,w,h3,h4,rfl⟩:=hb;obtain⟨t1,t2⟩:=wV (h.mono (xs:=xs) (ys:=[x]) (by simpa using hx x (by simp[ha]))) h2
  refine⟨t1,?_⟩;simp[h1,t2,h3,h4,oA]
 ·rename_i x y ha hb;have e1:=hp x (hx x (by simp[ha]))
  have e2:=hp y (hx y (by simp[ha]))
  simp only[<- e1,<- e2] at hk ⊢;subst hk;simp only[Option.bind_eq_bind,fJ] at hb;obtain⟨u,h1,v,h2,h3⟩:=hb;simp only[Option.bind_eq_bind,h1,h2,bC];split at h3<;>simp only[aR,reduceCtorEq,bS] at h3;obtain⟨rfl,rfl⟩:=h3;exact⟨rfl,rfl⟩
 ·rename_i x y ha hb;have e1:=hp x (hx x (by simp[ha]))
  have e2:=hp y (hx y (by simp[ha]))
  simp only[<- e1,<- e2] at hk ⊢;subst hk;simp only[Option.bind_eq_bind,fJ] at hb;obtain⟨u,h1,v,h2,h3⟩:=hb;simp only[Option.bind_eq_bind,h1,h2,bC];split at h3<;>simp only[aR,reduceCtorEq,bS] at h3;obtain⟨rfl,rfl⟩:=h3;exact⟨rfl,rfl⟩
 ·cases hb
def zfk{env:aA}{x:aO}{v:V}(h:aB env x=some v)(hn:∀sz xs o,v≠.sl sz xs o):kO env x=env:=by
 cases x with
 | tmp t =>
  simp only[aB,zV] at h;split at h<;>simp only[aR,reduceCtorEq] at h;rename_i v0 h0;refine QA h0 λsz xs e e0=>?_;subst e0;exact hn sz xs .no h.symm
 | _=>rfl
def zgo{cx:Cx}{t:aq}{x y:aO}{env bK:aA}{H:Hp}{lk:bk}{df:bH}{r:OR}{s':St}(hx:aB env x=aB bK x)(hy:aB env y=aB bK y)(aF:cx.mV t x y env H lk df=some (r,s')) :
  s'.env=kO env x/\cx.mV t x y bK H lk df=some (r,{ s' with env:=kO bK x }):=by
 unfold Cx.mV at aF ⊢;rw[<- hx,<- hy];simp only[Option.bind_eq_bind,fJ] at aF;obtain⟨td,ht,aF⟩:=aF;simp only[Option.bind_eq_bind,ht,bC];split at aF<;>try (cases aF;done)
 simp only[fJ] at aF;obtain⟨n,hn,i,hi,z,hz,yv,h1,ys,ua,aF⟩:=aF;simp only[hn,hi,hz,h1,ua,bC];split at aF<;>try (cases aF;done)
 rename_i hc;rw[if_neg hc];simp only[fJ] at aF;obtain⟨xv,h2,aF⟩:=aF;simp only[h2,bC];have key:(∀sz xs o,xv≠.sl sz xs o)->kO env x=env/\kO bK x=bK:=λhn=>⟨zfk h2 hn,zfk (hx ▸ h2) hn⟩;split at aF
 ·obtain⟨k1,k2⟩:=key (λ_ _ _ e=>by cases e)
  rw[k1,k2];split at aF
  ·simp only[aR,bS] at aF;obtain⟨rfl,rfl⟩:=aF;exact⟨rfl,rfl⟩
  ·split at aF<;>try (cases aF;done)
   rename_i L6;simp only[ep,jr,jv,aR,bS] at aF;obtain⟨rfl,rfl⟩:=aF;refine⟨rfl,?_⟩;simp only[L6,aU,ep,jr,jv]
 ·obtain⟨k1,k2⟩:=key (λ_ _ _ e=>by cases e)
  rw[k1,k2];split at aF<;>try (cases aF;done)
  rename_i h3
  try simp only[h3]
  split at aF<;>try (cases aF;done)
  rename_i h4;rw[if_pos h4];simp only[ep,jr,jU,aR,bS] at aF ⊢;obtain⟨rfl,rfl⟩:=aF;exact⟨rfl,rfl,rfl⟩
 ·obtain⟨k1,k2⟩:=key (λ_ _ _ e=>by cases e)
  rw[k1,k2];split at aF<;>try (cases aF;done)
  rename_i h3
  try simp only[h3]
  split at aF<;>try (cases aF;done)
  rename_i h4;rw[if_pos h4];simp only[ep,jr,jU,aR,bS] at aF ⊢;obtain⟨rfl,rfl⟩:=aF;exact⟨rfl,rfl,rfl⟩
 ·cases aF
def ziX{cx:Cx}{t:aq}{x y:aO}{env bK:aA}{H:Hp}{lk:bk}{df:bH}{r:OR}{s':St}(hx:aB env x=aB bK x)(hy:aB env y=aB bK y)(aF:cx.s9 t x y env H lk df=some (r,s')) :
  s'.env=env/\cx.s9 t x y bK H lk df=some (r,{ s' with env:=bK }):=by
 unfold Cx.s9 at aF ⊢;rw[<- hx,<- hy];simp only[Option.bind_eq_bind,fJ] at aF;obtain⟨td,ht,aF⟩:=aF;simp only[Option.bind_eq_bind,ht,bC];split at aF<;>try (cases aF;done)
 simp only[fJ] at aF;obtain⟨n,hn,yv,h1,ys,ua,xv,h2,aF⟩:=aF;simp only[hn,h1,ua,h2,bC];split at aF<;>try (cases aF;done)
 split at aF<;>try (cases aF;done)
 rename_i h3
 try simp only[h3]
 split at aF<;>try (cases aF;done)
 rename_i h4;rw[if_pos h4];simp only[ep,jU,aR,bS] at aF ⊢;obtain⟨rfl,rfl⟩:=aF;exact⟨rfl,rfl,rfl⟩
def zhE{cx:Cx}{t:aq}{x:aO}{lo hi:Option aO}{env bK:aA}{H:Hp}{lk:bk}{df:bH}{r:OR}{s':St}(hx:aB env x=aB bK x)(hl:dU env lo=dU bK lo)(hh:dU env hi=dU bK hi)(aF:cx.oK t x lo hi env H lk df=some (r,s')) :
  s'.env=env/\cx.oK t x lo hi bK H lk df=some (r,{ s' with env:=bK }):=by
 unfold Cx.oK at aF ⊢;rw[<- hx,<- hl,<- hh];split at aF<;>try (cases aF;done)
 ·rename_i h1 h2 h3 h4
  try simp only[h1,h2,h3,h4]
  split at aF<;>try (cases aF;done)
  rename_i h5 h6
  try simp only[h5,h6]
  split at aF<;>try (cases aF;done)
  rename_i h7;rw[if_pos h7];simp only[fj,jr,jU,aR,bS] at aF ⊢;obtain⟨rfl,rfl⟩:=aF;exact⟨rfl,rfl,rfl⟩
 ·rename_i h1 h2 h3
  try simp only[h1,h2,h3]
  split at aF<;>simp only[aR,reduceCtorEq,bS] at aF;rename_i h5
  try simp only[h5]
  obtain⟨rfl,rfl⟩:=aF;exact⟨rfl,rfl⟩
def zhF{P:aM}{t:aq}{x:aO}{lo:Option aO}{env bK e:aA}{v:V}(h:gW env bK [x])(hl:dU env lo=dU bK lo)(hm:N_ P t x lo env=some (v,e)):e=kO env x/\N_ P t x lo bK=some (v,kO bK x):=by
 unfold N_ at hm ⊢;rw[<- hl];split at hm<;>try (cases hm;done)
 rename_i h1 h2 h3
 try simp only[h1,h3]
 split at hm<;>try (cases hm;done)
 rename_i h4
 try simp only[h4]
 split at hm<;>simp only[aR,reduceCtorEq,bS] at hm;rename_i h5;obtain⟨rfl,rfl⟩:=hm;obtain⟨k1,k2⟩:=wV h h2;simp only[k2,h4,h5];exact⟨k1,trivial⟩
def znV{P:aM}{a b:aq}{x:aO}{env:aA}{r:V×aA}(h:vJ P a b x env=some r):Nat.beq a b=true:=by
 unfold vJ at h;split at h
 next e _=>exact e
 ·cases h
def zea{P:aM}{a b:aq}{x:aO}{env bK e:aA}{v:V}(h:gW env bK [x])(hm:vJ P a b x env=some (v,e)):e=kO env x/\vJ P a b x bK=some (v,kO bK x):=by
 unfold vJ at hm ⊢;split at hm<;>try (cases hm;done)
 rename_i h1 h2
 try simp only[h1,h2]
 split at hm<;>simp only[aR,reduceCtorEq,bS] at hm;rename_i h3 h4;obtain⟨rfl,rfl⟩:=hm;obtain⟨k1,k2⟩:=wV h h4;simp only[k2,h3];exact⟨k1,trivial⟩
def zkA{P:aM}{a b:aq}{x:aO}{env bK:aA}(h:gW env bK [x])(hm:vJ P a b x env=none):vJ P a b x bK=none:=by
 cases h2:vJ P a b x bK with
 | none=>rfl
 | some r =>
  obtain⟨v,e⟩:=r;have h':gW bK env [x]:=λt ht=>(h t ht).symm;rw[(zea h' h2).2] at hm;cases hm
def zgD{P:aM}{a b:aq}{sz:Nat}{xs:aA}{o:Own}(h:Nat.beq a b=true):vw P a b (.sl sz xs o)=none:=by
 have h':=gy h;subst h';simp only[vw,Option.bind_eq_bind];cases P.underlying a with
 | none=>rfl
 | some d =>
  simp only[bC]
def Uv{cx : Cx}{takes : bP}{o : Oper}{env bK : aA}{H : Hp}{lk : bk}{df : bH}{r : OR}{s' : St}(h : gW env bK o.op.operands.toList)(aF : cx.op takes o env H lk df = some (r, s')) :
    s'.env = oA env (kV takes o) /\ cx.op takes o bK H lk df = some (r, { s' with env := oA bK (kV takes o) }) := by
  have On := ziV (P := cx.P) (gl := cx.gl) (H := H) h;obtain⟨dst, op, type, pos, after, guard⟩ := o;have hp := h.aB;have read : kV takes ⟨dst, op, type, pos, after, guard⟩ = none -> (match jA cx.P cx.gl ⟨dst, op, type, pos, after, guard⟩ env H with | none => none | some v => some (OR.val v, (⟨env, H, lk, df⟩ : St))) = some (r, s') ->
      s'.env = oA env (kV takes ⟨dst, op, type, pos, after, guard⟩) /\ (match jA cx.P cx.gl ⟨dst, op, type, pos, after, guard⟩ bK H with | none => none | some v => some (OR.val v, (⟨bK, H, lk, df⟩ : St))) = some (r, { s' with env := oA bK (kV takes ⟨dst, op, type, pos, after, guard⟩) }) := by
    intro iu hh;rw[<- On, iu];split at hh <;> simp only[aR, reduceCtorEq, bS] at hh;rename_i v hv;obtain⟨rfl, rfl⟩ := hh;exact⟨rfl, rfl⟩
  have QB : (match jA cx.P cx.gl ⟨dst, op, type, pos, after, guard⟩ env H with | none => none | some v => some (OR.val v, (⟨env, H, lk, df⟩ : St))) = some (r, s') ->
      s'.env = env /\ (match jA cx.P cx.gl ⟨dst, op, type, pos, after, guard⟩ bK H with | none => none | some v => some (OR.val v, (⟨bK, H, lk, df⟩ : St))) = some (r, { s' with env := bK }) := by
    intro hh;rw[<- On];split at hh <;> simp only[aR, reduceCtorEq, bS] at hh;obtain⟨rfl, rfl⟩ := hh;exact⟨rfl, rfl⟩
  cases op
  case pick => exact read rfl aF
  case build => exact read rfl aF
  case buildSlice => exact read rfl aF
  case nilCheck => exact read rfl aF
  case binOp => exact read rfl aF
  case unOp => exact read rfl aF
  case convert c d x =>
    simp only[Cx.op] at aF ⊢;cases hm : vJ cx.P c d x env with
    | some ve =>
      obtain⟨v, e⟩ := ve;simp only[hm, aR, bS] at aF;obtain⟨rfl, rfl⟩ := aF;obtain⟨h1, h2⟩ := zea (h.mono (by simp[Op.operands])) hm
      have nQ := znV hm;simp only[h2, kV, nQ, aU];exact⟨h1, rfl⟩
    | none =>
      simp only[hm] at aF;have DL := zkA (h.mono (by simp[Op.operands])) hm
      simp only[DL];cases sW : cx.uq (Km c) with
      | true =>
        simp only[sW] at aF ⊢;rw[<- hp x (by simp[Op.operands])]
        split at aF <;> simp only[aR, reduceCtorEq, bS] at aF;rename_i v hv;obtain⟨rfl, rfl⟩ := aF;cases nQ : Nat.beq c d with
        | false => simp[kV, nQ, oA]
        | true =>
          have hq : ∀e2 : aA, (∀t, x = .tmp t -> e2[t]? = env[t]?) -> kO e2 x = e2 := λe2 Ft => by
            cases x with
            | tmp t =>
              cases hn : env[t]? with
              | none => simp[kO, Ft t rfl, hn]
              | some v0 =>
                refine QA ((Ft t rfl).trans hn) λsz xs e e0 => ?_;subst e0;have : aB env (.tmp t) = some (.sl sz xs .no) := by simp[aB, zV, hn, aT]
                simp only[T5, this, zpW, zgD nQ, reduceCtorEq] at hv
            | _ => rfl
          have e1 : kO env x = env := hq env λ_ _ => rfl;have e2 : kO bK x = bK := hq bK λt e => (h t (by simp[e, Op.operands])).symm
          simp only[kV, nQ, aU, oA, e1, e2];exact⟨trivial, trivial⟩
      | false =>
      simp only[sW] at aF ⊢;cases nQ : Nat.beq c d with
      | false => exact read (by simp only[kV, nQ]; rfl) aF
      | true =>
        have hq : ∀e2, (∀t, x = .tmp t -> e2[t]? = env[t]?) -> kO e2 x = e2 := λe2 Ft => by
          cases x with
          | tmp t =>
            cases hn : env[t]? with
            | none => simp[kO, Ft t rfl, hn]
            | some v0 =>
              refine QA ((Ft t rfl).trans hn) λsz xs e e0 => ?_;subst e0;have : aB env (.tmp t) = some (.sl sz xs .no) := by simp[aB, zV, hn, aT]
              simp only[jA, this, Option.bind_eq_bind, bC, zgD nQ] at aF;cases aF
          | _ => rfl
        have := QB aF;obtain⟨h1, h2⟩ := this;have e1 : kO env x = env := hq env λ_ _ => rfl;have e2 : kO bK x = bK := hq bK λt e => (h t (by simp[e, Op.operands])).symm
        simp only[kV, nQ, aU, oA, e1, e2];exact⟨h1, h2⟩
  case makeInterface => exact read rfl aF
  case makeFunc => exact read rfl aF
  case slice t x lo hi mx =>
    cases mx with
    | some m => exact read rfl aF
    | none =>
      simp only[Cx.op] at aF ⊢;cases hf : xX takes x lo hi with
      | true =>
        simp only[hf] at aF ⊢;split at aF <;> simp only[aR, reduceCtorEq, bS] at aF;rename_i v e hv;obtain⟨rfl, rfl⟩ := aF
        obtain⟨k1, k2⟩ := zhF (h.mono (by simp[Op.operands])) (by
          cases lo with
          | none => rfl
          | some z => simp only[dU]; rw[hp z (by simp[Op.operands])]) hv
        simp only[k2, kV, hf, aU];exact⟨k1, rfl⟩
      | false =>
      simp only[hf] at aF ⊢;have hnt : kV takes ⟨dst, .slice t x lo hi none, type, pos, after, guard⟩ = none := by simp[kV, hf]
      cases hu : sS cx.P cx.uq t with
      | false =>
        simp only[hu] at aF;exact read hnt aF
      | true =>
        simp only[hu] at aF;rw[hnt];have ho : ∀y : Option aO, (∀z, y = some z -> z ∈ (Op.slice t x lo hi none).operands.toList) -> dU env y = dU bK y := λy hy => by
          cases y with
          | none => rfl
          | some z => simp only[dU]; rw[hp z (hy z rfl)]
        obtain⟨e1, e2⟩ := zhE (hp x (by simp[Op.operands])) (ho lo λz e => by subst e; simp[Op.operands]) (ho hi λz e => by subst e; simp[Op.operands]) aF
        exact⟨e1, e2⟩
  case fieldAddr => exact read rfl aF
  case field => exact read rfl aF
  case indexAddr => exact read rfl aF
  case index => exact read rfl aF
  case lookup => exact read rfl aF
  case typeAssert => exact read rfl aF
  case extract => exact read rfl aF
  case ready => exact read rfl aF
  case waits => exact read rfl aF
  case sliceToArrayPointer => exact read rfl aF
  case makeChan => exact read rfl aF
  case mapEntry => exact read rfl aF
  case entryStore => exact read rfl aF
  case entry => exact read rfl aF
  case go => exact read rfl aF
  case send => exact read rfl aF
  case recv => exact read rfl aF
  case select => exact read rfl aF
  case assign x =>
    simp only[Cx.op] at aF ⊢;split at aF <;> simp only[aR, reduceCtorEq, bS] at aF;rename_i v e ht;obtain⟨rfl, rfl⟩ := aF;obtain⟨t1, t2⟩ := wV (h.mono (by simp[Op.operands])) ht
    simp only[t2];exact⟨t1, rfl⟩
  case box t x =>
    simp only[Cx.op] at aF ⊢;split at aF <;> try (cases aF; done)
    rename_i v e ht;split at aF <;> try (cases aF; done)
    rename_i hk;simp only[qd, ep, jv, aR, bS] at aF;obtain⟨rfl, rfl⟩ := aF;obtain⟨t1, t2⟩ := wV (h.mono (by simp[Op.operands])) ht
    simp only[t2, hk, qd, ep, jv];exact⟨t1, rfl⟩
  case move x =>
    have yes : kV takes ⟨dst, .move x, type, pos, after, guard⟩ = some x -> (match take env x with | none => none | some (v, env) => some (OR.val v, (⟨env, H, lk, df⟩ : St))) = some (r, s') ->
        s'.env = oA env (kV takes ⟨dst, .move x, type, pos, after, guard⟩) /\ (match take bK x with | none => none | some (v, env) => some (OR.val v, (⟨env, H, lk, df⟩ : St))) = some (r, { s' with env := oA bK (kV takes ⟨dst, .move x, type, pos, after, guard⟩) }) := by
      intro iu aF;split at aF <;> simp only[aR, reduceCtorEq, bS] at aF;rename_i v e ht;obtain⟨rfl, rfl⟩ := aF;obtain⟨t1, t2⟩ := wV (h.mono (by simp[Op.operands])) ht
      simp only[t2, iu];exact⟨t1, rfl⟩
    cases dst with
    | none => exact read rfl aF
    | some d =>
      cases hb : takes.any (Nat.beq d) with
      | true =>
        simp only[Cx.op, hb] at aF ⊢;exact yes (by simp only[kV, hb, aU]) aF
      | false =>
        simp only[Cx.op, hb] at aF ⊢;exact read (by simp only[kV, hb]; rfl) aF
  case alloc t =>
    simp only[Cx.op] at aF ⊢;split at aF <;> try (cases aF; done)
    rename_i z hz;split at aF <;> try (cases aF; done)
    rename_i hk;simp only[qd, jv, aR, bS] at aF;obtain⟨rfl, rfl⟩ := aF;simp only[hk, qd, jv];exact⟨rfl, rfl⟩
  case makeMap t rr =>
    simp only[Cx.op] at aF ⊢;split at aF <;> try (cases aF; done)
    simp only[jv, aR, bS] at aF;obtain⟨rfl, rfl⟩ := aF;simp only[jv];exact⟨rfl, rfl⟩
  case range t x =>
    simp only[Op.operands] at hp;simp only[Cx.op] at aF ⊢;rw[<- hp x (by simp)]
    split at aF <;> try (cases aF; done)
    rename_i l h1 h2;simp only[jv, aR, bS] at aF;obtain⟨rfl, rfl⟩ := aF;simp only[jv];exact⟨rfl, rfl⟩
  case panic x =>
    simp only[Op.operands] at hp;simp only[Cx.op] at aF ⊢;rw[<- hp x (by simp)]
    split at aF <;> simp only[aR, reduceCtorEq, bS] at aF;rename_i t v h1;obtain⟨rfl, rfl⟩ := aF;simp only[];exact⟨rfl, rfl⟩
  case mapUpdate t m k x =>
    simp only[Op.operands] at hp;simp only[Cx.op] at aF ⊢;rw[<- hp m (by simp), <- hp k (by simp), <- hp x (by simp)]
    split at aF <;> try (cases aF; done)
    rename_i b kv v h1 h2 h3
    try simp only[h1, h2, h3]
    split at aF <;> try (cases aF; done)
    rename_i hk;rw[if_neg hk];simp only[qd, fj, jU] at aF ⊢;split at aF <;> try (cases aF; done)
    rename_i es h4
    try simp only[h4]
    split at aF <;> simp only[aR, reduceCtorEq, bS] at aF;rename_i ux h5;obtain⟨rfl, rfl⟩ := aF
    try simp only[]
    exact⟨rfl, rfl⟩
  case insert t m k x =>
    simp only[Op.operands] at hp;simp only[Cx.op] at aF ⊢;rw[<- hp m (by simp), <- hp k (by simp), <- hp x (by simp)]
    split at aF <;> try (cases aF; done)
    rename_i b kv v h1 h2 h3
    try simp only[h1, h2, h3]
    split at aF <;> try (cases aF; done)
    rename_i hk;rw[if_neg hk];simp only[qd, fj, jU] at aF ⊢;split at aF <;> try (cases aF; done)
    rename_i es h4
    try simp only[h4]
    split at aF <;> simp only[aR, reduceCtorEq, bS] at aF;rename_i ux h5;obtain⟨rfl, rfl⟩ := aF
    try simp only[]
    exact⟨rfl, rfl⟩
  case defer c =>
    simp only[Op.operands] at hp h;simp only[Cx.op] at aF ⊢;split at aF <;> try (cases aF; done)
    rename_i f iw;simp only[Call.operands, iw] at hp h;rw[<- hp f (by simp), <- h.aL (ys := c.args.toList) (λy hy => by simp at hy ⊢; exact .inr hy)]
    split at aF <;> simp only[aR, reduceCtorEq, bS] at aF;rename_i f' first cap args h1 h2
    obtain⟨rfl, rfl⟩ := aF;simp only[];exact⟨rfl, rfl⟩
  case makeSlice t l c =>
    simp only[Op.operands] at hp;simp only[Cx.op] at aF ⊢;rw[<- hp l (by simp), <- hp c (by simp)]
    split at aF <;> try (cases aF; done)
    rename_i e k1 l' k2 c' h1 h2 h3
    try simp only[h1, h2, h3]
    split at aF <;> try (cases aF; done)
    rename_i n i z g1 g2 g3
    try simp only[g1, g2, g3]
    split at aF <;> try (cases aF; done)
    rename_i g4;rw[if_neg g4];split at aF
    · rename_i g5
      try simp only[g5]
      simp only[ep, jr, jv, aR, bS] at aF ⊢;obtain⟨rfl, rfl⟩ := aF;exact⟨rfl, rfl, rfl⟩
    rename_i ED
    try simp only[ED]
    split at aF
    · rename_i g5
      rw[if_pos g5];simp only[aR, bS] at aF;obtain⟨rfl, rfl⟩ := aF;exact⟨rfl, rfl⟩
    · rename_i g5
      rw[if_neg g5];split at aF <;> try (cases aF; done)
      rename_i g6;rw[if_pos g6];simp only[ep, jv, aR, bS] at aF ⊢;obtain⟨rfl, rfl⟩ := aF;exact⟨rfl, rfl, rfl⟩
  case next it b =>
    cases b with
    | false => exact read rfl aF
    | true =>
      simp only[Op.operands] at hp;simp only[Cx.op] at aF ⊢;rw[<- hp it (by simp)]
      split at aF <;> try (cases aF; done)
      rename_i bb h1
      try simp only[h1]
      split at aF <;> try (cases aF; done)
      rename_i l pos h2
      try simp only[h2]
      split at aF
      · rename_i g5
        rw[if_pos g5];simp only[jr, jU, aR, bS] at aF ⊢;obtain⟨rfl, rfl⟩ := aF;exact⟨rfl, rfl, rfl⟩
      · rename_i g5
        rw[if_neg g5];simp only[aR, bS] at aF ⊢;obtain⟨rfl, rfl⟩ := aF;exact⟨rfl, rfl, rfl⟩
  case store t a x =>
    simp only[Op.operands] at hp h;simp only[Cx.op] at aF ⊢;rw[<- hp a (by simp)]
    split at aF <;> try (cases aF; done)
    · rename_i b off h1
      try simp only[h1]
      split at aF <;> try (cases aF; done)
      rename_i v e n cs ty h2 h3 h4;obtain⟨t1, t2⟩ := wV (h.mono (by simp)) h2
      try simp only[t2, h3, h4]
      simp only[qd, ep, fj, jU] at aF ⊢;split at aF <;> try (cases aF; done)
      rename_i g5;rw[if_pos g5];simp only[aR, bS] at aF ⊢;obtain⟨rfl, rfl⟩ := aF;exact⟨t1, rfl, rfl⟩
    · rename_i b u k h1
      try simp only[h1]
      split at aF <;> try (cases aF; done)
      rename_i v e n fE sz cs ty h2 h3 h4;obtain⟨t1, t2⟩ := wV (h.mono (by simp)) h2
      try simp only[t2, h3, h4]
      simp only[qd, fj, jU] at aF ⊢;split at aF <;> try (cases aF; done)
      rename_i g5;rw[if_pos g5];simp only[aR, bS] at aF ⊢;obtain⟨rfl, rfl⟩ := aF;exact⟨t1, rfl, rfl⟩
  case load t a =>
    have yes : kV takes ⟨dst, .load t a, type, pos, after, guard⟩ = none := rfl;have nG : aB env a = aB bK a := hp a (by simp[Op.operands])
    cases dst with
    | none => exact read yes aF
    | some d =>
      cases hb : takes.any (Nat.beq d) with
      | false =>
        simp only[Cx.op, hb] at aF ⊢;exact read yes aF
      | true =>
        simp only[Cx.op, hb] at aF ⊢;rw[<- nG];split at aF <;> try (cases aF; done)
        rename_i b off h1 h2
        try simp only[h1, h2]
        split at aF <;> try (cases aF; done)
        rename_i cs ty h3
        try simp only[h3]
        split at aF <;> try (cases aF; done)
        · rename_i sz xs e h4
          try simp only[h4]
          simp only[fB, jU, aR, bS] at aF ⊢;obtain⟨rfl, rfl⟩ := aF;exact⟨rfl, rfl, rfl⟩
        · rename_i h4
          try simp only[h4]
          simp only[aR, bS] at aF ⊢;obtain⟨rfl, rfl⟩ := aF;exact⟨rfl, rfl, rfl⟩
        · rename_i h4
          try simp only[h4]
          simp only[aR, bS] at aF ⊢;obtain⟨rfl, rfl⟩ := aF;exact⟨rfl, rfl, rfl⟩
  case call c =>
    simp only[Op.operands] at hp h;simp only[Cx.op] at aF ⊢;cases iw : c.callee with
    | value f =>
      simp only[iw] at aF ⊢;simp only[Call.operands, iw] at hp h;rw[<- hp f (by simp), <- h.aL (ys := c.args.toList) (λy hy => by simp at hy ⊢; exact .inr hy)]
      split at aF <;> try (cases aF; done)
      rename_i f' args h1 h2
      try simp only[h1, h2]
      split at aF <;> simp only[aR, reduceCtorEq, bS] at aF;rename_i r' H' h3;obtain⟨rfl, rfl⟩ := aF
      try simp only[]
      refine⟨?_, ?_⟩ <;> simp[kV, iw, oA]
    | invoke rc m =>
      simp only[iw] at aF ⊢;simp only[Call.operands, iw] at hp h;rw[<- hp rc (by simp), <- h.aL (ys := c.args.toList) (λy hy => by simp at hy ⊢; exact .inr hy)]
      split at aF <;> try (cases aF; done)
      rename_i f' args h1 h2
      try simp only[h1, h2]
      split at aF <;> simp only[aR, reduceCtorEq, bS] at aF;rename_i r' H' h3;obtain⟨rfl, rfl⟩ := aF
      try simp only[]
      refine⟨?_, ?_⟩ <;> simp[kV, iw, oA]
    | builtin b =>
      simp only[iw] at aF ⊢;simp only[Call.operands, iw] at hp h;have plain : (match cx.builtin b c.argTypes c.args env H with | none => none | some (r, env) => some (r, (⟨env, H, lk, df⟩ : St))) = some (r, s') ->
          s'.env = oA env (kV takes ⟨dst, .call c, type, pos, after, guard⟩) /\ (match cx.builtin b c.argTypes c.args bK H with | none => none | some (r, env) => some (r, (⟨env, H, lk, df⟩ : St))) = some (r, { s' with env := oA bK (kV takes ⟨dst, .call c, type, pos, after, guard⟩) }) := by
        intro aF;split at aF <;> simp only[aR, reduceCtorEq, bS] at aF;rename_i r' e h1;obtain⟨rfl, rfl⟩ := aF;have hg : e = oA env (kV takes ⟨dst, .call c, type, pos, after, guard⟩) /\ cx.builtin b c.argTypes c.args bK H = some (r', oA bK (kV takes ⟨dst, .call c, type, pos, after, guard⟩)) := by
          exact zgn (xs := c.args.toList) (h.mono λy hy => by simpa using hy) (λy hy => hy) h1 (by cases b <;> simp[kV, iw])
        obtain⟨rfl, hg⟩ := hg;refine⟨rfl, ?_⟩;simp only[hg]
      split at aF
      · rename_i x y t ts gO CP
        obtain⟨e1, e2⟩ := ziX (hp x (by have : x ∈ c.args.toList := by rw[gO]; simp
                                        simpa using this)) (hp y (by have : y ∈ c.args.toList := by rw[gO]; simp
                                                                     simpa using this)) aF
        have : kV takes ⟨dst, .call c, type, pos, after, guard⟩ = none := by simp[kV, iw]
        rw[this];exact⟨e1, e2⟩
      · rename_i x y t u gO CP
        have : kV takes ⟨dst, .call c, type, pos, after, guard⟩ = some x := by simp[kV, iw, gO]
        split at aF
        · rename_i hu
          split at aF <;> try (cases aF; done)
          rename_i L_
          obtain⟨e1, e2⟩ := zgo (hp x (by have : x ∈ c.args.toList := by rw[gO]; simp
                                          simpa using this)) (hp y (by have : y ∈ c.args.toList := by rw[gO]; simp
                                                                       simpa using this)) aF
          simp only[L_, aU, this, oA];exact⟨e1, e2⟩
        · exact plain aF
      · exact plain aF
end
section
variable{P:aM}
def Ay:∀{a b:bR},rZ a b=true->a=b
 | [],[],_=>rfl
 | [],_::_,h=>by simp[rZ] at h
 | _::_,[],h=>by simp[rZ] at h
 | x::xs,y::ys,h=>by
  simp only[rZ,cR] at h;rw[gy h.1,Ay h.2]
mutual
def V.iH:∀{a b:V},V.same a b=true->a=b
 | .bool a,b,h=>by cases b<;>simp[V.same] at h<;>simp[h]
 | .int k n,b,h=>by cases b<;>simp[V.same] at h;simp[h]
 | .str a,b,h=>by cases b<;>simp[V.same] at h;simp[Ay h]
 | .ef,b,h=>by cases b<;>simp[V.same] at h;rfl
 | .ptr x y,b,h=>by cases b<;>simp[V.same] at h;simp[h]
 | .gI x y,b,h=>by cases b<;>simp[V.same] at h;simp[h]
 | .obj x,b,h=>by cases b<;>simp[V.same] at h;simp[h]
 | .vp xs,b,h=>by cases b<;>simp[V.same] at h;rw[gP h]
 | .aJ,b,h=>by cases b<;>simp[V.same] at h;rfl
 | .sl z xs o,b,h=>by cases b<;>simp[V.same] at h;rw[h.1,gP h.2.2,h.2.1]
 | .sr x y z u,b,h=>by cases b<;>simp[V.same] at h;simp[h]
 | .oo,b,h=>by cases b<;>simp[V.same] at h;rfl
 | .map x,b,h=>by cases b<;>simp[V.same] at h;simp[h]
 | .o9,b,h=>by cases b<;>simp[V.same] at h;rfl
 | .fn f as cs,b,h=>by
  cases b<;>try (simp[V.same] at h;done)
  rename_i f' I8 cs';simp only[V.same,cR] at h;obtain⟨⟨h1,h2⟩,h3⟩:=h;split at h1
  next e=>rw[e,gP h2,gP h3]
  ·cases h1
 | .cV,b,h=>by cases b<;>simp[V.same] at h;rfl
 | .fq t v,b,h=>by cases b<;>simp[V.same] at h;rw[h.1,V.iH h.2]
 | .agg xs,b,h=>by cases b<;>simp[V.same] at h;rw[gP h]
 | .bz xs,b,h=>by cases b<;>simp[V.same] at h;rw[gP h]
 | .mU,b,h=>by cases b<;>simp[V.same] at h;rfl
 | .eo x y z,b,h=>by cases b<;>simp[V.same] at h;simp[h]
 | .gY x y z,b,h=>by cases b<;>simp[V.same] at h;simp[h]
def gP:∀{a b:aA},gV a b=true->a=b
 | [],[],_=>rfl
 | [],_::_,h=>by simp[gV] at h
 | _::_,[],h=>by simp[gV] at h
 | x::xs,y::ys,h=>by
  simp only[gV,cR] at h;rw[V.iH h.1,gP h.2]
end
def tw:∀(a:bR),rZ a a=true
 | []=>rfl
 | x::xs=>by simp[rZ,tw xs]
mutual
def V.dj:∀(a:V),V.same a a=true
 | .bool a=>by simp[V.same]
 | .int k n=>by simp[V.same]
 | .str a=>by simp[V.same,tw]
 | .ef=>rfl
 | .ptr x y=>by simp[V.same]
 | .gI x y=>by simp[V.same]
 | .obj x=>by simp[V.same]
 | .vp xs=>by simp[V.same,dQ xs]
 | .aJ=>rfl
 | .sl z xs o=>by simp[V.same,dQ xs]
 | .sr x y z u=>by simp[V.same]
 | .oo=>rfl
 | .map x=>by simp[V.same]
 | .o9=>rfl
 | .fn f as cs=>by simp[V.same,dQ as,dQ cs]
 | .cV=>rfl
 | .fq t v=>by simp[V.same,V.dj v]
 | .agg xs=>by simp[V.same,dQ xs]
 | .bz xs=>by simp[V.same,dQ xs]
 | .mU=>rfl
 | .eo x y z=>by simp[V.same]
 | .gY x y z=>by simp[V.same]
def dQ:∀(a:aA),gV a a=true
 | []=>rfl
 | x::xs=>by simp[gV,V.dj x,dQ xs]
end
def xh(m i:Nat):bit m i=m.testBit i:=by
 unfold bit;rw[Nat.testBit_eq_decide_div_mod_eq];show Nat.beq ((m >>> i) % 2) 1=_;rw[Nat.shiftRight_eq_div_pow];cases h:Nat.beq (m / 2 ^ i % 2) 1 with
 | true=>simp[gy h]
 | false=>have:=Nat.ne_of_beq_eq_false h;simp;omega
def ki(a b i:Nat):bit (Nat.lor a b) i=(bit a i || bit b i):=by
 simp only[xh];exact Nat.testBit_or a b i
def kC(k i:Nat):bit (Nat.pow 2 k) i=decide (k=i):=by
 rw[xh];exact N2
def ziY{a b i:Nat}(h:Nat.beq (Nat.land a b) 0=true)(ha:bit a i=true)(hb:bit b i=true):False:=by
 have h1:a &&& b=0:=gy h;have h2:(a &&& b).testBit i=(a.testBit i && b.testBit i):=Nat.testBit_and a b i;rw[xh] at ha hb;rw[h1,ha,hb] at h2;simp at h2
def vR(i:Nat):bit 0 i=false:=by rw[xh];simp
def vz{t:Nat}:∀{xs:List aO},Operand.tmp t∈xs->bit (gZ xs) t=true
 | .tmp u::xs,h=>by
  simp only[gZ,ki,kC,mT,decide_eq_true_eq];rcases dh.1 h with h|h
  ·cases h;exact .inl rfl
  ·exact .inr (vz h)
 | .const _::xs,h=>by
  simp only[gZ];rcases dh.1 h with h|h
  ·cases h
  ·exact vz h
 | .global _::xs,h=>by
  simp only[gZ];rcases dh.1 h with h|h
  ·cases h
  ·exact vz h
 | .func _::xs,h=>by
  simp only[gZ];rcases dh.1 h with h|h
  ·cases h
  ·exact vz h
def zeb{j m:Nat}:∀{rs:List Rec},maskAt rs j=some m->∃q∈rs,q.idx=j/\q.m=m
 | [],h=>by simp[maskAt] at h
 | r::rs,h=>by
  simp only[maskAt] at h;split at h
  next hb=>cases h;exact⟨r,eS ..,gy hb,rfl⟩
  ·obtain⟨q,h1,h2⟩:=zeb h;exact⟨q,dB _ h1,h2⟩
def xM{rs:List Rec}:∀{es:List Edge}{m:Nat},wd rs es=some m->(∀e∈es,Region.binds .any e=true->∃q∈rs,q.idx=e.on) /\
  ∀i,bit m i=true->∃e∈es,Region.binds .any e=true/\(e.on=i\/∃q∈rs,q.idx=e.on/\bit q.m i=true)
 | [],m,h=>by
  simp only[wd,aR] at h;subst h;exact⟨λe he=>by simp at he,λi hi=>by rw[vR] at hi;cases hi⟩
 | e::es,m,h=>by
  simp only[wd] at h;split at h
  ·rename_i hb;obtain⟨h1,h2⟩:=xM h;refine⟨λe' he dK=>?_,λi hi=>?_⟩
   ·rcases dh.1 he with rfl|he
    ·rw[hb] at dK;cases dK
    ·exact h1 e' he dK
   ·obtain⟨e',he,r⟩:=h2 i hi;exact⟨e',dB _ he,r⟩
  ·rename_i hb;split at h<;>try (cases h;done)
   rename_i m1 I9;split at h<;>try (cases h;done)
   rename_i k hk;cases h;obtain⟨q,hq,Cu,hqm⟩:=zeb I9;obtain⟨h1,h2⟩:=xM hk;refine⟨λe' he dK=>?_,λi hi=>?_⟩
   ·rcases dh.1 he with rfl|he
    ·exact⟨q,hq,Cu⟩
    ·exact h1 e' he dK
   ·simp only[ki,kC,mT,decide_eq_true_eq] at hi;rcases hi with hi|hi|hi
    ·obtain⟨e',he,r⟩:=h2 i hi;exact⟨e',dB _ he,r⟩
    ·exact⟨e,eS ..,hb,.inr ⟨q,hq,Cu,by rw[hqm];exact hi⟩⟩
    ·exact⟨e,eS ..,hb,.inl hi⟩
def vT{cx:Cx}{takes:bP}{o:Oper}{env:aA}{H:Hp}{lk:bk}{df:bH}{r:OR}{s':St}(hn:jT cx.P cx.uq takes o=false)(aF:cx.op takes o env H lk df=some (r,s')) :
  ∃v,r=.val v/\s'=⟨oA env (kV takes o),H,lk,df⟩/\∀mG pN,cx.op takes o env H mG pN=some (.val v,⟨oA env (kV takes o),H,mG,pN⟩):=by
 have mW:=(Uv (bK:=env) (λt _=>rfl) aF).1
 suffices h:∃v e,r=.val v/\s'=⟨e,H,lk,df⟩/\∀mG pN,cx.op takes o env H mG pN=some (.val v,⟨e,H,mG,pN⟩) by
  obtain⟨v,e,h1,h2,h3⟩:=h;rw[h2] at mW;simp only at mW;subst mW;exact⟨v,h1,h2,h3⟩
 have read:(match jA cx.P cx.gl o env H with|none=>none|some v=>some (OR.val v,(⟨env,H,lk,df⟩:St)))=some (r,s')->∃v e,r=.val v/\s'=⟨e,H,lk,df⟩/\∀mG pN,(match jA cx.P cx.gl o env H with|none=>none|some v=>some (OR.val v,(⟨env,H,mG,pN⟩:St)))=some (.val v,⟨e,H,mG,pN⟩):=by
  intro hh;split at hh<;>simp only[aR,reduceCtorEq,bS] at hh;rename_i v hv;obtain⟨rfl,rfl⟩:=hh;exact⟨v,env,rfl,rfl,λ_ _=>rfl⟩
 have mv:∀x,(match take env x with|none=>none|some (v,env)=>some (OR.val v,(⟨env,H,lk,df⟩:St)))=some (r,s')->∃v e,r=.val v/\s'=⟨e,H,lk,df⟩/\∀mG pN,(match take env x with|none=>none|some (v,env)=>some (OR.val v,(⟨env,H,mG,pN⟩:St)))=some (.val v,⟨e,H,mG,pN⟩):=by
  intro x hh;split at hh<;>simp only[aR,reduceCtorEq,bS] at hh;rename_i v e hv;obtain⟨rfl,rfl⟩:=hh;exact⟨v,e,rfl,rfl,λ_ _=>rfl⟩
 obtain⟨dst,op,type,pos,after,guard⟩:=o;cases op<;>simp only[jT,P3] at hn
 case load t a =>
  cases dst with
  | none=>exact read aF
  | some d =>
   simp only at hn;simp only[Cx.op,hn] at aF ⊢;exact read aF
 case move x =>
  cases dst with
  | none=>exact read aF
  | some d =>
   cases hb:takes.any (Nat.beq d) with
   | true =>
    simp only[Cx.op,hb] at aF ⊢;exact mv x aF
   | false =>
    simp only[Cx.op,hb] at aF ⊢;exact read aF
 case assign x =>
  simp only[Cx.op] at aF ⊢;exact mv x aF
 case slice t x lo hi mx =>
  cases mx with
  | some m=>exact read aF
  | none =>
   simp only at hn;simp only[Cx.op,hn] at aF ⊢;cases hf:xX takes x lo hi with
   | false =>
    simp only[hf] at aF ⊢;exact read aF
   | true =>
    simp only[hf] at aF ⊢;split at aF<;>simp only[aR,reduceCtorEq,bS] at aF;rename_i v e hv;obtain⟨rfl,rfl⟩:=aF;exact⟨v,e,rfl,rfl,λ_ _=>rfl⟩
 case call c =>
  cases iw:c.callee<;>simp only[iw,P3] at hn;rename_i bi;have Gp:∀lk df,cx.op takes ⟨dst,.call c,type,pos,after,guard⟩ env H lk df=(match cx.builtin bi c.argTypes c.args env H with|none=>none|some (r,env)=>some (r,(⟨env,H,lk,df⟩:St))):=by
   intro lk df;simp only[Cx.op,iw];split
   ·simp at hn
   next x y t u gO CP=>simp only[CP] at hn;simp only[hn];cases cx.builtin .append c.argTypes c.args env H<;>rfl
   ·rfl
  simp only[Gp] at aF ⊢;clear Gp;split at aF<;>simp only[aR,reduceCtorEq,bS] at aF;rename_i r' e h1;obtain⟨rfl,rfl⟩:=aF;have:∃v,r'=.val v:=by
   unfold Cx.builtin at h1;split at h1<;>try (cases h1;done)
   ·simp only[Option.bind_eq_bind,fJ,aR,bS] at h1;obtain⟨u,_,v,_,h3,rfl⟩:=h1;exact⟨_,h3.symm⟩
   ·split at h1<;>try (cases h1;done)
    simp only[Option.bind_eq_bind,fJ,aR,bS] at h1;obtain⟨y',_,⟨v,e'⟩,_,w,_,h4,rfl⟩:=h1;exact⟨_,h4.symm⟩
   all_goals
    simp only[Option.bind_eq_bind,fJ] at h1;obtain⟨u,_,v,_,h3⟩:=h1;split at h3<;>simp only[aR,reduceCtorEq,bS] at h3;exact⟨_,h3.1.symm⟩
  obtain⟨v,rfl⟩:=this
  try simp only[h1]
  exact⟨v,e,rfl,rfl,λ_ _=>rfl⟩
 case convert c d x =>
  simp only[Cx.op] at aF ⊢;split at aF
  next v e hv=>simp only[aR,bS] at aF;obtain⟨rfl,rfl⟩:=aF;exact⟨v,e,rfl,rfl,λ_ _=>rfl⟩
  ·split at aF
   ·split at aF<;>simp only[aR,reduceCtorEq,bS] at aF;rename_i v hv;obtain⟨rfl,rfl⟩:=aF;exact⟨v,env,rfl,rfl,λ_ _=>rfl⟩
   ·exact read aF
 all_goals exact read aF
def zlt{cx:Cx}{takes:bP}{o:Oper}{env:aA}{H H2:Hp}{lk:bk}{df:bH}{v:V}{s':St}(hn:jT cx.P cx.uq takes o=false)(hf:wM cx.P cx.uq o=false)(aF:cx.op takes o env H lk df=some (.val v,s')) :
  ∀mG pN,∃s2,cx.op takes o env H2 mG pN=some (.val v,s2):=by
 intro mG pN;have read:jA cx.P cx.gl o env H2=jA cx.P cx.gl o env H->(match jA cx.P cx.gl o env H with|none=>none|some v=>some (OR.val v,(⟨env,H,lk,df⟩:St)))=some (.val v,s')->∃s2,(match jA cx.P cx.gl o env H2 with|none=>none|some v=>some (OR.val v,(⟨env,H2,mG,pN⟩:St)))=some (.val v,s2):=by
  intro e hh;rw[e];split at hh<;>simp only[aR,reduceCtorEq,bS] at hh;rename_i u hv;obtain⟨h1,rfl⟩:=hh;cases h1;exact⟨_,rfl⟩
 have mv:∀x,(match take env x with|none=>none|some (v,env)=>some (OR.val v,(⟨env,H,lk,df⟩:St)))=some (.val v,s')->∃s2,(match take env x with|none=>none|some (v,env)=>some (OR.val v,(⟨env,H2,mG,pN⟩:St)))=some (.val v,s2):=by
  intro x hh;split at hh<;>simp only[aR,reduceCtorEq,bS] at hh;rename_i u e hv;obtain⟨h1,rfl⟩:=hh;cases h1;exact⟨_,rfl⟩
 obtain⟨dst,op,type,pos,after,guard⟩:=o;cases op<;>simp only[jT,wM,P3] at hn hf
 case move x =>
  cases dst with
  | none=>exact read rfl aF
  | some d =>
   cases hb:takes.any (Nat.beq d) with
   | true =>
    simp only[Cx.op,hb] at aF ⊢;exact mv x aF
   | false =>
    simp only[Cx.op,hb] at aF ⊢;exact read rfl aF
 case assign x =>
  simp only[Cx.op] at aF ⊢;exact mv x aF
 case slice t x lo hi mx =>
  cases mx with
  | some m=>exact read rfl aF
  | none =>
   simp only at hn;simp only[Cx.op,hn] at aF ⊢;cases CQ:xX takes x lo hi with
   | false =>
    simp only[CQ] at aF ⊢;exact read rfl aF
   | true =>
    simp only[CQ] at aF ⊢;split at aF<;>simp only[aR,reduceCtorEq,bS] at aF;obtain⟨h1,rfl⟩:=aF;cases h1;exact⟨_,rfl⟩
 case convert c d x =>
  simp only[Cx.op] at aF ⊢;split at aF
  next v' e hv=>simp only[aR,bS] at aF;obtain⟨h1,rfl⟩:=aF;cases h1;exact⟨_,rfl⟩
  ·simp only[hf] at aF ⊢;exact read rfl aF
 all_goals exact read rfl aF
end
section
variable{cx:Cx}{all:Array Oper}{takes:bP}
def Ia(all:Array Oper)(takes:bP)(r:Rec):aA :=
 if q8 all r.o r.env=some true then qb (oA r.env (kV takes r.o)) r.o.dst r.v else qb r.env r.o.dst r.v
def xN(rs:List Rec)(q:Rec)(D:Nat):Prop:=∀d∈rs,d.hp=true->bit q.m d.idx=true->bit D d.idx=true
structure RI(cx:Cx)(all:Array Oper)(takes:bP)(s0:St)(Ev:Nat->aA)(i:Nat)(rs:List Rec)(cs:List eT)(s:St):Prop where
 ex:∀j,j<i->∃r∈rs,r.idx=j
 lt:∀r∈rs,r.idx<i
 uniq:∀r∈rs,∀q∈rs,r.idx=q.idx->r=q
 get:∀r∈rs,all[r.idx]?=some r.o
 tm:∀r∈rs,∀t,(r.o.dst=some t\/kV takes r.o=some (.tmp t))->bit r.tm t=true
 lm:∀r∈rs,∀t,(bit r.tm t=true\/t∈r.o.looksAt all)->bit r.lm t=true
 bI:∀r∈rs,∀e∈r.o.after,Region.binds .any e=true->e.on<r.idx
 mlt:∀r∈rs,∀b,bit r.m b=true->b<r.idx
 mask:∀r∈rs,∀b,bit r.m b=true->∃e∈r.o.after,Region.binds .any e=true/\(e.on=b\/∃q∈rs,q.idx=e.on/\bit q.m b=true)
 slots:∀r∈rs,∀q∈rs,q.idx<r.idx->kx r q=true
 ev:∀r∈rs,Ev r.idx=r.env
 Uw:Ev 0=s0.env
 Ux:Ev i=s.env
 QC:∀r∈rs,Ev (r.idx+1)=Ia all takes r
 off:∀r∈rs,q8 all r.o r.env≠some true->q8 all r.o r.env=some false/\r.hp=false/\r.v=.bz []
 calm:∀r∈rs,q8 all r.o r.env=some true->r.hp=jT cx.P cx.uq takes r.o/\(jT cx.P cx.uq takes r.o=false->∃H lk df s1,cx.op takes r.o r.env H lk df=some (.val r.v,s1))
 free:∀r∈rs,q8 all r.o r.env=some true->r.free=true->wM cx.P cx.uq r.o=false
 c0:∃c∈cs,c.D=0/\c.H=s0.H/\c.lk=s0.lk/\c.df=s0.defers
 top:∃c cs',cs=c::cs'/\c.D=cE rs/\c.H=s.H/\c.lk=s.lk/\c.df=s.defers
 cD:∀c∈cs,∀b,bit c.D b=true->∃q∈rs,q.hp=true/\q.idx=b
 uZ:∀c∈cs,∀d∈cs,c.D=d.D->c=d
 g1:∀c∈cs,∀q∈rs,q.hp=true->bit c.D q.idx=false->xN rs q c.D->∃c3∈cs,c3.D=Nat.lor c.D (Nat.pow 2 q.idx)/\cx.dO takes q.o q.env c c3.D=some (q.v,c3)
 g2:∀c∈cs,∀q∈rs,q.hp=false->q.free=false->xN rs q c.D->(∀d∈rs,d.hp=true->bit c.D d.idx=true->bit d.m q.idx=false)->∃c2,cx.dO takes q.o q.env c 0=some (q.v,c2)
def BG:∀{a b:List (V×V)},o_ a b=true->a=b
 | [],[],_=>rfl
 | [],_::_,h=>by simp[o_] at h
 | _::_,[],h=>by simp[o_] at h
 | (x,y)::xs,(z,u)::ys,h=>by
  simp only[o_,cR] at h;rw[V.iH h.1.1,V.iH h.1.2,BG h.2]
def rB:∀{a b:bk},iV a b=true->a=b
 | [],[],_=>rfl
 | [],_::_,h=>by simp[iV] at h
 | _::_,[],h=>by simp[iV] at h
 | (x,y)::xs,(z,u)::ys,h=>by
  simp only[iV,cR] at h;rw[gy h.1.1,gy h.1.2,rB h.2]
def u0:∀{a b:bH},mb a b=true->a=b
 | [],[],_=>rfl
 | [],_::_,h=>by simp[mb] at h
 | _::_,[],h=>by simp[mb] at h
 | (x,y)::xs,(z,u)::ys,h=>by
  simp only[mb,cR] at h;rw[V.iH h.1.1,gP h.1.2,u0 h.2]
def CR:∀{a b:br},fA a b=true->a=b
 | .cells a t,b,h=>by
  cases b<;>simp only[fA,cR,dF] at h;rw[gy h.1,gP h.2]
 | .map a,b,h=>by
  cases b<;>simp only[fA,dF] at h;rw[BG h]
 | .iter a i,b,h=>by
  cases b<;>simp only[fA,cR,dF] at h;rw[gy h.1,Ay h.2]
 | .ul v z a e,b,h=>by
  cases b<;>simp only[fA,cR,dF] at h;rw[gy h.1.1.1,gy h.1.1.2,gy h.1.2,gP h.2]
def u6:∀{a b:List br},lF a b=true->a=b
 | [],[],_=>rfl
 | [],_::_,h=>by simp[lF] at h
 | _::_,[],h=>by simp[lF] at h
 | x::xs,z::ys,h=>by
  simp only[lF,cR] at h;rw[CR h.1,u6 h.2]
def zkB{a b:eT}(h:yU a b=true):a.H=b.H/\a.lk=b.lk/\a.df=b.df:=by
 obtain⟨D,⟨bs,es⟩,lk,df⟩:=a;obtain⟨D',⟨sj,ux⟩,oh,Cs⟩:=b;simp only[yU,cR] at h;exact⟨by rw[u6 h.2,rB h.1.2],rB h.1.1.1,u0 h.1.1.2⟩
def zcP{D:Nat}{c:eT}:∀{cs:List eT},yV D cs=some c->c∈cs/\c.D=D
 | [],h=>by simp[yV] at h
 | d::cs,h=>by
  simp only[yV] at h;split at h
  next hb=>cases h;exact⟨eS ..,gy hb⟩
  ·obtain⟨h1,h2⟩:=zcP h;exact⟨dB _ h1,h2⟩
def wL{α:Type}{f:α->Bool}:∀{l:List α},kH f l=true->∀x∈l,f x=true
 | [],_,x,hx=>by simp at hx
 | y::l,h,x,hx=>by
  simp only[kH] at h;split at h
  ·rename_i hy;rcases dh.1 hx with rfl|hx
   ·exact hy
   ·exact wL h x hx
  ·cases h
def eO{b:Nat}:∀{rs:List Rec},bit (cE rs) b=true ↔ ∃q∈rs,q.hp=true/\q.idx=b
 | []=>by simp[cE,vR]
 | r::rs=>by
  have ih:=eO (b:=b) (rs:=rs);simp only[cE];split
  ·rename_i h;simp only[ki,kC,mT,decide_eq_true_eq,ih,dh];constructor
   ·rintro(h1|⟨q,h1,h2⟩)
    ·exact⟨r,.inl rfl,h,h1⟩
    ·exact⟨q,.inr h1,h2⟩
   ·rintro⟨q,rfl|h1,h2⟩
    ·exact .inl h2.2
    ·exact .inr ⟨q,h1,h2⟩
  ·rename_i h;rw[ih];simp only[dh];constructor
   ·rintro⟨q,h1,h2⟩;exact⟨q,.inr h1,h2⟩
   ·rintro⟨q,rfl|h1,h2⟩
    ·rw[h] at h2;cases h2.1
    ·exact⟨q,h1,h2⟩
def wW{a b:Nat}(h:∀i,bit a i=bit b i):a=b:=by
 apply Nat.eq_of_testBit_eq;intro i;rw[<- xh,<- xh];exact h i
def kj(a b i:Nat):bit (Nat.land a b) i=(bit a i && bit b i):=by
 simp only[xh];exact Nat.testBit_and a b i
def cA{a b:Nat}:kW a b=true ↔ ∀i,bit a i=true->bit b i=true:=by
 unfold kW;constructor
 ·intro h i hi;have h1:=gy h;rw[<- h1,kj,cR] at hi;exact hi.2
 ·intro h;have:Nat.land a b=a:=by
   apply wW;intro i;rw[kj];cases hi:bit a i with
   | false=>rfl
   | true=>simp[h i hi]
  rw[this];exact dW a
def mH{rs:List Rec}{q:Rec}{D:Nat}:kW (Nat.land q.m (cE rs)) D=true ↔ xN rs q D:=by
 rw[cA];constructor
 ·intro h d hd hh hb;exact h d.idx (by rw[kj,hb,eH];exact eO.2 ⟨d,hd,hh,rfl⟩)
 ·intro h i hi;rw[kj,cR] at hi;obtain⟨d,h1,h2,rfl⟩:=eO.1 hi.2;exact h d h1 h2 hi.1
def zec{D:Nat}{q:Rec}:∀{rs:List Rec},(∀d∈rs,d.hp=true->bit D d.idx=true->bit d.m q.idx=false)->ku D q rs=false
 | [],_=>rfl
 | c::cs,h=>by
  simp only[ku,zec λd hd=>h d (dB _ hd),fD];cases h1:c.hp with
  | false=>rfl
  | true=>cases h2:bit D c.idx with
   | false=>rfl
   | true=>simp[h c (eS ..) h1 h2]
def tA{o:Oper}{env:aA}{c:eT}{D:Nat}{v:V}{c2:eT}(h:cx.dO takes o env c D=some (v,c2))(D':Nat):c2.D=D/\cx.dO takes o env c D'=some (v,{ c2 with D:=D' }):=by
 unfold Cx.dO at h ⊢;split at h<;>simp only[aR,reduceCtorEq,bS] at h
 ·obtain⟨rfl,rfl⟩:=h;exact⟨rfl,by simp only[*]⟩
 ·obtain⟨rfl,rfl⟩:=h;exact⟨rfl,by simp only[*]⟩
def Yy{o:Oper}{env:aA}{v:V}{m b:Nat}:∀{cs l:List eT},cx.g_ takes o env v m b cs=some l ->
  (∀c∈cs,kW m c.D=true->∃c2∈l,c2.D=Nat.lor c.D b/\cx.dO takes o env c c2.D=some (v,c2))/\(∀c2∈l,∃c∈cs,kW m c.D=true/\c2.D=Nat.lor c.D b/\cx.dO takes o env c c2.D=some (v,c2))
 | [],l,h=>by
  simp only[Cx.g_,aR] at h;subst h;exact⟨λc hc=>by simp at hc,λc hc=>by simp at hc⟩
 | c::cs,l,h=>by
  simp only[Cx.g_] at h;split at h
  ·rename_i hs;obtain⟨h1,h2⟩:=Yy h;refine⟨λc' hc hb=>?_,λc2 hc=>?_⟩
   ·rcases dh.1 hc with rfl|hc
    ·rw[hs] at hb;cases hb
    ·exact h1 c' hc hb
   ·obtain⟨c',h3,h4⟩:=h2 c2 hc;exact⟨c',dB _ h3,h4⟩
  ·rename_i hs;split at h<;>try (cases h;done)
   rename_i u c2 hr;split at h<;>try (cases h;done)
   rename_i fT;have:=V.iH fT;subst this;split at h<;>try (cases h;done)
   rename_i l' hl;simp only[aR] at h;subst h;obtain⟨h1,h2⟩:=Yy hl;have hD:=(tA hr 0).1;refine⟨λc' hc hb=>?_,λc3 hc=>?_⟩
   ·rcases dh.1 hc with rfl|hc
    ·exact⟨c2,eS ..,hD,by rw[hD];exact hr⟩
    ·obtain⟨c3,h3,h4⟩:=h1 c' hc hb;exact⟨c3,dB _ h3,h4⟩
   ·rcases dh.1 hc with rfl|hc
    ·exact⟨c,eS ..,hs,hD,by rw[hD];exact hr⟩
    ·obtain⟨c',h3,h4⟩:=h2 c3 hc;exact⟨c',dB _ h3,h4⟩
end
section
variable{cx:Cx}{all:Array Oper}{takes:bP}
def zgE{o:Oper}{env:aA}{v:V}{c:eT}(h:cx.gj takes o env v c=true):∃c2,cx.dO takes o env c 0=some (v,c2):=by
 unfold Cx.gj at h;split at h
 next u c2 hr=>rw[V.iH h] at hr;exact⟨c2,hr⟩
 ·cases h
def RI.start(s:St):RI cx all takes s (λ_=>s.env) 0 [] [⟨0,s.H,s.lk,s.defers⟩] s :=
 {ex:=λj hj=>by omega,lt:=λr hr=>by simp at hr,uniq:=λr hr=>by simp at hr,get:=λr hr=>by simp at hr,tm:=λr hr=>by simp at hr,lm:=λr hr=>by simp at hr,
  bI:=λr hr=>by simp at hr,mlt:=λr hr=>by simp at hr,mask:=λr hr=>by simp at hr,slots:=λr hr=>by simp at hr,ev:=λr hr=>by simp at hr,Uw:=rfl,Ux:=rfl,
  QC:=λr hr=>by simp at hr,
  off:=λr hr=>by simp at hr,calm:=λr hr=>by simp at hr,free:=λr hr=>by simp at hr,
  c0:=⟨_,eS ..,rfl,rfl,rfl,rfl⟩,top:=⟨_,[],rfl,rfl,rfl,rfl,rfl⟩,
  cD:=λc hc b hb=>by simp only[uk] at hc;subst hc;rw[vR] at hb;exact absurd hb (by simp),
  uZ:=λc hc d hd _=>by simp only[uk] at hc hd;rw[hc,hd],g1:=λc _ q hq=>by simp at hq,g2:=λc _ q hq=>by simp at hq }
def ziZ{o:Oper}{t:Nat}(h:t∈o.looksAt all):bit (r9 all o) t=true:=by
 rw[r9,ki,mT];rcases uo.1 h with h|h
 ·left
  obtain⟨x,hx,Eu⟩:=List.mem_filterMap.1 h;split at Eu<;>simp only[aR,reduceCtorEq] at Eu;subst Eu;exact vz hx
 ·right
  unfold zgv;split at h
  next g b hg=>rw[hg];simp only;rw[Option.mem_toList] at h;rw[show(all[g]?).bind (·.dst)=some t from h];simp only[kC,decide_true]
  ·simp at h
def zhG{o:Oper}{t:Nat}(h:o.dst=some t\/kV takes o=some (.tmp t)) :
  bit (lC takes o) t=true:=by
 unfold lC;rcases h with h|h
 ·rw[h];simp only[ki,kC,decide_true,fO]
 ·rw[h];have:bit (gZ [Operand.tmp t]) t=true:=vz (eS ..);split
  ·simp only[ki,this,fP]
  ·exact this
structure Mi(cx:Cx)(takes:bP)(s0:St)(rs:List Rec)(cs:List eT)(s:St):Prop where
 c0:∃c∈cs,c.D=0/\c.H=s0.H/\c.lk=s0.lk/\c.df=s0.defers
 top:∃c cs',cs=c::cs'/\c.D=cE rs/\c.H=s.H/\c.lk=s.lk/\c.df=s.defers
 cD:∀c∈cs,∀b,bit c.D b=true->∃q∈rs,q.hp=true/\q.idx=b
 uZ:∀c∈cs,∀d∈cs,c.D=d.D->c=d
 g1:∀c∈cs,∀q∈rs,q.hp=true->bit c.D q.idx=false->xN rs q c.D->∃c3∈cs,c3.D=Nat.lor c.D (Nat.pow 2 q.idx)/\cx.dO takes q.o q.env c c3.D=some (q.v,c3)
 g2:∀c∈cs,∀q∈rs,q.hp=false->q.free=false->xN rs q c.D->(∀d∈rs,d.hp=true->bit c.D d.idx=true->bit d.m q.idx=false)->∃c2,cx.dO takes q.o q.env c 0=some (q.v,c2)
def zmD{s0:St}{rs:List Rec}{cs:List eT}{s s1:St}{r:Rec}{i:Nat}(hG:Mi cx takes s0 rs cs s)(bD:∀q∈rs,q.idx<i)(_huq:∀r∈rs,∀q∈rs,r.idx=q.idx->r=q)(_hmlt:∀q∈rs,∀b,bit q.m b=true->b<q.idx)(Bg:r.idx=i)(F9:∀b,bit r.m b=true->b<i)
  (Mj:r.hp=false->s1.H=s.H/\s1.lk=s.lk/\s1.defers=s.defers) (uB:r.hp=false->r.free=false->∃c2,∀D,cx.dO takes r.o r.env ⟨D,s.H,s.lk,s.defers⟩ 0=some (r.v,c2))
  (Uy:r.hp=true->∀D D',cx.dO takes r.o r.env ⟨D,s.H,s.lk,s.defers⟩ D'=some (r.v,⟨D',s1.H,s1.lk,s1.defers⟩))
  {k:List eT->Option (Ex×St)} {res:Ex×St} {c0:eT} {Az:List eT} (ej:cs=c0::Az) (hk:cx.fS takes rs r c0 ⟨Nat.lor c0.D (Nat.pow 2 i),s1.H,s1.lk,s1.defers⟩ Az k=some res) :
  ∃cs',k cs'=some res/\Mi cx takes s0 (r::rs) cs' s1:=by
 subst ej;obtain⟨g0,gt,gD,gu,g1,g2⟩:=hG;obtain⟨ct,cs',he,uC,Fu,iL,nQ⟩:=gt;simp only[List.cons.injEq] at he;obtain⟨rfl,rfl⟩:=he;have CS:∀c∈c0::Az,bit c.D i=false:=λc hc=>by
  cases h:bit c.D i with
  | false=>rfl
  | true =>
   obtain⟨q,hq,_,he⟩:=gD c hc i h;have:=bD q hq;omega
 unfold Cx.fS at hk;cases hp:r.hp with
 | false =>
  simp only[hp] at hk;split at hk<;>try (cases hk;done)
  rename_i hv;obtain⟨e1,e2,e3⟩:=Mj hp;have ha:∀q D,xN (r::rs) q D->xN rs q D:=λq D h d hd=>h d (dB _ hd);refine⟨_,hk,⟨g0,⟨c0,Az,rfl,?_,by rw[e1,Fu],by rw[e2,iL],by rw[e3,nQ]⟩,λc hc b hb=>?_,gu,?_,?_⟩⟩
  ·simp only[cE,hp];exact uC
  ·obtain⟨q,hq,hh⟩:=gD c hc b hb;exact⟨q,dB _ hq,hh⟩
  ·intro c hc q hq gq Ib Fv;rcases dh.1 hq with rfl|hq
   ·rw[hp] at gq;cases gq
   ·exact g1 c hc q hq gq Ib (ha q _ Fv)
  ·intro c hc q hq gq o7 Fv QD;rcases dh.1 hq with rfl|hq
   ·rw[o7,eI] at hv;rcases dh.1 hc with rfl|hc
    ·obtain⟨c2,h2⟩:=uB hp o7;refine⟨c2,?_⟩;rw[<- h2 c.D,<- Fu,<- iL,<- nQ]
    ·have h1:=wL hv c hc;rw[mH.2 (ha q _ Fv)] at h1;exact zgE h1
   ·exact g2 c hc q hq gq o7 (ha q _ Fv) λd hd=>QD d (dB _ hd)
 | true =>
  simp only[hp] at hk;split at hk<;>try (cases hk;done)
  rename_i l hl;split at hk<;>try (cases hk;done)
  rename_i gm;obtain⟨l1,l2⟩:=Yy hl;have gm:=wL gm;have hN:∀c2,c2∈(⟨Nat.lor c0.D (Nat.pow 2 i),s1.H,s1.lk,s1.defers⟩:eT)::l->∃c∈c0::Az,xN rs r c.D/\c2.D=Nat.lor c.D (Nat.pow 2 i)/\cx.dO takes r.o r.env c c2.D=some (r.v,c2):=by
   intro c2 uV;rcases dh.1 uV with rfl|uV
   ·refine⟨c0,eS ..,λd hd hh _=>?_,rfl,?_⟩
    ·rw[uC];exact eO.2 ⟨d,hd,hh,rfl⟩
    ·have:=Uy hp c0.D (Nat.lor c0.D (Nat.pow 2 i));rw[<- Fu,<- iL,<- nQ] at this;exact this
   ·obtain⟨c,hc,hs,hD,hr⟩:=l2 c2 uV;rw[Bg] at hD;exact⟨c,dB _ hc,mH.1 hs,hD,hr⟩
  have hN':∀c∈c0::Az,xN rs r c.D->∃c2∈(⟨Nat.lor c0.D (Nat.pow 2 i),s1.H,s1.lk,s1.defers⟩:eT)::l,c2.D=Nat.lor c.D (Nat.pow 2 i)/\cx.dO takes r.o r.env c c2.D=some (r.v,c2):=by
   intro c hc ha;rcases dh.1 hc with rfl|hc
   ·refine⟨_,eS ..,rfl,?_⟩;have:=Uy hp c.D (Nat.lor c.D (Nat.pow 2 i));rw[<- Fu,<- iL,<- nQ] at this;exact this
   ·obtain⟨c2,uV,hD,hr⟩:=l1 c hc (mH.2 ha);rw[Bg] at hD;exact⟨c2,dB _ uV,hD,hr⟩
  have Ml:∀(c:eT)(b:Nat),bit (Nat.lor c.D (Nat.pow 2 i)) b=true ↔ bit c.D b=true\/b=i:=λc b=>by
   rw[ki,kC,mT,decide_eq_true_eq];exact⟨λh=>h.imp id Eq.symm,λh=>h.imp id Eq.symm⟩
  have eL:∀c,c∈(⟨Nat.lor c0.D (Nat.pow 2 i),s1.H,s1.lk,s1.defers⟩:eT)::l++c0::Az ↔ c∈(⟨Nat.lor c0.D (Nat.pow 2 i),s1.H,s1.lk,s1.defers⟩:eT)::l\/c∈c0::Az:=λc=>uo;refine⟨_,hk,⟨?_,⟨_,_,rfl,?_,rfl,rfl,rfl⟩,?_,?_,?_,?_⟩⟩
  ·obtain⟨c,hc,h⟩:=g0;exact⟨c,(eL c).2 (.inr hc),h⟩
  ·simp only[cE,hp,Bg];rw[uC];exact wW λb=>by rw[ki,ki,Bool.or_comm]
  ·intro c hc b hb;rcases (eL c).1 hc with hc|hc
   ·obtain⟨d,hd,_,hD,_⟩:=hN c hc;rw[hD,Ml] at hb;rcases hb with hb|rfl
    ·obtain⟨q,hq,hh⟩:=gD d hd b hb;exact⟨q,dB _ hq,hh⟩
    ·exact⟨r,eS ..,hp,Bg⟩
   ·obtain⟨q,hq,hh⟩:=gD c hc b hb;exact⟨q,dB _ hq,hh⟩
  ·have key:∀c∈c0::Az,∀d∈c0::Az,Nat.lor c.D (Nat.pow 2 i)=Nat.lor d.D (Nat.pow 2 i)->c=d:=by
    intro c hc d hd he;refine gu c hc d hd (wW λb=>?_)
    by_cases hb:b=i
    ·rw[hb,CS c hc,CS d hd]
    ·have h1:=Ml c b;have h2:=Ml d b;rw[he] at h1;simp only[hb,or_false] at h1 h2;exact HT.2 (h1.symm.trans h2)
   intro c hc d hd he;rcases (eL c).1 hc with hc|hc<;>rcases (eL d).1 hd with hd|hd
   ·obtain⟨c',eY,_,Mm,HZ⟩:=hN c hc;obtain⟨d',Cq,_,Mn,gC⟩:=hN d hd;have:=key c' eY d' Cq (by rw[<- Mm,<- Mn,he])
    subst this;rw[he,gC] at HZ;simp only[aR,bS,cg] at HZ;exact HZ.symm
   ·obtain⟨c',eY,_,Mm,HZ⟩:=hN c hc;have h1:=CS d hd;rw[<- he,Mm,(Ml c' i).2 (.inr rfl)] at h1;cases h1
   ·obtain⟨d',Cq,_,Mn,gC⟩:=hN d hd;have h1:=CS c hc;rw[he,Mn,(Ml d' i).2 (.inr rfl)] at h1;cases h1
   ·exact gu c hc d hd he
  ·
   intro c hc q hq gq Ib Fv;have EE:xN rs q c.D:=λd hd=>Fv d (dB _ hd);rcases (eL c).1 hc with hc|hc
   ·rcases dh.1 hq with rfl|hq
    ·obtain⟨d,hd,_,hD,_⟩:=hN c hc;rw[hD,Bg,(Ml d i).2 (.inr rfl)] at Ib;cases Ib
    ·have h1:=wL (gm c hc) q hq;rw[mH.2 EE] at h1;simp only[gq,Ib] at h1;split at h1
     next u c2 c3 hr hf=>rw[cR] at h1;obtain⟨h1,h2⟩:=h1;have hu:=V.iH h1;subst hu;obtain⟨e1,e2,e3⟩:=zkB h2;obtain⟨f1,f2⟩:=zcP hf;refine⟨c3,f1,f2,?_⟩;have:=(tA hr c3.D).2;rw[this,e1,e2,e3]
     ·cases h1
   ·rcases dh.1 hq with rfl|hq
    ·have:xN rs q c.D:=EE;obtain⟨c2,uV,hD,hr⟩:=hN' c hc this;exact⟨c2,(eL c2).2 (.inl uV),by rw[Bg];exact hD,hr⟩
    ·obtain⟨c3,Cp,hD,hr⟩:=g1 c hc q hq gq Ib EE;exact⟨c3,(eL c3).2 (.inr Cp),hD,hr⟩
  ·intro c hc q hq gq o7 Fv QD;have EE:xN rs q c.D:=λd hd=>Fv d (dB _ hd);rcases dh.1 hq with rfl|hq
   ·rw[hp] at gq;cases gq
   rcases (eL c).1 hc with hc|hc
   ·have h1:=wL (gm c hc) q hq;rw[mH.2 EE] at h1;simp only[gq,o7,eI] at h1
    have hrb:bit r.m q.idx=false:=QD r (eS ..) hp (by
     obtain⟨d,hd,_,hD,_⟩:=hN c hc;rw[hD,Bg]
     exact(Ml d i).2 (.inr rfl))
    rw[hrb,zec λd hd=>QD d (dB _ hd),eI,eI] at h1;exact zgE h1
   ·exact g2 c hc q hq gq o7 EE λd hd=>QD d (dB _ hd)
end
section
variable{cx:Cx}{all:Array Oper}{takes:bP}
def RI.Yz{s0:St}{Ev:Nat->aA}{i:Nat}{rs:List Rec}{cs:List eT}{s:St}(h:RI cx all takes s0 Ev i rs cs s):Mi cx takes s0 rs cs s:=⟨h.c0,h.top,h.cD,h.uZ,h.g1,h.g2⟩
def RI.step{s0:St}{Ev:Nat->aA}{i:Nat}{rs:List Rec}{cs:List eT}{s s1:St}(h:RI cx all takes s0 Ev i rs cs s){r:Rec}(Bg:r.idx=i)(fu:all[i]?=some r.o)(hm:wd rs r.o.after.toList=some r.m)(mW:r.env=s.env)
  (htm:r.tm=lC takes r.o)
  (hlm:r.lm=Nat.lor r.tm (r9 all r.o))
  (tB:kH (kx r) rs=true) (hE:s1.env=Ia all takes r)
  (QE:q8 all r.o r.env≠some true->q8 all r.o r.env=some false/\r.hp=false/\r.v=.bz []/\r.free=true)
  (u7:q8 all r.o r.env=some true->r.hp=jT cx.P cx.uq takes r.o/\(jT cx.P cx.uq takes r.o=false->∃H lk df s1,cx.op takes r.o r.env H lk df=some (.val r.v,s1)))
  (QF:q8 all r.o r.env=some true->r.free=true->wM cx.P cx.uq r.o=false)
  (Mj:r.hp=false->s1.H=s.H/\s1.lk=s.lk/\s1.defers=s.defers) (uB:r.hp=false->r.free=false->∃c2,∀D,cx.dO takes r.o r.env ⟨D,s.H,s.lk,s.defers⟩ 0=some (r.v,c2))
  (Uy:r.hp=true->∀D D',cx.dO takes r.o r.env ⟨D,s.H,s.lk,s.defers⟩ D'=some (r.v,⟨D',s1.H,s1.lk,s1.defers⟩))
  {k:List eT->Option (Ex×St)} {res:Ex×St} {c0:eT} {Az:List eT} (ej:cs=c0::Az) (hk:cx.fS takes rs r c0 ⟨Nat.lor c0.D (Nat.pow 2 i),s1.H,s1.lk,s1.defers⟩ Az k=some res) :
  ∃cs' Uz,k cs'=some res/\RI cx all takes s0 Uz (i+1) (r::rs) cs' s1:=by
 obtain⟨m1,m2⟩:=xM hm;have F9:∀b,bit r.m b=true->b<i:=λb hb=>by
  obtain⟨e,he,I_,QG⟩:=m2 b hb;rcases QG with rfl|⟨q,hq,Cu,Ib⟩
  ·obtain⟨q,hq,Cu⟩:=m1 e he I_;rw[<- Cu];exact h.lt q hq
  ·exact Nat.lt_trans (h.mlt q hq b Ib) (h.lt q hq)
 obtain⟨cs',Cn,hG⟩:=zmD h.Yz h.lt h.uniq h.mlt Bg F9 Mj uB Uy ej hk;refine⟨cs',λj=>if j<=i then Ev j else s1.env,Cn,?_⟩
 have eL:∀{q:Rec},q∈r::rs->q=r\/q∈rs:=λhq=>dh.1 hq;refine { ex:=?_,lt:=?_,uniq:=?_,get:=?_,tm:=?_,lm:=?_,bI:=?_,mlt:=?_,mask:=?_,slots:=?_,ev:=?_,Uw:=?_,Ux:=?_,QC:=?_,off:=?_,calm:=?_,free:=?_,c0:=hG.c0,top:=hG.top,cD:=hG.cD,uZ:=hG.uZ,g1:=hG.g1,g2:=hG.g2 }
 ·intro j hj
  by_cases YA:j=i
  ·exact⟨r,eS ..,by rw[Bg,YA]⟩
  ·obtain⟨q,hq,hqj⟩:=h.ex j (by omega)
   exact⟨q,dB _ hq,hqj⟩
 ·intro q hq;rcases eL hq with rfl|hq
  ·omega
  ·have:=h.lt q hq;omega
 ·intro a ha b hb he;rcases eL ha with rfl|tC<;>rcases eL hb with rfl|dK
  ·rfl
  ·have:=h.lt b dK;omega
  ·have:=h.lt a tC;omega
  ·exact h.uniq a tC b dK he
 ·intro q hq;rcases eL hq with rfl|hq
  ·rw[Bg];exact fu
  ·exact h.get q hq
 ·intro q hq t ht;rcases eL hq with rfl|hq
  ·rw[htm];exact zhG ht
  ·exact h.tm q hq t ht
 ·intro q hq t ht;rcases eL hq with rfl|hq
  ·rw[hlm,ki,mT];rcases ht with ht|ht
   ·exact .inl ht
   ·exact .inr (ziZ ht)
  ·exact h.lm q hq t ht
 ·intro q hq e he hb;rcases eL hq with rfl|hq
  ·obtain⟨p,hp,hpi⟩:=m1 e (by simpa using he) hb
   rw[<- hpi,Bg];exact h.lt p hp
  ·exact h.bI q hq e he hb
 ·intro q hq b hb;rcases eL hq with rfl|hq
  ·rw[Bg];exact F9 b hb
  ·exact h.mlt q hq b hb
 ·intro q hq b hb;rcases eL hq with rfl|hq
  ·obtain⟨e,he,I_,QG⟩:=m2 b hb;refine⟨e,by simpa using he,I_,QG.imp id ?_⟩
   rintro⟨p,hp,hh⟩;exact⟨p,dB _ hp,hh⟩
  ·obtain⟨e,he,I_,QG⟩:=h.mask q hq b hb;refine⟨e,he,I_,QG.imp id ?_⟩;rintro⟨p,hp,hh⟩;exact⟨p,dB _ hp,hh⟩
 ·intro a ha b hb bD;rcases eL ha with rfl|tC<;>rcases eL hb with rfl|dK
  ·omega
  ·exact wL tB b dK
  ·have:=h.lt a tC;omega
  ·exact h.slots a tC b dK bD
 ·intro q hq;rcases eL hq with rfl|hq
  ·rw[Bg,if_pos (ek _),h.Ux,mW]
  ·rw[if_pos (Nat.le_of_lt (h.lt q hq))];exact h.ev q hq
 ·rw[if_pos (ga _)];exact h.Uw
 ·rw[if_neg (by omega)]
 ·intro q hq;rcases eL hq with rfl|hq
  ·rw[Bg,if_neg (by omega)];exact hE
  ·have:=h.lt q hq;rw[if_pos (by omega)];exact h.QC q hq
 ·intro q hq hw;rcases eL hq with rfl|hq
  ·obtain⟨a,b,c,_⟩:=QE hw;exact⟨a,b,c⟩
  ·exact h.off q hq hw
 ·intro q hq hw;rcases eL hq with rfl|hq
  ·exact u7 hw
  ·exact h.calm q hq hw
 ·intro q hq hw hf;rcases eL hq with rfl|hq
  ·exact QF hw hf
  ·exact h.free q hq hw hf
def QH{s0:St}{ex:Ex}{s':St}:∀(os:List Oper)(i:Nat)(rs:List Rec)(cs:List eT)(s:St)(Ev:Nat->aA),cx.gk all takes i rs cs os s=some (ex,s')->RI cx all takes s0 Ev i rs cs s->os=all.toList.drop i ->
  ex=.normal/\∃Ev rs cs,RI cx all takes s0 Ev all.size rs cs s'
 | [],i,rs,cs,s,Ev,hc,h,ho=>by
  simp only[Cx.gk,aR,bS] at hc;obtain⟨rfl,rfl⟩:=hc;refine⟨rfl,Ev,rs,cs,?_⟩;have h1:all.size<=i:=by
   have:=congrArg List.length ho;simp at this;omega
  have h2:i<=all.size:=by
   rcases lP all.size i with h3|h3
   ·obtain⟨r,hr,he⟩:=h.ex all.size h3;have:=h.get r hr;rw[he] at this;simp at this
   ·exact h3
  rw[Nat.le_antisymm h1 h2];exact h
 | o::os,i,rs,cs,⟨env,H,lk,df⟩,Ev,hc,h,ho=>by
  have fu:all[i]?=some o:=by
   have:=congrArg (·[0]?) ho;simp at this;exact this.symm
  have uy:os=all.toList.drop (i+1):=by
   have:=congrArg List.tail ho;simpa using this
  simp only[Cx.gk] at hc;split at hc<;>try (cases hc;done)
  rename_i m hm;simp only[jr] at hc;split at hc<;>try (cases hc;done)
  ·
   rename_i hw;simp only[qd,jX] at hc;split at hc<;>try (cases hc;done)
   rename_i c0 Az EG;obtain⟨cs',Uz,hk,QI⟩:=h.step (r:=⟨i,o,m,_,_,false,true,env,.bz []⟩) (s1:=⟨qb env o.dst (.bz []),H,lk,df⟩) rfl fu hm rfl rfl rfl EG (by simp[Ia,hw]) (λ_=>⟨hw,rfl,rfl,rfl⟩) (λhh=>by rw[hw] at hh;cases hh) (λhh=>by rw[hw] at hh;cases hh)
    (λ_=>⟨rfl,rfl,rfl⟩) (λ_ hf=>nomatch hf) (λhf=>nomatch hf) rfl hc
   exact QH os (i+1) _ _ _ _ hk QI uy
  ·rename_i hw;split at hc<;>try (cases hc;done)
   ·rename_i v s1 aF;obtain⟨de,H1,eA,eZ⟩:=s1;simp only[qd,jX] at hc;split at hc<;>try (cases hc;done)
    rename_i c0 Az EG;have he:de=oA env (kV takes o):=(Uv (bK:=env) (λt _=>rfl) aF).1;obtain⟨cs',Uz,hk,QI⟩:=h.step (r:=⟨i,o,m,_,_,jT cx.P cx.uq takes o,!wM cx.P cx.uq o,env,v⟩) (s1:=⟨qb de o.dst v,H1,eA,eZ⟩) rfl fu hm rfl rfl rfl EG (by simp[Ia,hw,he]) (λhh=>absurd hw hh) (λ_=>⟨rfl,λ_=>⟨_,_,_,_,aF⟩⟩) (λ_ hf=>by simpa using hf)
     (λhf=>by
      obtain⟨v',e1,e2,e3⟩:=vT hf aF;cases e2
      exact⟨rfl,rfl,rfl⟩)
     (λhf _=>by
      refine⟨⟨0,H1,eA,eZ⟩,λD=>?_⟩
      simp only[Cx.dO,aF])
     (λhf D D'=>by simp only[Cx.dO,aF]) rfl hc
    exact QH os (i+1) _ _ _ _ hk QI uy
   ·rename_i s1 aF;obtain⟨de,H1,eA,eZ⟩:=s1;simp only[qd,jX] at hc;split at hc<;>try (cases hc;done)
    rename_i c0 Az EG;have he:de=oA env (kV takes o):=(Uv (bK:=env) (λt _=>rfl) aF).1;have uD:jT cx.P cx.uq takes o=true:=by
     cases hb:jT cx.P cx.uq takes o with
     | true=>rfl
     | false=>obtain⟨v',e1,_⟩:=vT hb aF;cases e1
    obtain⟨cs',Uz,hk,QI⟩:=h.step (r:=⟨i,o,m,_,_,jT cx.P cx.uq takes o,false,env,.bz []⟩) (s1:=⟨qb de o.dst (.bz []),H1,eA,eZ⟩) rfl fu hm rfl rfl rfl EG (by simp[Ia,hw,he]) (λhh=>absurd hw hh) (λ_=>⟨rfl,λhf=>by rw[uD] at hf;cases hf⟩) (λ_ hf=>nomatch hf)
     (λhf=>by simp only[uD,P3] at hf) (λhf=>by simp only[uD,P3] at hf) (λhf D D'=>by simp only[Cx.dO,aF]) rfl hc
    exact QH os (i+1) _ _ _ _ hk QI uy
end
section
variable{cx:Cx}{all:Array Oper}{takes:bP}
abbrev nH(l:Array Bool)(j:Nat):Prop:=l.getD j false=true
def UA(all:Array Oper)(l:Array Bool):Prop:=∀(j:Nat)(o:Oper),all[j]?=some o->nH l j->∀e∈o.after,Region.binds .any e=true->nH l e.on
def Kx(rs:List Rec)(t j:Nat):Prop:=∃r∈rs,r.idx=j/\bit r.tm t=true
structure Inv(all:Array Oper)(rs:List Rec)(cs:List eT)(Ev:Nat->aA)(l:Array Bool)(s:St):Prop where
 down:UA all l
 size:l.size=all.size
 env:∀t m,m<=all.size->(∀j,j<m->Kx rs t j->nH l j)->(∀j,m<=j->Kx rs t j->¬nH l j)->s.env[t]?=(Ev m)[t]?
 mem:∃c∈cs,(∀b,bit c.D b=true ↔ ∃q∈rs,q.hp=true/\q.idx=b/\nH l b)/\s.H=c.H/\s.lk=c.lk/\s.defers=c.df
section
variable{s0 s' s:St}{Ev:Nat->aA}{rs:List Rec}{cs:List eT}{l:Array Bool}
def yA(hR:RI cx all takes s0 Ev all.size rs cs s')(hd:UA all l):∀(n:Nat)(r:Rec),r∈rs->r.idx<=n->(∀e∈r.o.after,Region.binds .any e=true->nH l e.on)->∀b,bit r.m b=true->nH l b
 | 0,r,hr,hn,_,b,hb=>by
  have:=hR.mlt r hr b hb;omega
 | n+1,r,hr,hn,he,b,hb=>by
  obtain⟨e,h1,h2,h3⟩:=hR.mask r hr b hb;rcases h3 with rfl|⟨q,hq,Cu,Ib⟩
  ·exact he e h1 h2
  ·have hl:=he e h1 h2;rw[<- Cu] at hl;have:=hR.bI r hr e h1 h2;exact yA hR hd n q hq (by omega) (hd q.idx q.o (hR.get q hq) hl) b Ib
def xi(hR:RI cx all takes s0 Ev all.size rs cs s')(hd:UA all l){r:Rec}(hr:r∈rs)(hl:nH l r.idx){b:Nat}(hb:bit r.m b=true):nH l b :=
 yA hR hd r.idx r hr (ek _) (hd r.idx r.o (hR.get r hr) hl) b hb
def YB(hR:RI cx all takes s0 Ev all.size rs cs s'){q r:Rec}(hq:q∈rs)(hr:r∈rs)(bD:q.idx<r.idx){t:Nat}(h:(bit q.tm t=true/\bit r.lm t=true)\/(bit r.tm t=true/\bit q.lm t=true)):bit r.m q.idx=true:=by
 have hs:=hR.slots r hr q hq bD;unfold kx at hs;split at hs
 ·assumption
 ·rw[cR] at hs;rcases h with h|h
  ·exact(ziY hs.1 h.1 h.2).elim
  ·exact(ziY hs.2 h.1 h.2).elim
def zfl{env bK:aA}{dst:fQ}{v:V}{t:Nat}(h:env[t]?=bK[t]?):(qb env dst v)[t]?=(qb bK dst v)[t]?:=by
 cases dst with
 | none=>exact h
 | some d=>simp only[qb,List.getElem?_set',h]
def UB{env:aA}{dst:fQ}{v:V}{t:Nat}(h:dst≠some t):(qb env dst v)[t]?=env[t]?:=by
 cases dst with
 | none=>rfl
 | some d =>
  have:d≠t:=λe=>h (by rw[e])
  simp only[qb,s7,this,bZ]
def zi0(env:aA)(x:aO):kO env x=env\/∃u sz xs e,x=.tmp u/\env[u]?=some (.sl sz xs (.yes e))/\kO env x=env.set u (.sl sz xs .no):=by
 cases x with
 | tmp t =>
  simp only[kO];split
  next sz xs e h=>exact .inr ⟨t,sz,xs,e,rfl,h,rfl⟩
  ·exact .inl rfl
 | _=>exact .inl rfl
def znW{env:aA}{k:Option aO}{t:Nat}(h:k≠some (.tmp t)):(oA env k)[t]?=env[t]?:=by
 cases k with
 | none=>rfl
 | some x =>
  simp only[oA];rcases zi0 env x with h1|⟨u,sz,xs,e,rfl,_,h1⟩
  ·rw[h1]
  ·have:u≠t:=λe=>h (by rw[e])
   rw[h1];simp only[s7,this,bZ]
def zmE{env bK:aA}{k:Option aO}{t:Nat}(h:env[t]?=bK[t]?)(hk:∀u,k=some (.tmp u)->env[u]?=bK[u]?):(oA env k)[t]?=(oA bK k)[t]?:=by
 cases k with
 | none=>exact h
 | some x =>
  cases x with
  | tmp u =>
   have hu:=hk u rfl;simp only[oA,kO,hu];split
   ·simp only[List.getElem?_set',h]
   ·exact h
  | _=>exact h
def znX{r:Rec}{t:Nat}(h1:r.o.dst≠some t)(h2:kV takes r.o≠some (.tmp t)):(Ia all takes r)[t]?=r.env[t]?:=by
 unfold Ia;split
 ·rw[UB h1,znW h2]
 ·rw[UB h1]
def YC(hR:RI cx all takes s0 Ev all.size rs cs s'){t a:Nat}:∀{b:Nat},a<=b->b<=all.size->(∀j,a<=j->j<b->¬Kx rs t j)->(Ev b)[t]?=(Ev a)[t]?
 | 0,h,_,_=>by rw[Nat.le_zero.1 h]
 | b+1,h,hb,hT=>by
  by_cases e:a=b+1
  ·rw[e]
  ·have DE:a<=b:=by omega
   rw[<- YC hR DE (by omega) λj h1 h2=>hT j h1 (by omega)]
   obtain⟨r,hr,Bg⟩:=hR.ex b (by omega)
   have h1:=hR.QC r hr;have h2:=hR.ev r hr;rw[Bg] at h1 h2;have mu:bit r.tm t=false:=by
    cases hb:bit r.tm t with
    | false=>rfl
    | true=>exact(hT b DE (by omega) ⟨r,hr,Bg,hb⟩).elim
   have hd:r.o.dst≠some t:=λe=>by rw[hR.tm r hr t (.inl e)] at mu;cases mu
   have hk:kV takes r.o≠some (.tmp t):=λe=>by rw[hR.tm r hr t (.inr e)] at mu;cases mu
   rw[h1,h2,znX hd hk]
def Inv.QJ(hR:RI cx all takes s0 Ev all.size rs cs s')(hI:Inv all rs cs Ev l s){r:Rec}(hr:r∈rs)(CO:¬nH l r.idx)(fU:∀e∈r.o.after,Region.binds .any e=true->nH l e.on){t:Nat}(ht:bit r.lm t=true):s.env[t]?=r.env[t]?:=by
 have hb:=yA hR hI.down r.idx r hr (ek _) fU;rw[<- hR.ev r hr];refine hI.env t r.idx (Nat.le_of_lt (hR.lt r hr)) ?_ ?_
 ·rintro j hj ⟨q,hq,rfl,BH⟩;exact hb q.idx (YB hR hq hr hj (.inl ⟨BH,ht⟩))
 ·rintro j hj ⟨q,hq,rfl,BH⟩ hl;rcases lP r.idx q.idx with h|h
  ·exact CO (xi hR hI.down hq hl (YB hR hr hq h (.inr ⟨BH,ht⟩)))
  ·have:=hR.uniq q hq r hr (Nat.le_antisymm h hj);subst this;exact CO hl
def zkC{o:Oper}{t:Nat}(h:Operand.tmp t∈o.op.operands.toList):t∈o.looksAt all :=
 Ck _ (List.mem_filterMap.2 ⟨.tmp t,h,rfl⟩)
def zhI{o:Oper}{env bK:aA}(h:∀t∈o.looksAt all,env[t]?=bK[t]?):q8 all o env=q8 all o bK:=by
 unfold q8;cases hg:o.guard with
 | none=>rfl
 | some jw =>
  obtain⟨j,want⟩:=jw;simp only;cases hd:(all[j]?).bind (·.dst) with
  | none=>rfl
  | some d =>
   have:d∈o.looksAt all:=by
    refine CA _ ?_;rw[hg];simp[hd]
   simp only[zV,h d this]
def vn{i j:Nat}(hs:i<l.size):nH (l.setIfInBounds i true) j ↔ j=i\/nH l j:=by
 unfold nH
 by_cases h:i=j
 ·subst h;simp[hs]
 ·rw[getD_set_ne false h];constructor
  ·exact .inr
  ·rintro(rfl|h')
   ·exact(h rfl).elim
   ·exact h'
def Inv.DM(hR:RI cx all takes s0 Ev all.size rs cs s')(hI:Inv all rs cs Ev l s){r:Rec}(hr:r∈rs)(CO:¬nH l r.idx)(fU:∀e∈r.o.after,Region.binds .any e=true->nH l e.on){E:aA}
  (cG:∀t,bit r.tm t=false->E[t]?=s.env[t]?) (hto:∀t,bit r.tm t=true->E[t]?=(Ia all takes r)[t]?) :
  ∀t m,m<=all.size->(∀j,j<m->Kx rs t j->nH (l.setIfInBounds r.idx true) j)->(∀j,m<=j->Kx rs t j->¬nH (l.setIfInBounds r.idx true) j)->E[t]?=(Ev m)[t]?:=by
 intro t m hm h1 h2;have bD:=hR.lt r hr;have gp:r.idx<l.size:=by rw[hI.size];exact bD
 cases hb:bit r.tm t with
 | false =>
  rw[cG t hb];have mu:¬Kx rs t r.idx:=by
   rintro⟨q,hq,Cu,BH⟩;have:=hR.uniq q hq r hr Cu;subst this;rw[hb] at BH;cases BH
  refine hI.env t m hm (λj hj ht=>?_) (λj hj ht hl=>h2 j hj ht ((vn gp).2 (.inr hl)));rcases (vn gp).1 (h1 j hj ht) with rfl|h
  ·exact(mu ht).elim
  ·exact h
 | true =>
  rw[hto t hb,<- hR.QC r hr];have him:r.idx<m:=by
   rcases lP r.idx m with h|h
   ·exact h
   ·exact(h2 r.idx h ⟨r,hr,rfl,hb⟩ ((vn gp).2 (.inl rfl))).elim
  refine(YC hR (a:=r.idx+1) (b:=m) him hm λj hj YD=>?_).symm;rintro⟨q,hq,rfl,BH⟩;rcases (vn gp).1 (h1 q.idx YD ⟨q,hq,rfl,BH⟩) with h|h
  ·omega
  ·exact CO (xi hR hI.down hq h (YB hR hr hq (by omega) (.inr ⟨BH,hR.lm r hr t (.inl hb)⟩)))
def Inv.Gq(hI:Inv all rs cs Ev l s){r:Rec}(fu:all[r.idx]?=some r.o)(fU:∀e∈r.o.after,Region.binds .any e=true->nH l e.on):UA all (l.setIfInBounds r.idx true):=by
 have bD:r.idx<all.size:=(sQ.1 fu).1;have gp:r.idx<l.size:=by rw[hI.size];exact bD
 intro j o ho hl e he hb;refine(vn gp).2 (.inr ?_);rcases (vn gp).1 hl with rfl|h
 ·rw[fu] at ho;cases ho;exact fU e he hb
 ·exact hI.down j o ho h e he hb
def Inv.step(hR:RI cx all takes s0 Ev all.size rs cs s')(hI:Inv all rs cs Ev l s){r:Rec}(hr:r∈rs)(CO:¬nH l r.idx)(fU:∀e∈r.o.after,Region.binds .any e=true->nH l e.on) :
  (q8 all r.o s.env=some false/\Inv all rs cs Ev (l.setIfInBounds r.idx true) { s with env:=qb s.env r.o.dst (.bz []) }) \/
  (q8 all r.o s.env=some true/\∃res s2,cx.op takes r.o s.env s.H s.lk s.defers=some (res,s2)/\(res=.val r.v\/res=.skip/\r.v=.bz [])/\Inv all rs cs Ev (l.setIfInBounds r.idx true) { s2 with env:=qb s2.env r.o.dst r.v }):=by
 have bD:=hR.lt r hr;have gp:r.idx<l.size:=by rw[hI.size];exact bD
 have sV:=λt ht=>Inv.QJ hR hI hr CO fU (t:=t) ht;have oG:∀t∈r.o.looksAt all,s.env[t]?=r.env[t]?:=λt ht=>sV t (hR.lm r hr t (.inr ht));have hw:=zhI oG;have Gr:∀t,bit r.tm t=false->r.o.dst≠some t:=λt h e=>by rw[hR.tm r hr t (.inl e)] at h;cases h
 have iu:∀t,bit r.tm t=false->kV takes r.o≠some (.tmp t):=λt h e=>by rw[hR.tm r hr t (.inr e)] at h;cases h
 have DN:=hI.Gq (hR.get r hr) fU;obtain⟨c,hc,uC,Fu,iL,nQ⟩:=hI.mem;have same:r.hp=false->∀b,(∃q∈rs,q.hp=true/\q.idx=b/\nH l b) ↔ ∃q∈rs,q.hp=true/\q.idx=b/\nH (l.setIfInBounds r.idx true) b:=by
  intro hh b;constructor
  ·rintro⟨q,h1,h2,h3,h4⟩;exact⟨q,h1,h2,h3,(vn gp).2 (.inr h4)⟩
  ·rintro⟨q,h1,h2,h3,h4⟩;rcases (vn gp).1 h4 with h5|h5
   ·have:=hR.uniq q h1 r hr (h3.trans h5);subst this;rw[hh] at h2;cases h2
   ·exact⟨q,h1,h2,h3,h5⟩
 by_cases Mo:q8 all r.o r.env=some true
 ·right
  have Mp:∀{H lk df res s1},cx.op takes r.o r.env H lk df=some (res,s1)->s1.env=oA r.env (kV takes r.o)/\cx.op takes r.o s.env H lk df=some (res,{ s1 with env:=oA s.env (kV takes r.o) }):=λh=>Uv (λt ht=>(oG t (zkC ht)).symm) h
  have mW:∀t m,m<=all.size->(∀j,j<m->Kx rs t j->nH (l.setIfInBounds r.idx true) j)->(∀j,m<=j->Kx rs t j->¬nH (l.setIfInBounds r.idx true) j)->(qb (oA s.env (kV takes r.o)) r.o.dst r.v)[t]?=(Ev m)[t]?:=by
   refine Inv.DM hR hI hr CO fU (λt ht=>by rw[UB (Gr t ht),znW (iu t ht)]) (λt ht=>?_)
   rw[Ia,if_pos Mo];exact zfl (zmE (sV t (hR.lm r hr t (.inl ht))) λu hu=>sV u (hR.lm r hr u (.inl (hR.tm r hr u (.inr hu)))))
  refine⟨hw.trans Mo,?_⟩;cases uD:r.hp with
  | true =>
   have hb:bit c.D r.idx=false:=by
    cases h:bit c.D r.idx with
    | false=>rfl
    | true=>obtain⟨q,_,_,_,h4⟩:=(uC r.idx).1 h;exact(CO h4).elim
   have ha:xN rs r c.D:=λd hd UC EH=>(uC d.idx).2 ⟨d,hd,UC,rfl,yA hR hI.down r.idx r hr (ek _) fU d.idx EH⟩;obtain⟨c3,Cp,hD3,cX⟩:=hR.g1 c hc r hr uD hb ha;have Ky:∀b,bit c3.D b=true ↔ ∃q∈rs,q.hp=true/\q.idx=b/\nH (l.setIfInBounds r.idx true) b:=by
    intro b;rw[hD3,ki,kC,mT,decide_eq_true_eq,uC];constructor
    ·rintro(⟨q,h1,h2,h3,h4⟩|rfl)
     ·exact⟨q,h1,h2,h3,(vn gp).2 (.inr h4)⟩
     ·exact⟨r,hr,uD,rfl,(vn gp).2 (.inl rfl)⟩
    ·rintro⟨q,h1,h2,h3,h4⟩;rcases (vn gp).1 h4 with h5|h5
     ·exact .inr h5.symm
     ·exact .inl ⟨q,h1,h2,h3,h5⟩
   unfold Cx.dO at cX;split at cX<;>simp only[aR,reduceCtorEq,bS] at cX
   ·rename_i v s1 aF;obtain⟨rfl,e2⟩:=cX;rw[<- Fu,<- iL,<- nQ] at aF;refine⟨_,_,(Mp aF).2,.inl rfl,⟨DN,by simpa using hI.size,mW,c3,Cp,Ky,?_⟩⟩
    rw[<- e2];exact⟨rfl,rfl,rfl⟩
   ·rename_i s1 aF;obtain⟨e1,e2⟩:=cX;rw[<- Fu,<- iL,<- nQ] at aF;refine⟨_,_,(Mp aF).2,.inr ⟨rfl,e1.symm⟩,⟨DN,by simpa using hI.size,mW,c3,Cp,Ky,?_⟩⟩
    rw[<- e2];exact⟨rfl,rfl,rfl⟩
  | false =>
   obtain⟨hh,hex⟩:=hR.calm r hr Mo;have u7:jT cx.P cx.uq takes r.o=false:=by rw[<- hh];exact uD
   obtain⟨H0,lk0,df0,s1,YE⟩:=hex u7;have uB:∃s2,cx.op takes r.o r.env s.H s.lk s.defers=some (.val r.v,s2):=by
    cases CQ:r.free with
    | true=>exact zlt u7 (hR.free r hr Mo CQ) YE s.lk s.defers
    | false =>
     have ha:xN rs r c.D:=λd hd UC EH=>(uC d.idx).2 ⟨d,hd,UC,rfl,yA hR hI.down r.idx r hr (ek _) fU d.idx EH⟩
     obtain⟨c2,cX⟩:=hR.g2 c hc r hr uD CQ ha (λd hd UC EH=>by
      cases h:bit d.m r.idx with
      | false=>rfl
      | true =>
       obtain⟨q,_,_,_,h4⟩:=(uC d.idx).1 EH
       exact(CO (xi hR hI.down hd h4 h)).elim)
     unfold Cx.dO at cX;rw[<- Fu,<- iL,<- nQ] at cX;split at cX<;>simp only[aR,reduceCtorEq,bS] at cX
     next v s2 aF=>obtain⟨rfl,_⟩:=cX;exact⟨s2,aF⟩
     next s2 aF=>obtain⟨v',e1,_⟩:=vT u7 aF;cases e1
   obtain⟨s2,aF⟩:=uB;obtain⟨v',e1,e2,_⟩:=vT u7 aF;refine⟨_,_,(Mp aF).2,.inl rfl,⟨DN,by simpa using hI.size,mW,c,hc,λb=>(uC b).trans (same uD b),?_⟩⟩
   rw[e2];exact⟨Fu,iL,nQ⟩
 ·left
  obtain⟨h1,h2,h3⟩:=hR.off r hr Mo;refine⟨hw.trans h1,⟨DN,by simpa using hI.size,?_,c,hc,λb=>(uC b).trans (same h2 b),Fu,iL,nQ⟩⟩
  refine Inv.DM hR hI hr CO fU (λt ht=>by rw[UB (Gr t ht)]) (λt ht=>?_)
  rw[Ia,if_neg Mo,h3];exact zfl (sV t (hR.lm r hr t (.inl ht)))
def Inv.final(hR:RI cx all takes s0 Ev all.size rs cs s')(hI:Inv all rs cs Ev l s)(eD:∀j,j<all.size->nH l j):s=s':=by
 have mW:s.env=s'.env:=by
  apply Dt;intro t;rw[<- hR.Ux];refine hI.env t all.size (ek _) (λj hj _=>eD j hj) ?_;rintro j hj ⟨q,hq,rfl,_⟩;have:=hR.lt q hq;omega
 obtain⟨c,hc,uC,Fu,iL,nQ⟩:=hI.mem;obtain⟨c1,Az,rfl,h1,h2,h3,h4⟩:=hR.top;have:c=c1:=by
  refine hR.uZ c hc c1 (eS ..) (wW λb=>?_);rw[h1];refine HT.2 ((uC b).trans (Iff.trans ?_ eO.symm));constructor
  ·rintro⟨q,a1,a2,a3,_⟩;exact⟨q,a1,a2,a3⟩
  ·rintro⟨q,a1,a2,rfl⟩;exact⟨q,a1,a2,rfl,eD _ (hR.lt q a1)⟩
 subst this;obtain⟨e,H,lk,df⟩:=s;obtain⟨e',H',oh,Cs⟩:=s';simp only at *;simp only[mW,Fu,iL,nQ,h2,h3,h4]
def Inv.start(hR:RI cx all takes s0 Ev all.size rs cs s'):Inv all rs cs Ev (Array.replicate all.size false) s0:=by
 have mu:∀j,¬nH (Array.replicate all.size false) j:=λj h=>by
  unfold nH at h;simp[Array.getElem?_replicate] at h;split at h<;>simp_all
 refine⟨λj o _ hl=>(mu j hl).elim,by simp,λt m hm h1 _=>?_,?_⟩
 ·rw[<- hR.Uw];refine(YC hR (ga m) hm λj _ hj hT=>mu j (h1 j hj hT)).symm
 ·obtain⟨c,hc,h0,h1,h2,h3⟩:=hR.c0;refine⟨c,hc,λb=>?_,h1.symm,h2.symm,h3.symm⟩;rw[h0,vR];constructor
  ·intro h;cases h
  ·rintro⟨_,_,_,_,h⟩;exact(mu b h).elim
end
end
section
variable{P:aM}{cx:Cx}{all:Array Oper}{takes:bP}{B:eu}{g:Gh}{s:St}{a:Act}{w:aK}
def left(l:Array Bool):Nat->Nat
 | 0=>0
 | k+1=>left l k+if l.getD k false=true then 0 else 1
def zee{l:Array Bool}{i:Nat}:∀k,left (l.setIfInBounds i true) k<=left l k
 | 0=>ek _
 | k+1=>by
  have ih:=zee (l:=l) (i:=i) k;simp only[left]
  by_cases h:l.getD k false=true
  ·rw[if_pos (getD_set_true h),if_pos h];exact ih
  ·rw[if_neg h];split<;>omega
def zef{l:Array Bool}{i:Nat}(hi:i<l.size)(hl:¬nH l i):∀{k},i<k->left (l.setIfInBounds i true) k+1<=left l k
 | 0,h=>by omega
 | k+1,h=>by
  simp only[left]
  by_cases e:i=k
  ·subst e;have h1:=zee (l:=l) (i:=i) i;have h2:(l.setIfInBounds i true).getD i false=true:=(vn hi).2 (.inl rfl);rw[if_pos h2,if_neg hl];omega
  ·have h1:=zef hi hl (k:=k) (by omega)
   rw[getD_set_ne false e];omega
def zgF{l:Array Bool}:∀{k},left l k=0->∀j,j<k->nH l j
 | 0,_,j,hj=>by omega
 | k+1,h,j,hj=>by
  simp only[left] at h
  by_cases e:j=k
  ·subst e
   by_cases hl:l.getD j false=true
   ·exact hl
   ·rw[if_neg hl] at h;omega
  ·exact zgF (k:=k) (by omega) j (by omega)
def Rel.u_(h:Rel B g s a w):Rel B g s a { w with drawn:=w.drawn+1 }:=by
 refine h.iB (b0:=none) (l0:=none) (g':=g) (s':=s) (w':={ w with drawn:=w.drawn+1 }) ⟨.refl _ _,λ_ _ _ _=>rfl,λ_ _ _=>rfl,λ_ _ _ _=>rfl,ek _,λ_ _ _=>rfl,λ_ h=>(by cases h),λ_ h=>(by cases h),λ_ _ _ _=>rfl,rfl,rfl,rfl⟩ (ek _) (λ_ _ _=>rfl) ?_ ?_ ?_ ?_ ?_ ?_ rfl rfl ?_ h.aW h.gR h.nw ?_
 ·intro b x hb hx;rcases hb with hb|hb
  ·cases hb
  ·have:=(eE.1 hx).1;omega
 ·intro b h1 h2;omega
 ·intro b b' h1 h2;omega
 ·exact h.cN.mem
 ·exact h.cN.eK
 ·intro _ _ h;cases h
 ·intro t x hx;exact⟨x,hx,.inl ⟨rfl,by simp⟩⟩
 ·intro t h;cases h
def zlu{s0 s':St}{Ev:Nat->aA}{rs:List Rec}{cs:List eT}(hR:RI cx all takes s0 Ev all.size rs cs s')(mh:pM P cx B) :
  ∀(fuel:Nat)(l:Array Bool)(s:St)(g:Gh)(a:Act)(w:aK),left l all.size<=fuel->Inv all rs cs Ev l s->Rel B g s a w->wpAny P .any all (xg B .normal s') fuel l a w:=by
 have fin:∀(l:Array Bool)(s:St)(g:Gh)(a:Act)(w:aK),Inv all rs cs Ev l s->Rel B g s a w->(∀j,j<all.size->nH l j)->xg B .normal s' .normal a w:=by
  intro l s g a w hI h eD;have:=hI.final hR eD;subst this;exact⟨g,h,trivial⟩
 have nil:∀(l:Array Bool)(s:St),Inv all rs cs Ev l s->Region.ready .any all l=[]->∀j,j<all.size->nH l j:=by
  intro l s hI hr j
  induction j using Nat.strongRecOn with
  | ind j ih =>
   intro hj;cases hl:l.getD j false with
   | true=>exact hl
   | false =>
    obtain⟨r,AA,mZ⟩:=hR.ex j hj;have fu:=hR.get r AA
    have:j∈Region.ready .any all l:=mem_ready.2 ⟨by
     have:j<l.size:=by rw[hI.size];exact hj
     simp[this] at hl ⊢
     exact hl,r.o,by rw[<- mZ];exact fu,λe he hb=>ih e.on (by rw[<- mZ];exact hR.bI r AA e he hb) (by
      have h1:=hR.bI r AA e he hb
      omega)⟩
    rw[hr] at this;cases this
 intro fuel
 induction fuel with
 | zero =>
  intro l s g a w hle hI h;have eD:=zgF (l:=l) (k:=all.size) (by omega)
  refine⟨?_,fin l s g a w hI h eD⟩;cases hr:Region.ready .any all l with
  | nil=>rfl
  | cons x xs =>
   have hx:x∈Region.ready .any all l:=by rw[hr];exact eS ..
   obtain⟨h1,o,ho,_⟩:=mem_ready.1 hx;have bD:x<all.size:=(sQ.1 ho).1;have h2:=eD x bD;have:x<l.size:=by rw[hI.size];exact bD
   unfold nH at h2;simp[this] at h1 h2;rw[h1] at h2;cases h2
 | succ fuel ih =>
  intro l s g a w hle hI h;refine⟨λhr=>fin l s g a w hI h (nil l s hI hr),λi hi=>?_⟩;obtain⟨h1,o,ho,fU⟩:=mem_ready.1 hi;have bD:i<all.size:=(sQ.1 ho).1;have gp:i<l.size:=by rw[hI.size];exact bD
  have CO:¬nH l i:=by
   unfold nH;simp[gp] at h1 ⊢;exact h1
  obtain⟨r,AA,rfl⟩:=hR.ex i bD;have fu:=hR.get r AA;rw[fu] at ho;cases ho;have lD:=zef gp CO bD;unfold wpOp;simp only[fu];rcases Inv.step hR hI AA CO fU with⟨hw,Mq⟩|⟨hw,res,s2,aF,pJ,Mq⟩
  ·rw[if_neg (by rw[y5 h hw];simp)]
   exact ih _ _ g _ w (by omega) Mq (xc (Oo h r.o))
  ·rw[if_pos (y5 h hw)]
   left
   refine Mc mh h aF ⟨λv' hv g' cv a' w' hk=>?_,λhv g' a' w' hk=>?_,λv' hv=>?_⟩
   ·rcases pJ with rfl|⟨rfl,_⟩
    ·cases hv;exact ih _ _ g' _ w' (by omega) Mq (xc hk)
    ·cases hv
   ·rcases pJ with rfl|⟨_,he⟩
    ·cases hv
    ·rw[he] at Mq;exact ih _ _ g' _ w' (by omega) Mq (xc (Oo hk r.o))
   ·rcases pJ with rfl|⟨rfl,_⟩<;>cases hv
def zp4(iQ:P.follows .mixedOrders=true):Oq P cx B:=by
 intro mh id ops s s' ex g a w hc h;obtain⟨env,H,lk,df⟩:=s;unfold Cx.draw at hc;obtain⟨rfl,Ev,rs,cs,hR⟩:=QH ops.toList 0 [] _ _ _ hc (RI.start (⟨env,H,[],df⟩:St)) (by simp)
 refine wp_region_any iQ ?_
 exact zlu hR mh ops.size _ _ g a _ (by
  have:∀k,left (Array.replicate ops.size false) k<=k:=by
   intro k
   induction k with
   | zero=>exact ek _
   | succ k ih=>simp only[left];split<;>omega
  exact this _) (Inv.start hR) h.bu.u_
end
section
variable{P:aM}{B:eu}{g:Gh}{s:St}{a:Act}{w:aK}
def zmF{l n:Nat}{row:String}{args:dI}{R:aS->aK->Prop}(h:Rows P row args w R):RowsIn (Fence.wide.inRound l) n P row args w R:=λc cs _=>by
 obtain⟨v,w',r,st⟩:=h c cs;exact⟨v,w',r,stepsIn_wide.2 st⟩
def zlv{l n:Nat}{o:Oper}{next:Act->aK->Prop}{Q:Exit->Act->aK->Prop}(hd:Ko o=true)(h:o.wp P a w next Q):o.wpIn (Fence.wide.inRound l) n P a w next Q:=by
 refine⟨λf _=>trivial,?_⟩;have hs:o.semAt (Fence.wide.inRound l).round a.eval=execOp a.eval o:=Oper.semAt_some l a.eval o λc hc=>by
  unfold Ko at hd;rw[hc] at hd;cases hd
 rw[hs];unfold Oper.wp at h;have QK:∀{p:Prop},(Fence.wide.inRound l).depth.isSome=true->p:=λ{p} e=>by
  have:(Fence.wide.inRound l).depth=none:=rfl;rw[this] at e;cases e
 cases hr:(execOp a.eval o).run P w with
 | ok x w' =>
  rw[hr] at h;cases x with
  | enter f args=>exact⟨λe=>QK e,(callsIn_wide.2 h).inRound l⟩
  | row r args=>exact⟨λe=>QK e,zmF h⟩
  | round=>exact h.elim
  | _=>exact h
 | halt x w' =>
  rw[hr] at h;cases x<;>exact h
def zi1{ex:Ex}{s':St}:¬LetsOut (xg B ex s'):=by
 rintro⟨a,w,g,_,h⟩;cases ex<;>exact h.elim
def YF{l n:Nat}{ops:Array Oper}{Q:Exit->Act->aK->Prop}(hQ:¬LetsOut Q):∀(os:List Oper)(a:Act)(w:aK),os.all Ko=true->wpList P ops Q os a w->wpListIn (Fence.wide.inRound l) n P ops Q os a w
 | [],a,w,_,h=>h
 | o::os,a,w,hd,h=>by
  simp only[List.all_cons,cR] at hd;unfold wpList at h;unfold wpListIn;split
  next hw=>rw[if_pos hw] at h;have h':=h.resolve_right λe=>hQ e.2;refine zlv hd.1 ?_;exact Oper.wp_mono (λa' w' k=>YF hQ os a' w' hd.2 k) h'
  next hw=>rw[if_neg hw] at h;exact⟨λf _=>trivial,YF hQ os _ w hd.2 h⟩
def zp5{l n:Nat}{ops:Array Oper}{Q:Exit->Act->aK->Prop}(hQ:¬LetsOut Q)(hd:ops.toList.all Ko=true){i:Nat}{K:Act->aK->Prop}(h:wpOp P ops Q i K a w):wpOpIn (Fence.wide.inRound l) n P ops Q i K a w:=by
 unfold wpOp at h;unfold wpOpIn;split
 next hn=>rw[hn] at h;exact h
 ·rename_i o ho;rw[ho] at h;simp only at h
  have hod:Ko o=true:=Fc.1 hd o (by
   rw[<- LH] at ho
   exact nF ho)
  split
  next hw=>rw[if_pos hw] at h;exact zlv hod (h.resolve_right λe=>hQ e.2)
  next hw=>rw[if_neg hw] at h;exact⟨λf _=>trivial,h⟩
def zi2{l n:Nat}{md:Region.Mode}{ops:Array Oper}{Q:Exit->Act->aK->Prop}(hQ:¬LetsOut Q)(hd:ops.toList.all Ko=true):∀(fuel:Nat)(listed:Array Bool)(a:Act)(w:aK),wpAny P md ops Q fuel listed a w->wpAnyIn (Fence.wide.inRound l) n P md ops Q fuel listed a w
 | 0,_listed,_a,_w,h=>h
 | fuel+1,_listed,_a,_w,h=>⟨h.1,λi hi=>zp5 hQ hd (wpOp_mono (λa' w' k=>zi2 hQ hd fuel _ a' w' k) (h.2 i hi))⟩
def znZ(iQ:P.follows .mixedOrders=true){cx:Cx}(mh:pM P cx B){l n id:Nat}{ops:Array Oper}{s s':St}{ex:Ex}(hd:ops.toList.all Ko=true)(hc:cx.draw ops s=some (ex,s'))(h:Rel B g s a w):(Code.region id ops true).wpIn (Fence.wide.inRound l) n P (xg B ex s') a w:=by
 obtain⟨env,H,lk,df⟩:=s;unfold Cx.draw at hc;obtain⟨rfl,Ev,rs,cs,hR⟩:=QH ops.toList 0 [] _ _ _ hc (RI.start (⟨env,H,[],df⟩:St)) (by simp)
 refine wpIn_region_any iQ ?_;refine zi2 zi1 hd _ _ _ _ ?_
 exact zlu hR mh ops.size _ _ g a _ (by
  have:∀k,left (Array.replicate ops.size false) k<=k:=by
   intro k
   induction k with
   | zero=>exact ek _
   | succ k ih=>simp only[left];split<;>omega
  exact this _) (Inv.start hR) h.bu.u_
def UD(iQ:P.follows .mixedOrders=true){cx:Cx}(mh:pM P cx B){l n0:Nat}(n:Nat):∀(c:Code)(s s':St)(ex:Ex)(g:Gh)(a:Act)(w:aK),calm c=true->cx.code n c s=some (ex,s')->Rel B g s a w->c.wpIn (Fence.wide.inRound l) n0 P (xg B ex s') a w:=by
 intro c
 induction c with
 | skip =>
  intro s s' ex g a w hd hc h;simp only[Cx.code,aR,bS] at hc;obtain⟨rfl,rfl⟩:=hc;exact Go.wpIn_skip ⟨g,h,trivial⟩
 | label l =>
  intro s s' ex g a w hd hc h;simp only[Cx.code,aR,bS] at hc;obtain⟨rfl,rfl⟩:=hc;exact wpIn_label ⟨g,h,trivial⟩
 | region id ops draw =>
  intro s s' ex g a w hd hc h;simp only[calm] at hd;cases draw with
  | false =>
   obtain⟨env,H,lk,df⟩:=s;simp only[Cx.code] at hc;exact wpIn_region_list (YF zi1 _ _ _ hd (Yi mh (λ_ _ _ q=>q) _ _ g a w h.bu hc))
  | true =>
   simp only[Cx.code] at hc;exact znZ iQ mh hd hc h
 | seq x y DH Gj =>
  intro s s' ex g a w hd hc h;simp only[calm,cR] at hd;simp only[Cx.code] at hc;split at hc<;>try (cases hc;done)
  next s1 hx=>refine wpIn_seq (Go.wpIn_mono (DH s s1 .normal g a w hd.1 hx h) (vy (λ_ g' a' w' h'=>Gj s1 s' ex g' a' w' hd.2 hc h') (λe=>absurd rfl e)))
  next e1 s1 cG hx=>simp only[aR,bS] at hc;obtain⟨rfl,rfl⟩:=hc;refine wpIn_seq (Go.wpIn_mono (DH s _ _ g a w hd.1 hx h) (vy (λe=>absurd e ?_) (λ_ _ _ _ q=>q)));exact λe=>by simp_all
 | cond c x y DH Gj =>
  intro s s' ex g a w hd hc h;simp only[calm,cR] at hd;simp only[Cx.code] at hc;split at hc<;>try (cases hc;done)
  next hp=>have c1:=(qZ h hp).1;generalize s_:a.eval c=cc at c1;cases c1;exact wpIn_cond_true s_ (DH s s' ex g a w hd.1 hc h)
  next hp=>have c1:=(qZ h hp).1;generalize s_:a.eval c=cc at c1;cases c1;exact wpIn_cond_false s_ (Gj s s' ex g a w hd.2 hc h)
 | block id c ih =>
  intro s s' ex g a w hd hc h;simp only[calm] at hd;simp only[Cx.code] at hc;split at hc<;>try (cases hc;done)
  ·rename_i i s1 hx;simp only[aR,bS] at hc;obtain⟨rfl,rfl⟩:=hc;refine wpIn_block (Go.wpIn_mono (ih s s1 (.exit i) g a w hd hx h) ?_);rintro e a' w' ⟨g',h1,h2⟩;cases e<;>first|(exact h2.elim)|skip
   rename_i j;have:i=j:=h2;subst this;simp only[Exit.inBlock];split
   next e=>subst e;exact⟨g',h1,by simp[Qw]⟩
   ·rename_i e;refine⟨g',h1,?_⟩;have:Nat.beq i id=false:=by
     cases hb:Nat.beq i id with
     | false=>rfl
     | true=>exact absurd (gy hb) e
    simp[this,Qw]
  ·rename_i e1 s1 cG hx;simp only[aR,bS] at hc;obtain⟨rfl,rfl⟩:=hc;refine wpIn_block (Go.wpIn_mono (ih s _ _ g a w hd hx h) ?_);rintro e a' w' ⟨g',h1,h2⟩;cases e with
   | exit j=>cases e1<;>first|(exact h2.elim)|(exact(cG _ rfl).elim)
   | _=>exact⟨g',h1,h2⟩
 | loop c ih =>
  intro s s' ex g a w hd hc h;simp only[calm] at hd;simp only[Cx.code] at hc;refine wpIn_loop_rounds n ?_;have key:∀(m:Nat)(s:St)(g:Gh)(a:Act)(w:aK),xK (cx.code n c) m s=some (ex,s')->Rel B g s a w->Code.roundsIn (Fence.wide.inRound l) n0 P c (xg B ex s') m a w:=by
   intro m
   induction m with
   | zero=>intro s g a w hi;simp[xK] at hi
   | succ m Yj =>
    intro s g a w hi h;simp only[xK] at hi;rw[roundsIn_succ];split at hi<;>try (cases hi;done)
    next s1 hx=>exact Go.wpIn_mono (ih s s1 .normal g a w hd hx h) (vy (λ_ g' a' w' h'=>Yj s1 g' a' w' hi h') (λe=>absurd rfl e))
    next e1 s1 cG hx=>simp only[aR,bS] at hi;obtain⟨rfl,rfl⟩:=hi;exact Go.wpIn_mono (ih s _ _ g a w hd hx h) (vy (λe=>absurd e (λe=>by simp_all)) (λ_ _ _ _ q=>q))
  exact key n s g a w hc h
 | exit id =>
  intro s s' ex g a w hd hc h;simp only[Cx.code,aR,bS] at hc;obtain⟨rfl,rfl⟩:=hc;exact wpIn_exit ⟨g,h,rfl⟩
 | ret =>
  intro s s' ex g a w hd hc h;simp only[Cx.code,aR,bS] at hc;obtain⟨rfl,rfl⟩:=hc;exact wpIn_ret ⟨g,h,trivial⟩
 | scope c ih=>intro s s' ex g a w hd;simp[calm] at hd
 | rangeFunc f ps as bd=>intro s s' ex g a w hd;simp[calm] at hd
 | _=>intro s s' ex g a w hd hc;simp[Cx.code] at hc
end
section
open Go.RowKit
variable{P:aM}
def zp6(B:Nat)(Kp:aK->aK->Prop)(I:Nat->aK->Prop)(Ix:Code->aK->Prop)(k:Nat)(W:aK):Exit->Act->aK->Prop
 | .normal,_,W'=>KeepsFrom B W W'/\Kp W W'/\I (k+1) W'
 | .ret,_,W'=>KeepsFrom B W W'/\Ix .ret W'
 | .exit id,_,W'=>KeepsFrom B W W'/\Ix (.exit id) W'
 | _,_,_=>False
def zmG{g:aO}{ps:Array Tmp}{assign body:Code}{Q:Exit->Act->aK->Prop}{a:Act}{w w0:aK}{gf:Nat}{lb:dI}(hg:a.eval g=.func (.func gf) #[] lb)(eg:∀args w,(callFunc gf args).run P w=.ok (.enter gf args) w)
  {fy:Nat->dI} {len:Nat} {Kp:aK->aK->Prop} (hit:Yx P gf lb fy len Kp w0) (m8:Below w0.heap.size w0 w) (Uc:∀k,(fy k).size=ps.size)
  (YG:∀{A B C:aK},Kp A B->Kp B C->Kp A C) (hKb:∀(W:aK)(l:Nat)(o o':Obj),w.heap.size<=l->W.heap[l]?=some o->o.isCells=false->o.isWalk=false->Kp W (W.putObj l o'))
  (I:Nat->aK->Prop) (Ix:Code->aK->Prop) (M:Nat->Act->aK->Prop) (hI:OwnFrom w.heap.size I) (YH:OwnFrom w.heap.size Ix) (hM:∀k a',OwnFrom w.heap.size (λ(_:Unit) W=>M k a' W)) (h0:I 0 w)
  (Ja:∀(l k:Nat)(W:aK)(K:Act->aK->Prop),k<len->I k W->(∀a' W',KeepsFrom w.heap.size W W'->Kp W W'->M k a' W'->K a' W') ->
   assign.wpIn (Fence.wide.inRound l) 1 P (Exit.then K (λ_ _ _=>False)) { tmps:=(ps.zip (fy k)).foldl (λt (p,v)=>t.setIfInBounds p v) a.tmps,defers:=[] } W)
  (iP:∀(l k:Nat)(a':Act)(W:aK),k<len->M k a' W->body.wpIn (Fence.wide.inRound l) 1 P (zp6 w.heap.size Kp I Ix k W) a' W)
  (QL:∀(D:Nat)(W:aK),w.heap.size<=D->I len W->W.heap[D]?=some (.deferred (some []))->Q .normal { a with defers:={ target:=.collected D,args:=#[] }::a.defers } W)
  (QM:∀(D:Nat)(c:Code)(W:aK),w.heap.size<=D->Ix c W->W.heap[D]?=some (.deferred (some []))->c.wpIn Fence.wide 3 P Q { a with defers:={ target:=.collected D,args:=#[] }::a.defers } W) :
  (Code.rangeFunc g ps assign body).wpIn Fence.wide 3 P Q a w:=by
 refine wpIn_rangeFunc ?_;intro fn p9
 let lA:LoopState->Option Code->Loop:=λst pe=>{ state:=st,pending:=pe,fn,tmps:=a.tmps,params:=ps,assign,body,defers:=w.heap.size }
 have mF:∀st pe,lA st pe={ state:=st,pending:=pe,fn,tmps:=a.tmps,params:=ps,assign,body,defers:=w.heap.size }:=λ_ _=>rfl;generalize lA=rec at mF;obtain⟨W1,QN⟩:∃W1,(w.alloc (.deferred (some []))).alloc (.loop (rec .ready none))=W1:=⟨_,rfl⟩;have Jb:W1.heap[w.heap.size+1]?=some (.loop (rec .ready none)):=by
  rw[<- QN];have:=World.alloc_heap_new (w.alloc (.deferred (some []))) (.loop (rec .ready none))
  rwa [World.size_alloc] at this
 have hD1:W1.heap[w.heap.size]?=some (.deferred (some [])):=by
  rw[<- QN];exact(Below.heap_alloc _ _ _ (by simp)).trans (World.alloc_heap_new w _)
 have hI1:I 0 W1:=by rw[<- QN];exact hI.alloc _ (hI.alloc _ h0)
 have QO:Below w0.heap.size w0 W1:=by
  rw[<- QN];exact m8.trans ((((Below.refl _ w).alloc (ek _) _).alloc (by simp) _).mono m8.size)
 refine⟨w.heap.size+1,[{ target:=.collected w.heap.size,args:=#[] }],W1,{ target:=.fn (.func gf) lb,args:=#[.func (.yield (w.heap.size+1)) #[] #[]] },W1,gf,
  #[.func (.yield (w.heap.size+1)) #[] #[]]++lb,W1,?_,?_,λ_ _=>trivial,?_,(λe=>nomatch e),?_⟩
 ·rw[<- QN,mF];exact run_enterLoop_outer _ _ _ _ _
 ·simp only[resolve,hg];simp[go_sem]
 ·simp[invoke,go_sem,eg]
 ·refine(hit (w.heap.size+1) (λk W=>I k W/\W.heap[w.heap.size+1]?=some (.loop (rec .ready none))/\W.heap[w.heap.size]?=some (.deferred (some [])))
   (λW=>∃c,Ix c W/\W.heap[w.heap.size+1]?=some (.loop (rec .done (some c)))/\W.heap[w.heap.size]?=some (.deferred (some []))) W1 QO ?_ ⟨hI1,Jb,hD1⟩).mono ?_
  ·rintro k W hk ⟨hi,hl,hd⟩;have hy:=run_yield (P:=P) (args:=fy k) hl (by rw[mF];exact Uc k)
   rw[mF] at hy;refine⟨fn,_,assign,body,hy,roundIn_of_wpIn (F:=Fence.wide) trivial (Ja _ k W _ hk hi ?_)⟩;clear hy;intro a' Wa hkf hkp hm
   replace hl:=hkf.same _ _ (by omega) hl rfl
   replace hd:=hkf.same _ _ (ek _) hd rfl
   have bD:w.heap.size+1<Wa.heap.size:=(sQ.1 hl).1;refine⟨_,run_beginRound hl (by rw[mF]),?_⟩
   generalize UE:Wa.putObj (w.heap.size+1) (.loop { rec .ready none with state:=.busy })=Wb;have Bz:Wb.heap[w.heap.size+1]?=some (.loop { rec .ready none with state:=.busy }):=by rw[<- UE];exact World.putObj_heap_same bD
   have Gi:Wb.heap[w.heap.size]?=some (.deferred (some [])):=by rw[<- UE];exact(World.putObj_heap_other (by omega)).trans hd
   have YI:Kp Wa Wb:=by rw[<- UE];exact hKb _ _ _ _ (by omega) hl rfl rfl
   have DL:M k a' Wb:=by rw[<- UE];exact(hM k a').putObj (s:=()) _ hm (by omega) hl rfl
   refine Go.wpIn_mono (iP (w.heap.size+1) k a' Wb hk DL) ?_;have fin:∀(jump:Option Code)(W3:aK),KeepsFrom w.heap.size Wb W3 ->
     (Instr.endRound (w.heap.size+1) jump).run P W3=.ok (.bool jump.isNone) (W3.putObj (w.heap.size+1) (.loop (rec (if jump.isNone then .ready else .done) jump))) /\
     W3.heap[w.heap.size+1]?=some (.loop { rec .ready none with state:=.busy }) /\
     (W3.putObj (w.heap.size+1) (.loop (rec (if jump.isNone then .ready else .done) jump))).heap[w.heap.size+1]?=some (.loop (rec (if jump.isNone then .ready else .done) jump)) /\
     (W3.putObj (w.heap.size+1) (.loop (rec (if jump.isNone then .ready else .done) jump))).heap[w.heap.size]?=some (.deferred (some [])):=λjump W3 ue=>by
    have uF:=ue.same _ _ (by omega) Bz rfl
    have:=run_endRound (P:=P) jump uF;rw[mF] at this;rw[mF];exact⟨this,uF,World.putObj_heap_same (sQ.1 uF).1,(World.putObj_heap_other (by omega)).trans (ue.same _ _ (ek _) Gi rfl)⟩
   rintro e a3 W3 hp;cases e with
   | normal =>
    obtain⟨ue,YJ,QS⟩:=hp;obtain⟨hr,uF,Jc,QT⟩:=fin none W3 ue;exact⟨_,_,hr,.inl ⟨rfl,⟨hI.putObj _ QS (by omega) uF rfl,Jc,QT⟩,YG hkp (YG (YG YI YJ) (hKb _ _ _ _ (by omega) uF rfl rfl))⟩⟩
   | ret =>
    obtain⟨ue,QS⟩:=hp;obtain⟨hr,uF,Jc,QT⟩:=fin (some .ret) W3 ue;exact⟨_,_,hr,.inr ⟨rfl,.ret,YH.putObj _ QS (by omega) uF rfl,Jc,QT⟩⟩
   | exit id =>
    obtain⟨ue,QS⟩:=hp;obtain⟨hr,uF,Jc,QT⟩:=fin (some (.exit id)) W3 ue;exact⟨_,_,hr,.inr ⟨rfl,.exit id,YH.putObj _ QS (by omega) uF rfl,Jc,QT⟩⟩
   | goto t=>exact hp.elim
   | panic ch=>exact hp.elim
   | outgrown=>exact hp.elim
  ·rintro e W2 ⟨⟨v,rfl⟩,(⟨hi,hl,hd⟩|⟨c,hi,hl,hd⟩)⟩
   ·have:=run_endLoop (P:=P) hl (by rw[mF];simp)
    rw[mF] at this;exact⟨none,_,this,QL _ _ (ek _) (hI.putObj _ hi (by omega) hl rfl) ((World.putObj_heap_other (by omega)).trans hd)⟩
   ·have:=run_endLoop (P:=P) hl (by rw[mF];simp)
    rw[mF] at this;exact⟨some c,_,this,QM _ c _ (ek _) (YH.putObj _ hi (by omega) hl rfl) ((World.putObj_heap_other (by omega)).trans hd)⟩
end
section
open Go.RowKit
variable{P:aM}{B:eu}{g:Gh}{w:aK}
structure pO(g:Gh)(n L:Nat)(env:aA)(tmps:dI):Prop where
 len:env.length=tmps.size
 L:env.length=L
 rel:∀(t:Nat)(x:V)(v:aS),env[t]?=some x->tmps[t]?=some v->aQ g x v
 top:∀(t:Nat)(x:V),env[t]?=some x->x.top<=n
 aT:∀(t:Nat)(x:V),env[t]?=some x->aT x=x
def pO.le{n n' L:Nat}{g g':Gh}{env:aA}{tmps:dI}(h:pO g n L env tmps)(hg:Gh.Le n g g')(hn:n<=n'):pO g' n' L env tmps :=
 ⟨h.len,h.L,λt x v hx hv=>(h.rel t x v hx hv).le hg (h.top t x hx),λt x hx=>cZ (h.top t x hx) hn,h.aT⟩
def pP(x:V):aT (aT x)=aT x:=by cases x<;>rfl
def Rel.Gs{s:St}{a:Act}(h:Rel B g s a w):pO g s.H.aj.length s.env.length (s.env.map aT) a.tmps:=by
 refine⟨by rw[eF];exact h.len,by rw[eF],λt x v hx hv=>?_,λt x hx=>?_,λt x hx=>?_⟩
 ·rw[mS] at hx;obtain⟨y,hy,rfl⟩:=l8.1 hx;exact(h.env t y v hy hv).1.aT
 ·rw[mS] at hx;obtain⟨y,hy,rfl⟩:=l8.1 hx;rw[dx];exact h.cW t y hy
 ·rw[mS] at hx;obtain⟨y,hy,rfl⟩:=l8.1 hx;exact pP y
def Rel.Mr{s:St}{a:Act}(h:Rel B g s a w):Rel B g ⟨s.env.map aT,s.H,[],s.defers⟩ a w:=by
 have he:=h.Gs;refine { cN:=h.cN,len:=he.len,env:=λt x v hx hv=>⟨he.rel t x v hx hv,?_⟩,cW:=he.top,n0:=h.n0,aW:=h.aW,dA:=h.dA,fr:=h.fr,gR:=h.gR,nw:=λ_ hp=>by simp at hp,cQ:=λp hp=>?_,dD:=h.dD,defers:=h.defers,marks:=h.marks,iJ:=h.iJ }
 ·rw[<- he.aT t x hx];exact wG _ _ _ _ _ _
 ·obtain⟨p1,p⟩:=h.cQ p hp;exact⟨by rw[eF];exact p1,p⟩
def Rel.enter{e_ de:aA}{H:Hp}{lk:bk}{df:bH}{a:Act}{tmps:dI}(h:Rel B g ⟨e_,H,lk,df⟩ a w)(he:pO g H.aj.length de.length de tmps)(Ks:∀p∈B.cQ,de.length<p.t) :
  Rel ⟨B.d,H.aj,g,w,B.cQ⟩ g ⟨de,⟨H.aj,[]⟩,[],[]⟩ { tmps:=tmps,defers:=[] } w:=by
 refine { cN:=h.cN,len:=he.len,env:=λt x v hx hv=>⟨he.rel t x v hx hv,?_⟩,cW:=he.top,n0:=ek _,aW:=λb x hx=>.inr (.inr ⟨x,hx,ek _⟩),dA:=λb h1 h2=>absurd h1 (Nat.not_le.2 h2),fr:=.refl _ _ _ _,gR:=λb off hl=>?_,nw:=λ_ hp=>by simp at hp,cQ:=λp hp=>?_,dD:=rfl,defers:=(λ_ _ _ hx=>by simp at hx),marks:=(λ_ hd=>by simp at hd),iJ:=.nil }
 ·rw[<- he.aT t x hx];exact wG _ _ _ _ _ _
 ·rcases hl with hl|⟨q,hq,Fv⟩
  ·exact hl
  ·exact h.gR b off (.inr ⟨q,hq,Fv⟩)
 ·obtain⟨p1,pr⟩:=h.cQ p hp;exact⟨Ks p hp,pr⟩
def Rel.leave{e_ e1:aA}{H H1:Hp}{lk eA:bk}{df eZ:bH}{a a1:Act}{g':Gh}{w':aK}(h:Rel B g ⟨e_,H,lk,df⟩ a w)(hc:∀(t:Nat)(x:V),e_[t]?=some x->aT x=x)
  (h1:Rel ⟨B.d,H.aj,g,w,B.cQ⟩ g' ⟨e1,H1,eA,eZ⟩ a1 w'):Rel B g' ⟨e_,⟨H1.aj,H1.aW++H.aW⟩,[],df⟩ a w':=by
 have hl:H.aj.length<=H1.aj.length:=h1.n0;have hle:=h1.fr.le
 refine { cN:=h1.cN,len:=h.len,env:=λt x v hx hv=>⟨(h.env t x v hx hv).1.le hle (h.cW t x hx),?_⟩,cW:=λt x hx=>cZ (h.cW t x hx) hl,n0:=cZ h.n0 hl,aW:=λb x hx=>?_,dA:=λb h2 h3=>?_,fr:=?_,gR:=λb off hb=>?_,nw:=λ_ hp=>by simp at hp,cQ:=λp hp=>?_,dD:=h.dD,defers:=λj x q hx hq=>(h.defers j x q hx hq).le hle hl,marks:=λd hd D hD=>?_,iJ:=h.iJ }
 ·rw[<- hc t x hx];exact wG _ _ _ _ _ _
 ·rcases h1.aW b x hx with k|⟨m,k1,k2⟩|⟨y,k1,k2⟩
  ·exact .inl k
  ·exact .inr (.inl ⟨m,Ck _ k1,k2⟩)
  ·rcases h.aW b y k1 with k3|⟨m,k3,k4⟩|⟨z,k3,k4⟩
   ·exact .inl (cZ k2 k3)
   ·exact .inr (.inl ⟨m,CA _ k3,cZ k2 k4⟩)
   ·exact .inr (.inr ⟨z,k3,cZ k2 k4⟩)
 ·rcases lP b H.aj.length with h4|h4
  ·rw[hle.bM b h4];exact h.dA b h2 h4
  ·exact cZ h.fr.size (h1.dA b h4 h3)
 ·exact h.fr.trans h.n0 h.dA (λb off hl=>h.gR b off (.inl hl)) h1.fr
 ·rcases hb with hb|⟨q,hq,Fv⟩
  ·exact h1.gR b off (.inl (h.gR b off (.inl hb)))
  ·exact h1.gR b off (.inr ⟨q,hq,Fv⟩)
 ·obtain⟨p1,p2,p3,p4,p5⟩:=h1.cQ p hp;exact⟨(h.cQ p hp).1,p2,p3,p4,p5⟩
 ·obtain⟨m0,m1,m2,m3⟩:=h.marks d hd D hD;have bD:D<w.heap.size:=(sQ.1 m1).1;have hp:rm B.d H.aj.length g w D:=⟨bD,m2,.inl m3⟩;refine⟨m0,(h1.fr.heap D hp).trans m1,λb hb e=>?_,(h1.fr.own D hp).trans m3⟩;rcases lP b H.aj.length with h4|h4
  ·rw[hle.bM b h4] at e;exact m2 b h4 e
  ·have:w.heap.size<=g'.bM b:=h1.dA b h4 hb;omega
def EI(N:Nat)(g:Gh)(w:aK):Prop:=∀c l,N<=c->g.own c=some l->∃o:Obj,w.heap[c]?=some o/\o.isCells=true
open Classical in
noncomputable def kP(N:Nat)(g:Gh)(w:aK):Gh:={ g with own:=λc=>if N<=c/\¬∃o:Obj,w.heap[c]?=some o/\o.isCells=true then none else g.own c }
def zgG{N:Nat}{c:Nat}(h:∃o:Obj,w.heap[c]?=some o/\o.isCells=true):(kP N g w).own c=g.own c:=by
 unfold kP;simp only;rw[if_neg (λe=>e.2 h)]
def YK{N:Nat}{c:Nat}(h:g.own c=none):(kP N g w).own c=none:=by
 unfold kP;simp only;split
 ·rfl
 ·exact h
def QU{N n:Nat}:Gh.Le n g (kP N g w):=⟨λ_ _ _ h=>h,λ_ _=>rfl,rfl,λ_ _ _ _ h=>h⟩
def zkD{N c:Nat}{l:Loc}(h:(kP N g w).own c=some l):g.own c=some l:=by
 unfold kP at h;simp only at h;split at h
 ·cases h
 ·exact h
def YL{N:Nat}:EI N (kP N g w) w:=λc l hN h=>by
 unfold kP at h;simp only at h;split at h
 ·cases h
 ·rename_i hn
  by_cases hx:∃o:Obj,w.heap[c]?=some o/\o.isCells=true
  ·exact hx
  ·exact absurd ⟨hN,hx⟩ hn
def zmH{base e sz n:Nat}{cv:aS}{xs:dY}(h:w.ownsRow base e sz cv n xs):∀c,cv.ownBlock=some c->∃o:Obj,w.heap[c]?=some o/\o.isCells=true:=λc hc=>by
 rcases h.2 with⟨rfl,_⟩|⟨c',cap,cur,rfl,_,h1,_⟩
 ·cases hc
 ·cases hc;exact⟨_,h1,rfl⟩
def zi3{e sz n:Nat}{cv:aS}{xs:dY}(h:rowAt w e sz cv n xs):∀c,cv.ownBlock=some c->∃o:Obj,w.heap[c]?=some o/\o.isCells=true:=λc hc=>by
 rcases h.2 with⟨rfl,_⟩|⟨c',o,cap,cur,rfl,h1,_⟩
 ·cases hc
 ·cases hc;exact⟨_,h1,rfl⟩
def c_.reset{N n:Nat}{l:Loc}{x:V}{cv:aS}(h:c_ g n w l x cv):c_ (kP N g w) n w l x cv:=by
 unfold c_ at *;split
 ·obtain⟨xs,h1,h2⟩:=h;refine⟨xs,h1,λc hc=>?_⟩;obtain⟨k1,k2,k3⟩:=h2 c hc;exact⟨by rw[zgG (zi3 h1 c hc)];exact k1,k2,k3⟩
 ·trivial
def gG.reset{N n b:Nat}{x:br}(ht:x.top<=n)(h:gG g n w b x):gG (kP N g w) n w b x:=by
 have hle:Gh.Le n g (kP N g w):=QU;cases x with
 | cells cs t =>
  obtain⟨arr,h1,h2,h3⟩:=h;refine⟨arr,h1,h2,λj x v hx hv=>?_⟩;obtain⟨k1,k2,k3,k4⟩:=h3 j x v hx hv;exact⟨k1,k2.le hle (cZ (qg (qI hx)) ht),k3.reset,k4⟩
 | map es =>
  obtain⟨en,ck,h1,h2,h3⟩:=h;have Kz:=uu.1 (show max (aI (es.map (·.1))) (aI (es.map (·.2)))<=n from ht);refine⟨en,ck,h1,h2,λj x me hx hm=>?_⟩;obtain⟨k1,k2⟩:=h3 j x me hx hm;exact⟨k1.le hle (cZ (qg (HQ (f:=(·.1)) (qI hx))) Kz.1),k2.le hle (cZ (qg (HQ (f:=(·.2)) (qI hx))) Kz.2)⟩
 | iter s pos=>exact h
 | ul fE sz cs e =>
  obtain⟨c,len,cap,vs,hu⟩:=h;refine⟨c,len,cap,vs,hu.gC,hu.pos,hu.row,hu.An.imp id λh=>?_,hu.M,hu.others,hu.len,λj x v hx hv=>?_,hu.fresh⟩
  ·rw[zgG (zmH hu.row c rfl)];exact h
  ·obtain⟨k1,k2⟩:=hu.cells j x v hx hv;exact⟨k1,k2.le hle (cZ (qg (qI hx)) ht)⟩
def Rel.reset{s:St}{a:Act}(h:Rel B g s a w){N:Nat}(hN:B.w.heap.size<=N):Rel B (kP N g w) s a w:=by
 have hle:∀{n:Nat},Gh.Le n g (kP N g w):=λ{n}=>QU
 refine { cN:=⟨h.cN.mem,h.cN.lt,h.cN.inj,h.cN.apart,λc l hc=>h.cN.eK c l (zkD hc),λb hb=>YK (h.cN.dN b hb),λb x hx=>(h.cN.ok b x hx).reset (h.cN.aI b x hx),h.cN.aI,λc hc=>?_⟩,len:=h.len,env:=λt x v hx hv=>⟨(h.env t x v hx hv).1.le hle (h.cW t x hx),(h.env t x v hx hv).2.reset⟩,cW:=h.cW,n0:=h.n0,aW:=h.aW,dA:=h.dA,fr:=?_,gR:=h.gR,nw:=h.nw,cQ:=λp hp=>?_,dD:=h.dD,defers:=λj x q hx hq=>(h.defers j x q hx hq).le hle (ek _),marks:=λd hd D hD=>?_,iJ:=h.iJ }
 ·obtain⟨k1,k2,k3⟩:=h.cN.laid c hc;exact⟨k1,YK k2,k3⟩
 ·refine⟨h.fr.le.trans hle,h.fr.heap,λc hc=>?_,h.fr.M,h.fr.size,h.fr.lk,h.fr.os,h.fr.tape,h.fr.output⟩;have bD:¬N<=c:=by have:=hc.1;omega
  have:(kP N g w).own c=g.own c:=by
   unfold kP;simp only;rw[if_neg λe=>bD e.1]
  rw[this];exact h.fr.own c hc
 ·obtain⟨p1,p2,p3,p4,p5⟩:=h.cQ p hp;exact⟨p1,p2.le hle p4,p3.reset,p4,p5⟩
 ·obtain⟨m0,m1,m2,m3⟩:=h.marks d hd D hD;exact⟨m0,m1,m2,YK m3⟩
structure Jd(n0 N:Nat)(g:Gh)(H:Hp):Prop where
 len:n0<=H.aj.length
 new:∀(b:Nat)(x:br),n0<=b->H.aj[b]?=some x->x.isCells=true
 old:∀b,b<n0->g.bM b<N
def zhJ{n0:Nat}{bs:List br}(h:vi n0 bs=true):∀(b:Nat)(x:br),n0<=b->bs[b]?=some x->x.isCells=true:=λb x hb hx=>by
 unfold vi at h;refine Fc.1 h x ?_;have:(bs.drop n0)[b - n0]?=some x:=by rw[FP,show n0+(b - n0)=b by omega];exact hx
 exact nF this
def Jd.LO{n0 N:Nat}{H:Hp}(h:Jd n0 N g H){r:Nat}(hr:N<=r):∀(b:Nat)(x:br),H.aj[b]?=some x->x.LO=false->g.bM b≠r:=λb x hx hc e=>by
 rcases lP b n0 with h1|h1
 ·have:=h.old b h1;omega
 ·have:=h.new b x h1 hx;cases x<;>simp[br.LO,br.isCells] at hc this
def zhK{e_ e1:aA}{H H1:Hp}{lk eA:bk}{df eZ:bH}{a a1:Act}{g':Gh}{w':aK}{n0 N:Nat}(h:Rel B g ⟨e_,H,lk,df⟩ a w)(hn:Jd n0 N g H)(ho:EI N g w)
  (h1:Rel ⟨B.d,H.aj,g,w,B.cQ⟩ g' ⟨e1,H1,eA,eZ⟩ a1 w'):KeepsFrom N w w':=by
 refine⟨h1.fr.size,λk o hk UF hc=>?_⟩;have bD:k<w.heap.size:=(sQ.1 UF).1;refine(h1.fr.heap k ⟨bD,λb hb e=>?_,.inl ?_⟩).trans UF
 ·rcases lP b n0 with h2|h2
  ·have h3:=hn.old b h2;have e':g.bM b=k:=e;omega
  ·have EJ:H.aj[b]?=some H.aj[b]:=mq hb;have iL:=hn.new b _ h2 EJ;have dP:=h.cN.ok b _ EJ;cases hx:H.aj[b] with
   | cells cs t =>
    rw[hx] at dP;obtain⟨arr,k1,_⟩:=dP;rw[e,UF] at k1;cases k1;cases hc
   | _=>rw[hx] at iL;cases iL
 ·cases CJ:g.own k with
  | none=>rfl
  | some l =>
   obtain⟨o',k1,k2⟩:=ho k l hk CJ;rw[UF] at k1;cases k1;rw[hc] at k2;cases k2
def EI.BF{N:Nat}{w':aK}(h:EI N g w)(hk:w9 w w'):EI N g w':=λc l hc hl=>by
 obtain⟨o,h1,h2⟩:=h c l hc hl;cases o with
 | cells cs t k=>exact⟨_,(hk c cs t k h1).trans h1,rfl⟩
 | _=>cases h2
end
section
open Go.RowKit
variable{P:aM}{B:eu}{g:Gh}{w:aK}
def aQ.ow{g:Gh}{sz:Nat}{xs:aA}{o o':Own}{v:aS}(h:aQ g (.sl sz xs o) v):aQ g (.sl sz xs o') v:=by
 cases h with
 | sl f h1 h2 h3 h4 h5 h6=>exact .sl f h1 h2 h3 h4 h5 h6
def zfm{g:Gh}{n:Nat}{w:aK}{l:Loc}{sz:Nat}{xs:aA}{o:Own}{v:aS}(h:∀e,o≠.yes e):c_ g n w l (.sl sz xs o) v:=by
 cases o with
 | yes e=>exact absurd rfl (h e)
 | _=>trivial
def Rel.box{s:St}{a:Act}(h:Rel B g s a w){b:Nat}{ty:aq}{x:V}(hb:s.H.aj[b]?=some (.cells [x] ty)):∃v,w.heap[g.bM b]?=some (.cells #[v] ty (0,0))/\aQ g x v/\LS g b 0 x v:=by
 obtain⟨arr,h1,h2,h3⟩:=h.cN.ok b _ hb;obtain⟨v,rfl⟩:∃v,arr=#[v]:=by
  obtain⟨l⟩:=arr
  match l,h2 with
  | [v],_=>exact⟨v,rfl⟩
 obtain⟨_,k2,_,k4⟩:=h3 0 x v rfl rfl;exact⟨v,h1,k2,k4⟩
def zn0{s:St}{a:Act}(h:Rel B g s a w){b:Nat}{ty:aq}{sz:Nat}{xs:aA}(hb:s.H.aj[b]?=some (.cells [.sl sz xs .no] ty)):¬FY B b 0:=λhh=>by
 obtain⟨cs,t,mc,Bd,h1,h2⟩:=h.gR b 0 hh;rw[hb] at h1;cases h1;simp at h2
def Rel.dV{s:St}{a:Act}(h:Rel B g s a w){b:Nat}{ty:aq}{sz:Nat}{xs:aA}(hb:s.H.aj[b]?=some (.cells [.sl sz xs .no] ty)) :
  ∃g',Gh.Le s.H.aj.length g g'/\g'.own=g.own/\(∃v,w.heap[g.bM b]?=some (.cells #[v] ty (0,0))/\g'.lk b 0=v/\aQ g (.sl sz xs .no) v)/\Rel B g' ⟨s.env,⟨Vm.dV b ty sz xs s.H.aj,s.H.aW⟩,[],s.defers⟩ a w:=by
 obtain⟨v,hv,hr,_⟩:=h.box hb;have bD:b<s.H.aj.length:=(eE.1 hb).1;have gX:¬j8 s.H.aj b 0:=λ⟨cs,t,mc,Bd,h1,h2⟩=>by
  rw[hb] at h1;cases h1;simp at h2
 let g':Gh:={ g with lk:=λb' o=>if b'=b/\o=0 then v else g.lk b' o }
 have hle:∀{n},Gh.Le n g g':=λ{n}=>⟨λ_ _ _ h=>h,λ_ _=>rfl,rfl,λ_ _ _ _ h=>h⟩;refine⟨g',hle,rfl,⟨v,hv,by simp[g'],hr⟩,?_⟩
 have nO:∀b',(Vm.dV b ty sz xs s.H.aj)[b']?=if b=b' then some (.cells [.sl sz xs .lock] ty) else s.H.aj[b']?:=λb'=>by
  unfold Vm.dV
  by_cases e:b=b'
  ·subst e;simp[bD]
  ·simp[e]
 have hlen:(Vm.dV b ty sz xs s.H.aj).length=s.H.aj.length:=by simp[Vm.dV]
 refine h.iB (b0:=some b) (l0:=some (.cell b 0)) (g':=g') (w':=w) (s':=⟨s.env,⟨Vm.dV b ty sz xs s.H.aj,s.H.aW⟩,[],s.defers⟩)
  ⟨hle,λ_ _ _ _=>rfl,λ_ _ _=>rfl,λ_ _ _ _=>rfl,ek _,λb' o hh=>?_,λl hl=>?_,λb' e=>?_,λ_ _ _ _=>rfl,rfl,rfl,rfl⟩ (by rw[hlen];exact ek _) (λb' h1 h2=>?_) (λb' x h1 h2=>?_) (λb' h1 h2=>?_) (λb' b'' h1 h2=>?_) h.cN.mem h.cN.eK (λb' j e=>?_) rfl rfl (λt x hx=>⟨x,hx,.inl ⟨rfl,by simp⟩⟩) (λb' x hx=>?_) (λb' o hh=>?_) (λp hp=>by simp at hp) (λt e=>by simp at e)
 ·have:¬(b'=b/\o=0):=λ⟨e1,e2⟩=>hh _ rfl (by rw[e1,e2])
  simp only[g',if_neg this]
 ·cases hl;exact .inr ⟨b,0,rfl,rfl⟩
 ·cases e;exact bD
 ·show(Vm.dV b ty sz xs s.H.aj)[b']?=_;rw[nO,if_neg λe=>h2 (by rw[e])]
 ·have sg:(Vm.dV b ty sz xs s.H.aj)[b']?=some x:=h2;have:b'=b:=by
   rcases h1 with h1|h1
   ·cases h1;rfl
   ·have:=(eE.1 sg).1;rw[hlen] at this;omega
  subst this;rw[nO,if_pos rfl] at sg;cases sg;refine⟨⟨#[v],hv,rfl,λj y u hy hu=>?_⟩,?_⟩
  ·match j,hy,hu with
   | 0,hy,hu =>
    simp only[Ba,aR] at hy;subst hy;have:u=v:=by simpa using hu.symm
    subst this;exact⟨rfl,(hr.ow).le hle (by have:=h.cN.aI b' _ hb;simpa[br.top,aI,V.top] using this),zfm (by simp),by simp[LS,g']⟩
   | j+1,hy,_=>simp at hy
  ·have:=h.cN.aI b' _ hb;show br.top _<=(Vm.dV b' ty sz xs s.H.aj).length;rw[hlen];simpa[br.top,aI,V.top] using this
 ·have sg:b'<(Vm.dV b ty sz xs s.H.aj).length:=h2;rw[hlen] at sg;omega
 ·intro h3 h4;have sg:b'<(Vm.dV b ty sz xs s.H.aj).length:=h2;rw[hlen] at sg;omega
 ·cases e;exact gX
 ·have mC:(Vm.dV b ty sz xs s.H.aj)[b']?=some x:=hx;rw[nO] at mC;split at mC
  ·rename_i e;subst e;cases mC;rcases h.aW b _ hb with k|k|⟨y,k1,k2⟩
   ·exact .inl (by simpa[br.top,aI,V.top] using k)
   ·obtain⟨m,k1,k2⟩:=k;exact .inr (.inl ⟨m,k1,by simpa[br.top,aI,V.top] using k2⟩)
   ·exact .inr (.inr ⟨y,k1,by simpa[br.top,aI,V.top] using k2⟩)
  ·exact h.aW b' x mC
 ·obtain⟨cs,t,mc,Bd,k1,k2⟩:=h.gR b' o hh;refine⟨cs,t,mc,Bd,?_,k2⟩;show(Vm.dV b ty sz xs s.H.aj)[b']?=_;rw[nO,if_neg λe=>?_]
  ·exact k1
  ·subst e;rw[hb] at k1;cases k1;cases o with
   | zero=>simp at k2
   | succ o=>simp at k2
def Rel.sU{s:St}{a:Act}(h:Rel B g s a w){b:Nat}{ty:aq}{sz:Nat}{xs:aA}(hb:s.H.aj[b]?=some (.cells [.sl sz xs .lock] ty))(hn:¬FY B b 0) :
  Rel B g ⟨s.env,⟨s.H.aj.set b (.cells [.sl sz xs .no] ty),s.H.aW⟩,[],s.defers⟩ a w:=by
 obtain⟨v,hv,hr,_⟩:=h.box hb;have bD:b<s.H.aj.length:=(eE.1 hb).1;have nO:∀b',(s.H.aj.set b (.cells [.sl sz xs .no] ty))[b']?=if b=b' then some (.cells [.sl sz xs .no] ty) else s.H.aj[b']?:=λb'=>by
  by_cases e:b=b'
  ·subst e;simp[bD]
  ·simp[e]
 have hlen:(s.H.aj.set b (.cells [.sl sz xs .no] ty)).length=s.H.aj.length:=by simp
 refine h.iB (b0:=some b) (l0:=none) (g':=g) (w':=w) (s':=⟨s.env,⟨s.H.aj.set b (.cells [.sl sz xs .no] ty),s.H.aW⟩,[],s.defers⟩)
  ⟨.refl _ _,λ_ _ _ _=>rfl,λ_ _ _=>rfl,λ_ _ _ _=>rfl,ek _,λb' o hh=>rfl,λl hl=>(by cases hl),λb' e=>?_,λ_ _ _ _=>rfl,rfl,rfl,rfl⟩ (by rw[hlen];exact ek _) (λb' h1 h2=>?_) (λb' x h1 h2=>?_) (λb' h1 h2=>?_) (λb' b'' h1 h2=>?_) h.cN.mem h.cN.eK (λb' j e=>(by cases e)) rfl rfl (λt x hx=>⟨x,hx,.inl ⟨rfl,by simp⟩⟩) (λb' x hx=>?_) (λb' o hh=>?_) (λp hp=>by simp at hp) (λt e=>by simp at e)
 ·cases e;exact bD
 ·show(s.H.aj.set b (.cells [.sl sz xs .no] ty))[b']?=_;rw[nO,if_neg λe=>h2 (by rw[e])]
 ·have sg:(s.H.aj.set b (.cells [.sl sz xs .no] ty))[b']?=some x:=h2;have:b'=b:=by
   rcases h1 with h1|h1
   ·cases h1;rfl
   ·have:=(eE.1 sg).1;rw[hlen] at this;omega
  subst this;rw[nO,if_pos rfl] at sg;cases sg;refine⟨⟨#[v],hv,rfl,λj y u hy hu=>?_⟩,?_⟩
  ·match j,hy,hu with
   | 0,hy,hu =>
    simp only[Ba,aR] at hy;subst hy;have:u=v:=by simpa using hu.symm
    subst this;exact⟨rfl,hr.ow,zfm (by simp),trivial⟩
   | j+1,hy,_=>simp at hy
  ·have:=h.cN.aI b' _ hb;show br.top _<=(s.H.aj.set b' (.cells [.sl sz xs .no] ty)).length;rw[hlen];simpa[br.top,aI,V.top] using this
 ·have sg:b'<(s.H.aj.set b (.cells [.sl sz xs .no] ty)).length:=h2;rw[hlen] at sg;omega
 ·intro h3 h4;have sg:b'<(s.H.aj.set b (.cells [.sl sz xs .no] ty)).length:=h2;rw[hlen] at sg;omega
 ·have mC:(s.H.aj.set b (.cells [.sl sz xs .no] ty))[b']?=some x:=hx;rw[nO] at mC;split at mC
  ·rename_i e;subst e;cases mC;rcases h.aW b _ hb with k|k|⟨y,k1,k2⟩
   ·exact .inl (by simpa[br.top,aI,V.top] using k)
   ·obtain⟨m,k1,k2⟩:=k;exact .inr (.inl ⟨m,k1,by simpa[br.top,aI,V.top] using k2⟩)
   ·exact .inr (.inr ⟨y,k1,by simpa[br.top,aI,V.top] using k2⟩)
  ·exact h.aW b' x mC
 ·obtain⟨cs,t,mc,Bd,k1,k2⟩:=h.gR b' o hh;refine⟨cs,t,mc,Bd,?_,k2⟩;show(s.H.aj.set b (.cells [.sl sz xs .no] ty))[b']?=_;rw[nO,if_neg λe=>?_]
  ·exact k1
  ·subst e;rw[hb] at k1;cases k1;cases o with
   | zero=>exact hn hh
   | succ o=>simp at k2
end
section
open Go.RowKit
variable{P:aM}{B:eu}{g:Gh}{w:aK}
def zrG{x:V}{ag:Bool}{sz i:Nat}{f:Nat->aS}(hx:oL x=ag)(hl:x.cells.length=sz)(h1:∀(r:Nat)(y:V),x.cells[r]?=some y->y.one=true/\aQ g y (f (i * sz+r))):aQ g x (Ow ag sz f i):=by
 subst hx;cases x with
 | agg cs =>
  have lD:cs.length=sz:=hl;simp only[oL,Ow,aU];refine .agg (by simp[lD]) (λj y hy=>(h1 j y hy).1) λj y v hy hv=>?_
  have hj:j<sz:=by rw[<- lD];exact(eE.1 hy).1
  simp only[List.getElem?_toArray,mS,List.getElem?_range hj,bG,aR] at hv;subst hv;exact(h1 j y hy).2
 | _ =>
  simp only[oL,Ow,dF,bZ];have:=(h1 0 _ rfl).2
  rwa [cL] at this
def zi4{n L:Nat}:∀(l:bP)(xs:aA)(vs:dY)(env:aA)(tmps:dI),pO g n L env tmps->(∀(j:Nat)(x:V)(v:aS),xs[j]?=some x->vs[j]?=some v->aQ g x v/\x.top<=n)->xs.length=vs.length ->
  pO g n L (Oa env l xs) ((l.zip vs).foldl (λt p=>t.setIfInBounds p.1 p.2) tmps)
 | [],xs,vs,env,tmps,h,_,_=>h
 | p::l,[],[],env,tmps,h,_,_=>h
 | p::l,[],v::vs,env,tmps,h,_,hl=>by simp at hl
 | p::l,x::xs,[],env,tmps,h,_,hl=>by simp at hl
 | p::l,x::xs,v::vs,env,tmps,h,hx,hl=>by
  have h0:=hx 0 x v rfl rfl;refine zi4 l xs vs (env.set p (aT x)) (tmps.setIfInBounds p v) ?_ (λj y u hy hu=>hx (j+1) y u (by simpa using hy) (by simpa using hu)) (by simpa using hl)
  refine⟨by simp[h.len],by simp[h.L],λt y u hy hu=>?_,λt y hy=>?_,λt y hy=>?_⟩
  ·rw[s7] at hy;rw[Array.getElem?_setIfInBounds] at hu
   by_cases e:p=t
   ·subst e;simp only[aU] at hy hu;split at hy
    ·split at hu
     ·cases hy;cases hu;exact h0.1.aT
     ·cases hu
    ·cases hy
   ·simp only[e,bZ] at hy hu;exact h.rel t y u hy hu
  ·rw[s7] at hy
   by_cases e:p=t
   ·subst e;simp only[aU] at hy;split at hy
    ·cases hy;rw[dx];exact h0.2
    ·cases hy
   ·simp only[e,bZ] at hy;exact h.top t y hy
  ·rw[s7] at hy
   by_cases e:p=t
   ·subst e;simp only[aU] at hy;split at hy
    ·cases hy;exact pP x
    ·cases hy
   ·simp only[e,bZ] at hy;exact h.aT t y hy
def zmI{ag back:Bool}{sz n:Nat}{ys:aA}{f:Nat->aS}(sV:∀x∈ys,oL x=ag)(hl:∀x∈ys,x.cells.length=sz)(cS:aI ys<=n)
  (h1:∀(j:Nat)(y:V),(q9 ys)[j]?=some y->y.one=true/\aQ g y (f j)) {k:Nat} (hk:k<ys.length) :
  ∃xk,(vK back ys)[k]?=some xk/\xk.length=(H_ back ag sz ys.length f k).toList.length/\∀(j:Nat)(x:V)(v:aS),xk[j]?=some x->(H_ back ag sz ys.length f k).toList[j]?=some v->aQ g x v/\x.top<=n:=by
 have Qf:∀(i:Nat)(x:V),ys[i]?=some x->aQ g x (Ow ag sz f i)/\x.top<=n:=λi x hx=>by
  have hm:=nF hx;exact⟨zrG (sV x hm) (hl x hm) λr y hy=>h1 _ y (Qa hl hx r y hy),cZ (qg hm) cS⟩
 cases back with
 | true =>
  have bD:ys.length - 1 - k<ys.length:=by omega
  have fu:ys[ys.length - 1 - k]?=some ys[ys.length - 1 - k]:=mq bD;refine⟨[.int .i64 ((ys.length - 1 - k:Nat):Int),ys[ys.length - 1 - k]],?_,by simp[H_],λj x v hx hv=>?_⟩
  ·simp only[vK,aU];rw[mS,List.getElem?_range hk,bG,zV,fu];rfl
  ·simp only[H_,aU] at hv
   match j,hx,hv with
   | 0,hx,hv =>
    simp at hx hv;subst hx hv;exact⟨.int _ _,ga _⟩
   | 1,hx,hv =>
    simp at hx hv;subst hx hv;exact Qf _ _ fu
   | j+2,hx,_=>simp at hx
 | false =>
  have fu:ys[k]?=some ys[k]:=mq hk;refine⟨[ys[k]],?_,by simp[H_],λj x v hx hv=>?_⟩
  ·simp only[vK,dF,bZ];rw[mS,fu];rfl
  ·simp only[H_,dF,bZ] at hv
   match j,hx,hv with
   | 0,hx,hv =>
    simp at hx hv;subst hx hv;exact Qf _ _ fu
   | j+1,hx,_=>simp at hx
def zi5{back:Bool}{ys:aA}:(vK back ys).length=ys.length:=by
 cases back<;>simp[vK]
def ztd(H:Hp)(b:Nat)(ty:aq)(sz:Nat)(ag:Bool):Option (Nat×aA)->Prop
 | none=>H.get b=some (.cells [.aJ] ty)
 | some (mc,ys)=>H.get b=some (.cells [.sl mc ys .no] ty)/\mc=sz/\(∀x∈ys,oL x=ag)/\ys.length<=140737488355328
def zp7{cx:Cx}{fv:V}{H:Hp}{b:Nat}{ty:aq}{lv:Option (Nat×aA)}{back:Bool}(h:cx.LP fv H=some (b,ty,lv,back)) :
  ∃gf e sz ag,fv=.fn (.func gf) [] [.ptr b 0]/\cx.P.underlying ty=some (.slice e)/\jh cx.P e=some sz/\ka cx.P e=some ag/\0<sz/\(show Nat from ty)<1048576/\cx.uq (Ff gf back ty)=true /\
   ztd H b ty sz ag lv:=by
 unfold Cx.LP at h;split at h<;>try (cases h;done)
 rename_i gf b';generalize hb:H.get b'=ob at h;split at h<;>try (cases h;done)
 rename_i x ty';generalize hu:cx.P.underlying ty'=ou at h;split at h<;>try (cases h;done)
 rename_i e;generalize hs:jh cx.P e=os at h;generalize ha:ka cx.P e=oa at h;split at h<;>try (cases h;done)
 rename_i sz ag;simp only at h;split at h<;>try (cases h;done)
 rename_i hc;have gp:0<sz:=by
  rcases N3 sz with e|e
  ·subst e;simp at hc
  ·exact e
 have Aq:(show Nat from ty')<1048576:=by
  cases hb:Nat.blt ty' 1048576 with
  | true=>exact sE hb
  | false=>rw[hb] at hc;simp at hc
 have UG:cx.uq (Ff gf (cx.uq (Ff gf true ty')) ty')=true:=by
  cases hk:cx.uq (Ff gf true ty') with
  | true=>exact hk
  | false =>
   cases iA:cx.uq (Ff gf false ty') with
   | true=>rfl
   | false=>rw[hk,iA] at hc;simp at hc
 split at h<;>try (cases h;done)
 ·simp only[aR,bS] at h;obtain⟨rfl,rfl,rfl,rfl⟩:=h;exact⟨gf,e,sz,ag,rfl,hu,hs,ha,gp,Aq,UG,hb⟩
 ·rename_i mc xs;split at h<;>try (cases h;done)
  rename_i pz;simp only[aR,bS] at h;obtain⟨rfl,rfl,rfl,rfl⟩:=h;simp only[cR] at pz;obtain⟨⟨c1,c2⟩,c3⟩:=pz;refine⟨gf,e,sz,ag,rfl,hu,hs,ha,gp,Aq,UG,hb,(gy c1).symm,λx hx=>?_,sE c3⟩;have:=Fc.1 c2 x hx;exact beq_iff_eq.1 this
end
section
open Go.RowKit
variable{P:aM}{B:eu}{g:Gh}{w:aK}
def Rel.Je{e_:aA}{H:Hp}{lk:bk}{df:bH}{a:Act}(h:Rel B g ⟨e_,H,lk,df⟩ a w){D:Nat}(hD:w.heap[D]?=some (.deferred (some [])))(h0:B.w.heap.size<=D)(hb:∀b,b<H.aj.length->g.bM b≠D)(ho:g.own D=none)
  (hd:∀d∈a.defers,∀D',d.target=.collected D'->D'≠D):Rel B g ⟨e_,H,[],(.ef,[])::df⟩ { a with defers:={ target:=.collected D,args:=#[] }::a.defers } w:=by
 refine { cN:=h.cN,len:=h.len,env:=h.env,cW:=h.cW,n0:=h.n0,aW:=h.aW,dA:=h.dA,fr:=h.fr,gR:=h.gR,nw:=λ_ hp=>by simp at hp,cQ:=h.cQ,dD:=by simp[h.dD],defers:=λj x q hx hq=>?_,marks:=λd Fw D' Ov=>?_,iJ:=.cons (λd' Cq D' e=>?_) h.iJ }
 ·cases j with
  | zero =>
   simp only[Ba,aR] at hx hq;subst hx hq;exact .inr ⟨rfl,D,rfl⟩
  | succ j=>exact h.defers j x q (by simpa using hx) (by simpa using hq)
 ·rcases dh.1 Fw with e|Fw
  ·subst e;cases Ov;exact⟨h0,hD,hb,ho⟩
  ·exact h.marks d Fw D' Ov
 ·cases e;intro e;exact hd d' Cq D e rfl
structure RS(B:eu)(g2:Gh)(n0 N:Nat)(e_:aA)(df:bH)(a:Act)(b:Nat)(lc:Bool)(v:aS)(gi:Gh)(Hi:Hp)(W:aK):Prop where
 rel:Rel B gi ⟨e_,Hi,[],df⟩ a W
 own:EI N gi W
 new:Jd n0 N gi Hi
 le:Gh.Le n0 g2 gi
 lk:lc=true->gi.lk b 0=v/\j8 Hi.aj b 0
variable{g2 gi:Gh}{n0 N b:Nat}{e_:aA}{df:bH}{a:Act}{lc:Bool}{v:aS}{Hi:Hp}{W W':aK}
def RS.BF(h:RS B g2 n0 N e_ df a b lc v gi Hi W)(hN:B.w.heap.size<=N)(hm:∀d∈a.defers,∀D,d.target=.collected D->D<N){row:Option Nat}(hg:W.grownBy W' row)(hr:∀r,row=some r->N<=r/\∃o:Obj,W.heap[r]?=some o/\o.isCells=false) :
  RS B g2 n0 N e_ df a b lc v gi Hi W' :=
 ⟨h.rel.BF hg λr e=>⟨cZ hN (hr r e).1,(hr r e).2,h.new.LO (hr r e).1,λd hd D hD e'=>by
   have:=hm d hd D hD;have:=(hr r e).1
   omega⟩,h.own.BF (Yv hg λr e=>(hr r e).2),h.new,h.le,h.lk⟩
def RS.round(h:RS B g2 n0 N e_ df a b lc v gi Hi W)(hN:B.w.heap.size<=N)(hc:∀(t:Nat)(x:V),e_[t]?=some x->aT x=x){g':Gh}{e1:aA}{H1:Hp}{eA:bk}{eZ:bH}{a1:Act}
  (h1:Rel ⟨B.d,Hi.aj,gi,W,B.cQ⟩ g' ⟨e1,H1,eA,eZ⟩ a1 W') (hn:vi n0 H1.aj=true):RS B g2 n0 N e_ df a b lc v (kP N g' W') ⟨H1.aj,H1.aW++Hi.aW⟩ W'/\KeepsFrom N W W':=by
 have hlen:Hi.aj.length<=H1.aj.length:=h1.n0;have hle:Gh.Le n0 gi g':=h1.fr.le.mono h.new.len;refine⟨⟨(h.rel.leave hc h1).reset hN,YL,⟨cZ h.new.len hlen,zhJ hn,λb hb=>?_⟩,(h.le.trans hle).trans QU,λhl=>?_⟩,zhK h.rel h.new h.own h1⟩
 ·show g'.bM b<N;rw[hle.bM b hb];exact h.new.old b hb
 ·obtain⟨k1,k2⟩:=h.lk hl;have k3:g'.lk b 0=gi.lk b 0:=h1.fr.lk b 0 k2;exact⟨k3.trans k1,h1.gR b 0 (.inl k2)⟩
def RS.box(h:RS B g2 n0 N e_ df a b true v gi Hi W)(hb:b<n0):W.cell? ⟨g2.bM b,0,none⟩=some v:=by
 obtain⟨k1,cs,t,sz,xs,k2,k3⟩:=h.lk rfl;obtain⟨arr,m1,m2,m3⟩:=h.rel.cN.ok b _ k2;have bD:0<arr.size:=by rw[<- m2];exact(eE.1 k3).1
 have lq:arr[0]?=some arr[0]:=FM bD;obtain⟨_,_,_,m4⟩:=m3 0 _ _ k3 lq;have hv:arr[0]=v:=by
  have:arr[0]=gi.lk b 0:=m4;rw[this,k1]
 rw[<- h.le.bM b hb];simp[World.cell?,m1,lq,hv]
def RS.marked(h:RS B g2 n0 N e_ df a b lc v gi Hi W)(hN:B.w.heap.size<=N)(hm:∀d∈a.defers,∀D,d.target=.collected D->D<N){H':Hp}(hrel:Rel B gi ⟨e_,H',[],df⟩ a W)(hl:H'.aj.length=Hi.aj.length){D:Nat}(hD:W.heap[D]?=some (.deferred (some [])))(Ox:N<=D) :
  Rel B gi ⟨e_,H',[],(.ef,[])::df⟩ { a with defers:={ target:=.collected D,args:=#[] }::a.defers } W:=by
 refine hrel.Je hD (cZ hN Ox) (λb' dK e=>?_) ?_ (λd hd D' Ov e=>?_)
 ·rcases lP b' n0 with h2|h2
  ·have:=h.new.old b' h2;omega
  ·rw[hl] at dK;have EJ:Hi.aj[b']?=some Hi.aj[b']:=mq dK;have iL:=h.new.new b' _ h2 EJ;have dP:=h.rel.cN.ok b' _ EJ;cases hx:Hi.aj[b'] with
   | cells cs t =>
    rw[hx] at dP;obtain⟨arr,k1,_⟩:=dP;rw[e,hD] at k1;cases k1
   | _=>rw[hx] at iL;cases iL
 ·cases CJ:gi.own D with
  | none=>rfl
  | some l =>
   obtain⟨o',k1,k2⟩:=h.own D l Ox CJ;rw[hD] at k1;cases k1;cases k2
 ·have:=hm d hd D' Ov;omega
end
section
open Go.RowKit
variable{P:aM}{B:eu}{g:Gh}{w:aK}
def zn1{ps:Array Tmp}{vs tmps:dI}:(ps.zip vs).foldl (λt (p,v)=>t.setIfInBounds p v) tmps=(ps.toList.zip vs.toList).foldl (λt p=>t.setIfInBounds p.1 p.2) tmps:=by
 rw[<- Array.foldl_toList,Array.toList_zip]
def v_:∀(l:bP)(xs:aA)(env:aA),(Oa env l xs).length=env.length
 | [],xs,env=>rfl
 | p::l,[],env=>rfl
 | p::l,x::xs,env=>by
  have:=v_ l xs (env.set p (aT x));rw[ee] at this;exact this
def zi6(iQ:P.follows .mixedOrders=true){cx:Cx}(mh:pM P cx B){n:Nat}{f:aO}{ps:Array Tmp}{as bd:Code}{ex:Ex}{s':St}{a:Act}{g2:Gh}{n0 b:Nat}{e_:aA}{df:bH}{lc:Bool}{v:aS}{H0 H':Hp}{gf sz cap c o:Nat}{back ag:Bool}{ys:aA}{aa:Option Addr}{fM:Nat->aS}
  (hN:B.w.heap.size<=w.heap.size) (hm:∀d∈a.defers,∀D,d.target=.collected D->D<w.heap.size) (Ct:∀(t:Nat)(x:V),e_[t]?=some x->aT x=x)
  (Ms:RS B g2 n0 w.heap.size e_ df a b lc v g2 H0 w) (Ks:∀p∈B.cQ,e_.length<p.t) (Fi:b<n0) (uW:0<ys.length->lc=true) (hv:v=.slice aa ys.length cap) (Oy:calm as=true) (Oz:calm bd=true) (Jf:ps.size=if back then 2 else 1)
  (hg:a.eval f=.func (.func gf) #[] #[.pointer (some ⟨g2.bM b,0,none⟩)]) (UH:∀args w,(callFunc gf args).run P w=.ok (.enter gf args) w)
  (sV:∀x∈ys,oL x=ag) (hlen:∀x∈ys,x.cells.length=sz) (cS:aI ys<=n0) (mO:∀(j:Nat)(y:V),(q9 ys)[j]?=some y->y.one=true/\g2.M c (o+j)=some (fM j)/\aQ g2 y (fM j)) (YM:∀(j:Nat)(y:V),(q9 ys)[j]?=some y->y.top<=n0)
  (hit:∀C:Addr->aS->Prop,C ⟨g2.bM b,0,none⟩ v->(∀j,j<ys.length * sz->C ⟨c,o+j,none⟩ (fM j))->Yx P gf #[.pointer (some ⟨g2.bM b,0,none⟩)] (H_ back ag sz ys.length fM) ys.length (KpC C) w)
  (Mt:LQ (λx bs=>cx.code n as ⟨Oa e_ ps.toList x,⟨bs,[]⟩,[],[]⟩) (λe bs=>cx.code n bd ⟨e,⟨bs,[]⟩,[],[]⟩) (vi n0) (vK back ys) H0=some (ex,H'))
  (iX:∀(gi:Gh)(W:aK)(D:Nat),RS B g2 n0 w.heap.size e_ df a b lc v gi H' W->W.heap[D]?=some (.deferred (some []))->w.heap.size<=D->∃g,Rel B g s' { a with defers:={ target:=.collected D,args:=#[] }::a.defers } W) :
  (Code.rangeFunc f ps as bd).wpIn Fence.wide 3 P (xg B ex s') a w:=by
 generalize YN:(λx bs=>cx.code n as ⟨Oa e_ ps.toList x,⟨bs,[]⟩,[],[]⟩)=P7 at Mt;generalize Mu:(λe bs=>cx.code n bd ⟨e,⟨bs,[]⟩,[],[]⟩)=YO at Mt
 let C:Addr->aS->Prop:=λad u=>(ad=⟨g2.bM b,0,none⟩/\u=v)\/∃j,j<ys.length * sz/\ad=⟨c,o+j,none⟩/\u=fM j
 have QV:(q9 ys).length=ys.length * sz:=jB hlen;have hC:∀gi Hi W,RS B g2 n0 w.heap.size e_ df a b lc v gi Hi W->0<ys.length->∀ad u,C ad u->W.cell? ad=some u:=λgi Hi W hS oz ad u sW=>by
  rcases sW with⟨rfl,rfl⟩|⟨j,hj,rfl,rfl⟩
  ·have:=uW oz;subst this;exact hS.box Fi
  ·have hy:(q9 ys)[j]?=some (q9 ys)[j]:=mq (by rw[QV];exact hj)
   exact hS.rel.cN.mem _ _ _ (hS.le.M _ _ _ (mO j _ hy).2.1)
 have Jg:∀gi Hi W,RS B g2 n0 w.heap.size e_ df a b lc v gi Hi W->pM P cx ⟨B.d,Hi.aj,gi,W,B.cQ⟩:=λgi Hi W hS=>⟨mh.prog,mh.num,mh.Yg,mh.gl.le hS.rel.fr.le,mh.calls⟩
 refine zmG (w0:=w) (len:=ys.length) hg UH (hit C (.inl ⟨rfl,rfl⟩) λj hj=>.inr ⟨j,hj,rfl,rfl⟩) (Below.refl _ _) (λk=>?_) (λh1 h2 ad u sW hx=>h2 ad u sW (h1 ad u sW hx)) (λW l ob ob' hl mg YP _ ad u _ hx=>?_)
  (λk W=>k<=ys.length/\∃gi Hi,RS B g2 n0 w.heap.size e_ df a b lc v gi Hi W/\LQ P7 YO (vi n0) ((vK back ys).drop k) Hi=some (ex,H'))
  (λcd W=>∃gi,RS B g2 n0 w.heap.size e_ df a b lc v gi H' W/\((cd=.ret/\ex=.ret)\/∃i,cd=.exit i/\ex=.exit i))
  (λk a' W=>∃gi Fg Bu e1,RS B g2 n0 w.heap.size e_ df a b lc v gi ⟨Fg,Bu⟩ W/\pO gi Fg.length e1.length e1 a'.tmps/\a'.defers=[]/\(∀p∈B.cQ,e1.length<p.t) /\
   (match YO e1 Fg with
    | some (.normal,⟨_,⟨uU,p8⟩,_,[]⟩)=>if !vi n0 uU then none else LQ P7 YO (vi n0) ((vK back ys).drop (k+1)) ⟨uU,p8++Bu⟩
    | some (.ret,⟨_,⟨uU,p8⟩,_,[]⟩)=>if !vi n0 uU then none else some (.ret,⟨uU,p8++Bu⟩)
    | some (.exit i,⟨_,⟨uU,p8⟩,_,[]⟩)=>if !vi n0 uU then none else some (.exit i,⟨uU,p8++Bu⟩)
    | _=>none)=some (ex,H'))
  (λk W W' row hI Mv hr=>⟨hI.1,hI.2.elim λgi h=>h.elim λHi h=>⟨gi,Hi,h.1.BF hN hm Mv hr,h.2⟩⟩)
  (λcd W W' row hI Mv hr=>hI.elim λgi h=>⟨gi,h.1.BF hN hm Mv hr,h.2⟩)
  (λk a' _ W W' row hI Mv hr=>by
   obtain⟨gi,Fg,Bu,e1,q1,q2⟩:=hI
   exact⟨gi,Fg,Bu,e1,q1.BF hN hm Mv hr,q2⟩)
  ⟨ga _,g2,H0,Ms,Mt⟩ ?_ ?_ ?_ ?_
 ·cases back<;>simp[H_,Jf]
 ·exact zfi (Yv (grownBy_putObj' W l ob') λr e=>by cases e;exact⟨ob,mg,YP⟩) hx
 ·
  rintro l k W K hk ⟨_,gi,⟨YQ,esi⟩,hS,hr⟩ hK;have rq:n0<=YQ.length:=hS.new.len;obtain⟨xk,x1,x2,x3⟩:=zmI (g:=gi) (back:=back) (n:=YQ.length) sV hlen (cZ cS rq) (λj y hy=>⟨(mO j y hy).1,((mO j y hy).2.2).le hS.le (YM j y hy)⟩) hk;have QW:(vK back ys).drop k=xk::(vK back ys).drop (k+1):=by
   obtain⟨bD,hx⟩:=eE.1 x1;rw[List.drop_eq_getElem_cons bD,hx]
  rw[QW] at hr;simp only[LQ] at hr;split at hr<;>try (cases hr;done)
  rename_i e Fg Bu eA YR;split at hr<;>try (cases hr;done)
  rename_i dP;rw[fj] at hr;rw[<- YN] at YR;simp only at YR;have hE0:pO gi YQ.length e_.length e_ a.tmps:=⟨hS.rel.len,rfl,λt x u hx hu=>(hS.rel.env t x u hx hu).1,hS.rel.cW,Ct⟩;have hE:=zi4 ps.toList xk (H_ back ag sz ys.length fM k).toList e_ a.tmps hE0 x3 x2;have oN:(Oa e_ ps.toList xk).length=e_.length:=v_ _ _ _;rw[zn1]
  have hR:=hS.rel.enter (by rw[oN];exact hE) (λp hp=>by rw[oN];exact Ks p hp)
  refine Go.wpIn_mono (UD iQ (Jg _ _ _ hS) n as _ _ _ gi _ W Oy YR hR) ?_;rintro e' a' W' ⟨g',q1,q2⟩;cases e'<;>first|(exact q2.elim)|skip
  obtain⟨r1,r2⟩:=hS.round hN Ct q1 (by simpa using dP)
  have oz:0<ys.length:=by omega
  refine hK a' W' r2 (λad u sW _=>hC _ _ _ r1 oz ad u sW) ⟨_,Fg,Bu++esi,e.map aT,r1,?_,N0.1 (by rw[<- q1.dD];rfl),λp hp=>?_,hr⟩
  ·have:=q1.Gs.le (g':=kP w.heap.size g' W') (n':=Fg.length) QU (ek _);rw[eF];exact this
  ·rw[eF];exact(q1.cQ p hp).1
 ·
  rintro l k ⟨tm,dfr⟩ W hk ⟨gi,Fg,Bu,e1,hS,hE,hd,OA,hr⟩;simp only at hd hE;subst hd;have oz:0<ys.length:=by omega
  have hR:=hS.rel.enter hE OA;split at hr<;>try (cases hr;done)
  ·rename_i e2 uU p8 mG hb;split at hr<;>try (cases hr;done)
   rename_i dP;rw[<- Mu] at hb;simp only at hb;refine Go.wpIn_mono (UD iQ (Jg _ _ _ hS) n bd _ _ _ gi _ W Oz hb hR) ?_;rintro e' a' W' ⟨g',q1,q2⟩;cases e'<;>first|(exact q2.elim)|skip
   obtain⟨r1,r2⟩:=hS.round hN Ct q1 (by simpa using dP)
   exact⟨r2,λad u sW _=>hC _ _ _ r1 oz ad u sW,by omega,_,_,r1,hr⟩
  ·rename_i e2 uU p8 mG hb;split at hr<;>try (cases hr;done)
   rename_i dP;rw[<- Mu] at hb;simp only at hb;simp only[aR,bS] at hr;obtain⟨rfl,rfl⟩:=hr;refine Go.wpIn_mono (UD iQ (Jg _ _ _ hS) n bd _ _ _ gi _ W Oz hb hR) ?_;rintro e' a' W' ⟨g',q1,q2⟩;cases e'<;>first|(exact q2.elim)|skip
   obtain⟨r1,r2⟩:=hS.round hN Ct q1 (by simpa using dP)
   exact⟨r2,_,r1,.inl ⟨rfl,rfl⟩⟩
  ·rename_i i e2 uU p8 mG hb;split at hr<;>try (cases hr;done)
   rename_i dP;rw[<- Mu] at hb;simp only at hb;simp only[aR,bS] at hr;obtain⟨rfl,rfl⟩:=hr;refine Go.wpIn_mono (UD iQ (Jg _ _ _ hS) n bd _ _ _ gi _ W Oz hb hR) ?_;rintro e' a' W' ⟨g',q1,q2⟩;cases e'<;>first|(exact q2.elim)|skip
   rename_i j;have:i=j:=q2;subst this;obtain⟨r1,r2⟩:=hS.round hN Ct q1 (by simpa using dP)
   exact⟨r2,_,r1,.inr ⟨i,rfl,rfl⟩⟩
 ·rintro D W hD ⟨_,gi,Hi,hS,hr⟩ hW;rw[List.drop_of_length_le (by rw[zi5];exact ek _)] at hr
  simp only[LQ,aR,bS] at hr;obtain⟨rfl,rfl⟩:=hr;obtain⟨g,hrel⟩:=iX gi W D hS hW hD;exact⟨g,hrel,trivial⟩
 ·rintro D cd W hD ⟨gi,hS,nQ⟩ hW;obtain⟨g,hrel⟩:=iX gi W D hS hW hD;rcases nQ with⟨rfl,rfl⟩|⟨i,rfl,rfl⟩
  ·exact wpIn_ret ⟨g,hrel,trivial⟩
  ·exact wpIn_exit ⟨g,hrel,rfl⟩
end
section
open Go.RowKit
variable{P:aM}{B:eu}{g:Gh}{w:aK}
def zi7{b:Nat}{v:aS}{ty:aq}(h:w.heap[b]?=some (.cells #[v] ty (0,0))):w.cell? ⟨b,0,none⟩=some v:=by
 simp[World.cell?,h]
def zkE(iQ:P.follows .mixedOrders=true){cx:Cx}(hit:Uu P cx.uq):Ot P cx B:=by
 intro mh n f ps as bd s s' ex g a w hc h;obtain⟨env,⟨bs,es⟩,lk,df⟩:=s;simp only[Cx.code] at hc;split at hc<;>try (cases hc;done)
 rename_i fv hp;split at hc<;>try (cases hc;done)
 rename_i b ty lv back DO;cases hx:(calm as && calm bd && Nat.beq ps.size (if back then 2 else 1)) with
 | false=>simp only[hx,fz,aU,reduceCtorEq] at hc
 | true =>
 simp only[hx,eU,dF,bZ] at hc;rw[fj] at hc;obtain⟨gf,e,sz,ag,rfl,hu,hs,ha,gp,Aq,UG,hlv⟩:=zp7 DO;rw[mh.prog] at hu hs ha;obtain⟨UH,KA⟩:=hit gf back ty Aq UG;simp only[cR] at hx;obtain⟨⟨Oy,Oz⟩,hpz⟩:=hx;have Jf:ps.size=if back then 2 else 1:=gy hpz
 have hcf:a.eval f=.func (.func gf) #[] #[.pointer (some ⟨g.bM b,0,none⟩)]:=by
  have hrf:=(qZ h hp).1;generalize a.eval f=cf at hrf;cases hrf with
  | fn e1 e2 e3 e4 =>
   rename_i fa fc;have h1:fa=#[]:=Array.eq_empty_of_size_eq_zero e1.symm;obtain⟨u,rfl⟩:∃u,fc=#[u]:=by
    obtain⟨l⟩:=fc
    match l,e2 with
    | [u],_=>exact⟨u,rfl⟩
   have hp:=e4 0 _ u rfl rfl;cases hp;rw[h1]
 have hN:B.w.heap.size<=w.heap.size:=h.fr.size;have hm:∀d∈a.defers,∀D,d.target=.collected D->D<w.heap.size:=λd hd D hD=>(sQ.1 (h.marks d hd D hD).2.1).1;have iL:=h.Mr;have Ct:∀(t:Nat)(x:V),(env.map aT)[t]?=some x->aT x=x:=h.Gs.aT;have Ks:∀p∈B.cQ,(env.map aT).length<p.t:=λp hp=>(iL.cQ p hp).1;rw[<- wpIn_wide (n:=3)];cases lv with
 | none =>
  simp only[aR,bS] at hc;obtain⟨rfl,rfl⟩:=hc;have EJ:bs[b]?=some (.cells [.aJ] ty):=by
   have:nth bs b=some (.cells [.aJ] ty):=hlv
   rwa [zV] at this
  have lz:b<bs.length:=(eE.1 EJ).1;obtain⟨v,hv,hr,_⟩:=iL.box EJ;cases hr;have Ms:RS B (kP w.heap.size g w) bs.length w.heap.size (env.map aT) df a b false (.slice none 0 0) (kP w.heap.size g w) ⟨bs,es⟩ w :=
   ⟨iL.reset hN,YL,⟨ek _,λb' x h1 h2=>by have:=(eE.1 h2).1;simp only at this;omega,λb' dK=>h.cN.lt b' dK⟩,.refl _ _,λe=>by cases e⟩
  refine zi6 (n:=n) (ys:=[]) (aa:=none) (cap:=0) (c:=0) (o:=0) (sz:=sz) (ag:=ag) (back:=back) (fM:=λ_=>undef) iQ mh hN hm Ct Ms Ks lz (λh=>by simp at h) rfl Oy Oz Jf hcf UH (λx hx=>by cases hx) (λx hx=>by cases hx) (ga _) (λj y hy=>by simp[q9] at hy) (λj y hy=>by simp[q9] at hy) (λC c1 c2=>?_) ?_ (λgi W D hS hD Ox=>⟨gi,hS.marked hN hm hS.rel rfl hD Ox⟩)
  ·exact KA e sz ag hu hs ha gp w (g.bM b) none 0 0 0 0 (λ_=>undef) C (h.cN.lt b lz) (λh=>by simp at h) (zi7 hv) (λh=>by simp at h) (λj hj=>by simp at hj) c1 (λj hj=>by simp at hj) (by omega)
  ·cases back<;>rfl
 | some p =>
  obtain⟨mc,ys⟩:=p;obtain⟨m8,rfl,sV,hyl⟩:=hlv;have EJ:bs[b]?=some (.cells [.sl mc ys .no] ty):=by
   have:nth bs b=some (.cells [.sl mc ys .no] ty):=m8
   rwa [zV] at this
  have lz:b<bs.length:=(eE.1 EJ).1;simp only at hc;split at hc<;>try (cases hc;done)
  rename_i ex1 H1 Mt;split at hc<;>try (cases hc;done)
  rename_i H2 CQ;simp only[aR,bS] at hc;obtain⟨rfl,rfl⟩:=hc;have hnh:¬FY B b 0:=zn0 iL EJ;obtain⟨g1,Bx,aeJ,⟨v,hv,YS,Qg⟩,QX⟩:=iL.dV EJ;have pG:aI ys<=bs.length:=by
   have:=h.cN.aI b _ EJ;simpa[br.top,aI,V.top] using this
  cases Qg with
  | sl fM k1 k2 k3 k4 k5 k6 =>
  rename_i aa cap c o;have IU:(dV b ty mc ys bs).length=bs.length:=by simp[dV]
  have Ms:RS B (kP w.heap.size g1 w) bs.length w.heap.size (env.map aT) df a b true (.slice aa ys.length cap) (kP w.heap.size g1 w) ⟨dV b ty mc ys bs,es⟩ w:=by
   refine⟨QX.reset hN,YL,⟨by simp only[IU];exact ek _,λb' x h1 h2=>?_,λb' dK=>?_⟩,.refl _ _,λ_=>⟨YS,?_⟩⟩
   ·have:=(eE.1 h2).1;simp only[IU] at this;omega
   ·show g1.bM b'<_;rw[Bx.bM b' dK];exact h.cN.lt b' dK
   ·refine⟨[.sl mc ys .lock],ty,mc,ys,?_,rfl⟩;show(dV b ty mc ys bs)[b]?=_;simp[dV,lz]
  have mX:(kP w.heap.size g1 w).bM b=g.bM b:=Bx.bM b lz;have OB:∀(j:Nat)(y:V),(q9 ys)[j]?=some y->y.top<=bs.length:=λj y hy=>by
   obtain⟨x,hx,YT⟩:=List.mem_flatMap.1 (nF hy);refine cZ ?_ (cZ (qg hx) pG);cases x<;>simp only[V.cells,uk] at YT<;>first|(subst YT;exact ek _)|exact qg YT
  refine zi6 (ys:=ys) (aa:=aa) (cap:=cap) (c:=c) (o:=o) (sz:=mc) (ag:=ag) (back:=back) (fM:=fM) iQ mh hN hm Ct Ms Ks lz (λ_=>rfl) rfl Oy Oz Jf (by rw[mX];exact hcf) UH sV k1 pG (λj y hy=>⟨k4 j y hy,Bx.M _ _ _ (k5 j y hy),(k6 j y hy).le (Bx.trans QU) (OB j y hy)⟩) OB (λC c1 c2=>?_) Mt (λgi W D hS hD Ox=>?_)
  ·rw[mX] at c1 ⊢;have mO:=jB k1;refine KA e mc ag hu hs ha gp w (g.bM b) aa ys.length cap c o fM C (h.cN.lt b lz) (λoz=>?_) (zi7 hv) (λoz=>k3 (Kk.1 oz)) (λj hj=>?_) c1 c2 hyl
   ·have h0:0<(q9 ys).length:=by rw[mO];exact Nat.mul_pos oz gp
    have KB:(q9 ys)[0]?=some (q9 ys)[0]:=mq h0;obtain⟨ob,m1,_⟩:=cells_of_cell (h.cN.mem _ _ _ (k5 0 _ KB));exact(sQ.1 m1).1
   ·have KB:(q9 ys)[j]?=some (q9 ys)[j]:=mq (by rw[mO];exact hj)
    exact h.cN.mem _ _ _ (k5 j _ KB)
  ·unfold sU at CQ;split at CQ<;>try (cases CQ;done)
   rename_i sz2 xs2 ty2 T_;rw[zV] at T_;simp only[aR] at CQ;subst CQ;have QY:=hS.rel.sU T_ hnh;exact⟨gi,hS.marked hN hm QY (by simp) hD Ox⟩
end
section
variable{P:aM}
def YU{gl:Gl}(iQ:P.follows .mixedOrders=true)(gT:xL P)(eV:vQ P)(Fs:sG P gl)(n:Nat):L9 P gl (qt P gl n) (2 * n) :=
 ziU gT eV Fs (λ_ _=>⟨zp4 iQ,zkE iQ Fs.it⟩) n
end
section
open Go.ChangeShapes Go.WideShapes Go.ChangeAt Go.RowKit
def Ic(W:aK):Gh :=
 {M:=λc o=>W.cell? ⟨c,o,none⟩,bM:=λ_=>0,own:=λ_=>none,lk:=λ_ _=>undef,gC:=λ_ _=>none,
  obj:=⟨λk=>match W.cell? ⟨k,0,none⟩ with|some (.iface _ (.pointer (some a)))=>a|_=>⟨0,0,none⟩,λc=>∃cs t,W.heap[c]?=some (.cells cs t (0,0))⟩ }
def zn2(W:aK):rj (Ic W) [] W :=
 {mem:=λ_ _ _ h=>h,lt:=λb h=>by simp at h,inj:=λb _ h=>by simp at h,apart:=λb h=>by simp at h,eK:=(λc l h=>by cases h),dN:=λb h=>by simp at h,
  ok:=λb x h=>by simp at h,aI:=λb x h=>by simp at h,laid:=λc hc=>⟨hc,rfl,λb hb=>by simp at hb⟩ }
def KC(U:aq)(ks:bR):Nat->Nat->cP:=λg o=>if Nat.beq o 0 && ks.any (Nat.beq g) then some (.fq U (.obj g)) else none
structure Gt(U:aq)(W:aK)(ks:bR):Prop where
 at_:∀k∈ks,∃a,W.cell? ⟨k,0,none⟩=some (.iface U (.pointer (some a)))/\∃cs t,W.heap[a.block]?=some (.cells cs t (0,0))
 two:∀k∈ks,∀k'∈ks,∀a,W.cell? ⟨k,0,none⟩=some (.iface U (.pointer (some a)))->W.cell? ⟨k',0,none⟩=some (.iface U (.pointer (some a)))->k=k'
def YV{U:aq}{ks:bR}{k off:Nat}{v:V}(hv:KC U ks k off=some v):k∈ks/\off=0/\v=.fq U (.obj k):=by
 unfold KC at hv;split at hv<;>simp only[aR,reduceCtorEq] at hv;rename_i hb;rw[cR] at hb;obtain⟨x,hx,hkx⟩:=List.any_eq_true.1 hb.2;have e2:=gy hkx;subst e2;exact⟨hx,gy hb.1,hv.symm⟩
def UI{U:aq}{W:aK}{k:Nat}{a:Addr}(ha:W.cell? ⟨k,0,none⟩=some (.iface U (.pointer (some a)))):(Ic W).obj k=a:=by simp only[Ic,ha]
def zp8{P:aM}{U:aq}{ks:bR}{W:aK}(h:Gt U W ks):lg P (KC U ks) (Ic W):=by
 refine⟨?_,λk u j hv=>?_⟩
 rotate_left
 ·obtain⟨hk,_,e⟩:=YV hv;cases e;obtain⟨a,ha,hc⟩:=h.at_ _ hk;refine⟨by rw[UI ha];exact hc,λk' u' j' dG e=>?_⟩
  obtain⟨Cn,_,e'⟩:=YV dG;cases e';obtain⟨a',tC,_⟩:=h.at_ _ Cn;rw[UI ha,UI tC] at e;subst e;exact h.two _ hk _ Cn _ ha tC
 intro k off v hv;obtain⟨hk,rfl,rfl⟩:=YV hv;obtain⟨a,ha,_⟩:=h.at_ _ hk;refine⟨_,ha,.fq ?_,rfl⟩;rw[<- UI ha];exact .obj k
def zmJ{P:aM}{gl:Gl}(iQ:P.follows .mixedOrders=true)(gT:xL P)(eV:vQ P)(Fs:sG P gl){n:Nat}{f:FuncId}{args:aA}{bx:dI}{W:aK}{H':Hp}
  (hc:qt P gl n f args ⟨[],[]⟩=some (.ret (.bool true),H')) (ez:lg P gl (Ic W)) (ha:gz (Ic W) 0 args bx):Calls P f bx W λe W'=>e=.returned (.bool true)/\Below W.heap.size W W':=by
 refine Calls.mono (YU iQ gT eV Fs n f args ⟨[],[]⟩ _ _ hc (Ic W) W bx .ret ez (zn2 W) ha) λe W' he=>?_;cases e with
 | returned cv =>
  obtain⟨v,g',h1,h2,h3,_,_⟩:=he;cases h1;cases h3;exact⟨rfl,h2.fr.os,h2.fr.tape,h2.fr.output,h2.fr.size,λc pz=>h2.fr.heap c ⟨pz,λb hb=>by simp at hb,.inl rfl⟩⟩
 | panicked chain =>
  obtain⟨v,cv,g',h1,_⟩:=he;cases h1
 | outgrown=>exact he.elim
def zfn{H:Type}{enc:aq×aS->H}{P:aM}{W W':aK}(hl:laidOutB P=true)(hb:Below W.heap.size W W'):∀{ts:List aq}{vs:dY}{ds:List (DataW H)}{ps:List MemPlace},
  (∀t∈ts,P.readableRec t=true/\t<P.types.size)->DataW.TrodAll enc P W 0 (λ_=>true) true ts vs ds ps->(∀x∈ps,x.block<W.heap.size)->DataW.TrodAll enc P W' 0 (λb=>decide (b<W.heap.size)) true ts vs ds ps
 | [],vs,ds,ps,_,h,_=>by
  cases vs<;>cases ds<;>first|exact h|exact h.elim
 | t::ts,vs,ds,ps,ht,h,bD=>by
  cases vs<;>cases ds<;>first|exact h.elim|skip
  obtain⟨p,q,h1,h2,rfl⟩:=h
  exact⟨p,q,Below.trod hl (ht t (eS ..)).1 (ht t (eS ..)).2 h1 hb λx hx=>bD x (Ck _ hx),
   zfn hl hb (λu hu=>ht u (dB _ hu)) h2 λx hx=>bD x (CA _ hx),rfl⟩
def zn3{H:Type}{enc:aq×aS->H}{P:aM}{f:Func}{s:ChangeSpec}{apart fresh handsOn:Bool}{W W':aK}{args:dI}{ds gs:List (DataW H)}{before:List MemPlace}{tb:aq}
  (KD:s.vars=[]) (hrt:f.resultTypes=#[tb]) (htb:P.underlying tb=some .bool) (hl:laidOutB P=true) (QZ:∀t∈f.params.toList,P.readableRec t=true/\t<P.types.size)
  (p9:s.fn H (ds++[])={ results:=[.lit (.bool true)],args:=ds }) (hW:DataW.Whole enc P f.params.toList s.vars apart W args.toList ds gs before) (hb:Below W.heap.size W W') :
  s.post enc P f apart fresh handsOn false W args (.bool true) W':=by
 have UJ:=hW;obtain⟨p,q,hA,hV,rfl,_,_⟩:=hW;rw[KD] at hV;obtain⟨rfl,rfl⟩:gs=[]/\q=[]:=by
  cases gs with
  | nil=>exact⟨rfl,hV⟩
  | cons g r=>exact absurd hV (by intro h;cases h)
 refine⟨ds,[],_,[],p,[],UJ,?_,?_,?_,hb.frame _,λh=>by cases h⟩
 ·rw[p9,hrt];exact trodAll_mk1 (shut_bool htb true)
 ·rw[p9];exact zfn hl hb QZ hA λx hx=>UJ.lt x (by simpa using hx)
 ·rw[p9,KD];rfl
def UK(P:aM)(x:String×DataW Unit):Bool :=
 match P.globalNamed x.1,x.2 with
 | some g,.iface nm (.ptr _) =>
  (match (P.globals[g]?).map (·.type) with
  | some t=>match P.underlying t with
   | some (.interface _)=>true
   | _=>false
  | none=>false) && nm == "*errors.errorString"
 | _,_=>false
structure l5(P:aM)(w:aK)(ps:List MemPlace)(x:String×DataW Unit)(g t:Nat)(cs:dI)(fuel:Nat)(p:List MemPlace):Prop where
 named:P.globalNamed x.1=some g
 type:(P.globals[g]?).map (·.type)=some t
 var:w.var? P x.1=some cs
 trod:DataW.trod (λ_=>()) P w 0 (λ_=>true) false fuel t cs.toList=some (x.2,p)
 row:∀y∈MemPlace.row ⟨g,0,none⟩ cs.size,y∈ps
 sub:∀y∈p,y∈ps
def l5.more{P:aM}{w:aK}{ps ps':List MemPlace}{x:String×DataW Unit}{g t:Nat}{cs:dI}{fuel:Nat}{p:List MemPlace}(h:l5 P w ps x g t cs fuel p)(hs:∀y∈ps,y∈ps'):l5 P w ps' x g t cs fuel p :=
 {h with row:=λy hy=>hs y (h.row y hy),sub:=λy hy=>hs y (h.sub y hy) }
def Q0{P:aM}{w:aK}:∀{l:List (String×DataW Unit)}{ps:List MemPlace},DataW.LaidVars P w l ps->∀x∈l,∃g t cs fuel p,l5 P w ps x g t cs fuel p
 | [],_,_,x,hx=>by simp at hx
 | (n,d)::r,ps,h,x,hx=>by
  obtain⟨g,t,cs,fuel,p,q,h1,h2,h3,h4,h5,h6⟩:=h;rcases dh.1 hx with rfl|hx
  ·exact⟨g,t,cs,fuel,p,h1,h2,h3,h4,λy hy=>by rw[h6];exact Ck _ (Ck _ hy),λy hy=>by rw[h6];exact Ck _ (CA _ hy)⟩
  ·obtain⟨g',t',cs',f',p',a⟩:=Q0 h5 x hx;exact⟨g',t',cs',f',p',a.more λy hy=>by rw[h6];exact CA _ hy⟩
def zi9{P:aM}{w:aK}:∀{l:List (String×DataW Unit)}{ps:List MemPlace},DataW.LaidVars P w l ps->ps.Nodup->∀x∈l,∀x'∈l,∃g t cs fuel p g' t' cs' KF p',l5 P w ps x g t cs fuel p/\l5 P w ps x' g' t' cs' KF p'/\(g=g'\/∀y∈p,y ∉ p')
 | [],_,_,_,x,hx,_,_=>by simp at hx
 | (n,d)::r,ps,h,hn,x,hx,x',mC=>by
  obtain⟨g,t,cs,fuel,p,q,h1,h2,h3,h4,h5,h6⟩:=h;have hd:l5 P w ps (n,d) g t cs fuel p:=⟨h1,h2,h3,h4,λy hy=>by rw[h6];exact Ck _ (Ck _ hy),λy hy=>by rw[h6];exact Ck _ (CA _ hy)⟩
  have hq:∀y∈q,y∈ps:=λy hy=>by rw[h6];exact CA _ hy
  rw[h6] at hn;obtain⟨_,hnq,Q1⟩:=List.nodup_append.1 hn;rcases dh.1 hx with rfl|hx<;>rcases dh.1 mC with rfl|mC
  ·exact⟨g,t,cs,fuel,p,g,t,cs,fuel,p,hd,hd,.inl rfl⟩
  ·obtain⟨g',t',cs',f',p',a⟩:=Q0 h5 x' mC;exact⟨g,t,cs,fuel,p,g',t',cs',f',p',hd,a.more hq,.inr λy hy YW=>Q1 y (CA _ hy) y (a.sub y YW) rfl⟩
  ·obtain⟨g',t',cs',f',p',a⟩:=Q0 h5 x hx;exact⟨g',t',cs',f',p',g,t,cs,fuel,p,a.more hq,hd,.inr λy hy YW=>Q1 y (CA _ YW) y (a.sub y hy) rfl⟩
  ·obtain⟨g1,t1,Az,f1,p1,g2,t2,HY,f2,p2,a1,a2,a3⟩:=zi9 h5 hnq x hx x' mC;exact⟨g1,t1,Az,f1,p1,g2,t2,HY,f2,p2,a1.more hq,a2.more hq,a3⟩
def YX{P:aM}{U:aq}{W:aK}{ps:List MemPlace}(dP:∀b off,MemPlace.cell b off∈ps->(∃c t,W.heap[b]?=some (.cells c t (0,0)))/\∀u v,W.cell? ⟨b,off,none⟩=some (.iface u v)->Value.okWide P W .any 0 u v)
  (nR:∀u,P.typeName? 3 u=some "*errors.errorString"->u=U) {e:aq} (hU:P.underlying U=some (.pointer e)) (he:0<P.cellsOf e) {x:String×DataW Unit} {k t:Nat} {cs:dI} {fuel:Nat} {p:List MemPlace} (h:l5 P W ps x k t cs fuel p) (hB:UK P x=true) :
  ∃a,W.cell? ⟨k,0,none⟩=some (.iface U (.pointer (some a)))/\MemPlace.cell a.block a.off∈p:=by
 obtain⟨h1,h2,h3,h4,eN,_⟩:=h;unfold UK at hB;rw[h1] at hB;split at hB<;>try (cases hB;done)
 rename_i g' nm d' Kr Cq;cases Kr;rw[h2] at hB;simp only[cR] at hB;obtain⟨Mw,Fy⟩:=hB;split at Mw<;>try (cases Mw;done)
 rename_i ms hti;have Q2:nm= "*errors.errorString":=by simpa using Fy
 subst Q2;rw[Cq] at h4;cases fuel with
 | zero=>simp[DataW.trod] at h4
 | succ fuel =>
  obtain⟨l0⟩:=cs;simp only[DataW.trod,hti] at h4;have key:∃u v,l0=[.iface u v]/\P.typeName? 3 u=some "*errors.errorString"/\∃d2,DataW.trod (λ_=>()) P W 0 (λ_=>true) false fuel u v.cells.toList=some (.ptr d2,p):=by
   match l0,h4 with
   | [.iface u v],h4 =>
    simp only at h4;split at h4<;>try (cases h4;done)
    rename_i name nR;obtain⟨x1,ud,uG⟩:=l8.1 h4;simp only[bS,DataW.iface.injEq] at uG;refine⟨u,v,rfl,by rw[nR,uG.1.1],d',?_⟩
    rw[ud,<- uG.1.2,<- uG.2]
   | [.nilIface],h4=>simp at h4
   | [],h4=>simp at h4
   | _::_::_,h4=>simp at h4
  obtain⟨u,v,rfl,hn,d2,Jh⟩:=key;have hu:u=U:=nR u hn;subst hu;have Ct:W.cell? ⟨k,0,none⟩=some (.iface u v):=by
   have:=World.var?_cell h1 h3 0;simpa using this
  have hvo:=(dP k 0 (eN _ (by simp[MemPlace.row]))).2 u v Ct
  have hva:∃a,v=.pointer (some a):=by
   simp only[Value.okWide,hU,Cell.okWide] at hvo;cases fuel with
   | zero=>simp[DataW.trod] at Jh
   | succ fuel =>
    simp only[DataW.trod,hU] at Jh;cases v<;>simp[Cell.ok,hU] at hvo;rename_i oa;cases oa with
    | none=>simp[Value.cells] at Jh
    | some a=>exact⟨a,rfl⟩
  obtain⟨a,rfl⟩:=hva;refine⟨a,Ct,?_⟩;cases fuel with
  | zero=>simp[DataW.trod] at Jh
  | succ fuel =>
   have ht3:DataW.trod (λ_=>()) P W 0 (λ_=>true) false (fuel+1) u [.pointer (some a)]=some (.ptr d2,p):=Jh;simp only[DataW.trod,hU] at ht3;obtain⟨z,OC,KG⟩:=l8.1 ht3;simp only[bS] at KG;rw[<- KG.2];exact Ck _ (by simp only[MemPlace.row,ni,FQ];exact⟨0,he,rfl⟩)
def zhL{P:aM}{U:aq}{W:aK}{l:List (String×DataW Unit)}(h:laidMet P l W)(nR:∀u,P.typeName? 3 u=some "*errors.errorString"->u=U) {e:aq} (hU:P.underlying U=some (.pointer e)) (he:0<P.cellsOf e):Gt U W ((l.filter (UK P)).filterMap (λx=>P.globalNamed x.1)):=by
 obtain⟨ps,hv,uX,dP⟩:=h;refine⟨λk hk=>?_,λk hk k' Cn a ha tC=>?_⟩
 ·obtain⟨x,mC,Mx⟩:=List.mem_filterMap.1 hk;obtain⟨hx,hB⟩:=List.mem_filter.1 mC;obtain⟨g,t,cs,fuel,p,h1⟩:=Q0 hv x hx;have:=h1.named;rw[this] at Mx;cases Mx;obtain⟨a,h2,h3⟩:=YX dP nR hU he h1 hB;exact⟨a,h2,(dP _ _ (h1.sub _ h3)).1⟩
 ·obtain⟨x,Fp,Mx⟩:=List.mem_filterMap.1 hk;obtain⟨hx,hB⟩:=List.mem_filter.1 Fp;obtain⟨x',YY,Q3⟩:=List.mem_filterMap.1 Cn;obtain⟨mC,hB'⟩:=List.mem_filter.1 YY;obtain⟨g,t,cs,fuel,p,g',t',cs',KF,p',h1,Fl,h2⟩:=zi9 hv uX x hx x' mC;have e1:=h1.named;rw[e1] at Mx;cases Mx;have IX:=Fl.named;rw[IX] at Q3;cases Q3;rcases h2 with h2|h2
  ·exact h2
  ·obtain⟨b,c1,c2⟩:=YX dP nR hU he h1 hB;obtain⟨b',uc,XL⟩:=YX dP nR hU he Fl hB';rw[ha] at c1;rw[tC] at uc;cases c1;cases uc;exact absurd XL (h2 _ c2)
end
section
open Go.ChangeShapes Go.WideShapes Go.ChangeAt Go.RowKit
def zsx(g:Gh)(x:V)(v:aS):Prop:=x.one=true/\aQ g x v/\x.top=0/\∀sz ys e,x≠.sl sz ys (.yes e)
def RC(g:Gh):aA->dY->Prop
 | [],[]=>True
 | x::xs,v::vs=>zsx g x v/\RC g xs vs
 | _,_=>False
def RC.append{g:Gh}:∀{xs ys:aA}{vs us:dY},RC g xs vs->RC g ys us->RC g (xs++ys) (vs++us)
 | [],_,[],_,_,h=>h
 | _::_,_,_::_,_,h,k=>⟨h.1,RC.append h.2 k⟩
 | [],_,_::_,_,h,_=>h.elim
 | _::_,_,[],_,h,_=>h.elim
def RC.length{g:Gh}:∀{xs:aA}{vs:dY},RC g xs vs->xs.length=vs.length
 | [],[],_=>rfl
 | _::_,_::_,h=>by simp[RC.length h.2]
 | [],_::_,h=>h.elim
 | _::_,[],h=>h.elim
def RC.get{g:Gh}:∀{xs:aA}{vs:dY},RC g xs vs->∀(j:Nat)(x:V),xs[j]?=some x->∃v,vs[j]?=some v/\zsx g x v
 | [],[],_,j,x,hx=>by simp at hx
 | y::ys,u::us,h,0,x,hx=>by
  simp only[Ba,aR] at hx;subst hx;exact⟨u,rfl,h.1⟩
 | y::ys,u::us,h,j+1,x,hx=>RC.get h.2 j x (by simpa using hx)
 | [],_::_,h,_,_,_=>h.elim
 | _::_,[],h,_,_,_=>h.elim
end
def zey{P:aM}{f:FuncId}{fn:Func}{e:dI->Sem aS}{args:dI}{w w':aK}{v:aS}(hf:P.funcs[f]?=some fn)(nR:(fn.name == "runtime.NumGoroutine")=false) (hb:fn.body=none) (hn:Extern.findNext fn=none) (he:Extern.find fn=some e)
  (hr:(e args).run P w=.ok v w'):(callFunc f args).run P w=.ok (.value v) w':=by
 unfold callFunc;have cG:¬fn.name= "runtime.NumGoroutine":=by simpa using nR
 simp[hf,cG,hb,hn,he,hr]
def idx_eq:∀(s:bR)(c:Nat),(∀b∈s,b<256)->c<256->Lib.indexByte (s.map UInt8.ofNat) c.toUInt8=(match s.findIdx? (λ(b:Nat)=>Nat.beq b c) with|some i=>(i:Int)|none=>-1)
 | [],c,_,_=>rfl
 | b::s,c,hs,hc=>by
  have ih:=idx_eq s c (λx hx=>hs x (dB _ hx)) hc;have hb:=hs b (eS ..);simp only[bW,Lib.indexByte,List.findIdx?_cons];have e:(UInt8.ofNat b == c.toUInt8)=Nat.beq b c:=by
   cases h:Nat.beq b c with
   | true =>
    have:=gy h;subst this;simp
   | false =>
    have:=Nat.ne_of_beq_eq_false h;rw[beq_eq_false_iff_ne];intro he;have:=congrArg UInt8.toNat he;simp at this;omega
  rw[e,ih];cases Nat.beq b c with
  | true=>rfl
  | false =>
   simp only[dF,bZ];cases hfi:s.findIdx? (λ(b:Nat)=>Nat.beq b c) with
   | none=>simp
   | some i =>
    simp only[bG];have:((i:Int) == -1)=false:=by rw[beq_eq_false_iff_ne];omega
    rw[this];simp
def zmK{P:aM}{k:FuncId}{fk:Func}(Gu:(List.range P.funcs.size).all (λf=>match P.funcs[f]? with|some fn=>fn.name != "internal/bytealg.IndexByteString" || f == k|none=>true)=true)
  (hfk:P.funcs[k]?=some fk) (nR:(fk.name == "runtime.NumGoroutine")=false) (hn:Extern.findNext fk=none) (he:Extern.find fk=some Extern.BytealgIndexByte.indexByte):vQ P:=by
 intro f fn args v hf hb hp g n bx w ha;unfold Xr at hp;split at hp<;>try (cases hp;done)
 rename_i nm l s c Q2;split at hp<;>try (cases hp;done)
 rename_i hc;simp only[aR] at hp;have bD:f<P.funcs.size:=(sQ.1 hf).1;have h1:=Fc.1 Gu f (FQ.2 bD);rw[hf] at h1;have YZ:f=k:=by
  simp only[Q2,bne_self_eq_false,eI] at h1;simpa using h1
 subst YZ;rw[hf] at hfk;cases hfk;obtain⟨al,ar,_,_⟩:=ha
 match bx,al,ar with
 | ⟨[c0,c1]⟩,_,ar =>
  have r0:=ar 0 _ c0 rfl rfl;have r1:=ar 1 _ c1 rfl rfl;cases r1;have hs:∀b∈s,b<256:=by cases r0;assumption
  cases r0;refine⟨_,zey hf nR hb hn he (Lib.run_indexByteString (bytes s) c w),?_,by rw[<- hp];rfl,λ_ _=>by rw[<- hp];trivial⟩
  have e1:(bytes s).data.toList=s.map UInt8.ofNat:=by simp[bytes]
  rw[e1,idx_eq s c.toNat hs (by omega),<- hp]
  exact .int _ _
 | ⟨[]⟩,al,_=>simp at al
 | ⟨[_]⟩,al,_=>simp at al
 | ⟨_::_::_::_⟩,al,_=>simp at al
def zte(P:aM):Bool:=P.funcs.toList.all λfn=>!(fn.name == "runtime.NumGoroutine")
def zn4{P:aM}(h:zte P=true):xL P:=λf fn hf=>by
 have:=Fc.1 h fn (by
  have:=Array.mem_of_getElem? hf
  simpa using this)
 simpa using this
section
open Go.ChangeShapes Go.WideShapes Go.ChangeAt Go.RowKit
def zkF{d n:Nat}{g:Gh}{w w':aK}(hb:Below w.heap.size w w'):lS d none none n g w g w' :=
 ⟨.refl _ _,λc hc _ _=>hb.block c hc,λ_ _ _=>rfl,λ_ _ _ _=>rfl,hb.size,λ_ _ _=>rfl,λ_ h=>(by cases h),λ_ h=>(by cases h),λ_ _ _ _=>rfl,hb.os,hb.tape,hb.output⟩
def zkG{w w':aK}(hb:Below w.heap.size w w'){c o:Nat}{v:aS}(h:w.cell? ⟨c,o,none⟩=some v):w'.cell? ⟨c,o,none⟩=some v:=by
 have hc:c<w.heap.size:=by
  rcases lP c w.heap.size with hc|hc
  ·exact hc
  ·have:w.heap[c]?=none:=Array.getElem?_eq_none hc;simp[World.cell?,this] at h
 have:=hb.block c hc;simp only[World.cell?,this] at h ⊢;exact h
def zeg{d:Nat}{H:Hp}{g:Gh}{w w':aK}(hw:rj g H.aj w)(hb:Below w.heap.size w w'):lZ d H g w H g w' where
 cN :=
  {mem:=λc o v h=>zkG hb (hw.mem c o v h)
   lt:=λb h=>oY (hw.lt b h) hb.size
   inj:=hw.inj
   apart:=hw.apart
   eK:=λc l h=>oY (hw.eK c l h) hb.size
   dN:=hw.dN
   ok:=λb x hx=>by
    have bD:b<H.aj.length:=(eE.1 hx).1;exact gG.same (d:=d) (zkF hb) (by simp) bD (hw.lt b bD) (hw.dN b bD) (λ_ h=>by cases h) (λc h1 h2=>by omega) (hw.aI b x hx) (hw.ok b x hx)
   aI:=hw.aI
   laid:=λc hc=>by
    obtain⟨⟨cs,t,h1⟩,h2⟩:=hw.laid c hc
    exact⟨⟨cs,t,by rw[hb.block c (sQ.1 h1).1];exact h1⟩,h2⟩ }
 fr:=⟨.refl _ _,λc hc=>hb.block c hc.1,λ_ _=>rfl,λ_ _ _=>rfl,hb.size,λ_ _ _=>rfl,hb.os,hb.tape,hb.output⟩
 len:=ek _
 dA:=λb h1 h2=>by omega
 aW:=λb x hx=>.inr (.inr ⟨x,hx,ek _⟩)
 uA:=λ_ h=>h
 gR:=λ_ _ h=>h
end
section
def Gh.bare(g:Gh):Gh:={ g with own:=λ_=>none }
def Gh.over(n:Nat)(g g':Gh):Gh :=
 {M:=λc o=>if c<n then g.M c o else g'.M c o,bM:=g.bM,obj:=g.obj,own:=λc=>if c<n then g.own c else g'.own c,lk:=g.lk,gC:=g.gC }
def zcS{w:aK}{c o:Nat}{v:aS}(h:w.cell? ⟨c,o,none⟩=some v):c<w.heap.size:=by
 rcases lP c w.heap.size with hc|hc
 ·exact hc
 ·have:w.heap[c]?=none:=Array.getElem?_eq_none hc;simp[World.cell?,this] at h
variable{P:aM}{gl:Gl}{d:Nat}{H:Hp}{g g':Gh}{w w':aK}
def zja{bs:List br}(hw:rj g bs w):rj g.bare [] w :=
 {mem:=hw.mem,lt:=λb h=>by simp at h,inj:=λb _ h=>by simp at h,apart:=λb h=>by simp at h,eK:=(λc l h=>by cases h),dN:=λb h=>by simp at h,ok:=λb x h=>by simp at h,aI:=λb x h=>by simp at h,laid:=λc hc=>⟨(hw.laid c hc).1,rfl,λb hb=>by simp at hb⟩ }
def sX:Gh.Le 0 g g.bare:=⟨λ_ _ _ h=>h,λb h=>by omega,rfl,λ_ _ _ h=>by omega⟩
def wH{dd:Nat}(hf:Fr dd [] g.bare w g' w'){c:Nat}(hc:c<w.heap.size):w'.heap[c]?=w.heap[c]?/\g'.own c=none/\∀o,g'.M c o=g.M c o:=by
 have hp:rm dd ([]:List br).length g.bare w c:=⟨hc,λb hb=>by simp at hb,.inl rfl⟩
 exact⟨hf.heap c hp,hf.own c hp,hf.M c hp⟩
def zn5{dd:Nat}(hf:Fr dd [] g.bare w g' w'):Gh.Le 0 g' (Gh.over w.heap.size g g'):=by
 refine⟨λc o v h=>?_,λb h=>by omega,hf.le.obj.symm,λ_ _ _ h=>by omega⟩
 simp only[Gh.over];split
 next hc=>rw[<- (wH hf hc).2.2 o];exact h
 ·exact h
def zgH{n dd:Nat}{bs:List br}(hw:rj g bs w)(hf:Fr dd [] g.bare w g' w'):lS d none none n g w (Gh.over w.heap.size g g') w':=by
 refine⟨⟨λc o v h=>?_,λ_ _=>rfl,rfl,λ_ _ _ _ h=>h⟩,λc hc _ _=>(wH hf hc).1,λc hc _=>by simp[Gh.over,hc],λc hc _ o=>by simp[Gh.over,hc],hf.size,λ_ _ _=>rfl,λ_ h=>(by cases h),λ_ h=>(by cases h),λ_ _ _ _=>rfl,hf.os,hf.tape,hf.output⟩
 have:=zcS (hw.mem c o v h);simp[Gh.over,this,h]
def zkH{dd:Nat}(hw:rj g H.aj w){sj:List br}(Ie:rj g' sj w')(hf:Fr dd [] g.bare w g' w'):lZ d H g w H (Gh.over w.heap.size g g') w' where
 cN :=
  {mem:=λc o v h=>by
    simp only[Gh.over] at h;split at h
    next hc=>have h0:=hw.mem c o v h;simp only[World.cell?,(wH hf hc).1] at h0 ⊢;exact h0
    ·exact Ie.mem c o v h
   lt:=λb h=>oY (hw.lt b h) hf.size
   inj:=hw.inj
   apart:=λb h o=>by simp only[Gh.over,hw.lt b h,aU];exact hw.apart b h o
   eK:=λc l h=>by
    simp only[Gh.over] at h;split at h
    ·exact oY (hw.eK c l h) hf.size
    ·exact Ie.eK c l h
   dN:=λb h=>by simp only[Gh.over,hw.lt b h,aU];exact hw.dN b h
   ok:=λb x hx=>by
    have bD:b<H.aj.length:=(eE.1 hx).1;exact gG.same (d:=d) (zgH hw hf) (by simp) bD (hw.lt b bD) (hw.dN b bD) (λ_ h=>by cases h) (λc h1 h2=>by omega) (hw.aI b x hx) (hw.ok b x hx)
   aI:=hw.aI
   laid:=λc hc=>by
    obtain⟨⟨cs,t,h1⟩,h2,h3⟩:=hw.laid c hc;have bD:=(sQ.1 h1).1
    exact⟨⟨cs,t,by rw[(wH hf bD).1];exact h1⟩,by simp only[Gh.over,bD,aU];exact h2,h3⟩ }
 fr:=⟨(zgH (d:=d) (n:=H.aj.length) hw hf).le,λc hc=>(wH hf hc.1).1,λc hc=>by simp[Gh.over,hc.1],λc hc o=>by simp[Gh.over,hc.1],hf.size,λ_ _ _=>rfl,hf.os,hf.tape,hf.output⟩
 len:=ek _
 dA:=λb h1 h2=>by omega
 aW:=λb x hx=>.inr (.inr ⟨x,hx,ek _⟩)
 uA:=λ_ h=>h
 gR:=λ_ _ h=>h
def zn6{dd:Nat}(hw:rj g H.aj w)(hf:Fr dd [] g.bare w g' w'){n:Nat}{l:Loc}{v:V}{cv:aS}(h:c_ g' n w' l v cv):c_ (Gh.over w.heap.size g g') H.aj.length w' l v cv:=by
 unfold c_ at *;split
 ·rename_i sz xs e;have h':iy g' n w' l e sz xs.length cv:=h;obtain⟨vs,h1,h2⟩:=h';refine⟨vs,h1,λc hc=>?_⟩;have Du:¬c<w.heap.size:=λbD=>by
   have:=(h2 c hc).1;rw[(wH hf bD).2.1] at this;cases this
  refine⟨by simp only[Gh.over,Du,bZ];exact(h2 c hc).1,(h2 c hc).2.1.eq λo=>by simp only[Gh.over,Du,bZ],λb hb e=>?_⟩
  have:=hw.lt b hb;rw[show(Gh.over w.heap.size g g').bM b=g.bM b from rfl] at e;omega
 ·trivial
def Q5(iQ:P.follows .mixedOrders=true)(gT:xL P)(eV:vQ P)(Fs:sG P gl){n:Nat}{f:FuncId}{args:aA}{v:V}{H':Hp}
  (hc:qt P gl n f args ⟨[],[]⟩=some (.ret v,H')) (ht:aI args=0) (hv:v.top=0) {bx:dI} {l:Loc} (h1:lg P gl g) (h2:rj g H.aj w) (h3:gz g H.aj.length args bx) :
  Calls P f bx w (hO d H g w l (.ret v) H):=by
 refine Calls.mono (YU iQ gT eV Fs n f args ⟨[],[]⟩ _ _ hc g.bare w bx l (h1.le sX) (zja h2) ⟨h3.len,λj x c hx mY=>(h3.rel j x c hx mY).le sX (cZ (qg (qI hx)) (by omega)),by simp[ht],h3.no⟩) λe w' he=>?_
 cases e with
 | returned cv =>
  obtain⟨v',g',e1,e2,e3,e4,_⟩:=he;cases e1;exact⟨v,_,rfl,zkH h2 e2.cN e2.fr,e3.le (zn5 e2.fr) (by omega),zn6 h2 e2.fr e4,by omega⟩
 | panicked chain =>
  obtain⟨v',cv,g',e1,_⟩:=he;cases e1
 | outgrown=>exact he.elim
abbrev so:=List (FuncId×aA×V)
def pQ:so->FuncId->aA->cP
 | [],_,_=>none
 | (f,xs,v)::r,f',ys=>match Nat.beq f' f with
  | true=>match gV ys xs with
   | true=>some v
   | false=>pQ r f' ys
  | false=>pQ r f' ys
def xO(P:aM)(g0:Nat->Nat->cP)(l:so):Prop:=sG P { g:=g0,hk:=pQ l }
def zgI{g0:Nat->Nat->cP}:xO P g0 []:=⟨λf args v h=>(by cases h),λn f args H out H' h=>(by cases h),λ_ _ _ _ h=>(by cases h)⟩
def zmL{a b:aA}(h:gV a b=true):a=b:=by
 have:V.same (.bz a) (.bz b)=true:=h;have:=V.iH this;cases this;rfl
structure My where
 n:Nat
 f:FuncId
 args:aA
 H:Hp
 out:Out
 H':Hp
def zrH(a b:Hp):Bool:=iV a.aW b.aW && lF a.aj b.aj
def BJ:List My->Nat->FuncId->aA->Hp->Option (Out×Hp)
 | [],_,_,_,_=>none
 | m::r,n,f,args,H=>match Nat.beq f m.f with
  | true=>match Nat.ble m.n (n+1) && (gV args m.args && zrH H m.H) with
   | true=>some (m.out,m.H')
   | false=>BJ r n f args H
  | false=>BJ r n f args H
def zlw(P:aM)(g0:Nat->Nat->cP)(l:so)(ms:List My):Prop:=sG P { g:=g0,hk:=pQ l,iA:=BJ ms }
def zkI(iQ:P.follows .mixedOrders=true)(gT:xL P)(eV:vQ P){g0:Nat->Nat->cP}{l:so}{ms:List My}(hl:zlw P g0 l ms){n:Nat}{f:FuncId}{args:aA}{v:V}{H':Hp}
  {uq:aq->Bool} (hc:qt P { g:=g0,hk:=pQ l,uq:=uq,iA:=BJ ms } n f args ⟨[],[]⟩=some (.ret v,H')) (ht:aI args=0) (hv:v.top=0) (hit:Uu P uq:=by intro _ _ _ _ h;cases h):zlw P g0 ((f,args,v)::l) ms:=by
 refine⟨λf' lI v' h d H g w bx lc h1 h2 h3=>?_,hl.heap,hl.it⟩;simp only[pQ] at h;cases hb:Nat.beq f' f with
 | false=>rw[hb] at h;exact hl.pure f' lI v' h d H g w bx lc h1 h2 h3
 | true =>
  rw[hb] at h;cases hs:gV lI args with
  | false=>rw[hs] at h;exact hl.pure f' lI v' h d H g w bx lc h1 h2 h3
  | true =>
   rw[hs] at h;cases h;have:=gy hb;subst this;have:=zmL hs;subst this;exact Q5 (gl:={ g:=g0,hk:=pQ l,uq:=uq,iA:=BJ ms }) iQ gT eV ⟨hl.pure,hl.heap,hit⟩ hc ht hv h1 h2 h3
def lZ.mono{d d':Nat}(h:d<=d'){H H':Hp}{g g':Gh}{w w':aK}(hA:lZ d H g w H' g' w'):lZ d' H g w H' g' w':={ hA with fr:=hA.fr.mono h }
def hO.mono{d d':Nat}(h:d<=d'){H H':Hp}{g:Gh}{w w':aK}{l:Loc}{out:Out}{e:Ending}(hp:hO d H g w l out H' e w'):hO d' H g w l out H' e w':=by
 cases e with
 | returned cv =>
  obtain⟨v,g',h1,h2,h3,h4,h5⟩:=hp;exact⟨v,g',h1,h2.mono h,h3,h4,h5⟩
 | panicked chain =>
  obtain⟨v,cv,g',h1,h2,h3,h4⟩:=hp;exact⟨v,cv,g',h1,h2,h3.mono h,h4⟩
 | outgrown=>exact hp.elim
def xj(iQ:P.follows .mixedOrders=true)(gT:xL P)(eV:vQ P){g0:Nat->Nat->cP}{l:so}(hl:xO P g0 l){n:Nat}{f:FuncId}{args:aA}{v:V}{H':Hp}
  {uq:aq->Bool} (hc:qt P { g:=g0,hk:=pQ l,uq:=uq } n f args ⟨[],[]⟩=some (.ret v,H')) (ht:aI args=0) (hv:v.top=0) (hit:Uu P uq:=by intro _ _ _ _ h;cases h):xO P g0 ((f,args,v)::l) :=
 zkI (ms:=[]) iQ gT eV hl hc ht hv hit
end
section
def Gh.BK(n:Nat)(g:Gh)(w':aK):Gh :=
 {M:=λc o=>if c<n then g.M c o else w'.cell? ⟨c,o,none⟩,bM:=g.bM,obj:=g.obj,own:=λc=>if c<n then g.own c else none,lk:=g.lk,gC:=g.gC }
variable{P:aM}{gl:Gl}{d:Nat}{H:Hp}{g g':Gh}{w w':aK}
def zp9{dd:Nat}{sj:List br}(Ie:rj g' sj w')(hf:Fr dd [] g.bare w g' w'):Gh.Le 0 g' (Gh.BK w.heap.size g w'):=by
 refine⟨λc o v h=>?_,λb h=>by omega,hf.le.obj.symm,λ_ _ _ h=>by omega⟩
 simp only[Gh.BK];split
 next hc=>rw[<- (wH hf hc).2.2 o];exact h
 ·exact Ie.mem c o v h
def zjb{n dd:Nat}{bs:List br}(hw:rj g bs w)(hf:Fr dd [] g.bare w g' w'):lS d none none n g w (Gh.BK w.heap.size g w') w':=by
 refine⟨⟨λc o v h=>?_,λ_ _=>rfl,rfl,λ_ _ _ _ h=>h⟩,λc hc _ _=>(wH hf hc).1,λc hc _=>by simp[Gh.BK,hc],λc hc _ o=>by simp[Gh.BK,hc],hf.size,λ_ _ _=>rfl,λ_ h=>(by cases h),λ_ h=>(by cases h),λ_ _ _ _=>rfl,hf.os,hf.tape,hf.output⟩
 have:=zcS (hw.mem c o v h);simp[Gh.BK,this,h]
def zmM{dd:Nat}(hw:rj g H.aj w){sj:List br}(_hw':rj g' sj w')(hf:Fr dd [] g.bare w g' w'):lZ d H g w H (Gh.BK w.heap.size g w') w' where
 cN :=
  {mem:=λc o v h=>by
    simp only[Gh.BK] at h;split at h
    next hc=>have h0:=hw.mem c o v h;simp only[World.cell?,(wH hf hc).1] at h0 ⊢;exact h0
    ·exact h
   lt:=λb h=>oY (hw.lt b h) hf.size
   inj:=hw.inj
   apart:=λb h o=>by simp only[Gh.BK,hw.lt b h,aU];exact hw.apart b h o
   eK:=λc l h=>by
    simp only[Gh.BK] at h;split at h
    ·exact oY (hw.eK c l h) hf.size
    ·cases h
   dN:=λb h=>by simp only[Gh.BK,hw.lt b h,aU];exact hw.dN b h
   ok:=λb x hx=>by
    have bD:b<H.aj.length:=(eE.1 hx).1;exact gG.same (d:=d) (zjb hw hf) (by simp) bD (hw.lt b bD) (hw.dN b bD) (λ_ h=>by cases h) (λc h1 h2=>by omega) (hw.aI b x hx) (hw.ok b x hx)
   aI:=hw.aI
   laid:=λc hc=>by
    obtain⟨⟨cs,t,h1⟩,h2,h3⟩:=hw.laid c hc;have bD:=(sQ.1 h1).1
    exact⟨⟨cs,t,by rw[(wH hf bD).1];exact h1⟩,by simp only[Gh.BK,bD,aU];exact h2,h3⟩ }
 fr:=⟨(zjb (d:=d) (n:=H.aj.length) hw hf).le,λc hc=>(wH hf hc.1).1,λc hc=>by simp[Gh.BK,hc.1],λc hc o=>by simp[Gh.BK,hc.1],hf.size,λ_ _ _=>rfl,hf.os,hf.tape,hf.output⟩
 len:=ek _
 dA:=λb h1 h2=>by omega
 aW:=λb x hx=>.inr (.inr ⟨x,hx,ek _⟩)
 uA:=λ_ h=>h
 gR:=λ_ _ h=>h
inductive AB(H:Hp):V->V->Prop where
 |same {v:V}:v.top=0->AB H v v
 |sr {b off len cap:Nat} {cs:aA} {t:aq}:H.aj[b]?=some (.cells cs t)->aI cs=0->off+len<=cs.length->AB H (.sr b off len cap) (.sl 1 ((cs.drop off).take len) .no)
 |ul {b u len:Nat} {cs:aA} {e:aq}:H.aj[b]?=some (.ul u 1 cs e)->aI cs=0->AB H (.eo b u len) (.sl 1 cs .no)
 |sl {xs ys:aA} {o:Own}:xs.length=ys.length->(∀(j:Nat)(x:V),xs[j]?=some x->x.cells=[x]/\x.one=true)->(∀(j:Nat)(y:V),ys[j]?=some y->y.cells=[y]/\y.one=true)->(∀(j:Nat)(x y:V),xs[j]?=some x->ys[j]?=some y->AB H x y)->AB H (.sl 1 xs o) (.sl 1 ys .no)
 |agg {xs ys:aA}:xs.length=ys.length->(∀(j:Nat)(y:V),ys[j]?=some y->y.one=true)->(∀(j:Nat)(x y:V),xs[j]?=some x->ys[j]?=some y->AB H x y)->AB H (.agg xs) (.agg ys)
 |bz {xs ys:aA}:xs.length=ys.length->(∀(j:Nat)(x y:V),xs[j]?=some x->ys[j]?=some y->AB H x y)->AB H (.bz xs) (.bz ys)
def mJ:∀{xs:aA},(∀(j:Nat)(x:V),xs[j]?=some x->x.cells=[x])->q9 xs=xs
 | [],_=>rfl
 | x::xs,h=>by
  have h0:=h 0 x rfl;have ih:=mJ (xs:=xs) λj y hy=>h (j+1) y hy;simp only[q9,Fb] at ih ⊢;rw[h0,ih];rfl
def UM{x:V}(h:x.one=true):x.cells=[x]:=by
 cases x<;>first|rfl|(simp[V.one,oJ] at h)
def AB.top{v v':V}(h:AB H v v'):v'.top=0:=by
 have hz:∀{l:aA},(∀y∈l,y.top=0)->aI l=0:=λ{l} hl=>Nat.le_zero.1 (j7 λy hy=>by rw[hl y hy];exact ek _)
 induction h with
 | same h=>exact h
 | sr hb hc hl =>
  simp only[V.top];refine hz λy hy=>?_;have:=qg (Cj (CB hy));omega
 | ul hb hc=>simp only[V.top];exact hc
 | sl hl h1 h2 h3 ih =>
  simp only[V.top];refine hz λy hy=>?_;obtain⟨j,hj,e⟩:=List.getElem_of_mem hy;exact ih j _ y (mq (by omega)) (by rw[mq hj,e])
 | agg hl h1 h2 ih =>
  simp only[V.top];refine hz λy hy=>?_;obtain⟨j,hj,e⟩:=List.getElem_of_mem hy;exact ih j _ y (mq (by omega)) (by rw[mq hj,e])
 | bz hl h2 ih =>
  simp only[V.top];refine hz λy hy=>?_;obtain⟨j,hj,e⟩:=List.getElem_of_mem hy;exact ih j _ y (mq (by omega)) (by rw[mq hj,e])
def AB.Y0{H':Hp}{G:Gh}(Ie:rj g' H'.aj w')(hle:Gh.Le 0 g' G)(eC:∀b,b<H'.aj.length->∀o v,w'.cell? ⟨g'.bM b,o,none⟩=some v->G.M (g'.bM b) o=some v)
  (eN:∀b c,b<H'.aj.length->(c=g'.bM b\/g'.own c=some (.cell b 0))->∀o v,w'.cell? ⟨c,o,none⟩=some v->G.M c o=some v) {v v':V} (h:AB H' v v'):∀{cv:aS},aQ g' v cv->aQ G v' cv:=by
 induction h with
 | same h=>intro cv hr;exact hr.le hle (by omega)
 | sr hb hc hl =>
  rename_i b off len cap cs t;intro cv hr;cases hr with
  | sr pF =>
   have bD:b<H'.aj.length:=(eE.1 hb).1;obtain⟨arr,h1,h2,h3⟩:=Ie.ok b _ hb;have hlen:((cs.drop off).take len).length=len:=by simp;omega
   have iL:∀(j:Nat)(x:V),((cs.drop off).take len)[j]?=some x->cs[off+j]?=some x/\j<len:=λj x hx=>by
    rw[um] at hx;split at hx
    ·rw[FP] at hx;exact⟨hx,by assumption⟩
    ·cases hx
   have Au:∀(j:Nat)(x:V),((cs.drop off).take len)[j]?=some x->x.one=true/\∃a,arr[off+j]?=some a/\aQ g' x a:=λj x hx=>by
    obtain⟨e1,e2⟩:=iL j x hx;have hj:off+j<arr.size:=by rw[<- h2];exact(eE.1 e1).1
    have:=h3 (off+j) x _ e1 (FM hj);exact⟨this.1,_,FM hj,this.2.1⟩
   have mO:q9 ((cs.drop off).take len)=(cs.drop off).take len:=mJ λj x hx=>UM (Au j x hx).1;have:=aQ.sl (g:=G) (sz:=1) (xs:=(cs.drop off).take len) (ow:=.no) (a:=some ⟨g'.bM b,off,none⟩) (cap:=cap) (c:=g'.bM b) (o:=off) (λj=>arr[off+j]?.getD (.bool false))
    (λx hx=>by
     obtain⟨j,hj,e⟩:=List.getElem_of_mem hx
     rw[UM (Au j x (by rw[mq hj,e])).1];rfl)
    (by rw[hlen];exact pF) (λ_=>rfl)
    (λj x hx=>(Au j x (by rwa [mO] at hx)).1)
    (λj x hx=>by
     rw[mO] at hx;obtain⟨_,a,ha,_⟩:=Au j x hx;refine eC b bD _ _ ?_;simp only[World.cell?,h1,ha]
     simp[])
    (λj x hx=>by
     rw[mO] at hx;obtain⟨_,a,ha,hr⟩:=Au j x hx;simp only[ha,t_];refine hr.le hle ?_;have:=qg (Cj (CB (nF hx)))
     omega)
   rw[hlen] at this;exact this
 | ul hb hc =>
  rename_i b u len cs e;intro cv hr;have bD:b<H'.aj.length:=(eE.1 hb).1;obtain⟨c,l0,cap,vs,hu⟩:=Ie.ok b _ hb;cases hr with
  | eo hh =>
   rw[hu.gC] at hh;cases hh;obtain⟨DD,hr|⟨c',oM,cur,hv,h0,nx,h5,h6,h7,h8⟩⟩:=hu.row
   ·cases hr.1
   cases hv;have hlen:cs.length=len:=by rw[hu.len,DD,LL]
   have FZ:∀(j:Nat)(x:V),cs[j]?=some x->∃v,vs[j]?=some v/\x.one=true/\aQ g' x v/\w'.cell? ⟨c,j,none⟩=some v:=λj x hx=>by
    have hj:=(eE.1 hx).1;obtain⟨v0,OD⟩:∃v0,vs[j]?=some v0:=⟨vs[j]'(by rw[<- hu.len];exact hj),mq _⟩
    obtain⟨k1,k2⟩:=hu.cells j x _ hx OD;refine⟨_,OD,k1,k2,?_⟩;rw[<- h8,um] at OD;split at OD<;>try (cases OD;done)
    rw[cell_of_row w' c j cur e (0,0) nx];simpa using OD
   have mO:q9 cs=cs:=mJ λj x hx=>UM (FZ j x hx).choose_spec.2.1;rw[<- hlen];refine .sl (sz:=1) (xs:=cs) (ow:=.no) (c:=c) (o:=0) (λj=>vs[j]?.getD (.bool false)) (λx hx=>?_) (by rw[hlen];exact h5) (λ_=>rfl) (λj x hx=>?_) (λj x hx=>?_) (λj x hx=>?_)
   ·obtain⟨j,hj⟩:=List.getElem?_of_mem hx;rw[UM (FZ j x hj).choose_spec.2.1];rfl
   ·rw[mO] at hx;exact(FZ j x hx).choose_spec.2.1
   ·rw[mO] at hx;obtain⟨v,k0,_,_,k3⟩:=FZ j x hx;rw[k0,cK];exact eN b c bD hu.An j v k3
   ·rw[mO] at hx;obtain⟨v,k0,_,k2,_⟩:=FZ j x hx;rw[k0];exact k2.le hle (by have:=qg (qI hx);omega)
 | sl hl h1 h2 h3 ih =>
  rename_i xs ys o;intro cv hr;have hfx:q9 xs=xs:=mJ λj x hx=>(h1 j x hx).1;have OB:q9 ys=ys:=mJ λj y hy=>(h2 j y hy).1;cases hr with
  | sl f e1 e2 e3 e4 e5 e6 =>
   rw[hfx] at e4 e5 e6;rw[hl];have hx:∀(j:Nat)(y:V),ys[j]?=some y->∃x,xs[j]?=some x:=λj y hy=>⟨_,mq (by rw[hl];exact(eE.1 hy).1)⟩
   refine .sl f (λy hy=>?_) (by rw[<- hl];exact e2) (λcG=>e3 λe=>cG (Kh (by rw[<- hl,e];rfl))) (λj y hy=>?_) (λj y hy=>?_) (λj y hy=>?_)
   ·obtain⟨j,hj,e⟩:=List.getElem_of_mem hy;rw[(h2 j y (by rw[mq hj,e])).1];rfl
   ·rw[OB] at hy;exact(h2 j y hy).2
   ·rw[OB] at hy;obtain⟨x,hx⟩:=hx j y hy;exact hle.M _ _ _ (e5 j x hx)
   ·rw[OB] at hy;obtain⟨x,hx⟩:=hx j y hy;exact ih j x y hx hy (e6 j x hx)
 | agg hl h1 h2 ih =>
  rename_i xs ys;intro cv hr;cases hr with
  | agg e1 e2 e3 =>
   refine .agg (by rw[<- hl,e1]) (λj y hy=>h1 j y hy) λj y v hy hv=>?_
   have Q6:xs[j]?=some (xs[j]'(by rw[hl];exact(eE.1 hy).1)):=mq _
   exact ih j _ y Q6 hy (e3 j _ v Q6 hv)
 | bz hl h2 ih =>
  rename_i xs ys;intro cv hr;cases hr with
  | bz e1 e3 =>
   refine .bz (by rw[<- hl,e1]) λj y v hy hv=>?_
   have Q6:xs[j]?=some (xs[j]'(by rw[hl];exact(eE.1 hy).1)):=mq _
   exact ih j _ y Q6 hy (e3 j _ v Q6 hv)
def AB.rel{dd:Nat}{H':Hp}(Ie:rj g' H'.aj w')(hf:Fr dd [] g.bare w g' w')(gm:∀b,b<H'.aj.length->w.heap.size<=g'.bM b){v v':V}(h:AB H' v v'){cv:aS}(hr:aQ g' v cv):aQ (Gh.BK w.heap.size g w') v' cv:=by
 refine h.Y0 Ie (zp9 Ie hf) (λb hb o v hv=>?_) (λb c hb hc o v hv=>?_) hr
 ·simp only[Gh.BK,if_neg (Nat.not_lt.2 (gm b hb))];exact hv
 ·have Du:¬c<w.heap.size:=λbD=>by
   rcases hc with e|e
   ·have:=gm b hb;omega
   ·rw[(wH hf bD).2.1] at e;cases e
  simp only[Gh.BK,if_neg Du];exact hv
def zrI(iQ:P.follows .mixedOrders=true)(gT:xL P)(eV:vQ P)(Fs:sG P gl){n:Nat}{f:FuncId}{args:aA}{v v':V}{H':Hp}
  (hc:qt P gl n f args ⟨[],[]⟩=some (.ret v,H')) (ht:aI args=0) (hv:AB H' v v') (mu:∀sz xs e,v'≠.sl sz xs (.yes e)) {bx:dI} {l:Loc} (h1:lg P gl g) (h2:rj g H.aj w) (h3:gz g H.aj.length args bx) :
  Calls P f bx w (hO d H g w l (.ret v') H):=by
 refine Calls.mono (YU iQ gT eV Fs n f args ⟨[],[]⟩ _ _ hc g.bare w bx l (h1.le sX) (zja h2) ⟨h3.len,λj x c hx mY=>(h3.rel j x c hx mY).le sX (cZ (qg (qI hx)) (by omega)),by simp[ht],h3.no⟩) λe w' he=>?_
 cases e with
 | returned cv =>
  obtain⟨u,g',e1,e2,e3,e4,_⟩:=he;cases e1;refine⟨v',_,rfl,zmM h2 e2.cN e2.fr,hv.rel e2.cN e2.fr (λb hb=>e2.dA b (ga _) hb) e3,?_,by rw[hv.top];exact ga _⟩
  unfold c_;split
  next sz xs e=>exact absurd rfl (mu sz xs e)
  ·trivial
 | panicked chain =>
  obtain⟨u,cv,g',e1,_⟩:=he;cases e1
 | outgrown=>exact he.elim
end
section
variable{cx:Cx}{n:Nat}{all:Array Oper}{takes:bP}
def W(cx:Cx)(n:Nat)(c:Code)(s:St)(Q:Ex->St->Prop):Prop:=∃ex s',cx.code n c s=some (ex,s')/\Q ex s'
def O(cx:Cx)(all:Array Oper)(takes:bP)(ops:List Oper)(s:St)(Q:Ex->St->Prop):Prop:=∃ex s',cx.ops all takes ops s=some (ex,s')/\Q ex s'
def KH{α β:Type}{a:α}{b:β}{Q:α->β->Prop}:(∃x y,(a=x/\b=y)/\Q x y) ↔ Q a b :=
 ⟨λ⟨_,_,⟨h1,h2⟩,h⟩=>by subst h1 h2;exact h,λh=>⟨_,_,⟨rfl,rfl⟩,h⟩⟩
def Ji(K:St->Prop)(Q:Ex->St->Prop):Ex->St->Prop
 | .normal,s=>K s
 | ex,s=>Q ex s
@[simp] theorem bT {K:St->Prop} {Q:Ex->St->Prop} {s:St}:Ji K Q .normal s=K s:=rfl
@[simp] theorem dr {K:St->Prop} {Q:Ex->St->Prop} {s:St} {i:Nat}:Ji K Q (.exit i) s=Q (.exit i) s:=rfl
@[simp] theorem UN {K:St->Prop} {Q:Ex->St->Prop} {s:St}:Ji K Q .ret s=Q .ret s:=rfl
@[simp] theorem UO {K:St->Prop} {Q:Ex->St->Prop} {s:St} {v:V}:Ji K Q (.p7 v) s=Q (.p7 v) s:=rfl
@[simp] theorem Q7 {K:St->Prop} {Q:Ex->St->Prop} {s:St} {i:Nat}:Ji K Q (.goto i) s=Q (.goto i) s:=rfl
def bM(id:Nat)(Q:Ex->St->Prop):Ex->St->Prop
 | .exit i,s=>Q (if Nat.beq i id then .normal else .exit i) s
 | ex,s=>Q ex s
@[simp] theorem Mz {id:Nat} {Q:Ex->St->Prop} {s:St}:bM id Q .normal s=Q .normal s:=rfl
@[simp] theorem Q8 {id i:Nat} {Q:Ex->St->Prop} {s:St}:bM id Q (.exit i) s=Q (if Nat.beq i id then .normal else .exit i) s:=rfl
@[simp] theorem UP {id:Nat} {Q:Ex->St->Prop} {s:St}:bM id Q .ret s=Q .ret s:=rfl
@[simp] theorem UQ {id:Nat} {Q:Ex->St->Prop} {s:St} {v:V}:bM id Q (.p7 v) s=Q (.p7 v) s:=rfl
@[simp] theorem Q9 {id i:Nat} {Q:Ex->St->Prop} {s:St}:bM id Q (.goto i) s=Q (.goto i) s:=rfl
def zrJ{s:St}{Q:Ex->St->Prop}:W cx n .skip s Q ↔ Q .normal s:=by
 unfold W;simp[Cx.code,KH]
def zsy{s:St}{Q:Ex->St->Prop}:W cx n .ret s Q ↔ Q .ret s:=by
 unfold W;simp[Cx.code,KH]
def zrK{s:St}{i:Nat}{Q:Ex->St->Prop}:W cx n (.exit i) s Q ↔ Q (.exit i) s:=by
 unfold W;simp[Cx.code,KH]
def zsz{a b:Code}{s:St}{Q:Ex->St->Prop}:W cx n (.seq a b) s Q ↔ W cx n a s (Ji (λs=>W cx n b s Q) Q):=by
 unfold W;simp only[Cx.code];cases h:cx.code n a s with
 | none=>simp
 | some r =>
  obtain⟨ex,s1⟩:=r;cases ex<;>simp[KH]
def zqa{id:Nat}{c:Code}{s:St}{Q:Ex->St->Prop}:W cx n (.block id c) s Q ↔ W cx n c s (bM id Q):=by
 unfold W;simp only[Cx.code];cases h:cx.code n c s with
 | none=>simp
 | some r =>
  obtain⟨ex,s1⟩:=r;cases ex<;>simp[KH]
def zn7{id:Nat}{ops:Array Oper}{env:aA}{H:Hp}{lk:bk}{df:bH}{Q:Ex->St->Prop} :
  W cx n (.region id ops false) ⟨env,H,lk,df⟩ Q ↔ O cx ops (kX ops) ops.toList ⟨env,H,[],df⟩ Q:=by
 unfold W O;simp only[Cx.code]
def zsA{s:St}{Q:Ex->St->Prop}:O cx all takes [] s Q ↔ Q .normal s:=by
 unfold O;simp[Cx.ops,KH]
def Ig(dst:fQ)(K:St->Prop)(Q:Ex->St->Prop):Option (OR×St)->Prop
 | some (.val v,⟨env,H,lk,df⟩)=>K ⟨qb env dst v,H,lk,df⟩
 | some (.skip,⟨env,H,lk,df⟩)=>K ⟨qb env dst (.bz []),H,lk,df⟩
 | some (.p7 v,s)=>Q (.p7 v) s
 | none=>False
@[simp] theorem au {dst:fQ} {K:St->Prop} {Q:Ex->St->Prop} {v:V} {env:aA} {H:Hp} {lk:bk} {df:bH}:Ig dst K Q (some (.val v,⟨env,H,lk,df⟩))=K ⟨qb env dst v,H,lk,df⟩:=rfl
@[simp] theorem az {dst:fQ} {K:St->Prop} {Q:Ex->St->Prop} {env:aA} {H:Hp} {lk:bk} {df:bH}:Ig dst K Q (some (.skip,⟨env,H,lk,df⟩))=K ⟨qb env dst (.bz []),H,lk,df⟩:=rfl
@[simp] theorem UR {dst:fQ} {K:St->Prop} {Q:Ex->St->Prop} {v:V} {s:St}:Ig dst K Q (some (.p7 v,s))=Q (.p7 v) s:=rfl
@[simp] theorem Q_ {dst:fQ} {K:St->Prop} {Q:Ex->St->Prop}:Ig dst K Q none=False:=rfl
def zqb{dst:fQ}{op:Op}{type:aq}{pos:String}{after:Array Edge}{os:List Oper}{env:aA}{H:Hp}{lk:bk}{df:bH}{Q:Ex->St->Prop} :
  O cx all takes (⟨dst,op,type,pos,after,none⟩::os) ⟨env,H,lk,df⟩ Q ↔ Ig dst (λs=>O cx all takes os s Q) Q (cx.op takes ⟨dst,op,type,pos,after,none⟩ env H lk df):=by
 unfold O;simp only[Cx.ops,q8];cases h:cx.op takes ⟨dst,op,type,pos,after,none⟩ env H lk df with
 | none=>simp
 | some r =>
  obtain⟨r,s1⟩:=r;obtain⟨de,H1,eA,eZ⟩:=s1;cases r<;>simp[jX,KH]
end
end Go.Vm
