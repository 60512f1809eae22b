/- Vm: what the machine answers, the program does; Vm: an operation looks at its operands alone; Vm: an operation's effect on the slots; and what follows from it. Conditions: none but those that each theorem names. -/
import Derived.Orders
import Derived.RangeFuncFrom
import Derived.RangeFuncCalls
import Derived.LoopNIn
import Derived.OrdersIn
import Derived.RangeFuncNested
import Derived.Carry
import Derived.OpenShut
import Derived.ProofKit
import Derived.LaidLaws
import Derived.LaidMore
import Derived.FnData
import Derived.ChangeArms
import Derived.Lib.Bytealg
import Derived.Test.YthohlnmcjkjeiaaGreatDoorVmB
import Derived.Test.YthohlnmcjkjeiaaGreatDoorVmC
namespace Go.Vm
open Go
variable {P:Program} {g:Gh} {w:World}
structure HkOk (P:Program) (gl:Gl):Prop where
 pure:∀ f args v,gl.hk f args=some v->∀ d H g w cargs l,GlOk P gl g->Wok g H.blks w->ArgsOk g H.blks.length args cargs->Calls P f cargs w (CallPost d H g w l (.ret v) H)
 heap:∀ n f args H out H',gl.hk2 n f args H=some (out,H')->∀ d,2 * (n+1)<=d->∀ g w cargs l,GlOk P gl g->Wok g H.blks w->ArgsOk g H.blks.length args cargs->Calls P f cargs w (CallPost d H g w l out H')
 it:zon P gl.uq
theorem zht {gl:Gl} (hnum:vM P) (hprim:kz P) (hhk:HkOk P gl) (hdr:∀ n B,zb9 P { P,gl,call:=zk P gl n,uq:=gl.uq } B/\zaj P { P,gl,call:=zk P gl n,uq:=gl.uq } B):∀ n,yJ P gl (zk P gl n) (2 * n)
 | 0=>fun f args H out H' hc=>by simp [zk] at hc
 | n+1=>by
  have ih:=zht hnum hprim hhk hdr n;intro f args H out H' hc g w cargs l hgl hw ha;obtain ⟨bs,es⟩:=H;simp only [zk] at hc;split at hc
  ·rename_i v hv;simp only [zAA,zAD] at hc;obtain ⟨rfl,rfl⟩:=hc;exact hhk.pure f args v hv _ _ g w cargs l hgl hw ha
  split at hc
  ·rename_i r hv;simp only [zAA] at hc;subst hc;exact hhk.heap n f args _ out H' hv _ (zAO _) g w cargs l hgl hw ha
  split at hc<;>try (cases hc;done)
  rename_i fn hf;split at hc<;>try (cases hc;done)
  rename_i body hb;simp only [zH,fL_eq] at hc;split at hc<;>try (cases hc;done)
  rename_i ex env H1 lk df hx;split at hc<;>try (cases hc;done)
  rename_i pnc hend;have hd1:2 * n<2 * (n+1):=by omega
  have hd2:2 * n+1<2 * (n+1):=by omega
  have hcx:CxOk P { P,gl,call:=zk P gl n,uq:=gl.uq } ⟨2 * (n+1),bs,g,w,[]⟩:=⟨rfl,hnum,hprim,hgl,2 * n,hd1,ih⟩;have h0:=zhq (H:=⟨bs,es⟩) hw ha (2 * (n+1)) fn.ntmps;refine zcb hf hb (Code.wp_mono ?_ (zjS hcx (hdr n _).1 (hdr n _).2 n body _ _ ex g _ w hx h0));rintro e a' w' ⟨g',h1,h2⟩;obtain ⟨dc,w0,hpeel,h1'⟩:=zjU df a'.defers w' h1
  have hpc:∃ pc,PncOk g' H1.blks.length pnc pc/\∀ R,Leaves P fn a'.tmps R dc (modeOf pc false) w0->ze6 P fn R e a' w':=by
   cases ex<;>cases e<;>simp only [endOf,zAA,reduceCtorEq] at hend<;>try (exact h2.elim)
   ·subst hend;exact ⟨none,trivial,fun R h=>⟨dc,w0,hpeel,h⟩⟩
   ·subst hend;exact ⟨none,trivial,fun R h=>⟨dc,w0,hpeel,h⟩⟩
   ·subst hend;obtain ⟨cv,rfl,h3,h4⟩:=h2;exact ⟨some cv,⟨h3,h4⟩,fun R h=>⟨dc,w0,hpeel,h⟩⟩
  obtain ⟨pc,hp,hbody⟩:=hpc;refine hbody _ ?_;split at hc<;>try (cases hc;done)
  ·rename_i v H2 hdf;rw [jW] at hc;simp only [zAA,zAD] at hc;obtain ⟨rfl,rfl⟩:=hc;refine zak (B:=⟨2 * (n+1),bs,g,w,[]⟩) hnum hprim ih (hdr n) hd2 hgl (dropMarks df) pnc pc env H1 lk g' dc w0 h1' hp hdf fun g2 pc' w2 h3 h4=>?_;cases pc' with
   | none=>exact h4.elim
   | some cv =>
    obtain ⟨f1,f2,f3⟩:=zca hw h3 h4.2;exact ⟨v,cv,g2,rfl,rfl,f1,h4.1,f2⟩
  ·rename_i H2 hdf;split at hc<;>try (cases hc;done)
   rename_i vs hvs;rw [zI,jW] at hc;simp only [zAA,zAD] at hc;obtain ⟨rfl,rfl⟩:=hc;refine zak (B:=⟨2 * (n+1),bs,g,w,[]⟩) hnum hprim ih (hdr n) hd2 hgl (dropMarks df) pnc pc env H1 lk g' dc w0 h1' hp hdf fun g2 pc' w2 h3 h4=>?_;cases pc' with
   | some cv=>exact h4.elim
   | none =>
    obtain ⟨g3,s3,cv,r1,r2,r3,r4,r5,r6⟩:=zdB h3 hvs l;have r5':=r5;obtain ⟨f1,f2,f3⟩:=zca (s:=s3) hw r3 (top:=(tupOf vs).top) (by rw [r2];exact r6)
    rw [r2] at f1 f2 f3;exact ⟨cv,r1,tupOf vs,g3,rfl,f1,r4,r5.less f3,f2⟩
end Go.Vm
namespace Go.Vm
open Go
variable {P:Program}
def Agree (env env2:List V) (xs:List Operand):Prop:=∀ t,Operand.tmp t∈xs->env[t]?=env2[t]?
theorem Agree.mono {env env2:List V} {xs ys:List Operand} (h:Agree env env2 xs) (hs:∀ x∈ys,x∈xs):Agree env env2 ys:=fun t ht=>h t (hs _ ht)
theorem Agree.peek {env env2:List V} {xs:List Operand} (h:Agree env env2 xs):∀ x∈xs,Vm.peek env x=Vm.peek env2 x:=fun x hx=>by
 cases x with
 | tmp t=>simp only [Vm.peek,zd,h t hx]
 | _=>rfl
theorem Agree.peeks {env env2:List V} {xs:List Operand} (h:Agree env env2 xs):∀ {ys:List Operand},(∀ y∈ys,y∈xs)->Vm.peeks env ys=Vm.peeks env2 ys
 | [],_=>rfl
 | y::ys,hy=>by
  simp only [Vm.peeks,h.peek y (hy y (zAL ..)),h.peeks (ys:=ys) fun z hz=>hy z (zAE _ hz)]
theorem Agree.peekO {env env2:List V} {xs:List Operand} (h:Agree env env2 xs) {x:Option Operand} (hx:∀ y,x=some y->y∈xs):Vm.peekO env x=Vm.peekO env2 x:=by
 cases x with
 | none=>rfl
 | some y=>simp only [Vm.peekO,h.peek y (hx y rfl)]
theorem zcI {env env2:List V} {xs:List Operand} (h:Agree env env2 xs) {place:Nat->Option (Nat×Nat)}:∀ {ps:List (Nat×Operand)} {cs:List V},(∀ p∈ps,p.2∈xs)->xp cs place env ps=xp cs place env2 ps
 | [],_,_=>rfl
 | (i,x)::ps,cs,hp=>by
  simp only [xp,h.peek x (hp (i,x) (zAL ..))];have ih:=fun cs=>zcI h (place:=place) (ps:=ps) (cs:=cs) fun p hq=>hp p (zAE _ hq);simp only [ih]
theorem zdE {env env2:List V} {xs:List Operand} (h:Agree env env2 xs) {n len:Nat}:∀ {ps:List (Nat×Operand)} {cs:List V},(∀ p∈ps,p.2∈xs)->za9 n len env cs ps=za9 n len env2 cs ps
 | [],_,_=>rfl
 | (i,x)::ps,cs,hp=>by
  simp only [za9,h.peek x (hp (i,x) (zAL ..))];have ih:=fun cs=>zdE h (n:=n) (len:=len) (ps:=ps) (cs:=cs) fun p hq=>hp p (zAE _ hq);simp only [ih]
theorem zbl {env env2:List V} {xs:List Operand} (h:Agree env env2 xs) {t:TypeId} {ps:Array (Nat×Operand)} (hp:∀ p∈ps.toList,p.2∈xs):kV P t ps env=kV P t ps env2:=by
 unfold kV;simp only [zcI h hp]
theorem zhu {env env2:List V} {gl:Nat->Nat->Option V} {o:Oper} {H:Hp} (h:Agree env env2 o.op.operands.toList):zD P gl o env H=zD P gl o env2 H:=by
 obtain ⟨dst,op,type,pos,after,guard⟩:=o;have hp:=h.peek;cases op<;>simp only [Op.operands] at h hp
 case build t ps=>simp only [zD,zbl h (ps:=ps) fun p hq=>by simpa using zBG (f:=(·.2)) hq]
 case buildSlice t n ps=>simp only [zD,fun a b c=>zdE h (n:=a) (len:=b) (cs:=c) (ps:=ps.toList) fun p hq=>by simpa using zBG (f:=(·.2)) hq]
 case makeFunc fn first cap =>
  simp only [zD,h.peeks (ys:=first.toList) fun y hy=>by simp at hy ⊢;exact .inl hy,h.peeks (ys:=cap.toList) fun y hy=>by simp at hy ⊢;exact .inr hy]
 case slice t x lo hi mx =>
  simp only [zD,hp x (by simp),h.peekO (x:=lo) fun y hy=>by subst hy;simp,h.peekO (x:=hi) fun y hy=>by subst hy;simp]
  cases mx with
  | none=>rfl
  | some m=>simp only [hp m (by simp)]
 all_goals first
  |rfl
  |(simp [zD,hp];done)
end Go.Vm
namespace Go.Vm
open Go
variable {P:Program}
def qw (env:List V):Operand->List V
 | .tmp t=>match env[t]? with
  | some (.sl sz xs (.yes _))=>env.set t (.sl sz xs .no)
  | _=>env
 | _=>env
def tkO (env:List V):Option Operand->List V
 | some x=>qw env x
 | none=>env
theorem ze7 {env:List V} {t sz:Nat} {xs:List V} {e:TypeId} (h:env[t]?=some (.sl sz xs (.yes e))):qw env (.tmp t)=env.set t (.sl sz xs .no):=by
 simp only [qw,h]
theorem xB {env:List V} {t:Nat} {v:V} (h:env[t]?=some v) (hn:∀ sz xs e,v≠.sl sz xs (.yes e)):qw env (.tmp t)=env:=by
 simp only [qw,h];split
 ·rename_i h1;cases h1;exact (hn _ _ _ rfl).elim
 ·rfl
theorem zhv {env:List V} {t sz:Nat} {xs:List V} {e:TypeId} (h:env[t]?=some (.sl sz xs (.yes e))):take env (.tmp t)=some (.sl sz xs (.yes e),env.set t (.sl sz xs .no)):=by
 simp only [take,zd,h,fSet_eq]
theorem zjV {env:List V} {t:Nat} {v:V} (h:env[t]?=some v) (hn:∀ sz xs e,v≠.sl sz xs (.yes e)):take env (.tmp t)=some (clr v,env):=by
 cases v with
 | sl sz xs o=>cases o with
  | yes e=>exact (hn _ _ _ rfl).elim
  | _=>simp only [take,zd,h]
 | _=>simp only [take,zd,h]
theorem jz {env env2:List V} {x:Operand} (h:Agree env env2 [x]) {v:V} {e:List V} (ht:take env x=some (v,e)):e=qw env x/\take env2 x=some (v,qw env2 x):=by
 cases x with
 | tmp t =>
  have ha:=h t (by simp)
  cases hv:env[t]? with
  | none=>simp [take,zd,hv] at ht
  | some v0 =>
   have hv2:env2[t]?=some v0:=by rw [<- ha,hv]
   by_cases hy:∃ sz xs e,v0=.sl sz xs (.yes e)
   ·obtain ⟨sz,xs,e',rfl⟩:=hy;rw [zhv hv] at ht;cases ht;exact ⟨(ze7 hv).symm,by rw [zhv hv2,ze7 hv2]⟩
   ·have hn:∀ sz xs e,v0≠.sl sz xs (.yes e):=fun sz xs e h=>hy ⟨sz,xs,e,h⟩;rw [zjV hv hn] at ht;cases ht;exact ⟨(xB hv hn).symm,by rw [zjV hv2 hn,xB hv2 hn]⟩
 | const c =>
  simp only [take,peek,zAV,zAD] at ht;obtain ⟨u,hu,rfl,rfl⟩:=ht;exact ⟨rfl,by simp [take,peek,hu,qw]⟩
 | global k =>
  simp only [take,peek,zAa,zAA,zAD] at ht;obtain ⟨rfl,rfl⟩:=ht;exact ⟨rfl,by simp [take,peek,qw]⟩
 | func f =>
  simp only [take,peek,zAa,zAA,zAD] at ht;obtain ⟨rfl,rfl⟩:=ht;exact ⟨rfl,by simp [take,peek,qw]⟩
end Go.Vm
namespace Go.Vm
open Go
variable {P:Program}
theorem zeS {cx:Cx} {b:Builtin} {ts:Array TypeId} {args:Array Operand} {env env2:List V} {H:Hp} {xs:List Operand} {r:OR} {e:List V} {k:Option Operand} (h:Agree env env2 xs) (hx:∀ x∈args.toList,x∈xs)
  (hb:cx.builtin b ts args env H=some (r,e)) (hk:k=match b with|.append=>args.toList.head?|_=>none):e=tkO env k/\cx.builtin b ts args env2 H=some (r,tkO env2 k):=by
 have hp:=h.peek;unfold Cx.builtin at hb ⊢;split at hb
 ·rename_i x t ha ht hb;have e1:=hp x (hx x (by simp [ha]))
  simp only [<- e1] at hk ⊢;subst hk;simp only [Option.bind_eq_bind,zAG,zAA,zAD] at hb;obtain ⟨u,h1,v,h2,h3,rfl⟩:=hb;refine ⟨rfl,?_⟩;simp [h1,h2,h3,tkO]
 ·rename_i x y t u ha ht hb;have e1:=hp y (hx y (by simp [ha]))
  simp only [ha,<- e1] at hk ⊢;subst hk;split at hb<;>try (cases hb;done)
  rename_i hg;rw [if_neg hg];simp only [Option.bind_eq_bind,zAG,zAA,zAD] at hb;obtain ⟨y',h1,⟨v,e'⟩,h2,w,h3,h4,rfl⟩:=hb;obtain ⟨t1,t2⟩:=jz (h.mono (xs:=xs) (ys:=[x]) (by simpa using hx x (by simp [ha]))) h2
  refine ⟨t1,?_⟩;simp [h1,t2,h3,h4,tkO]
 ·rename_i x y ha hb;have e1:=hp x (hx x (by simp [ha]))
  have e2:=hp y (hx y (by simp [ha]))
  simp only [<- e1,<- e2] at hk ⊢;subst hk;simp only [Option.bind_eq_bind,zAG] at hb;obtain ⟨u,h1,v,h2,h3⟩:=hb;simp only [Option.bind_eq_bind,h1,h2,zAT];split at h3<;>simp only [zAA,reduceCtorEq,zAD] at h3;obtain ⟨rfl,rfl⟩:=h3;exact ⟨rfl,rfl⟩
 ·rename_i x y ha hb;have e1:=hp x (hx x (by simp [ha]))
  have e2:=hp y (hx y (by simp [ha]))
  simp only [<- e1,<- e2] at hk ⊢;subst hk;simp only [Option.bind_eq_bind,zAG] at hb;obtain ⟨u,h1,v,h2,h3⟩:=hb;simp only [Option.bind_eq_bind,h1,h2,zAT];split at h3<;>simp only [zAA,reduceCtorEq,zAD] at h3;obtain ⟨rfl,rfl⟩:=h3;exact ⟨rfl,rfl⟩
 ·cases hb
theorem zdF {env:List V} {x:Operand} {v:V} (h:peek env x=some v) (hn:∀ sz xs o,v≠.sl sz xs o):qw env x=env:=by
 cases x with
 | tmp t =>
  simp only [peek,zd] at h;split at h<;>simp only [zAA,reduceCtorEq] at h;rename_i v0 h0;refine xB h0 fun sz xs e e0=>?_;subst e0;exact hn sz xs .no h.symm
 | _=>rfl
theorem zeT {cx:Cx} {t:TypeId} {x y:Operand} {env env2:List V} {H:Hp} {lk:List (Nat×Nat)} {df:List (V×List V)} {r:OR} {s':St} (hx:peek env x=peek env2 x) (hy:peek env y=peek env2 y) (hop:cx.appendU t x y env H lk df=some (r,s')) :
  s'.env=qw env x/\cx.appendU t x y env2 H lk df=some (r,{ s' with env:=qw env2 x }):=by
 unfold Cx.appendU at hop ⊢;rw [<- hx,<- hy];simp only [Option.bind_eq_bind,zAG] at hop;obtain ⟨td,ht,hop⟩:=hop;simp only [Option.bind_eq_bind,ht,zAT];split at hop<;>try (cases hop;done)
 simp only [zAG] at hop;obtain ⟨n,hn,i,hi,z,hz,yv,h1,ys,hys,hop⟩:=hop;simp only [hn,hi,hz,h1,hys,zAT];split at hop<;>try (cases hop;done)
 rename_i hc;rw [if_neg hc];simp only [zAG] at hop;obtain ⟨xv,h2,hop⟩:=hop;simp only [h2,zAT];have key:(∀ sz xs o,xv≠.sl sz xs o)->qw env x=env/\qw env2 x=env2:=fun hn=>⟨zdF h2 hn,zdF (hx ▸ h2) hn⟩;split at hop
 ·obtain ⟨k1,k2⟩:=key (fun _ _ _ e=>by cases e)
  rw [k1,k2];split at hop
  ·simp only [zAA,zAD] at hop;obtain ⟨rfl,rfl⟩:=hop;exact ⟨rfl,rfl⟩
  ·split at hop<;>try (cases hop;done)
   rename_i hro;simp only [fCs_eq,zH,zB,zAA,zAD] at hop;obtain ⟨rfl,rfl⟩:=hop;refine ⟨rfl,?_⟩;simp only [hro,if_true,fCs_eq,zH,zB]
 ·obtain ⟨k1,k2⟩:=key (fun _ _ _ e=>by cases e)
  rw [k1,k2];split at hop<;>try (cases hop;done)
  rename_i h3
  try simp only [h3]
  split at hop<;>try (cases hop;done)
  rename_i h4;rw [if_pos h4];simp only [fCs_eq,zH,zR,zAA,zAD] at hop ⊢;obtain ⟨rfl,rfl⟩:=hop;exact ⟨rfl,rfl,rfl⟩
 ·obtain ⟨k1,k2⟩:=key (fun _ _ _ e=>by cases e)
  rw [k1,k2];split at hop<;>try (cases hop;done)
  rename_i h3
  try simp only [h3]
  split at hop<;>try (cases hop;done)
  rename_i h4;rw [if_pos h4];simp only [fCs_eq,zH,zR,zAA,zAD] at hop ⊢;obtain ⟨rfl,rfl⟩:=hop;exact ⟨rfl,rfl,rfl⟩
 ·cases hop
theorem zhw {cx:Cx} {t:TypeId} {x y:Operand} {env env2:List V} {H:Hp} {lk:List (Nat×Nat)} {df:List (V×List V)} {r:OR} {s':St} (hx:peek env x=peek env2 x) (hy:peek env y=peek env2 y) (hop:cx.copyA t x y env H lk df=some (r,s')) :
  s'.env=env/\cx.copyA t x y env2 H lk df=some (r,{ s' with env:=env2 }):=by
 unfold Cx.copyA at hop ⊢;rw [<- hx,<- hy];simp only [Option.bind_eq_bind,zAG] at hop;obtain ⟨td,ht,hop⟩:=hop;simp only [Option.bind_eq_bind,ht,zAT];split at hop<;>try (cases hop;done)
 simp only [zAG] at hop;obtain ⟨n,hn,yv,h1,ys,hys,xv,h2,hop⟩:=hop;simp only [hn,h1,hys,h2,zAT];split at hop<;>try (cases hop;done)
 split at hop<;>try (cases hop;done)
 rename_i h3
 try simp only [h3]
 split at hop<;>try (cases hop;done)
 rename_i h4;rw [if_pos h4];simp only [fCs_eq,zR,zAA,zAD] at hop ⊢;obtain ⟨rfl,rfl⟩:=hop;exact ⟨rfl,rfl,rfl⟩
theorem zgb {cx:Cx} {t:TypeId} {x:Operand} {lo hi:Option Operand} {env env2:List V} {H:Hp} {lk:List (Nat×Nat)} {df:List (V×List V)} {r:OR} {s':St} (hx:peek env x=peek env2 x) (hl:peekO env lo=peekO env2 lo) (hh:peekO env hi=peekO env2 hi) (hop:cx.sliceU t x lo hi env H lk df=some (r,s')) :
  s'.env=env/\cx.sliceU t x lo hi env2 H lk df=some (r,{ s' with env:=env2 }):=by
 unfold Cx.sliceU at hop ⊢;rw [<- hx,<- hl,<- hh];split at hop<;>try (cases hop;done)
 ·rename_i h1 h2 h3 h4
  try simp only [h1,h2,h3,h4]
  split at hop<;>try (cases hop;done)
  rename_i h5 h6
  try simp only [h5,h6]
  split at hop<;>try (cases hop;done)
  rename_i h7;rw [if_pos h7];simp only [fL_eq,zH,zR,zAA,zAD] at hop ⊢;obtain ⟨rfl,rfl⟩:=hop;exact ⟨rfl,rfl,rfl⟩
 ·rename_i h1 h2 h3
  try simp only [h1,h2,h3]
  split at hop<;>simp only [zAA,reduceCtorEq,zAD] at hop;rename_i h5
  try simp only [h5]
  obtain ⟨rfl,rfl⟩:=hop;exact ⟨rfl,rfl⟩
theorem zgc {P:Program} {t:TypeId} {x:Operand} {lo:Option Operand} {env env2 e:List V} {v:V} (h:Agree env env2 [x]) (hl:peekO env lo=peekO env2 lo) (hm:zaN P t x lo env=some (v,e)):e=qw env x/\zaN P t x lo env2=some (v,qw env2 x):=by
 unfold zaN at hm ⊢;rw [<- hl];split at hm<;>try (cases hm;done)
 rename_i h1 h2 h3
 try simp only [h1,h3]
 split at hm<;>try (cases hm;done)
 rename_i h4
 try simp only [h4]
 split at hm<;>simp only [zAA,reduceCtorEq,zAD] at hm;rename_i h5;obtain ⟨rfl,rfl⟩:=hm;obtain ⟨k1,k2⟩:=jz h h2;simp only [k2,h4,h5];exact ⟨k1,trivial⟩
theorem zmh {P:Program} {a b:TypeId} {x:Operand} {env:List V} {r:V×List V} (h:jO P a b x env=some r):Nat.beq a b=true:=by
 unfold jO at h;split at h
 ·rename_i e _;exact e
 ·cases h
theorem zcJ {P:Program} {a b:TypeId} {x:Operand} {env env2 e:List V} {v:V} (h:Agree env env2 [x]) (hm:jO P a b x env=some (v,e)):e=qw env x/\jO P a b x env2=some (v,qw env2 x):=by
 unfold jO at hm ⊢;split at hm<;>try (cases hm;done)
 rename_i h1 h2
 try simp only [h1,h2]
 split at hm<;>simp only [zAA,reduceCtorEq,zAD] at hm;rename_i h3 h4;obtain ⟨rfl,rfl⟩:=hm;obtain ⟨k1,k2⟩:=jz h h4;simp only [k2,h3];exact ⟨k1,trivial⟩
theorem ziX {P:Program} {a b:TypeId} {x:Operand} {env env2:List V} (h:Agree env env2 [x]) (hm:jO P a b x env=none):jO P a b x env2=none:=by
 cases h2:jO P a b x env2 with
 | none=>rfl
 | some r =>
  obtain ⟨v,e⟩:=r;have h':Agree env2 env [x]:=fun t ht=>(h t ht).symm;rw [(zcJ h' h2).2] at hm;cases hm
theorem ze8 {P:Program} {a b:TypeId} {sz:Nat} {xs:List V} {o:Own} (h:Nat.beq a b=true):jx P a b (.sl sz xs o)=none:=by
 have h':=zAJ h;subst h';simp only [jx,Option.bind_eq_bind];cases P.underlying a with
 | none=>rfl
 | some d =>
  simp only [zAT]
theorem xC {cx : Cx} {takes : List Tmp} {o : Oper} {env env2 : List V} {H : Hp} {lk : List (Nat × Nat)} {df : List (V × List V)} {r : OR} {s' : St} (h : Agree env env2 o.op.operands.toList) (hop : cx.op takes o env H lk df = some (r, s')) :
    s'.env = tkO env (qt takes o) /\ cx.op takes o env2 H lk df = some (r, { s' with env := tkO env2 (qt takes o) }) := by
  have hrd := zhu (P := cx.P) (gl := cx.gl) (H := H) h;obtain ⟨dst, op, type, pos, after, guard⟩ := o;have hp := h.peek;have read : qt takes ⟨dst, op, type, pos, after, guard⟩ = none -> (match zD cx.P cx.gl ⟨dst, op, type, pos, after, guard⟩ env H with | none => none | some v => some (OR.val v, (⟨env, H, lk, df⟩ : St))) = some (r, s') ->
      s'.env = tkO env (qt takes ⟨dst, op, type, pos, after, guard⟩) /\ (match zD cx.P cx.gl ⟨dst, op, type, pos, after, guard⟩ env2 H with | none => none | some v => some (OR.val v, (⟨env2, H, lk, df⟩ : St))) = some (r, { s' with env := tkO env2 (qt takes ⟨dst, op, type, pos, after, guard⟩) }) := by
    intro htk hh;rw [<- hrd, htk];split at hh <;> simp only [zAA, reduceCtorEq, zAD] at hh;rename_i v hv;obtain ⟨rfl, rfl⟩ := hh;exact ⟨rfl, rfl⟩
  have read0 : (match zD cx.P cx.gl ⟨dst, op, type, pos, after, guard⟩ env H with | none => none | some v => some (OR.val v, (⟨env, H, lk, df⟩ : St))) = some (r, s') ->
      s'.env = env /\ (match zD cx.P cx.gl ⟨dst, op, type, pos, after, guard⟩ env2 H with | none => none | some v => some (OR.val v, (⟨env2, H, lk, df⟩ : St))) = some (r, { s' with env := env2 }) := by
    intro hh;rw [<- hrd];split at hh <;> simp only [zAA, reduceCtorEq, zAD] at hh;obtain ⟨rfl, rfl⟩ := hh;exact ⟨rfl, rfl⟩
  cases op
  case pick => exact read rfl hop
  case build => exact read rfl hop
  case buildSlice => exact read rfl hop
  case nilCheck => exact read rfl hop
  case binOp => exact read rfl hop
  case unOp => exact read rfl hop
  case convert c d x =>
    simp only [Cx.op] at hop ⊢;cases hm : jO cx.P c d x env with
    | some ve =>
      obtain ⟨v, e⟩ := ve;simp only [hm, zAA, zAD] at hop;obtain ⟨rfl, rfl⟩ := hop;obtain ⟨h1, h2⟩ := zcJ (h.mono (by simp [Op.operands])) hm
      have hcd := zmh hm;simp only [h2, qt, hcd, if_true];exact ⟨h1, rfl⟩
    | none =>
      simp only [hm] at hop;have hm2 := ziX (h.mono (by simp [Op.operands])) hm
      simp only [hm2];cases hcu : cx.uq (kb c) with
      | true =>
        simp only [hcu] at hop ⊢;rw [<- hp x (by simp [Op.operands])]
        split at hop <;> simp only [zAA, reduceCtorEq, zAD] at hop;rename_i v hv;obtain ⟨rfl, rfl⟩ := hop;cases hcd : Nat.beq c d with
        | false => simp [qt, hcd, tkO]
        | true =>
          have hq : ∀ e2 : List V, (∀ t, x = .tmp t -> e2[t]? = env[t]?) -> qw e2 x = e2 := fun e2 he2 => by
            cases x with
            | tmp t =>
              cases hn : env[t]? with
              | none => simp [qw, he2 t rfl, hn]
              | some v0 =>
                refine xB ((he2 t rfl).trans hn) fun sz xs e e0 => ?_;subst e0;have : peek env (.tmp t) = some (.sl sz xs .no) := by simp [peek, zd, hn, clr]
                simp only [xr, this, zoh, ze8 hcd, reduceCtorEq] at hv
            | _ => rfl
          have e1 : qw env x = env := hq env fun _ _ => rfl;have e2 : qw env2 x = env2 := hq env2 fun t e => (h t (by simp [e, Op.operands])).symm
          simp only [qt, hcd, if_true, tkO, e1, e2];exact ⟨trivial, trivial⟩
      | false =>
      simp only [hcu] at hop ⊢;cases hcd : Nat.beq c d with
      | false => exact read (by simp only [qt, hcd]; rfl) hop
      | true =>
        have hq : ∀ e2, (∀ t, x = .tmp t -> e2[t]? = env[t]?) -> qw e2 x = e2 := fun e2 he2 => by
          cases x with
          | tmp t =>
            cases hn : env[t]? with
            | none => simp [qw, he2 t rfl, hn]
            | some v0 =>
              refine xB ((he2 t rfl).trans hn) fun sz xs e e0 => ?_;subst e0;have : peek env (.tmp t) = some (.sl sz xs .no) := by simp [peek, zd, hn, clr]
              simp only [zD, this, Option.bind_eq_bind, zAT, ze8 hcd] at hop;cases hop
          | _ => rfl
        have := read0 hop;obtain ⟨h1, h2⟩ := this;have e1 : qw env x = env := hq env fun _ _ => rfl;have e2 : qw env2 x = env2 := hq env2 fun t e => (h t (by simp [e, Op.operands])).symm
        simp only [qt, hcd, if_true, tkO, e1, e2];exact ⟨h1, h2⟩
  case makeInterface => exact read rfl hop
  case makeFunc => exact read rfl hop
  case slice t x lo hi mx =>
    cases mx with
    | some m => exact read rfl hop
    | none =>
      simp only [Cx.op] at hop ⊢;cases hf : yI takes x lo hi with
      | true =>
        simp only [hf] at hop ⊢;split at hop <;> simp only [zAA, reduceCtorEq, zAD] at hop;rename_i v e hv;obtain ⟨rfl, rfl⟩ := hop
        obtain ⟨k1, k2⟩ := zgc (h.mono (by simp [Op.operands])) (by
          cases lo with
          | none => rfl
          | some z => simp only [peekO]; rw [hp z (by simp [Op.operands])]) hv
        simp only [k2, qt, hf, if_true];exact ⟨k1, rfl⟩
      | false =>
      simp only [hf] at hop ⊢;have hnt : qt takes ⟨dst, .slice t x lo hi none, type, pos, after, guard⟩ = none := by simp [qt, hf]
      cases hu : uqT cx.P cx.uq t with
      | false =>
        simp only [hu] at hop;exact read hnt hop
      | true =>
        simp only [hu] at hop;rw [hnt];have ho : ∀ y : Option Operand, (∀ z, y = some z -> z ∈ (Op.slice t x lo hi none).operands.toList) -> peekO env y = peekO env2 y := fun y hy => by
          cases y with
          | none => rfl
          | some z => simp only [peekO]; rw [hp z (hy z rfl)]
        obtain ⟨e1, e2⟩ := zgb (hp x (by simp [Op.operands])) (ho lo fun z e => by subst e; simp [Op.operands]) (ho hi fun z e => by subst e; simp [Op.operands]) hop
        exact ⟨e1, e2⟩
  case fieldAddr => exact read rfl hop
  case field => exact read rfl hop
  case indexAddr => exact read rfl hop
  case index => exact read rfl hop
  case lookup => exact read rfl hop
  case typeAssert => exact read rfl hop
  case extract => exact read rfl hop
  case ready => exact read rfl hop
  case waits => exact read rfl hop
  case sliceToArrayPointer => exact read rfl hop
  case makeChan => exact read rfl hop
  case mapEntry => exact read rfl hop
  case entryStore => exact read rfl hop
  case entry => exact read rfl hop
  case go => exact read rfl hop
  case send => exact read rfl hop
  case recv => exact read rfl hop
  case select => exact read rfl hop
  case assign x =>
    simp only [Cx.op] at hop ⊢;split at hop <;> simp only [zAA, reduceCtorEq, zAD] at hop;rename_i v e ht;obtain ⟨rfl, rfl⟩ := hop;obtain ⟨t1, t2⟩ := jz (h.mono (by simp [Op.operands])) ht
    simp only [t2];exact ⟨t1, rfl⟩
  case box t x =>
    simp only [Cx.op] at hop ⊢;split at hop <;> try (cases hop; done)
    rename_i v e ht;split at hop <;> try (cases hop; done)
    rename_i hk;simp only [zI, fCs_eq, zB, zAA, zAD] at hop;obtain ⟨rfl, rfl⟩ := hop;obtain ⟨t1, t2⟩ := jz (h.mono (by simp [Op.operands])) ht
    simp only [t2, hk, zI, fCs_eq, zB];exact ⟨t1, rfl⟩
  case move x =>
    have yes : qt takes ⟨dst, .move x, type, pos, after, guard⟩ = some x -> (match take env x with | none => none | some (v, env) => some (OR.val v, (⟨env, H, lk, df⟩ : St))) = some (r, s') ->
        s'.env = tkO env (qt takes ⟨dst, .move x, type, pos, after, guard⟩) /\ (match take env2 x with | none => none | some (v, env) => some (OR.val v, (⟨env, H, lk, df⟩ : St))) = some (r, { s' with env := tkO env2 (qt takes ⟨dst, .move x, type, pos, after, guard⟩) }) := by
      intro htk hop;split at hop <;> simp only [zAA, reduceCtorEq, zAD] at hop;rename_i v e ht;obtain ⟨rfl, rfl⟩ := hop;obtain ⟨t1, t2⟩ := jz (h.mono (by simp [Op.operands])) ht
      simp only [t2, htk];exact ⟨t1, rfl⟩
    cases dst with
    | none => exact read rfl hop
    | some d =>
      cases hb : takes.any (Nat.beq d) with
      | true =>
        simp only [Cx.op, hb] at hop ⊢;exact yes (by simp only [qt, hb, if_true]) hop
      | false =>
        simp only [Cx.op, hb] at hop ⊢;exact read (by simp only [qt, hb]; rfl) hop
  case alloc t =>
    simp only [Cx.op] at hop ⊢;split at hop <;> try (cases hop; done)
    rename_i z hz;split at hop <;> try (cases hop; done)
    rename_i hk;simp only [zI, zB, zAA, zAD] at hop;obtain ⟨rfl, rfl⟩ := hop;simp only [hk, zI, zB];exact ⟨rfl, rfl⟩
  case makeMap t rr =>
    simp only [Cx.op] at hop ⊢;split at hop <;> try (cases hop; done)
    simp only [zB, zAA, zAD] at hop;obtain ⟨rfl, rfl⟩ := hop;simp only [zB];exact ⟨rfl, rfl⟩
  case range t x =>
    simp only [Op.operands] at hp;simp only [Cx.op] at hop ⊢;rw [<- hp x (by simp)]
    split at hop <;> try (cases hop; done)
    rename_i l h1 h2;simp only [zB, zAA, zAD] at hop;obtain ⟨rfl, rfl⟩ := hop;simp only [zB];exact ⟨rfl, rfl⟩
  case panic x =>
    simp only [Op.operands] at hp;simp only [Cx.op] at hop ⊢;rw [<- hp x (by simp)]
    split at hop <;> simp only [zAA, reduceCtorEq, zAD] at hop;rename_i t v h1;obtain ⟨rfl, rfl⟩ := hop;simp only [];exact ⟨rfl, rfl⟩
  case mapUpdate t m k x =>
    simp only [Op.operands] at hp;simp only [Cx.op] at hop ⊢;rw [<- hp m (by simp), <- hp k (by simp), <- hp x (by simp)]
    split at hop <;> try (cases hop; done)
    rename_i b kv v h1 h2 h3
    try simp only [h1, h2, h3]
    split at hop <;> try (cases hop; done)
    rename_i hk;rw [if_neg hk];simp only [zI, fL_eq, zR] at hop ⊢;split at hop <;> try (cases hop; done)
    rename_i es h4
    try simp only [h4]
    split at hop <;> simp only [zAA, reduceCtorEq, zAD] at hop;rename_i es' h5;obtain ⟨rfl, rfl⟩ := hop
    try simp only []
    exact ⟨rfl, rfl⟩
  case insert t m k x =>
    simp only [Op.operands] at hp;simp only [Cx.op] at hop ⊢;rw [<- hp m (by simp), <- hp k (by simp), <- hp x (by simp)]
    split at hop <;> try (cases hop; done)
    rename_i b kv v h1 h2 h3
    try simp only [h1, h2, h3]
    split at hop <;> try (cases hop; done)
    rename_i hk;rw [if_neg hk];simp only [zI, fL_eq, zR] at hop ⊢;split at hop <;> try (cases hop; done)
    rename_i es h4
    try simp only [h4]
    split at hop <;> simp only [zAA, reduceCtorEq, zAD] at hop;rename_i es' h5;obtain ⟨rfl, rfl⟩ := hop
    try simp only []
    exact ⟨rfl, rfl⟩
  case defer c =>
    simp only [Op.operands] at hp h;simp only [Cx.op] at hop ⊢;split at hop <;> try (cases hop; done)
    rename_i f hcal;simp only [Call.operands, hcal] at hp h;rw [<- hp f (by simp), <- h.peeks (ys := c.args.toList) (fun y hy => by simp at hy ⊢; exact .inr hy)]
    split at hop <;> simp only [zAA, reduceCtorEq, zAD] at hop;rename_i f' first cap args h1 h2
    obtain ⟨rfl, rfl⟩ := hop;simp only [];exact ⟨rfl, rfl⟩
  case makeSlice t l c =>
    simp only [Op.operands] at hp;simp only [Cx.op] at hop ⊢;rw [<- hp l (by simp), <- hp c (by simp)]
    split at hop <;> try (cases hop; done)
    rename_i e k1 l' k2 c' h1 h2 h3
    try simp only [h1, h2, h3]
    split at hop <;> try (cases hop; done)
    rename_i n i z g1 g2 g3
    try simp only [g1, g2, g3]
    split at hop <;> try (cases hop; done)
    rename_i g4;rw [if_neg g4];split at hop
    · rename_i g5
      try simp only [g5]
      simp only [fCs_eq, zH, zB, zAA, zAD] at hop ⊢;obtain ⟨rfl, rfl⟩ := hop;exact ⟨rfl, rfl, rfl⟩
    rename_i g5'
    try simp only [g5']
    split at hop
    · rename_i g5
      rw [if_pos g5];simp only [zAA, zAD] at hop;obtain ⟨rfl, rfl⟩ := hop;exact ⟨rfl, rfl⟩
    · rename_i g5
      rw [if_neg g5];split at hop <;> try (cases hop; done)
      rename_i g6;rw [if_pos g6];simp only [fCs_eq, zB, zAA, zAD] at hop ⊢;obtain ⟨rfl, rfl⟩ := hop;exact ⟨rfl, rfl, rfl⟩
  case next it b =>
    cases b with
    | false => exact read rfl hop
    | true =>
      simp only [Op.operands] at hp;simp only [Cx.op] at hop ⊢;rw [<- hp it (by simp)]
      split at hop <;> try (cases hop; done)
      rename_i bb h1
      try simp only [h1]
      split at hop <;> try (cases hop; done)
      rename_i l pos h2
      try simp only [h2]
      split at hop
      · rename_i g5
        rw [if_pos g5];simp only [zH, zR, zAA, zAD] at hop ⊢;obtain ⟨rfl, rfl⟩ := hop;exact ⟨rfl, rfl, rfl⟩
      · rename_i g5
        rw [if_neg g5];simp only [zAA, zAD] at hop ⊢;obtain ⟨rfl, rfl⟩ := hop;exact ⟨rfl, rfl, rfl⟩
  case store t a x =>
    simp only [Op.operands] at hp h;simp only [Cx.op] at hop ⊢;rw [<- hp a (by simp)]
    split at hop <;> try (cases hop; done)
    · rename_i b off h1
      try simp only [h1]
      split at hop <;> try (cases hop; done)
      rename_i v e n cs ty h2 h3 h4;obtain ⟨t1, t2⟩ := jz (h.mono (by simp)) h2
      try simp only [t2, h3, h4]
      simp only [zI, fCs_eq, fL_eq, zR] at hop ⊢;split at hop <;> try (cases hop; done)
      rename_i g5;rw [if_pos g5];simp only [zAA, zAD] at hop ⊢;obtain ⟨rfl, rfl⟩ := hop;exact ⟨t1, rfl, rfl⟩
    · rename_i b u k h1
      try simp only [h1]
      split at hop <;> try (cases hop; done)
      rename_i v e n ver sz cs ty h2 h3 h4;obtain ⟨t1, t2⟩ := jz (h.mono (by simp)) h2
      try simp only [t2, h3, h4]
      simp only [zI, fL_eq, zR] at hop ⊢;split at hop <;> try (cases hop; done)
      rename_i g5;rw [if_pos g5];simp only [zAA, zAD] at hop ⊢;obtain ⟨rfl, rfl⟩ := hop;exact ⟨t1, rfl, rfl⟩
  case load t a =>
    have yes : qt takes ⟨dst, .load t a, type, pos, after, guard⟩ = none := rfl;have hpa : peek env a = peek env2 a := hp a (by simp [Op.operands])
    cases dst with
    | none => exact read yes hop
    | some d =>
      cases hb : takes.any (Nat.beq d) with
      | false =>
        simp only [Cx.op, hb] at hop ⊢;exact read yes hop
      | true =>
        simp only [Cx.op, hb] at hop ⊢;rw [<- hpa];split at hop <;> try (cases hop; done)
        rename_i b off h1 h2
        try simp only [h1, h2]
        split at hop <;> try (cases hop; done)
        rename_i cs ty h3
        try simp only [h3]
        split at hop <;> try (cases hop; done)
        · rename_i sz xs e h4
          try simp only [h4]
          simp only [fSet_eq, zR, zAA, zAD] at hop ⊢;obtain ⟨rfl, rfl⟩ := hop;exact ⟨rfl, rfl, rfl⟩
        · rename_i h4
          try simp only [h4]
          simp only [zAA, zAD] at hop ⊢;obtain ⟨rfl, rfl⟩ := hop;exact ⟨rfl, rfl, rfl⟩
        · rename_i h4
          try simp only [h4]
          simp only [zAA, zAD] at hop ⊢;obtain ⟨rfl, rfl⟩ := hop;exact ⟨rfl, rfl, rfl⟩
  case call c =>
    simp only [Op.operands] at hp h;simp only [Cx.op] at hop ⊢;cases hcal : c.callee with
    | value f =>
      simp only [hcal] at hop ⊢;simp only [Call.operands, hcal] at hp h;rw [<- hp f (by simp), <- h.peeks (ys := c.args.toList) (fun y hy => by simp at hy ⊢; exact .inr hy)]
      split at hop <;> try (cases hop; done)
      rename_i f' args h1 h2
      try simp only [h1, h2]
      split at hop <;> simp only [zAA, reduceCtorEq, zAD] at hop;rename_i r' H' h3;obtain ⟨rfl, rfl⟩ := hop
      try simp only []
      refine ⟨?_, ?_⟩ <;> simp [qt, hcal, tkO]
    | invoke rc m =>
      simp only [hcal] at hop ⊢;simp only [Call.operands, hcal] at hp h;rw [<- hp rc (by simp), <- h.peeks (ys := c.args.toList) (fun y hy => by simp at hy ⊢; exact .inr hy)]
      split at hop <;> try (cases hop; done)
      rename_i f' args h1 h2
      try simp only [h1, h2]
      split at hop <;> simp only [zAA, reduceCtorEq, zAD] at hop;rename_i r' H' h3;obtain ⟨rfl, rfl⟩ := hop
      try simp only []
      refine ⟨?_, ?_⟩ <;> simp [qt, hcal, tkO]
    | builtin b =>
      simp only [hcal] at hop ⊢;simp only [Call.operands, hcal] at hp h;have plain : (match cx.builtin b c.argTypes c.args env H with | none => none | some (r, env) => some (r, (⟨env, H, lk, df⟩ : St))) = some (r, s') ->
          s'.env = tkO env (qt takes ⟨dst, .call c, type, pos, after, guard⟩) /\ (match cx.builtin b c.argTypes c.args env2 H with | none => none | some (r, env) => some (r, (⟨env, H, lk, df⟩ : St))) = some (r, { s' with env := tkO env2 (qt takes ⟨dst, .call c, type, pos, after, guard⟩) }) := by
        intro hop;split at hop <;> simp only [zAA, reduceCtorEq, zAD] at hop;rename_i r' e h1;obtain ⟨rfl, rfl⟩ := hop;have hg : e = tkO env (qt takes ⟨dst, .call c, type, pos, after, guard⟩) /\ cx.builtin b c.argTypes c.args env2 H = some (r', tkO env2 (qt takes ⟨dst, .call c, type, pos, after, guard⟩)) := by
          exact zeS (xs := c.args.toList) (h.mono fun y hy => by simpa using hy) (fun y hy => hy) h1 (by cases b <;> simp [qt, hcal])
        obtain ⟨rfl, hg⟩ := hg;refine ⟨rfl, ?_⟩;simp only [hg]
      split at hop
      · rename_i x y t ts hargs htys
        obtain ⟨e1, e2⟩ := zhw (hp x (by have : x ∈ c.args.toList := by rw [hargs]; simp
                                         simpa using this)) (hp y (by have : y ∈ c.args.toList := by rw [hargs]; simp
                                                                      simpa using this)) hop
        have : qt takes ⟨dst, .call c, type, pos, after, guard⟩ = none := by simp [qt, hcal]
        rw [this];exact ⟨e1, e2⟩
      · rename_i x y t u hargs htys
        have : qt takes ⟨dst, .call c, type, pos, after, guard⟩ = some x := by simp [qt, hcal, hargs]
        split at hop
        · rename_i hu
          split at hop <;> try (cases hop; done)
          rename_i htu
          obtain ⟨e1, e2⟩ := zeT (hp x (by have : x ∈ c.args.toList := by rw [hargs]; simp
                                           simpa using this)) (hp y (by have : y ∈ c.args.toList := by rw [hargs]; simp
                                                                        simpa using this)) hop
          simp only [htu, if_true, this, tkO];exact ⟨e1, e2⟩
        · exact plain hop
      · exact plain hop
end Go.Vm
namespace Go.Vm
open Go
variable {P:Program}
theorem eqL_eq:∀ {a b:List Nat},eqL a b=true->a=b
 | [],[],_=>rfl
 | [],_::_,h=>by simp [eqL] at h
 | _::_,[],h=>by simp [eqL] at h
 | x::xs,y::ys,h=>by
  simp only [eqL,zAC] at h;rw [zAJ h.1,eqL_eq h.2]
mutual
theorem V.same_eq:∀ {a b:V},V.same a b=true->a=b
 | .bool a,b,h=>by cases b<;>simp [V.same] at h<;>simp [h]
 | .int k n,b,h=>by cases b<;>simp [V.same] at h;simp [h]
 | .str a,b,h=>by cases b<;>simp [V.same] at h;simp [eqL_eq h]
 | .nilp,b,h=>by cases b<;>simp [V.same] at h;rfl
 | .ptr x y,b,h=>by cases b<;>simp [V.same] at h;simp [h]
 | .gptr x y,b,h=>by cases b<;>simp [V.same] at h;simp [h]
 | .obj x,b,h=>by cases b<;>simp [V.same] at h;simp [h]
 | .vp xs,b,h=>by cases b<;>simp [V.same] at h;rw [sames_eq h]
 | .snil,b,h=>by cases b<;>simp [V.same] at h;rfl
 | .sl z xs o,b,h=>by cases b<;>simp [V.same] at h;rw [h.1,sames_eq h.2.2,h.2.1]
 | .sr x y z u,b,h=>by cases b<;>simp [V.same] at h;simp [h]
 | .nilm,b,h=>by cases b<;>simp [V.same] at h;rfl
 | .map x,b,h=>by cases b<;>simp [V.same] at h;simp [h]
 | .nilf,b,h=>by cases b<;>simp [V.same] at h;rfl
 | .fn f as cs,b,h=>by
  cases b<;>try (simp [V.same] at h;done)
  rename_i f' as' cs';simp only [V.same,zAC] at h;obtain ⟨⟨h1,h2⟩,h3⟩:=h;split at h1
  ·rename_i e;rw [e,sames_eq h2,sames_eq h3]
  ·cases h1
 | .nili,b,h=>by cases b<;>simp [V.same] at h;rfl
 | .ifc t v,b,h=>by cases b<;>simp [V.same] at h;rw [h.1,V.same_eq h.2]
 | .agg xs,b,h=>by cases b<;>simp [V.same] at h;rw [sames_eq h]
 | .tup xs,b,h=>by cases b<;>simp [V.same] at h;rw [sames_eq h]
 | .junk,b,h=>by cases b<;>simp [V.same] at h;rfl
 | .ulr x y z,b,h=>by cases b<;>simp [V.same] at h;simp [h]
 | .ulp x y z,b,h=>by cases b<;>simp [V.same] at h;simp [h]
theorem sames_eq:∀ {a b:List V},sames a b=true->a=b
 | [],[],_=>rfl
 | [],_::_,h=>by simp [sames] at h
 | _::_,[],h=>by simp [sames] at h
 | x::xs,y::ys,h=>by
  simp only [sames,zAC] at h;rw [V.same_eq h.1,sames_eq h.2]
end
theorem eqL_refl:∀ (a:List Nat),eqL a a=true
 | []=>rfl
 | x::xs=>by simp [eqL,eqL_refl xs]
mutual
theorem V.same_refl:∀ (a:V),V.same a a=true
 | .bool a=>by simp [V.same]
 | .int k n=>by simp [V.same]
 | .str a=>by simp [V.same,eqL_refl]
 | .nilp=>rfl
 | .ptr x y=>by simp [V.same]
 | .gptr x y=>by simp [V.same]
 | .obj x=>by simp [V.same]
 | .vp xs=>by simp [V.same,sames_refl xs]
 | .snil=>rfl
 | .sl z xs o=>by simp [V.same,sames_refl xs]
 | .sr x y z u=>by simp [V.same]
 | .nilm=>rfl
 | .map x=>by simp [V.same]
 | .nilf=>rfl
 | .fn f as cs=>by simp [V.same,sames_refl as,sames_refl cs]
 | .nili=>rfl
 | .ifc t v=>by simp [V.same,V.same_refl v]
 | .agg xs=>by simp [V.same,sames_refl xs]
 | .tup xs=>by simp [V.same,sames_refl xs]
 | .junk=>rfl
 | .ulr x y z=>by simp [V.same]
 | .ulp x y z=>by simp [V.same]
theorem sames_refl:∀ (a:List V),sames a a=true
 | []=>rfl
 | x::xs=>by simp [sames,V.same_refl x,sames_refl xs]
end
theorem vq (m i:Nat):bit m i=m.testBit i:=by
 unfold bit;rw [Nat.testBit_eq_decide_div_mod_eq];show Nat.beq ((m >>> i) % 2) 1=_;rw [Nat.shiftRight_eq_div_pow];cases h:Nat.beq (m / 2 ^ i % 2) 1 with
 | true=>simp [zAJ h]
 | false=>have:=Nat.ne_of_beq_eq_false h;simp;omega
theorem qa (a b i:Nat):bit (Nat.lor a b) i=(bit a i || bit b i):=by
 simp only [vq];exact zBZ a b i
theorem qg (k i:Nat):bit (Nat.pow 2 k) i=decide (k=i):=by
 rw [vq];exact zBX
theorem zhx {a b i:Nat} (h:Nat.beq (Nat.land a b) 0=true) (ha:bit a i=true) (hb:bit b i=true):False:=by
 have h1:a &&& b=0:=zAJ h;have h2:(a &&& b).testBit i=(a.testBit i && b.testBit i):=Nat.testBit_and a b i;rw [vq] at ha hb;rw [h1,ha,hb] at h2;simp at h2
theorem kA (i:Nat):bit 0 i=false:=by rw [vq];simp
theorem ki {t:Nat}:∀ {xs:List Operand},Operand.tmp t∈xs->bit (tmpMask xs) t=true
 | .tmp u::xs,h=>by
  simp only [tmpMask,qa,qg,zAe,decide_eq_true_eq];rcases zAK.1 h with h|h
  ·cases h;exact .inl rfl
  ·exact .inr (ki h)
 | .const _::xs,h=>by
  simp only [tmpMask];rcases zAK.1 h with h|h
  ·cases h
  ·exact ki h
 | .global _::xs,h=>by
  simp only [tmpMask];rcases zAK.1 h with h|h
  ·cases h
  ·exact ki h
 | .func _::xs,h=>by
  simp only [tmpMask];rcases zAK.1 h with h|h
  ·cases h
  ·exact ki h
theorem zcK {j m:Nat}:∀ {rs:List Rec},maskAt rs j=some m->∃ q∈rs,q.idx=j/\q.m=m
 | [],h=>by simp [maskAt] at h
 | r::rs,h=>by
  simp only [maskAt] at h;split at h
  ·rename_i hb;cases h;exact ⟨r,zAL ..,zAJ hb,rfl⟩
  ·obtain ⟨q,h1,h2⟩:=zcK h;exact ⟨q,zAE _ h1,h2⟩
theorem vN {rs:List Rec}:∀ {es:List Edge} {m:Nat},qP rs es=some m->(∀ e∈es,Region.binds .any e=true->∃ q∈rs,q.idx=e.on) /\
  ∀ i,bit m i=true->∃ e∈es,Region.binds .any e=true/\(e.on=i\/∃ q∈rs,q.idx=e.on/\bit q.m i=true)
 | [],m,h=>by
  simp only [qP,zAA] at h;subst h;exact ⟨fun e he=>by simp at he,fun i hi=>by rw [kA] at hi;cases hi⟩
 | e::es,m,h=>by
  simp only [qP] at h;split at h
  ·rename_i hb;obtain ⟨h1,h2⟩:=vN h;refine ⟨fun e' he hb'=>?_,fun i hi=>?_⟩
   ·rcases zAK.1 he with rfl|he
    ·rw [hb] at hb';cases hb'
    ·exact h1 e' he hb'
   ·obtain ⟨e',he,r⟩:=h2 i hi;exact ⟨e',zAE _ he,r⟩
  ·rename_i hb;split at h<;>try (cases h;done)
   rename_i m1 hm1;split at h<;>try (cases h;done)
   rename_i k hk;cases h;obtain ⟨q,hq,hqi,hqm⟩:=zcK hm1;obtain ⟨h1,h2⟩:=vN hk;refine ⟨fun e' he hb'=>?_,fun i hi=>?_⟩
   ·rcases zAK.1 he with rfl|he
    ·exact ⟨q,hq,hqi⟩
    ·exact h1 e' he hb'
   ·simp only [qa,qg,zAe,decide_eq_true_eq] at hi;rcases hi with hi|hi|hi
    ·obtain ⟨e',he,r⟩:=h2 i hi;exact ⟨e',zAE _ he,r⟩
    ·exact ⟨e,zAL ..,hb,.inr ⟨q,hq,hqi,by rw [hqm];exact hi⟩⟩
    ·exact ⟨e,zAL ..,hb,.inl hi⟩
theorem wh {cx:Cx} {takes:List Tmp} {o:Oper} {env:List V} {H:Hp} {lk:List (Nat×Nat)} {df:List (V×List V)} {r:OR} {s':St} (hn:z9 cx.P cx.uq takes o=false) (hop:cx.op takes o env H lk df=some (r,s')) :
  ∃ v,r=.val v/\s'=⟨tkO env (qt takes o),H,lk,df⟩/\∀ lk2 df2,cx.op takes o env H lk2 df2=some (.val v,⟨tkO env (qt takes o),H,lk2,df2⟩):=by
 have henv:=(xC (env2:=env) (fun t _=>rfl) hop).1
 suffices h:∃ v e,r=.val v/\s'=⟨e,H,lk,df⟩/\∀ lk2 df2,cx.op takes o env H lk2 df2=some (.val v,⟨e,H,lk2,df2⟩) by
  obtain ⟨v,e,h1,h2,h3⟩:=h;rw [h2] at henv;simp only at henv;subst henv;exact ⟨v,h1,h2,h3⟩
 have read:(match zD cx.P cx.gl o env H with|none=>none|some v=>some (OR.val v,(⟨env,H,lk,df⟩:St)))=some (r,s')->∃ v e,r=.val v/\s'=⟨e,H,lk,df⟩/\∀ lk2 df2,(match zD cx.P cx.gl o env H with|none=>none|some v=>some (OR.val v,(⟨env,H,lk2,df2⟩:St)))=some (.val v,⟨e,H,lk2,df2⟩):=by
  intro hh;split at hh<;>simp only [zAA,reduceCtorEq,zAD] at hh;rename_i v hv;obtain ⟨rfl,rfl⟩:=hh;exact ⟨v,env,rfl,rfl,fun _ _=>rfl⟩
 have mv:∀ x,(match take env x with|none=>none|some (v,env)=>some (OR.val v,(⟨env,H,lk,df⟩:St)))=some (r,s')->∃ v e,r=.val v/\s'=⟨e,H,lk,df⟩/\∀ lk2 df2,(match take env x with|none=>none|some (v,env)=>some (OR.val v,(⟨env,H,lk2,df2⟩:St)))=some (.val v,⟨e,H,lk2,df2⟩):=by
  intro x hh;split at hh<;>simp only [zAA,reduceCtorEq,zAD] at hh;rename_i v e hv;obtain ⟨rfl,rfl⟩:=hh;exact ⟨v,e,rfl,rfl,fun _ _=>rfl⟩
 obtain ⟨dst,op,type,pos,after,guard⟩:=o;cases op<;>simp only [z9,zBy] at hn
 case load t a =>
  cases dst with
  | none=>exact read hop
  | some d =>
   simp only at hn;simp only [Cx.op,hn] at hop ⊢;exact read hop
 case move x =>
  cases dst with
  | none=>exact read hop
  | some d =>
   cases hb:takes.any (Nat.beq d) with
   | true =>
    simp only [Cx.op,hb] at hop ⊢;exact mv x hop
   | false =>
    simp only [Cx.op,hb] at hop ⊢;exact read hop
 case assign x =>
  simp only [Cx.op] at hop ⊢;exact mv x hop
 case slice t x lo hi mx =>
  cases mx with
  | some m=>exact read hop
  | none =>
   simp only at hn;simp only [Cx.op,hn] at hop ⊢;cases hf:yI takes x lo hi with
   | false =>
    simp only [hf] at hop ⊢;exact read hop
   | true =>
    simp only [hf] at hop ⊢;split at hop<;>simp only [zAA,reduceCtorEq,zAD] at hop;rename_i v e hv;obtain ⟨rfl,rfl⟩:=hop;exact ⟨v,e,rfl,rfl,fun _ _=>rfl⟩
 case call c =>
  cases hcal:c.callee<;>simp only [hcal,zBy] at hn;rename_i bi;have plain':∀ lk df,cx.op takes ⟨dst,.call c,type,pos,after,guard⟩ env H lk df=(match cx.builtin bi c.argTypes c.args env H with|none=>none|some (r,env)=>some (r,(⟨env,H,lk,df⟩:St))):=by
   intro lk df;simp only [Cx.op,hcal];split
   ·simp at hn
   ·rename_i x y t u hargs htys;simp only [htys] at hn;simp only [hn];cases cx.builtin .append c.argTypes c.args env H<;>rfl
   ·rfl
  simp only [plain'] at hop ⊢;clear plain';split at hop<;>simp only [zAA,reduceCtorEq,zAD] at hop;rename_i r' e h1;obtain ⟨rfl,rfl⟩:=hop;have:∃ v,r'=.val v:=by
   unfold Cx.builtin at h1;split at h1<;>try (cases h1;done)
   ·simp only [Option.bind_eq_bind,zAG,zAA,zAD] at h1;obtain ⟨u,_,v,_,h3,rfl⟩:=h1;exact ⟨_,h3.symm⟩
   ·split at h1<;>try (cases h1;done)
    simp only [Option.bind_eq_bind,zAG,zAA,zAD] at h1;obtain ⟨y',_,⟨v,e'⟩,_,w,_,h4,rfl⟩:=h1;exact ⟨_,h4.symm⟩
   all_goals
    simp only [Option.bind_eq_bind,zAG] at h1;obtain ⟨u,_,v,_,h3⟩:=h1;split at h3<;>simp only [zAA,reduceCtorEq,zAD] at h3;exact ⟨_,h3.1.symm⟩
  obtain ⟨v,rfl⟩:=this
  try simp only [h1]
  exact ⟨v,e,rfl,rfl,fun _ _=>rfl⟩
 case convert c d x =>
  simp only [Cx.op] at hop ⊢;split at hop
  ·rename_i v e hv;simp only [zAA,zAD] at hop;obtain ⟨rfl,rfl⟩:=hop;exact ⟨v,e,rfl,rfl,fun _ _=>rfl⟩
  ·split at hop
   ·split at hop<;>simp only [zAA,reduceCtorEq,zAD] at hop;rename_i v hv;obtain ⟨rfl,rfl⟩:=hop;exact ⟨v,env,rfl,rfl,fun _ _=>rfl⟩
   ·exact read hop
 all_goals exact read hop
theorem zjW {cx:Cx} {takes:List Tmp} {o:Oper} {env:List V} {H H2:Hp} {lk:List (Nat×Nat)} {df:List (V×List V)} {v:V} {s':St} (hn:z9 cx.P cx.uq takes o=false) (hf:jV cx.P cx.uq o=false) (hop:cx.op takes o env H lk df=some (.val v,s')) :
  ∀ lk2 df2,∃ s2,cx.op takes o env H2 lk2 df2=some (.val v,s2):=by
 intro lk2 df2;have read:zD cx.P cx.gl o env H2=zD cx.P cx.gl o env H->(match zD cx.P cx.gl o env H with|none=>none|some v=>some (OR.val v,(⟨env,H,lk,df⟩:St)))=some (.val v,s')->∃ s2,(match zD cx.P cx.gl o env H2 with|none=>none|some v=>some (OR.val v,(⟨env,H2,lk2,df2⟩:St)))=some (.val v,s2):=by
  intro e hh;rw [e];split at hh<;>simp only [zAA,reduceCtorEq,zAD] at hh;rename_i u hv;obtain ⟨h1,rfl⟩:=hh;cases h1;exact ⟨_,rfl⟩
 have mv:∀ x,(match take env x with|none=>none|some (v,env)=>some (OR.val v,(⟨env,H,lk,df⟩:St)))=some (.val v,s')->∃ s2,(match take env x with|none=>none|some (v,env)=>some (OR.val v,(⟨env,H2,lk2,df2⟩:St)))=some (.val v,s2):=by
  intro x hh;split at hh<;>simp only [zAA,reduceCtorEq,zAD] at hh;rename_i u e hv;obtain ⟨h1,rfl⟩:=hh;cases h1;exact ⟨_,rfl⟩
 obtain ⟨dst,op,type,pos,after,guard⟩:=o;cases op<;>simp only [z9,jV,zBy] at hn hf
 case move x =>
  cases dst with
  | none=>exact read rfl hop
  | some d =>
   cases hb:takes.any (Nat.beq d) with
   | true =>
    simp only [Cx.op,hb] at hop ⊢;exact mv x hop
   | false =>
    simp only [Cx.op,hb] at hop ⊢;exact read rfl hop
 case assign x =>
  simp only [Cx.op] at hop ⊢;exact mv x hop
 case slice t x lo hi mx =>
  cases mx with
  | some m=>exact read rfl hop
  | none =>
   simp only at hn;simp only [Cx.op,hn] at hop ⊢;cases hfr:yI takes x lo hi with
   | false =>
    simp only [hfr] at hop ⊢;exact read rfl hop
   | true =>
    simp only [hfr] at hop ⊢;split at hop<;>simp only [zAA,reduceCtorEq,zAD] at hop;obtain ⟨h1,rfl⟩:=hop;cases h1;exact ⟨_,rfl⟩
 case convert c d x =>
  simp only [Cx.op] at hop ⊢;split at hop
  ·rename_i v' e hv;simp only [zAA,zAD] at hop;obtain ⟨h1,rfl⟩:=hop;cases h1;exact ⟨_,rfl⟩
  ·simp only [hf] at hop ⊢;exact read rfl hop
 all_goals exact read rfl hop
end Go.Vm
namespace Go.Vm
open Go
variable {cx:Cx} {all:Array Oper} {takes:List Tmp}
def zaI (all:Array Oper) (takes:List Tmp) (r:Rec):List V :=
 if zq all r.o r.env=some true then putA (tkO r.env (qt takes r.o)) r.o.dst r.v else putA r.env r.o.dst r.v
def vO (rs:List Rec) (q:Rec) (D:Nat):Prop:=∀ d∈rs,d.hp=true->bit q.m d.idx=true->bit D d.idx=true
structure RI (cx:Cx) (all:Array Oper) (takes:List Tmp) (s0:St) (Ev:Nat->List V) (i:Nat) (rs:List Rec) (cs:List Cfg) (s:St):Prop where
 ex:∀ j,j<i->∃ r∈rs,r.idx=j
 lt:∀ r∈rs,r.idx<i
 uniq:∀ r∈rs,∀ q∈rs,r.idx=q.idx->r=q
 get:∀ r∈rs,all[r.idx]?=some r.o
 tm:∀ r∈rs,∀ t,(r.o.dst=some t\/qt takes r.o=some (.tmp t))->bit r.tm t=true
 lm:∀ r∈rs,∀ t,(bit r.tm t=true\/t∈r.o.looksAt all)->bit r.lm t=true
 edge:∀ r∈rs,∀ e∈r.o.after,Region.binds .any e=true->e.on<r.idx
 mlt:∀ r∈rs,∀ b,bit r.m b=true->b<r.idx
 mask:∀ r∈rs,∀ b,bit r.m b=true->∃ e∈r.o.after,Region.binds .any e=true/\(e.on=b\/∃ q∈rs,q.idx=e.on/\bit q.m b=true)
 slots:∀ r∈rs,∀ q∈rs,q.idx<r.idx->qm r q=true
 ev:∀ r∈rs,Ev r.idx=r.env
 ev0:Ev 0=s0.env
 evi:Ev i=s.env
 evs:∀ r∈rs,Ev (r.idx+1)=zaI all takes r
 off:∀ r∈rs,zq all r.o r.env≠some true->zq all r.o r.env=some false/\r.hp=false/\r.v=.tup []
 calm:∀ r∈rs,zq all r.o r.env=some true->r.hp=z9 cx.P cx.uq takes r.o/\(z9 cx.P cx.uq takes r.o=false->∃ H lk df s1,cx.op takes r.o r.env H lk df=some (.val r.v,s1))
 free:∀ r∈rs,zq all r.o r.env=some true->r.free=true->jV cx.P cx.uq r.o=false
 c0:∃ c∈cs,c.D=0/\c.H=s0.H/\c.lk=s0.lk/\c.df=s0.defers
 top:∃ c cs',cs=c::cs'/\c.D=chgM rs/\c.H=s.H/\c.lk=s.lk/\c.df=s.defers
 cD:∀ c∈cs,∀ b,bit c.D b=true->∃ q∈rs,q.hp=true/\q.idx=b
 cuniq:∀ c∈cs,∀ d∈cs,c.D=d.D->c=d
 g1:∀ c∈cs,∀ q∈rs,q.hp=true->bit c.D q.idx=false->vO rs q c.D->∃ c3∈cs,c3.D=Nat.lor c.D (Nat.pow 2 q.idx)/\cx.runC takes q.o q.env c c3.D=some (q.v,c3)
 g2:∀ c∈cs,∀ q∈rs,q.hp=false->q.free=false->vO rs q c.D->(∀ d∈rs,d.hp=true->bit c.D d.idx=true->bit d.m q.idx=false)->∃ c2,cx.runC takes q.o q.env c 0=some (q.v,c2)
theorem sameP_eq:∀ {a b:List (V×V)},sameP a b=true->a=b
 | [],[],_=>rfl
 | [],_::_,h=>by simp [sameP] at h
 | _::_,[],h=>by simp [sameP] at h
 | (x,y)::xs,(z,u)::ys,h=>by
  simp only [sameP,zAC] at h;rw [V.same_eq h.1.1,V.same_eq h.1.2,sameP_eq h.2]
theorem sameNN_eq:∀ {a b:List (Nat×Nat)},sameNN a b=true->a=b
 | [],[],_=>rfl
 | [],_::_,h=>by simp [sameNN] at h
 | _::_,[],h=>by simp [sameNN] at h
 | (x,y)::xs,(z,u)::ys,h=>by
  simp only [sameNN,zAC] at h;rw [zAJ h.1.1,zAJ h.1.2,sameNN_eq h.2]
theorem sameDf_eq:∀ {a b:List (V×List V)},sameDf a b=true->a=b
 | [],[],_=>rfl
 | [],_::_,h=>by simp [sameDf] at h
 | _::_,[],h=>by simp [sameDf] at h
 | (x,y)::xs,(z,u)::ys,h=>by
  simp only [sameDf,zAC] at h;rw [V.same_eq h.1.1,sames_eq h.1.2,sameDf_eq h.2]
theorem sameBlk_eq:∀ {a b:Blk},sameBlk a b=true->a=b
 | .cells a t,b,h=>by
  cases b<;>simp only [sameBlk,zAC,zAH] at h;rw [zAJ h.1,sames_eq h.2]
 | .map a,b,h=>by
  cases b<;>simp only [sameBlk,zAH] at h;rw [sameP_eq h]
 | .iter a i,b,h=>by
  cases b<;>simp only [sameBlk,zAC,zAH] at h;rw [zAJ h.1,eqL_eq h.2]
 | .ul v z a e,b,h=>by
  cases b<;>simp only [sameBlk,zAC,zAH] at h;rw [zAJ h.1.1.1,zAJ h.1.1.2,zAJ h.1.2,sames_eq h.2]
theorem sameBs_eq:∀ {a b:List Blk},sameBs a b=true->a=b
 | [],[],_=>rfl
 | [],_::_,h=>by simp [sameBs] at h
 | _::_,[],h=>by simp [sameBs] at h
 | x::xs,z::ys,h=>by
  simp only [sameBs,zAC] at h;rw [sameBlk_eq h.1,sameBs_eq h.2]
theorem ziY {a b:Cfg} (h:wM a b=true):a.H=b.H/\a.lk=b.lk/\a.df=b.df:=by
 obtain ⟨D,⟨bs,es⟩,lk,df⟩:=a;obtain ⟨D',⟨bs',es'⟩,lk',df'⟩:=b;simp only [wM,zAC] at h;exact ⟨by rw [sameBs_eq h.2,sameNN_eq h.1.2],sameNN_eq h.1.1.1,sameDf_eq h.1.1.2⟩
theorem zbm {D:Nat} {c:Cfg}:∀ {cs:List Cfg},wN D cs=some c->c∈cs/\c.D=D
 | [],h=>by simp [wN] at h
 | d::cs,h=>by
  simp only [wN] at h;split at h
  ·rename_i hb;cases h;exact ⟨zAL ..,zAJ hb⟩
  ·obtain ⟨h1,h2⟩:=zbm h;exact ⟨zAE _ h1,h2⟩
theorem jo {α:Type} {f:α->Bool}:∀ {l:List α},qu f l=true->∀ x∈l,f x=true
 | [],_,x,hx=>by simp at hx
 | y::l,h,x,hx=>by
  simp only [qu] at h;split at h
  ·rename_i hy;rcases zAK.1 hx with rfl|hx
   ·exact hy
   ·exact jo h x hx
  ·cases h
theorem bit_chgM {b:Nat}:∀ {rs:List Rec},bit (chgM rs) b=true ↔ ∃ q∈rs,q.hp=true/\q.idx=b
 | []=>by simp [chgM,kA]
 | r::rs=>by
  have ih:=bit_chgM (b:=b) (rs:=rs);simp only [chgM];split
  ·rename_i h;simp only [qa,qg,zAe,decide_eq_true_eq,ih,zAK];constructor
   ·rintro (h1|⟨q,h1,h2⟩)
    ·exact ⟨r,.inl rfl,h,h1⟩
    ·exact ⟨q,.inr h1,h2⟩
   ·rintro ⟨q,rfl|h1,h2⟩
    ·exact .inl h2.2
    ·exact .inr ⟨q,h1,h2⟩
  ·rename_i h;rw [ih];simp only [zAK];constructor
   ·rintro ⟨q,h1,h2⟩;exact ⟨q,.inr h1,h2⟩
   ·rintro ⟨q,rfl|h1,h2⟩
    ·rw [h] at h2;cases h2.1
    ·exact ⟨q,h1,h2⟩
theorem jA {a b:Nat} (h:∀ i,bit a i=bit b i):a=b:=by
 apply Nat.eq_of_testBit_eq;intro i;rw [<- vq,<- vq];exact h i
theorem z6 (a b i:Nat):bit (Nat.land a b) i=(bit a i && bit b i):=by
 simp only [vq];exact Nat.testBit_and a b i
theorem subM_spec {a b:Nat}:qO a b=true ↔ ∀ i,bit a i=true->bit b i=true:=by
 unfold qO;constructor
 ·intro h i hi;have h1:=zAJ h;rw [<- h1,z6,zAC] at hi;exact hi.2
 ·intro h;have:Nat.land a b=a:=by
   apply jA;intro i;rw [z6];cases hi:bit a i with
   | false=>rfl
   | true=>simp [h i hi]
  rw [this];exact zAu a
theorem sub_ahead {rs:List Rec} {q:Rec} {D:Nat}:qO (Nat.land q.m (chgM rs)) D=true ↔ vO rs q D:=by
 rw [subM_spec];constructor
 ·intro h d hd hh hb;exact h d.idx (by rw [z6,hb,zBD];exact bit_chgM.2 ⟨d,hd,hh,rfl⟩)
 ·intro h i hi;rw [z6,zAC] at hi;obtain ⟨d,h1,h2,rfl⟩:=bit_chgM.1 hi.2;exact h d h1 h2 hi.1
theorem zcL {D:Nat} {q:Rec}:∀ {rs:List Rec},(∀ d∈rs,d.hp=true->bit D d.idx=true->bit d.m q.idx=false)->z4 D q rs=false
 | [],_=>rfl
 | c::cs,h=>by
  simp only [z4,zcL fun d hd=>h d (zAE _ hd),zBg];cases h1:c.hp with
  | false=>rfl
  | true=>cases h2:bit D c.idx with
   | false=>rfl
   | true=>simp [h c (zAL ..) h1 h2]
theorem runC_D {o:Oper} {env:List V} {c:Cfg} {D:Nat} {v:V} {c2:Cfg} (h:cx.runC takes o env c D=some (v,c2)) (D':Nat):c2.D=D/\cx.runC takes o env c D'=some (v,{ c2 with D:=D' }):=by
 unfold Cx.runC at h ⊢;split at h<;>simp only [zAA,reduceCtorEq,zAD] at h
 ·obtain ⟨rfl,rfl⟩:=h;exact ⟨rfl,by simp only [*]⟩
 ·obtain ⟨rfl,rfl⟩:=h;exact ⟨rfl,by simp only [*]⟩
theorem xD {o:Oper} {env:List V} {v:V} {m b:Nat}:∀ {cs l:List Cfg},cx.runAll takes o env v m b cs=some l ->
  (∀ c∈cs,qO m c.D=true->∃ c2∈l,c2.D=Nat.lor c.D b/\cx.runC takes o env c c2.D=some (v,c2))/\(∀ c2∈l,∃ c∈cs,qO m c.D=true/\c2.D=Nat.lor c.D b/\cx.runC takes o env c c2.D=some (v,c2))
 | [],l,h=>by
  simp only [Cx.runAll,zAA] at h;subst h;exact ⟨fun c hc=>by simp at hc,fun c hc=>by simp at hc⟩
 | c::cs,l,h=>by
  simp only [Cx.runAll] at h;split at h
  ·rename_i hs;obtain ⟨h1,h2⟩:=xD h;refine ⟨fun c' hc hb=>?_,fun c2 hc=>?_⟩
   ·rcases zAK.1 hc with rfl|hc
    ·rw [hs] at hb;cases hb
    ·exact h1 c' hc hb
   ·obtain ⟨c',h3,h4⟩:=h2 c2 hc;exact ⟨c',zAE _ h3,h4⟩
  ·rename_i hs;split at h<;>try (cases h;done)
   rename_i u c2 hr;split at h<;>try (cases h;done)
   rename_i hsame;have:=V.same_eq hsame;subst this;split at h<;>try (cases h;done)
   rename_i l' hl;simp only [zAA] at h;subst h;obtain ⟨h1,h2⟩:=xD hl;have hD:=(runC_D hr 0).1;refine ⟨fun c' hc hb=>?_,fun c3 hc=>?_⟩
   ·rcases zAK.1 hc with rfl|hc
    ·exact ⟨c2,zAL ..,hD,by rw [hD];exact hr⟩
    ·obtain ⟨c3,h3,h4⟩:=h1 c' hc hb;exact ⟨c3,zAE _ h3,h4⟩
   ·rcases zAK.1 hc with rfl|hc
    ·exact ⟨c,zAL ..,hs,hD,by rw [hD];exact hr⟩
    ·obtain ⟨c',h3,h4⟩:=h2 c3 hc;exact ⟨c',zAE _ h3,h4⟩
end Go.Vm
namespace Go.Vm
open Go
variable {cx:Cx} {all:Array Oper} {takes:List Tmp}
theorem ze9 {o:Oper} {env:List V} {v:V} {c:Cfg} (h:cx.valC takes o env v c=true):∃ c2,cx.runC takes o env c 0=some (v,c2):=by
 unfold Cx.valC at h;split at h
 ·rename_i u c2 hr;rw [V.same_eq h] at hr;exact ⟨c2,hr⟩
 ·cases h
theorem RI.start (s:St):RI cx all takes s (fun _=>s.env) 0 [] [⟨0,s.H,s.lk,s.defers⟩] s :=
 {ex:=fun j hj=>by omega,lt:=fun r hr=>by simp at hr,uniq:=fun r hr=>by simp at hr,get:=fun r hr=>by simp at hr,tm:=fun r hr=>by simp at hr,lm:=fun r hr=>by simp at hr,
  edge:=fun r hr=>by simp at hr,mlt:=fun r hr=>by simp at hr,mask:=fun r hr=>by simp at hr,slots:=fun r hr=>by simp at hr,ev:=fun r hr=>by simp at hr,ev0:=rfl,evi:=rfl,
  evs:=fun r hr=>by simp at hr,
  off:=fun r hr=>by simp at hr,calm:=fun r hr=>by simp at hr,free:=fun r hr=>by simp at hr,
  c0:=⟨_,zAL ..,rfl,rfl,rfl,rfl⟩,top:=⟨_,[],rfl,rfl,rfl,rfl,rfl⟩,
  cD:=fun c hc b hb=>by simp only [zAp] at hc;subst hc;rw [kA] at hb;exact absurd hb (by simp),
  cuniq:=fun c hc d hd _=>by simp only [zAp] at hc hd;rw [hc,hd],g1:=fun c _ q hq=>by simp at hq,g2:=fun c _ q hq=>by simp at hq }
theorem zhy {o:Oper} {t:Nat} (h:t∈o.looksAt all):bit (lkM all o) t=true:=by
 rw [lkM,qa,zAe];rcases zA3.1 h with h|h
 ·left
  obtain ⟨x,hx,hxt⟩:=List.mem_filterMap.1 h;split at hxt<;>simp only [zAA,reduceCtorEq] at hxt;subst hxt;exact ki hx
 ·right
  unfold zeZ;split at h
  ·rename_i g b hg;rw [hg];simp only;rw [Option.mem_toList] at h;rw [show (all[g]?).bind (·.dst)=some t from h];simp only [qg,decide_true]
  ·simp at h
theorem zgd {o:Oper} {t:Nat} (h:o.dst=some t\/qt takes o=some (.tmp t)) :
  bit (tmM takes o) t=true:=by
 unfold tmM;rcases h with h|h
 ·rw [h];simp only [qa,qg,decide_true,zBr]
 ·rw [h];have:bit (tmpMask [Operand.tmp t]) t=true:=ki (zAL ..);split
  ·simp only [qa,this,zBl]
  ·exact this
structure Grid (cx:Cx) (takes:List Tmp) (s0:St) (rs:List Rec) (cs:List Cfg) (s:St):Prop where
 c0:∃ c∈cs,c.D=0/\c.H=s0.H/\c.lk=s0.lk/\c.df=s0.defers
 top:∃ c cs',cs=c::cs'/\c.D=chgM rs/\c.H=s.H/\c.lk=s.lk/\c.df=s.defers
 cD:∀ c∈cs,∀ b,bit c.D b=true->∃ q∈rs,q.hp=true/\q.idx=b
 cuniq:∀ c∈cs,∀ d∈cs,c.D=d.D->c=d
 g1:∀ c∈cs,∀ q∈rs,q.hp=true->bit c.D q.idx=false->vO rs q c.D->∃ c3∈cs,c3.D=Nat.lor c.D (Nat.pow 2 q.idx)/\cx.runC takes q.o q.env c c3.D=some (q.v,c3)
 g2:∀ c∈cs,∀ q∈rs,q.hp=false->q.free=false->vO rs q c.D->(∀ d∈rs,d.hp=true->bit c.D d.idx=true->bit d.m q.idx=false)->∃ c2,cx.runC takes q.o q.env c 0=some (q.v,c2)
theorem zk3 {s0:St} {rs:List Rec} {cs:List Cfg} {s s1:St} {r:Rec} {i:Nat} (hG:Grid cx takes s0 rs cs s) (hlt:∀ q∈rs,q.idx<i) (_huq:∀ r∈rs,∀ q∈rs,r.idx=q.idx->r=q) (_hmlt:∀ q∈rs,∀ b,bit q.m b=true->b<q.idx) (hri:r.idx=i) (hrm:∀ b,bit r.m b=true->b<i)
  (hoff:r.hp=false->s1.H=s.H/\s1.lk=s.lk/\s1.defers=s.defers) (hval:r.hp=false->r.free=false->∃ c2,∀ D,cx.runC takes r.o r.env ⟨D,s.H,s.lk,s.defers⟩ 0=some (r.v,c2))
  (hon:r.hp=true->∀ D D',cx.runC takes r.o r.env ⟨D,s.H,s.lk,s.defers⟩ D'=some (r.v,⟨D',s1.H,s1.lk,s1.defers⟩))
  {k:List Cfg->Option (Ex×St)} {res:Ex×St} {c0:Cfg} {cs1:List Cfg} (hcs:cs=c0::cs1) (hk:cx.cfgsK takes rs r c0 ⟨Nat.lor c0.D (Nat.pow 2 i),s1.H,s1.lk,s1.defers⟩ cs1 k=some res) :
  ∃ cs',k cs'=some res/\Grid cx takes s0 (r::rs) cs' s1:=by
 subst hcs;obtain ⟨g0,gt,gD,gu,g1,g2⟩:=hG;obtain ⟨ct,cs',he,hcD,hcH,hcl,hcd⟩:=gt;simp only [List.cons.injEq] at he;obtain ⟨rfl,rfl⟩:=he;have hbit:∀ c∈c0::cs1,bit c.D i=false:=fun c hc=>by
  cases h:bit c.D i with
  | false=>rfl
  | true =>
   obtain ⟨q,hq,_,he⟩:=gD c hc i h;have:=hlt q hq;omega
 unfold Cx.cfgsK at hk;cases hp:r.hp with
 | false =>
  simp only [hp] at hk;split at hk<;>try (cases hk;done)
  rename_i hv;obtain ⟨e1,e2,e3⟩:=hoff hp;have ha:∀ q D,vO (r::rs) q D->vO rs q D:=fun q D h d hd=>h d (zAE _ hd);refine ⟨_,hk,⟨g0,⟨c0,cs1,rfl,?_,by rw [e1,hcH],by rw [e2,hcl],by rw [e3,hcd]⟩,fun c hc b hb=>?_,gu,?_,?_⟩⟩
  ·simp only [chgM,hp];exact hcD
  ·obtain ⟨q,hq,hh⟩:=gD c hc b hb;exact ⟨q,zAE _ hq,hh⟩
  ·intro c hc q hq hqh hqb hqa;rcases zAK.1 hq with rfl|hq
   ·rw [hp] at hqh;cases hqh
   ·exact g1 c hc q hq hqh hqb (ha q _ hqa)
  ·intro c hc q hq hqh hqf hqa hqd;rcases zAK.1 hq with rfl|hq
   ·rw [hqf,zBE] at hv;rcases zAK.1 hc with rfl|hc
    ·obtain ⟨c2,h2⟩:=hval hp hqf;refine ⟨c2,?_⟩;rw [<- h2 c.D,<- hcH,<- hcl,<- hcd]
    ·have h1:=jo hv c hc;rw [sub_ahead.2 (ha q _ hqa)] at h1;exact ze9 h1
   ·exact g2 c hc q hq hqh hqf (ha q _ hqa) fun d hd=>hqd d (zAE _ hd)
 | true =>
  simp only [hp] at hk;split at hk<;>try (cases hk;done)
  rename_i l hl;split at hk<;>try (cases hk;done)
  rename_i hnew;obtain ⟨l1,l2⟩:=xD hl;have hnew:=jo hnew;have hN:∀ c2,c2∈(⟨Nat.lor c0.D (Nat.pow 2 i),s1.H,s1.lk,s1.defers⟩:Cfg)::l->∃ c∈c0::cs1,vO rs r c.D/\c2.D=Nat.lor c.D (Nat.pow 2 i)/\cx.runC takes r.o r.env c c2.D=some (r.v,c2):=by
   intro c2 hc2;rcases zAK.1 hc2 with rfl|hc2
   ·refine ⟨c0,zAL ..,fun d hd hh _=>?_,rfl,?_⟩
    ·rw [hcD];exact bit_chgM.2 ⟨d,hd,hh,rfl⟩
    ·have:=hon hp c0.D (Nat.lor c0.D (Nat.pow 2 i));rw [<- hcH,<- hcl,<- hcd] at this;exact this
   ·obtain ⟨c,hc,hs,hD,hr⟩:=l2 c2 hc2;rw [hri] at hD;exact ⟨c,zAE _ hc,sub_ahead.1 hs,hD,hr⟩
  have hN':∀ c∈c0::cs1,vO rs r c.D->∃ c2∈(⟨Nat.lor c0.D (Nat.pow 2 i),s1.H,s1.lk,s1.defers⟩:Cfg)::l,c2.D=Nat.lor c.D (Nat.pow 2 i)/\cx.runC takes r.o r.env c c2.D=some (r.v,c2):=by
   intro c hc ha;rcases zAK.1 hc with rfl|hc
   ·refine ⟨_,zAL ..,rfl,?_⟩;have:=hon hp c.D (Nat.lor c.D (Nat.pow 2 i));rw [<- hcH,<- hcl,<- hcd] at this;exact this
   ·obtain ⟨c2,hc2,hD,hr⟩:=l1 c hc (sub_ahead.2 ha);rw [hri] at hD;exact ⟨c2,zAE _ hc2,hD,hr⟩
  have hbN:∀ (c:Cfg) (b:Nat),bit (Nat.lor c.D (Nat.pow 2 i)) b=true ↔ bit c.D b=true\/b=i:=fun c b=>by
   rw [qa,qg,zAe,decide_eq_true_eq];exact ⟨fun h=>h.imp id Eq.symm,fun h=>h.imp id Eq.symm⟩
  have hmem:∀ c,c∈(⟨Nat.lor c0.D (Nat.pow 2 i),s1.H,s1.lk,s1.defers⟩:Cfg)::l++c0::cs1 ↔ c∈(⟨Nat.lor c0.D (Nat.pow 2 i),s1.H,s1.lk,s1.defers⟩:Cfg)::l\/c∈c0::cs1:=fun c=>zA3;refine ⟨_,hk,⟨?_,⟨_,_,rfl,?_,rfl,rfl,rfl⟩,?_,?_,?_,?_⟩⟩
  ·obtain ⟨c,hc,h⟩:=g0;exact ⟨c,(hmem c).2 (.inr hc),h⟩
  ·simp only [chgM,hp,hri];rw [hcD];exact jA fun b=>by rw [qa,qa,Bool.or_comm]
  ·intro c hc b hb;rcases (hmem c).1 hc with hc|hc
   ·obtain ⟨d,hd,_,hD,_⟩:=hN c hc;rw [hD,hbN] at hb;rcases hb with hb|rfl
    ·obtain ⟨q,hq,hh⟩:=gD d hd b hb;exact ⟨q,zAE _ hq,hh⟩
    ·exact ⟨r,zAL ..,hp,hri⟩
   ·obtain ⟨q,hq,hh⟩:=gD c hc b hb;exact ⟨q,zAE _ hq,hh⟩
  ·have key:∀ c∈c0::cs1,∀ d∈c0::cs1,Nat.lor c.D (Nat.pow 2 i)=Nat.lor d.D (Nat.pow 2 i)->c=d:=by
    intro c hc d hd he;refine gu c hc d hd (jA fun b=>?_)
    by_cases hb:b=i
    ·rw [hb,hbit c hc,hbit d hd]
    ·have h1:=hbN c b;have h2:=hbN d b;rw [he] at h1;simp only [hb,zBs] at h1 h2;exact zBU.2 (h1.symm.trans h2)
   intro c hc d hd he;rcases (hmem c).1 hc with hc|hc<;>rcases (hmem d).1 hd with hd|hd
   ·obtain ⟨c',hc',_,hcD',hcr⟩:=hN c hc;obtain ⟨d',hd',_,hdD',hdr⟩:=hN d hd;have:=key c' hc' d' hd' (by rw [<- hcD',<- hdD',he])
    subst this;rw [he,hdr] at hcr;simp only [zAA,zAD,true_and] at hcr;exact hcr.symm
   ·obtain ⟨c',hc',_,hcD',hcr⟩:=hN c hc;have h1:=hbit d hd;rw [<- he,hcD',(hbN c' i).2 (.inr rfl)] at h1;cases h1
   ·obtain ⟨d',hd',_,hdD',hdr⟩:=hN d hd;have h1:=hbit c hc;rw [he,hdD',(hbN d' i).2 (.inr rfl)] at h1;cases h1
   ·exact gu c hc d hd he
  ·
   intro c hc q hq hqh hqb hqa;have hqa':vO rs q c.D:=fun d hd=>hqa d (zAE _ hd);rcases (hmem c).1 hc with hc|hc
   ·rcases zAK.1 hq with rfl|hq
    ·obtain ⟨d,hd,_,hD,_⟩:=hN c hc;rw [hD,hri,(hbN d i).2 (.inr rfl)] at hqb;cases hqb
    ·have h1:=jo (hnew c hc) q hq;rw [sub_ahead.2 hqa'] at h1;simp only [hqh,hqb] at h1;split at h1
     ·rename_i u c2 c3 hr hf;rw [zAC] at h1;obtain ⟨h1,h2⟩:=h1;have hu:=V.same_eq h1;subst hu;obtain ⟨e1,e2,e3⟩:=ziY h2;obtain ⟨f1,f2⟩:=zbm hf;refine ⟨c3,f1,f2,?_⟩;have:=(runC_D hr c3.D).2;rw [this,e1,e2,e3]
     ·cases h1
   ·rcases zAK.1 hq with rfl|hq
    ·have:vO rs q c.D:=hqa';obtain ⟨c2,hc2,hD,hr⟩:=hN' c hc this;exact ⟨c2,(hmem c2).2 (.inl hc2),by rw [hri];exact hD,hr⟩
    ·obtain ⟨c3,hc3,hD,hr⟩:=g1 c hc q hq hqh hqb hqa';exact ⟨c3,(hmem c3).2 (.inr hc3),hD,hr⟩
  ·intro c hc q hq hqh hqf hqa hqd;have hqa':vO rs q c.D:=fun d hd=>hqa d (zAE _ hd);rcases zAK.1 hq with rfl|hq
   ·rw [hp] at hqh;cases hqh
   rcases (hmem c).1 hc with hc|hc
   ·have h1:=jo (hnew c hc) q hq;rw [sub_ahead.2 hqa'] at h1;simp only [hqh,hqf,zBE] at h1
    have hrb:bit r.m q.idx=false:=hqd r (zAL ..) hp (by
     obtain ⟨d,hd,_,hD,_⟩:=hN c hc;rw [hD,hri]
     exact (hbN d i).2 (.inr rfl))
    rw [hrb,zcL fun d hd=>hqd d (zAE _ hd),zBE,zBE] at h1;exact ze9 h1
   ·exact g2 c hc q hq hqh hqf hqa' fun d hd=>hqd d (zAE _ hd)
end Go.Vm
namespace Go.Vm
open Go
variable {cx:Cx} {all:Array Oper} {takes:List Tmp}
theorem RI.grid {s0:St} {Ev:Nat->List V} {i:Nat} {rs:List Rec} {cs:List Cfg} {s:St} (h:RI cx all takes s0 Ev i rs cs s):Grid cx takes s0 rs cs s:=⟨h.c0,h.top,h.cD,h.cuniq,h.g1,h.g2⟩
theorem RI.step {s0:St} {Ev:Nat->List V} {i:Nat} {rs:List Rec} {cs:List Cfg} {s s1:St} (h:RI cx all takes s0 Ev i rs cs s) {r:Rec} (hri:r.idx=i) (hget:all[i]?=some r.o) (hm:qP rs r.o.after.toList=some r.m) (henv:r.env=s.env)
  (htm:r.tm=tmM takes r.o)
  (hlm:r.lm=Nat.lor r.tm (lkM all r.o))
  (hslots:qu (qm r) rs=true) (hE:s1.env=zaI all takes r)
  (hoffw:zq all r.o r.env≠some true->zq all r.o r.env=some false/\r.hp=false/\r.v=.tup []/\r.free=true)
  (hcalm:zq all r.o r.env=some true->r.hp=z9 cx.P cx.uq takes r.o/\(z9 cx.P cx.uq takes r.o=false->∃ H lk df s1,cx.op takes r.o r.env H lk df=some (.val r.v,s1)))
  (hfree:zq all r.o r.env=some true->r.free=true->jV cx.P cx.uq r.o=false)
  (hoff:r.hp=false->s1.H=s.H/\s1.lk=s.lk/\s1.defers=s.defers) (hval:r.hp=false->r.free=false->∃ c2,∀ D,cx.runC takes r.o r.env ⟨D,s.H,s.lk,s.defers⟩ 0=some (r.v,c2))
  (hon:r.hp=true->∀ D D',cx.runC takes r.o r.env ⟨D,s.H,s.lk,s.defers⟩ D'=some (r.v,⟨D',s1.H,s1.lk,s1.defers⟩))
  {k:List Cfg->Option (Ex×St)} {res:Ex×St} {c0:Cfg} {cs1:List Cfg} (hcs:cs=c0::cs1) (hk:cx.cfgsK takes rs r c0 ⟨Nat.lor c0.D (Nat.pow 2 i),s1.H,s1.lk,s1.defers⟩ cs1 k=some res) :
  ∃ cs' Ev',k cs'=some res/\RI cx all takes s0 Ev' (i+1) (r::rs) cs' s1:=by
 obtain ⟨m1,m2⟩:=vN hm;have hrm:∀ b,bit r.m b=true->b<i:=fun b hb=>by
  obtain ⟨e,he,hbi,hor⟩:=m2 b hb;rcases hor with rfl|⟨q,hq,hqi,hqb⟩
  ·obtain ⟨q,hq,hqi⟩:=m1 e he hbi;rw [<- hqi];exact h.lt q hq
  ·exact Nat.lt_trans (h.mlt q hq b hqb) (h.lt q hq)
 obtain ⟨cs',hk',hG⟩:=zk3 h.grid h.lt h.uniq h.mlt hri hrm hoff hval hon hcs hk;refine ⟨cs',fun j=>if j<=i then Ev j else s1.env,hk',?_⟩
 have hmem:∀ {q:Rec},q∈r::rs->q=r\/q∈rs:=fun hq=>zAK.1 hq;refine { ex:=?_,lt:=?_,uniq:=?_,get:=?_,tm:=?_,lm:=?_,edge:=?_,mlt:=?_,mask:=?_,slots:=?_,ev:=?_,ev0:=?_,evi:=?_,evs:=?_,off:=?_,calm:=?_,free:=?_,c0:=hG.c0,top:=hG.top,cD:=hG.cD,cuniq:=hG.cuniq,g1:=hG.g1,g2:=hG.g2 }
 ·intro j hj
  by_cases hji:j=i
  ·exact ⟨r,zAL ..,by rw [hri,hji]⟩
  ·obtain ⟨q,hq,hqj⟩:=h.ex j (by omega)
   exact ⟨q,zAE _ hq,hqj⟩
 ·intro q hq;rcases hmem hq with rfl|hq
  ·omega
  ·have:=h.lt q hq;omega
 ·intro a ha b hb he;rcases hmem ha with rfl|ha'<;>rcases hmem hb with rfl|hb'
  ·rfl
  ·have:=h.lt b hb';omega
  ·have:=h.lt a ha';omega
  ·exact h.uniq a ha' b hb' he
 ·intro q hq;rcases hmem hq with rfl|hq
  ·rw [hri];exact hget
  ·exact h.get q hq
 ·intro q hq t ht;rcases hmem hq with rfl|hq
  ·rw [htm];exact zgd ht
  ·exact h.tm q hq t ht
 ·intro q hq t ht;rcases hmem hq with rfl|hq
  ·rw [hlm,qa,zAe];rcases ht with ht|ht
   ·exact .inl ht
   ·exact .inr (zhy ht)
  ·exact h.lm q hq t ht
 ·intro q hq e he hb;rcases hmem hq with rfl|hq
  ·obtain ⟨p,hp,hpi⟩:=m1 e (by simpa using he) hb
   rw [<- hpi,hri];exact h.lt p hp
  ·exact h.edge q hq e he hb
 ·intro q hq b hb;rcases hmem hq with rfl|hq
  ·rw [hri];exact hrm b hb
  ·exact h.mlt q hq b hb
 ·intro q hq b hb;rcases hmem hq with rfl|hq
  ·obtain ⟨e,he,hbi,hor⟩:=m2 b hb;refine ⟨e,by simpa using he,hbi,hor.imp id ?_⟩
   rintro ⟨p,hp,hh⟩;exact ⟨p,zAE _ hp,hh⟩
  ·obtain ⟨e,he,hbi,hor⟩:=h.mask q hq b hb;refine ⟨e,he,hbi,hor.imp id ?_⟩;rintro ⟨p,hp,hh⟩;exact ⟨p,zAE _ hp,hh⟩
 ·intro a ha b hb hlt;rcases hmem ha with rfl|ha'<;>rcases hmem hb with rfl|hb'
  ·omega
  ·exact jo hslots b hb'
  ·have:=h.lt a ha';omega
  ·exact h.slots a ha' b hb' hlt
 ·intro q hq;rcases hmem hq with rfl|hq
  ·rw [hri,if_pos (zAO _),h.evi,henv]
  ·rw [if_pos (Nat.le_of_lt (h.lt q hq))];exact h.ev q hq
 ·rw [if_pos (zAW _)];exact h.ev0
 ·rw [if_neg (by omega)]
 ·intro q hq;rcases hmem hq with rfl|hq
  ·rw [hri,if_neg (by omega)];exact hE
  ·have:=h.lt q hq;rw [if_pos (by omega)];exact h.evs q hq
 ·intro q hq hw;rcases hmem hq with rfl|hq
  ·obtain ⟨a,b,c,_⟩:=hoffw hw;exact ⟨a,b,c⟩
  ·exact h.off q hq hw
 ·intro q hq hw;rcases hmem hq with rfl|hq
  ·exact hcalm hw
  ·exact h.calm q hq hw
 ·intro q hq hw hf;rcases hmem hq with rfl|hq
  ·exact hfree hw hf
  ·exact h.free q hq hw hf
theorem yq {s0:St} {ex:Ex} {s':St}:∀ (os:List Oper) (i:Nat) (rs:List Rec) (cs:List Cfg) (s:St) (Ev:Nat->List V),cx.opsD all takes i rs cs os s=some (ex,s')->RI cx all takes s0 Ev i rs cs s->os=all.toList.drop i ->
  ex=.normal/\∃ Ev rs cs,RI cx all takes s0 Ev all.size rs cs s'
 | [],i,rs,cs,s,Ev,hc,h,ho=>by
  simp only [Cx.opsD,zAA,zAD] at hc;obtain ⟨rfl,rfl⟩:=hc;refine ⟨rfl,Ev,rs,cs,?_⟩;have h1:all.size<=i:=by
   have:=congrArg List.length ho;simp at this;omega
  have h2:i<=all.size:=by
   rcases zAZ all.size i with h3|h3
   ·obtain ⟨r,hr,he⟩:=h.ex all.size h3;have:=h.get r hr;rw [he] at this;simp at this
   ·exact h3
  rw [Nat.le_antisymm h1 h2];exact h
 | o::os,i,rs,cs,⟨env,H,lk,df⟩,Ev,hc,h,ho=>by
  have hget:all[i]?=some o:=by
   have:=congrArg (·[0]?) ho;simp at this;exact this.symm
  have hos:os=all.toList.drop (i+1):=by
   have:=congrArg List.tail ho;simpa using this
  simp only [Cx.opsD] at hc;split at hc<;>try (cases hc;done)
  rename_i m hm;simp only [zH] at hc;split at hc<;>try (cases hc;done)
  ·
   rename_i hw;simp only [zI,zS] at hc;split at hc<;>try (cases hc;done)
   rename_i c0 cs1 hsl;obtain ⟨cs',Ev',hk,hRI⟩:=h.step (r:=⟨i,o,m,_,_,false,true,env,.tup []⟩) (s1:=⟨putA env o.dst (.tup []),H,lk,df⟩) rfl hget hm rfl rfl rfl hsl (by simp [zaI,hw]) (fun _=>⟨hw,rfl,rfl,rfl⟩) (fun hh=>by rw [hw] at hh;cases hh) (fun hh=>by rw [hw] at hh;cases hh)
    (fun _=>⟨rfl,rfl,rfl⟩) (fun _ hf=>nomatch hf) (fun hf=>nomatch hf) rfl hc
   exact yq os (i+1) _ _ _ _ hk hRI hos
  ·rename_i hw;split at hc<;>try (cases hc;done)
   ·rename_i v s1 hop;obtain ⟨env1,H1,lk1,df1⟩:=s1;simp only [zI,zS] at hc;split at hc<;>try (cases hc;done)
    rename_i c0 cs1 hsl;have he:env1=tkO env (qt takes o):=(xC (env2:=env) (fun t _=>rfl) hop).1;obtain ⟨cs',Ev',hk,hRI⟩:=h.step (r:=⟨i,o,m,_,_,z9 cx.P cx.uq takes o,!jV cx.P cx.uq o,env,v⟩) (s1:=⟨putA env1 o.dst v,H1,lk1,df1⟩) rfl hget hm rfl rfl rfl hsl (by simp [zaI,hw,he]) (fun hh=>absurd hw hh) (fun _=>⟨rfl,fun _=>⟨_,_,_,_,hop⟩⟩) (fun _ hf=>by simpa using hf)
     (fun hf=>by
      obtain ⟨v',e1,e2,e3⟩:=wh hf hop;cases e2
      exact ⟨rfl,rfl,rfl⟩)
     (fun hf _=>by
      refine ⟨⟨0,H1,lk1,df1⟩,fun D=>?_⟩
      simp only [Cx.runC,hop])
     (fun hf D D'=>by simp only [Cx.runC,hop]) rfl hc
    exact yq os (i+1) _ _ _ _ hk hRI hos
   ·rename_i s1 hop;obtain ⟨env1,H1,lk1,df1⟩:=s1;simp only [zI,zS] at hc;split at hc<;>try (cases hc;done)
    rename_i c0 cs1 hsl;have he:env1=tkO env (qt takes o):=(xC (env2:=env) (fun t _=>rfl) hop).1;have hhp:z9 cx.P cx.uq takes o=true:=by
     cases hb:z9 cx.P cx.uq takes o with
     | true=>rfl
     | false=>obtain ⟨v',e1,_⟩:=wh hb hop;cases e1
    obtain ⟨cs',Ev',hk,hRI⟩:=h.step (r:=⟨i,o,m,_,_,z9 cx.P cx.uq takes o,false,env,.tup []⟩) (s1:=⟨putA env1 o.dst (.tup []),H1,lk1,df1⟩) rfl hget hm rfl rfl rfl hsl (by simp [zaI,hw,he]) (fun hh=>absurd hw hh) (fun _=>⟨rfl,fun hf=>by rw [hhp] at hf;cases hf⟩) (fun _ hf=>nomatch hf)
     (fun hf=>by simp only [hhp,zBy] at hf) (fun hf=>by simp only [hhp,zBy] at hf) (fun hf D D'=>by simp only [Cx.runC,hop]) rfl hc
    exact yq os (i+1) _ _ _ _ hk hRI hos
end Go.Vm
namespace Go.Vm
open Go
variable {cx:Cx} {all:Array Oper} {takes:List Tmp}
abbrev Lst (l:Array Bool) (j:Nat):Prop:=l.getD j false=true
def zoo (all:Array Oper) (l:Array Bool):Prop:=∀ (j:Nat) (o:Oper),all[j]?=some o->Lst l j->∀ e∈o.after,Region.binds .any e=true->Lst l e.on
def zcM (rs:List Rec) (t j:Nat):Prop:=∃ r∈rs,r.idx=j/\bit r.tm t=true
structure Inv (all:Array Oper) (rs:List Rec) (cs:List Cfg) (Ev:Nat->List V) (l:Array Bool) (s:St):Prop where
 down:zoo all l
 size:l.size=all.size
 env:∀ t m,m<=all.size->(∀ j,j<m->zcM rs t j->Lst l j)->(∀ j,m<=j->zcM rs t j->¬ Lst l j)->s.env[t]?=(Ev m)[t]?
 mem:∃ c∈cs,(∀ b,bit c.D b=true ↔ ∃ q∈rs,q.hp=true/\q.idx=b/\Lst l b)/\s.H=c.H/\s.lk=c.lk/\s.defers=c.df
section
variable {s0 s' s:St} {Ev:Nat->List V} {rs:List Rec} {cs:List Cfg} {l:Array Bool}
theorem ww (hR:RI cx all takes s0 Ev all.size rs cs s') (hd:zoo all l):∀ (n:Nat) (r:Rec),r∈rs->r.idx<=n->(∀ e∈r.o.after,Region.binds .any e=true->Lst l e.on)->∀ b,bit r.m b=true->Lst l b
 | 0,r,hr,hn,_,b,hb=>by
  have:=hR.mlt r hr b hb;omega
 | n+1,r,hr,hn,he,b,hb=>by
  obtain ⟨e,h1,h2,h3⟩:=hR.mask r hr b hb;rcases h3 with rfl|⟨q,hq,hqi,hqb⟩
  ·exact he e h1 h2
  ·have hl:=he e h1 h2;rw [<- hqi] at hl;have:=hR.edge r hr e h1 h2;exact ww hR hd n q hq (by omega) (hd q.idx q.o (hR.get q hq) hl) b hqb
theorem vr (hR:RI cx all takes s0 Ev all.size rs cs s') (hd:zoo all l) {r:Rec} (hr:r∈rs) (hl:Lst l r.idx) {b:Nat} (hb:bit r.m b=true):Lst l b :=
 ww hR hd r.idx r hr (zAO _) (hd r.idx r.o (hR.get r hr) hl) b hb
theorem zge (hR:RI cx all takes s0 Ev all.size rs cs s') {q r:Rec} (hq:q∈rs) (hr:r∈rs) (hlt:q.idx<r.idx) {t:Nat} (h:(bit q.tm t=true/\bit r.lm t=true)\/(bit r.tm t=true/\bit q.lm t=true)):bit r.m q.idx=true:=by
 have hs:=hR.slots r hr q hq hlt;unfold qm at hs;split at hs
 ·assumption
 ·rw [zAC] at hs;rcases h with h|h
  ·exact (zhx hs.1 h.1 h.2).elim
  ·exact (zhx hs.2 h.1 h.2).elim
theorem zdG {env env2:List V} {dst:Option Tmp} {v:V} {t:Nat} (h:env[t]?=env2[t]?):(putA env dst v)[t]?=(putA env2 dst v)[t]?:=by
 cases dst with
 | none=>exact h
 | some d=>simp only [putA,List.getElem?_set',h]
theorem zal {env:List V} {dst:Option Tmp} {v:V} {t:Nat} (h:dst≠some t):(putA env dst v)[t]?=env[t]?:=by
 cases dst with
 | none=>rfl
 | some d =>
  have:d≠t:=fun e=>h (by rw [e])
  simp only [putA,zAl,this,if_false]
theorem zhz (env:List V) (x:Operand):qw env x=env\/∃ u sz xs e,x=.tmp u/\env[u]?=some (.sl sz xs (.yes e))/\qw env x=env.set u (.sl sz xs .no):=by
 cases x with
 | tmp t =>
  simp only [qw];split
  ·rename_i sz xs e h;exact .inr ⟨t,sz,xs,e,rfl,h,rfl⟩
  ·exact .inl rfl
 | _=>exact .inl rfl
theorem ziZ {env:List V} {k:Option Operand} {t:Nat} (h:k≠some (.tmp t)):(tkO env k)[t]?=env[t]?:=by
 cases k with
 | none=>rfl
 | some x =>
  simp only [tkO];rcases zhz env x with h1|⟨u,sz,xs,e,rfl,_,h1⟩
  ·rw [h1]
  ·have:u≠t:=fun e=>h (by rw [e])
   rw [h1];simp only [zAl,this,if_false]
theorem zk4 {env env2:List V} {k:Option Operand} {t:Nat} (h:env[t]?=env2[t]?) (hk:∀ u,k=some (.tmp u)->env[u]?=env2[u]?):(tkO env k)[t]?=(tkO env2 k)[t]?:=by
 cases k with
 | none=>exact h
 | some x =>
  cases x with
  | tmp u =>
   have hu:=hk u rfl;simp only [tkO,qw,hu];split
   ·simp only [List.getElem?_set',h]
   ·exact h
  | _=>exact h
theorem zmi {r:Rec} {t:Nat} (h1:r.o.dst≠some t) (h2:qt takes r.o≠some (.tmp t)):(zaI all takes r)[t]?=r.env[t]?:=by
 unfold zaI;split
 ·rw [zal h1,ziZ h2]
 ·rw [zal h1]
theorem zmj (hR:RI cx all takes s0 Ev all.size rs cs s') {t a:Nat}:∀ {b:Nat},a<=b->b<=all.size->(∀ j,a<=j->j<b->¬ zcM rs t j)->(Ev b)[t]?=(Ev a)[t]?
 | 0,h,_,_=>by rw [Nat.le_zero.1 h]
 | b+1,h,hb,hT=>by
  by_cases e:a=b+1
  ·rw [e]
  ·have hab:a<=b:=by omega
   rw [<- zmj hR hab (by omega) fun j h1 h2=>hT j h1 (by omega)]
   obtain ⟨r,hr,hri⟩:=hR.ex b (by omega)
   have h1:=hR.evs r hr;have h2:=hR.ev r hr;rw [hri] at h1 h2;have hno:bit r.tm t=false:=by
    cases hb:bit r.tm t with
    | false=>rfl
    | true=>exact (hT b hab (by omega) ⟨r,hr,hri,hb⟩).elim
   have hd:r.o.dst≠some t:=fun e=>by rw [hR.tm r hr t (.inl e)] at hno;cases hno
   have hk:qt takes r.o≠some (.tmp t):=fun e=>by rw [hR.tm r hr t (.inr e)] at hno;cases hno
   rw [h1,h2,zmi hd hk]
theorem Inv.agree (hR:RI cx all takes s0 Ev all.size rs cs s') (hI:Inv all rs cs Ev l s) {r:Rec} (hr:r∈rs) (hun:¬ Lst l r.idx) (hpre:∀ e∈r.o.after,Region.binds .any e=true->Lst l e.on) {t:Nat} (ht:bit r.lm t=true):s.env[t]?=r.env[t]?:=by
 have hb:=ww hR hI.down r.idx r hr (zAO _) hpre;rw [<- hR.ev r hr];refine hI.env t r.idx (Nat.le_of_lt (hR.lt r hr)) ?_ ?_
 ·rintro j hj ⟨q,hq,rfl,hqt⟩;exact hb q.idx (zge hR hq hr hj (.inl ⟨hqt,ht⟩))
 ·rintro j hj ⟨q,hq,rfl,hqt⟩ hl;rcases zAZ r.idx q.idx with h|h
  ·exact hun (vr hR hI.down hq hl (zge hR hr hq h (.inr ⟨hqt,ht⟩)))
  ·have:=hR.uniq q hq r hr (Nat.le_antisymm h hj);subst this;exact hun hl
theorem zi0 {o:Oper} {t:Nat} (h:Operand.tmp t∈o.op.operands.toList):t∈o.looksAt all :=
 zAx _ (List.mem_filterMap.2 ⟨.tmp t,h,rfl⟩)
theorem zgf {o:Oper} {env env2:List V} (h:∀ t∈o.looksAt all,env[t]?=env2[t]?):zq all o env=zq all o env2:=by
 unfold zq;cases hg:o.guard with
 | none=>rfl
 | some jw =>
  obtain ⟨j,want⟩:=jw;simp only;cases hd:(all[j]?).bind (·.dst) with
  | none=>rfl
  | some d =>
   have:d∈o.looksAt all:=by
    refine zA9 _ ?_;rw [hg];simp [hd]
   simp only [zd,h d this]
theorem qn {i j:Nat} (hs:i<l.size):Lst (l.setIfInBounds i true) j ↔ j=i\/Lst l j:=by
 unfold Lst
 by_cases h:i=j
 ·subst h;simp [hs]
 ·rw [getD_set_ne false h];constructor
  ·exact .inr
  ·rintro (rfl|h')
   ·exact (h rfl).elim
   ·exact h'
theorem Inv.envStep (hR:RI cx all takes s0 Ev all.size rs cs s') (hI:Inv all rs cs Ev l s) {r:Rec} (hr:r∈rs) (hun:¬ Lst l r.idx) (hpre:∀ e∈r.o.after,Region.binds .any e=true->Lst l e.on) {E:List V}
  (hne:∀ t,bit r.tm t=false->E[t]?=s.env[t]?) (hto:∀ t,bit r.tm t=true->E[t]?=(zaI all takes r)[t]?) :
  ∀ t m,m<=all.size->(∀ j,j<m->zcM rs t j->Lst (l.setIfInBounds r.idx true) j)->(∀ j,m<=j->zcM rs t j->¬ Lst (l.setIfInBounds r.idx true) j)->E[t]?=(Ev m)[t]?:=by
 intro t m hm h1 h2;have hlt:=hR.lt r hr;have hsz:r.idx<l.size:=by rw [hI.size];exact hlt
 cases hb:bit r.tm t with
 | false =>
  rw [hne t hb];have hno:¬ zcM rs t r.idx:=by
   rintro ⟨q,hq,hqi,hqt⟩;have:=hR.uniq q hq r hr hqi;subst this;rw [hb] at hqt;cases hqt
  refine hI.env t m hm (fun j hj ht=>?_) (fun j hj ht hl=>h2 j hj ht ((qn hsz).2 (.inr hl)));rcases (qn hsz).1 (h1 j hj ht) with rfl|h
  ·exact (hno ht).elim
  ·exact h
 | true =>
  rw [hto t hb,<- hR.evs r hr];have him:r.idx<m:=by
   rcases zAZ r.idx m with h|h
   ·exact h
   ·exact (h2 r.idx h ⟨r,hr,rfl,hb⟩ ((qn hsz).2 (.inl rfl))).elim
  refine (zmj hR (a:=r.idx+1) (b:=m) him hm fun j hj hjm=>?_).symm;rintro ⟨q,hq,rfl,hqt⟩;rcases (qn hsz).1 (h1 q.idx hjm ⟨q,hq,rfl,hqt⟩) with h|h
  ·omega
  ·exact hun (vr hR hI.down hq h (zge hR hr hq (by omega) (.inr ⟨hqt,hR.lm r hr t (.inl hb)⟩)))
theorem Inv.downStep (hI:Inv all rs cs Ev l s) {r:Rec} (hget:all[r.idx]?=some r.o) (hpre:∀ e∈r.o.after,Region.binds .any e=true->Lst l e.on):zoo all (l.setIfInBounds r.idx true):=by
 have hlt:r.idx<all.size:=(zAX.1 hget).1;have hsz:r.idx<l.size:=by rw [hI.size];exact hlt
 intro j o ho hl e he hb;refine (qn hsz).2 (.inr ?_);rcases (qn hsz).1 hl with rfl|h
 ·rw [hget] at ho;cases ho;exact hpre e he hb
 ·exact hI.down j o ho h e he hb
theorem Inv.step (hR:RI cx all takes s0 Ev all.size rs cs s') (hI:Inv all rs cs Ev l s) {r:Rec} (hr:r∈rs) (hun:¬ Lst l r.idx) (hpre:∀ e∈r.o.after,Region.binds .any e=true->Lst l e.on) :
  (zq all r.o s.env=some false/\Inv all rs cs Ev (l.setIfInBounds r.idx true) { s with env:=putA s.env r.o.dst (.tup []) }) \/
  (zq all r.o s.env=some true/\∃ res s2,cx.op takes r.o s.env s.H s.lk s.defers=some (res,s2)/\(res=.val r.v\/res=.skip/\r.v=.tup [])/\Inv all rs cs Ev (l.setIfInBounds r.idx true) { s2 with env:=putA s2.env r.o.dst r.v }):=by
 have hlt:=hR.lt r hr;have hsz:r.idx<l.size:=by rw [hI.size];exact hlt
 have hag:=fun t ht=>Inv.agree hR hI hr hun hpre (t:=t) ht;have hlook:∀ t∈r.o.looksAt all,s.env[t]?=r.env[t]?:=fun t ht=>hag t (hR.lm r hr t (.inr ht));have hw:=zgf hlook;have hdst:∀ t,bit r.tm t=false->r.o.dst≠some t:=fun t h e=>by rw [hR.tm r hr t (.inl e)] at h;cases h
 have htk:∀ t,bit r.tm t=false->qt takes r.o≠some (.tmp t):=fun t h e=>by rw [hR.tm r hr t (.inr e)] at h;cases h
 have hdown:=hI.downStep (hR.get r hr) hpre;obtain ⟨c,hc,hcD,hcH,hcl,hcd⟩:=hI.mem;have same:r.hp=false->∀ b,(∃ q∈rs,q.hp=true/\q.idx=b/\Lst l b) ↔ ∃ q∈rs,q.hp=true/\q.idx=b/\Lst (l.setIfInBounds r.idx true) b:=by
  intro hh b;constructor
  ·rintro ⟨q,h1,h2,h3,h4⟩;exact ⟨q,h1,h2,h3,(qn hsz).2 (.inr h4)⟩
  ·rintro ⟨q,h1,h2,h3,h4⟩;rcases (qn hsz).1 h4 with h5|h5
   ·have:=hR.uniq q h1 r hr (h3.trans h5);subst this;rw [hh] at h2;cases h2
   ·exact ⟨q,h1,h2,h3,h5⟩
 by_cases hwt:zq all r.o r.env=some true
 ·right
  have hop0:∀ {H lk df res s1},cx.op takes r.o r.env H lk df=some (res,s1)->s1.env=tkO r.env (qt takes r.o)/\cx.op takes r.o s.env H lk df=some (res,{ s1 with env:=tkO s.env (qt takes r.o) }):=fun h=>xC (fun t ht=>(hlook t (zi0 ht)).symm) h
  have henv:∀ t m,m<=all.size->(∀ j,j<m->zcM rs t j->Lst (l.setIfInBounds r.idx true) j)->(∀ j,m<=j->zcM rs t j->¬ Lst (l.setIfInBounds r.idx true) j)->(putA (tkO s.env (qt takes r.o)) r.o.dst r.v)[t]?=(Ev m)[t]?:=by
   refine Inv.envStep hR hI hr hun hpre (fun t ht=>by rw [zal (hdst t ht),ziZ (htk t ht)]) (fun t ht=>?_)
   rw [zaI,if_pos hwt];exact zdG (zk4 (hag t (hR.lm r hr t (.inl ht))) fun u hu=>hag u (hR.lm r hr u (.inl (hR.tm r hr u (.inr hu)))))
  refine ⟨hw.trans hwt,?_⟩;cases hhp:r.hp with
  | true =>
   have hb:bit c.D r.idx=false:=by
    cases h:bit c.D r.idx with
    | false=>rfl
    | true=>obtain ⟨q,_,_,_,h4⟩:=(hcD r.idx).1 h;exact (hun h4).elim
   have ha:vO rs r c.D:=fun d hd hdh hdb=>(hcD d.idx).2 ⟨d,hd,hdh,rfl,ww hR hI.down r.idx r hr (zAO _) hpre d.idx hdb⟩;obtain ⟨c3,hc3,hD3,hrun⟩:=hR.g1 c hc r hr hhp hb ha;have hmem3:∀ b,bit c3.D b=true ↔ ∃ q∈rs,q.hp=true/\q.idx=b/\Lst (l.setIfInBounds r.idx true) b:=by
    intro b;rw [hD3,qa,qg,zAe,decide_eq_true_eq,hcD];constructor
    ·rintro (⟨q,h1,h2,h3,h4⟩|rfl)
     ·exact ⟨q,h1,h2,h3,(qn hsz).2 (.inr h4)⟩
     ·exact ⟨r,hr,hhp,rfl,(qn hsz).2 (.inl rfl)⟩
    ·rintro ⟨q,h1,h2,h3,h4⟩;rcases (qn hsz).1 h4 with h5|h5
     ·exact .inr h5.symm
     ·exact .inl ⟨q,h1,h2,h3,h5⟩
   unfold Cx.runC at hrun;split at hrun<;>simp only [zAA,reduceCtorEq,zAD] at hrun
   ·rename_i v s1 hop;obtain ⟨rfl,e2⟩:=hrun;rw [<- hcH,<- hcl,<- hcd] at hop;refine ⟨_,_,(hop0 hop).2,.inl rfl,⟨hdown,by simpa using hI.size,henv,c3,hc3,hmem3,?_⟩⟩
    rw [<- e2];exact ⟨rfl,rfl,rfl⟩
   ·rename_i s1 hop;obtain ⟨e1,e2⟩:=hrun;rw [<- hcH,<- hcl,<- hcd] at hop;refine ⟨_,_,(hop0 hop).2,.inr ⟨rfl,e1.symm⟩,⟨hdown,by simpa using hI.size,henv,c3,hc3,hmem3,?_⟩⟩
    rw [<- e2];exact ⟨rfl,rfl,rfl⟩
  | false =>
   obtain ⟨hh,hex⟩:=hR.calm r hr hwt;have hcalm:z9 cx.P cx.uq takes r.o=false:=by rw [<- hh];exact hhp
   obtain ⟨H0,lk0,df0,s1,hop1⟩:=hex hcalm;have hval:∃ s2,cx.op takes r.o r.env s.H s.lk s.defers=some (.val r.v,s2):=by
    cases hfr:r.free with
    | true=>exact zjW hcalm (hR.free r hr hwt hfr) hop1 s.lk s.defers
    | false =>
     have ha:vO rs r c.D:=fun d hd hdh hdb=>(hcD d.idx).2 ⟨d,hd,hdh,rfl,ww hR hI.down r.idx r hr (zAO _) hpre d.idx hdb⟩
     obtain ⟨c2,hrun⟩:=hR.g2 c hc r hr hhp hfr ha (fun d hd hdh hdb=>by
      cases h:bit d.m r.idx with
      | false=>rfl
      | true =>
       obtain ⟨q,_,_,_,h4⟩:=(hcD d.idx).1 hdb
       exact (hun (vr hR hI.down hd h4 h)).elim)
     unfold Cx.runC at hrun;rw [<- hcH,<- hcl,<- hcd] at hrun;split at hrun<;>simp only [zAA,reduceCtorEq,zAD] at hrun
     ·rename_i v s2 hop;obtain ⟨rfl,_⟩:=hrun;exact ⟨s2,hop⟩
     ·rename_i s2 hop;obtain ⟨v',e1,_⟩:=wh hcalm hop;cases e1
   obtain ⟨s2,hop⟩:=hval;obtain ⟨v',e1,e2,_⟩:=wh hcalm hop;refine ⟨_,_,(hop0 hop).2,.inl rfl,⟨hdown,by simpa using hI.size,henv,c,hc,fun b=>(hcD b).trans (same hhp b),?_⟩⟩
   rw [e2];exact ⟨hcH,hcl,hcd⟩
 ·left
  obtain ⟨h1,h2,h3⟩:=hR.off r hr hwt;refine ⟨hw.trans h1,⟨hdown,by simpa using hI.size,?_,c,hc,fun b=>(hcD b).trans (same h2 b),hcH,hcl,hcd⟩⟩
  refine Inv.envStep hR hI hr hun hpre (fun t ht=>by rw [zal (hdst t ht)]) (fun t ht=>?_)
  rw [zaI,if_neg hwt,h3];exact zdG (hag t (hR.lm r hr t (.inl ht)))
theorem Inv.final (hR:RI cx all takes s0 Ev all.size rs cs s') (hI:Inv all rs cs Ev l s) (hall:∀ j,j<all.size->Lst l j):s=s':=by
 have henv:s.env=s'.env:=by
  apply zBP;intro t;rw [<- hR.evi];refine hI.env t all.size (zAO _) (fun j hj _=>hall j hj) ?_;rintro j hj ⟨q,hq,rfl,_⟩;have:=hR.lt q hq;omega
 obtain ⟨c,hc,hcD,hcH,hcl,hcd⟩:=hI.mem;obtain ⟨c1,cs1,rfl,h1,h2,h3,h4⟩:=hR.top;have:c=c1:=by
  refine hR.cuniq c hc c1 (zAL ..) (jA fun b=>?_);rw [h1];refine zBU.2 ((hcD b).trans (Iff.trans ?_ bit_chgM.symm));constructor
  ·rintro ⟨q,a1,a2,a3,_⟩;exact ⟨q,a1,a2,a3⟩
  ·rintro ⟨q,a1,a2,rfl⟩;exact ⟨q,a1,a2,rfl,hall _ (hR.lt q a1)⟩
 subst this;obtain ⟨e,H,lk,df⟩:=s;obtain ⟨e',H',lk',df'⟩:=s';simp only at *;simp only [henv,hcH,hcl,hcd,h2,h3,h4]
theorem Inv.start (hR:RI cx all takes s0 Ev all.size rs cs s'):Inv all rs cs Ev (Array.replicate all.size false) s0:=by
 have hno:∀ j,¬ Lst (Array.replicate all.size false) j:=fun j h=>by
  unfold Lst at h;simp [Array.getElem?_replicate] at h;split at h<;>simp_all
 refine ⟨fun j o _ hl=>(hno j hl).elim,by simp,fun t m hm h1 _=>?_,?_⟩
 ·rw [<- hR.ev0];refine (zmj hR (zAW m) hm fun j _ hj hT=>hno j (h1 j hj hT)).symm
 ·obtain ⟨c,hc,h0,h1,h2,h3⟩:=hR.c0;refine ⟨c,hc,fun b=>?_,h1.symm,h2.symm,h3.symm⟩;rw [h0,kA];constructor
  ·intro h;cases h
  ·rintro ⟨_,_,_,_,h⟩;exact (hno b h).elim
end
end Go.Vm
namespace Go.Vm
open Go
variable {P:Program} {cx:Cx} {all:Array Oper} {takes:List Tmp} {B:Base} {g:Gh} {s:St} {a:Act} {w:World}
def left (l:Array Bool):Nat->Nat
 | 0=>0
 | k+1=>left l k+if l.getD k false=true then 0 else 1
theorem zcN {l:Array Bool} {i:Nat}:∀ k,left (l.setIfInBounds i true) k<=left l k
 | 0=>zAO _
 | k+1=>by
  have ih:=zcN (l:=l) (i:=i) k;simp only [left]
  by_cases h:l.getD k false=true
  ·rw [if_pos (getD_set_true h),if_pos h];exact ih
  ·rw [if_neg h];split<;>omega
theorem xE {l:Array Bool} {i:Nat} (hi:i<l.size) (hl:¬ Lst l i):∀ {k},i<k->left (l.setIfInBounds i true) k+1<=left l k
 | 0,h=>by omega
 | k+1,h=>by
  simp only [left]
  by_cases e:i=k
  ·subst e;have h1:=zcN (l:=l) (i:=i) i;have h2:(l.setIfInBounds i true).getD i false=true:=(qn hi).2 (.inl rfl);rw [if_pos h2,if_neg hl];omega
  ·have h1:=xE hi hl (k:=k) (by omega)
   rw [getD_set_ne false e];omega
theorem zcc {l:Array Bool}:∀ {k},left l k=0->∀ j,j<k->Lst l j
 | 0,_,j,hj=>by omega
 | k+1,h,j,hj=>by
  simp only [left] at h
  by_cases e:j=k
  ·subst e
   by_cases hl:l.getD j false=true
   ·exact hl
   ·rw [if_neg hl] at h;omega
  ·exact zcc (k:=k) (by omega) j (by omega)
theorem zaT {n:Nat}:∀ {k},left (Array.replicate n false) k<=k
 | 0=>zAO _
 | k+1=>by have:=zaT (n:=n) (k:=k);simp only [left];split<;>omega
theorem Rel.drawnMore (h:Rel B g s a w):Rel B g s a { w with drawn:=w.drawn+1 }:=by
 refine h.master (b0:=none) (l0:=none) (g':=g) (s':=s) (w':={ w with drawn:=w.drawn+1 }) ⟨.refl _ _,fun _ _ _ _=>rfl,fun _ _ _=>rfl,fun _ _ _ _=>rfl,zAO _,fun _ _ _=>rfl,fun _ h=>(by cases h),fun _ h=>(by cases h),fun _ _ _ _=>rfl,rfl,rfl,rfl⟩ (zAO _) (fun _ _ _=>rfl) ?_ ?_ ?_ ?_ ?_ ?_ rfl rfl ?_ h.edges h.lks h.lkl ?_
 ·intro b x hb hx;rcases hb with hb|hb
  ·cases hb
  ·have:=(zAB.1 hx).1;omega
 ·intro b h1 h2;omega
 ·intro b b' h1 h2;omega
 ·exact h.wok.mem
 ·exact h.wok.ownlt
 ·intro _ _ h;cases h
 ·intro t x hx;exact ⟨x,hx,.inl ⟨rfl,by simp⟩⟩
 ·intro t h;cases h
theorem zop {s0 s':St} {Ev:Nat->List V} {rs:List Rec} {cs:List Cfg} (hR:RI cx all takes s0 Ev all.size rs cs s') (hcx:CxOk P cx B) :
  ∀ (fuel:Nat) (l:Array Bool) (s:St) (g:Gh) (a:Act) (w:World),left l all.size<=fuel->Inv all rs cs Ev l s->Rel B g s a w->wpAny P .any all (jJ B .normal s') fuel l a w:=by
 have fin:∀ (l:Array Bool) (s:St) (g:Gh) (a:Act) (w:World),Inv all rs cs Ev l s->Rel B g s a w->(∀ j,j<all.size->Lst l j)->jJ B .normal s' .normal a w:=by
  intro l s g a w hI h hall;have:=hI.final hR hall;subst this;exact ⟨g,h,trivial⟩
 have nil:∀ (l:Array Bool) (s:St),Inv all rs cs Ev l s->Region.ready .any all l=[]->∀ j,j<all.size->Lst l j:=by
  intro l s hI hr j
  induction j using Nat.strongRecOn with
  | ind j ih =>
   intro hj;cases hl:l.getD j false with
   | true=>exact hl
   | false =>
    obtain ⟨r,hr1,hr2⟩:=hR.ex j hj;have hget:=hR.get r hr1
    have:j∈Region.ready .any all l:=mem_ready.2 ⟨by
     have:j<l.size:=by rw [hI.size];exact hj
     simp [this] at hl ⊢
     exact hl,r.o,by rw [<- hr2];exact hget,fun e he hb=>ih e.on (by rw [<- hr2];exact hR.edge r hr1 e he hb) (by
      have h1:=hR.edge r hr1 e he hb
      omega)⟩
    rw [hr] at this;cases this
 intro fuel
 induction fuel with
 | zero =>
  intro l s g a w hle hI h;have hall:=zcc (l:=l) (k:=all.size) (by omega)
  refine ⟨?_,fin l s g a w hI h hall⟩;cases hr:Region.ready .any all l with
  | nil=>rfl
  | cons x xs =>
   have hx:x∈Region.ready .any all l:=by rw [hr];exact zAL ..
   obtain ⟨h1,o,ho,_⟩:=mem_ready.1 hx;have hlt:x<all.size:=(zAX.1 ho).1;have h2:=hall x hlt;have:x<l.size:=by rw [hI.size];exact hlt
   unfold Lst at h2;simp [this] at h1 h2;rw [h1] at h2;cases h2
 | succ fuel ih =>
  intro l s g a w hle hI h;refine ⟨fun hr=>fin l s g a w hI h (nil l s hI hr),fun i hi=>?_⟩;obtain ⟨h1,o,ho,hpre⟩:=mem_ready.1 hi;have hlt:i<all.size:=(zAX.1 ho).1;have hsz:i<l.size:=by rw [hI.size];exact hlt
  have hun:¬ Lst l i:=by
   unfold Lst;simp [hsz] at h1 ⊢;exact h1
  obtain ⟨r,hr1,rfl⟩:=hR.ex i hlt;have hget:=hR.get r hr1;rw [hget] at ho;cases ho;have hl':=xE hsz hun hlt;unfold wpOp;simp only [hget];rcases Inv.step hR hI hr1 hun hpre with ⟨hw,hI'⟩|⟨hw,res,s2,hop,hres,hI'⟩
  ·rw [if_neg (by rw [vb h hw];simp)]
   exact ih _ _ g _ w (by omega) hI' (jN (vo h r.o))
  ·rw [if_pos (vb h hw)]
   left
   refine zbk hcx h hop ⟨fun v' hv g' cv a' w' hk=>?_,fun hv g' a' w' hk=>?_,fun v' hv=>?_⟩
   ·rcases hres with rfl|⟨rfl,_⟩
    ·cases hv;exact ih _ _ g' _ w' (by omega) hI' (jN hk)
    ·cases hv
   ·rcases hres with rfl|⟨_,he⟩
    ·cases hv
    ·rw [he] at hI';exact ih _ _ g' _ w' (by omega) hI' (jN (vo hk r.o))
   ·rcases hres with rfl|⟨rfl,_⟩<;>cases hv
theorem zfa {s s':St} {ex:Ex} {ops:Array Oper} (hcx:CxOk P cx B) (hc:cx.drawn ops s=some (ex,s')) (h:Rel B g s a w):ex=.normal/\wpAny P .any ops (jJ B .normal s') ops.size (Array.replicate ops.size false) a { w with drawn:=w.drawn+1 }:=by
 obtain ⟨env,H,lk,df⟩:=s;unfold Cx.drawn at hc;obtain ⟨rfl,Ev,rs,cs,hR⟩:=yq ops.toList 0 [] _ _ _ hc (RI.start (⟨env,H,[],df⟩:St)) (by simp)
 exact ⟨rfl,zop hR hcx ops.size _ _ g a _ zaT (Inv.start hR) h.lent.drawnMore⟩
end Go.Vm
namespace Go.Vm
open Go
variable {P:Program} {cx:Cx} {B:Base} {g:Gh} {s:St} {a:Act} {w:World}
def zjX (T t sz N:Nat):Pend:=⟨T,.sl sz [] (.yes t),.slice (some ⟨N,0,none⟩) 0 1,none⟩
abbrev Base.late (B:Base) (T t sz N:Nat):Base:={ B with pend:=zjX T t sz N::B.pend }
theorem held_late {T t sz N b off:Nat}:zaA (B.late T t sz N) b off ↔ zaA B b off:=by
 unfold zaA;constructor
 ·rintro (h|⟨q,hq,h⟩)
  ·exact .inl h
  ·rcases zAK.1 hq with rfl|hq
   ·cases h
   ·exact .inr ⟨q,hq,h⟩
 ·rintro (h|⟨q,hq,h⟩)
  ·exact .inl h
  ·exact .inr ⟨q,zAE _ hq,h⟩
theorem Rel.unlate {T t sz N:Nat} (h:Rel (B.late T t sz N) g s a w):Rel B g s a w :=
 {wok:=h.wok,len:=h.len,env:=h.env,envTop:=h.envTop,n0:=h.n0,edges:=h.edges,newer:=h.newer,fr:=h.fr,lks:=fun b off hb=>h.lks b off (held_late.2 hb),lkl:=fun p hp hb=>h.lkl p hp (held_late.2 hb),pend:=fun p hp=>h.pend p (zAE _ hp),deflen:=h.deflen,defers:=h.defers,marks:=h.marks,mdis:=h.mdis }
theorem zgg {T t N n:Nat} (h:Rel (B.late T t n N) g s a w) (hT:∀ p∈B.pend,p.t≠T) (hN:B.w.heap.size<=N) {p x:Operand} {v:V} {env':List V} (hp:a.eval p=.pointer (some ⟨N,0,none⟩)) (ht:take s.env x=some (v,env'))
  (hn:zy P t=some n) (hok:okC v=true) (hl:v.laid.length=n) :
  ∃ g' w',(Instr.storeAt t (a.eval p) (a.eval x)).run P w=.ok () w'/\Rel B g' { s with env:=env',H:=s.H.push (.cells v.laid t) } a w'/\RelV g' (.ptr s.H.blks.length 0) (.pointer (some ⟨N,0,none⟩)):=by
 obtain ⟨g1,h1,v1,v2,v3,hal⟩:=take_ok h ht (.cell s.H.blks.length 0);obtain ⟨l1,l2,l3⟩:=zfW v1 hok v2 (v8 ht) v3;obtain ⟨p1,_,p3,_,_⟩:=h1.pend (zjX T t n N) (zAL ..);obtain ⟨xs,⟨_,hrow⟩,hc⟩:=p3;rcases hrow with ⟨e,_⟩|⟨c,o,cap,cur,e,hcur,_,_,hsz,_⟩
 ·cases e
 cases e;obtain ⟨o1,o2,o3⟩:=hc N rfl;have hsz:cur.size=n:=by rcases hsz with h0|h0<;>simp at h0;exact h0
 have hNlt:N<w.heap.size:=(zAX.1 hcur).1;have hcsz:(a.eval x).cells.size=n:=by rw [<- hl,l1.len];simp
 have hM:∀ o,g1.M N o=none:=by
  intro o;cases hm:g1.M N o with
  | none=>rfl
  | some u =>
   have hu:=h1.wok.mem N o u hm;have ho:o<n:=by
    rw [<- hsz];simp only [World.cell?,hcur] at hu;exact (zAX.1 (by simpa using hu)).1
   have:=o2 o (by simp) (by simpa using ho)
   rw [this] at hm;cases hm
 have hrun:(Instr.storeAt t (.pointer (some ⟨N,0,none⟩)) (a.eval x)).run P w=.ok () (w.setRow N (a.eval x).cells):=by
  have hst:=run_storeCells_at P N 0 t (a.eval x).cells.toList 0 cur w hcur (by simp [hcsz,hsz]) (fun u hu=>by
   obtain ⟨j,hj⟩:=List.getElem?_of_mem hu;have hj':j<v.laid.length:=by rw [l1.len];exact (zAB.1 hj).1
   have hx:=zAS hj'
   exact (l1.rel j _ u hx hj).oneCell (l1.one j _ hx))
  have harr:cur.toList.take (0+0)++(a.eval x).cells.toList++cur.toList.drop (0+0+(a.eval x).cells.toList.length)=(a.eval x).cells.toList:=by
   rw [List.drop_of_length_le (by simp [hcsz,hsz])];simp
  rw [harr] at hst;unfold Instr.storeAt storeVar;simp [Instr.sureAddr,zW hn,hcsz,hst]
 have hl':(s.H.push (.cells v.laid t)).blks.length=s.H.blks.length+1:=by simp [Hp.push]
 have hget:∀ b,b<s.H.blks.length->(s.H.push (.cells v.laid t)).blks[b]?=s.H.blks[b]?:=fun b hb=>by simp only [Hp.push];rw [zAR hb]
 have hlast:(s.H.push (.cells v.laid t)).blks[s.H.blks.length]?=some (.cells v.laid t):=by simp [Hp.push]
 let g2:Gh:={ g1 with blk:=fun b=>if b=s.H.blks.length then N else g1.blk b,own:=fun c=>if c=N then none else g1.own c }
 have hg2:g2.blk s.H.blks.length=N:=if_pos rfl;have hne:∀ c,(∀ l,some (Loc.slot B.d T)=some l->g1.own c≠some l)->c≠N:=fun c hc e=>hc _ rfl (e ▸ o1);have hs:Same B.d none (some (.slot B.d T)) s.H.blks.length g1 w g2 (w.setRow N (a.eval x).cells) :=
  ⟨⟨fun _ _ _ h=>h,fun b hb=>if_neg (by omega),rfl,fun _ _ _ _ h=>h⟩,fun c _ _ hc=>setRow_other w N c _ (hne c hc),fun c _ hc=>if_neg (hne c hc),fun _ _ _ _=>rfl,by simp [World.setRow],fun _ _ _=>rfl,fun l hl=>.inl ⟨T,by cases hl;rfl⟩,fun _ hb=>(by cases hb),fun _ _ _ _=>rfl,rfl,rfl,rfl⟩
 have hnew:∀ b,s.H.blks.length<=b->b<s.H.blks.length+1->ze1 g1 (some (.slot B.d T)) w (g2.blk b):=fun b q1 q2=>by
  have:b=s.H.blks.length:=by omega
  subst this;rw [hg2];exact .inr ⟨_,rfl,o1⟩
 have hheap:(w.setRow N (a.eval x).cells).heap[g2.blk s.H.blks.length]?=some (.cells (a.eval x).cells t (0,0)):=by
  rw [hg2];exact setRow_heap w N cur _ t _ hcur
 refine ⟨g2,_,by rw [hp];exact hrun,h1.unlate.master' (s':={ s with env:=env',H:=s.H.push (.cells v.laid t) }) hs (by simp only [hl'];omega) (fun b hb _=>hget b hb) (fun b y hb hy=>?_) (fun b q1 q2=>?_) (fun b b' q1 q2 q3 q4 _=>?_) (fun c o u hu=>?_) (fun c l hc=>?_)
  (fun b j e=>by cases e) rfl rfl (fun k y hy=>⟨y,hy,.inl ⟨rfl,fun e=>?_⟩⟩) ?_ (fun b off hlk=>v7 hget (h1.unlate.lks b off hlk)) h1.unlate.lkl (fun k e p hp=>by cases e;exact hT p hp),?_⟩
 ·have hb':b=s.H.blks.length:=by
   rcases hb with hb|hb
   ·cases hb
   ·have:=(zAB.1 hy).1;simp only [hl'] at this;simp only at hb;omega
  subst hb';rw [show ({ s with env:=env',H:=s.H.push (.cells v.laid t) }:St).H.blks[s.H.blks.length]?=some (.cells v.laid t) from hlast] at hy;cases hy;simp only [hl'];refine ⟨⟨_,hheap,by simpa using l1.len,fun j y u hy hu=>⟨l1.one j y hy,(l1.rel j y u hy (by simpa using hu)).le hs.le (zAM (zg (zl hy)) l2),?_,?_⟩⟩,zBt l2⟩
  ·have:=(l3 j y u hy hu).1;rw [zA0] at this;exact OwnV.same' hs (fun e=>by cases e) hnew this
  ·have:=(l3 j y u hy hu).2;cases y with
   | sl sz xs o=>cases o with
    | lock=>exact absurd rfl (this sz xs)
    | _=>trivial
   | _=>trivial
 ·simp only [hl'] at q2;have e:b=s.H.blks.length:=by simp only at q1;omega
  subst e;refine ⟨⟨hnew _ (zAO _) (by omega),by rw [hg2];exact hN⟩,by rw [hg2];simpa [World.setRow] using hNlt,by rw [hg2];exact if_pos rfl,fun o=>by rw [hg2];exact hM o⟩
 ·simp only [hl'] at q2 q4;simp only at q1 q3;omega
 ·have hu':g1.M c o=some u:=hu;have:c≠N:=fun e=>by rw [e,hM o] at hu';cases hu'
  rw [vm (setRow_other w N c _ this)];exact h1.wok.mem c o u hu'
 ·have hc':(if c=N then none else g1.own c)=some l:=hc
  split at hc'
  ·cases hc'
  ·have:=h1.wok.ownlt c l hc';simpa [World.setRow] using this
 ·simp only [zAA,Loc.slot.injEq,true_and] at e;have:=(zAB.1 hy).1;have p1':env'.length<T:=p1;simp only at this;omega
 ·intro b y hy;rcases zAZ b s.H.blks.length with q1|q1
  ·rw [show ({ s with env:=env',H:=s.H.push (.cells v.laid t) }:St).H.blks[b]?=s.H.blks[b]? from hget b q1] at hy;exact h1.edges b y hy
  ·have hb':b=s.H.blks.length:=by
    have:=(zAB.1 hy).1;simp only [hl'] at this;omega
   subst hb';rw [show ({ s with env:=env',H:=s.H.push (.cells v.laid t) }:St).H.blks[s.H.blks.length]?=some (.cells v.laid t) from hlast] at hy;cases hy;exact .inl (zBt l2)
 ·have:=RelV.ptr (g:=g2) s.H.blks.length 0;rw [hg2] at this;exact this
theorem zoq {o:Oper} {K:Act->World->Prop} {Q:Exit->Act->World->Prop} {d:Tmp} (hd:o.dst≠some d) (h:o.wp P a w K Q):o.wp P a w (fun a' w'=>K a' w'/\a'.tmps[d]?=a.tmps[d]?) Q:=by
 have hput:∀ (b:Act) v,b.tmps=a.tmps->(b.put o.dst v).tmps[d]?=a.tmps[d]?:=by
  intro b v hb;unfold Act.put;split
  ·rename_i k hk;have hne:k≠d:=fun e=>hd (by rw [hk,e])
   simp only [hb,Array.getElem?_setIfInBounds_ne hne]
  ·rw [hb]
 unfold Oper.wp at *;generalize (execOp a.eval o).run P w=r at *;cases r with
 | ok n w' =>
  cases n<;>simp only [Oper.upon] at h ⊢ <;>
   first
    |exact ⟨h,hput _ _ rfl⟩
    | exact Calls.mono h (fun e w'' he=>by cases e<;>first|exact ⟨he,hput _ _ rfl⟩|exact he)
    | exact Rows.mono h (fun _ _ he=>⟨he,hput _ _ rfl⟩)
 | halt x w'=>cases x<;>simp only [Oper.upon] at h ⊢<;>exact h
theorem zi1 {ops:Array Oper} {os:List Oper} {d:Tmp} {t:TypeId} {x:Operand} (h:xu ops=some (os,d,t,x)):∃ pre ty1 ps1 af ty2 ps2 after,ops.toList=pre++[⟨some d,.alloc t,ty1,ps1,af,none⟩,⟨none,.store t (.tmp d) x,ty2,ps2,after,none⟩] /\
  os=pre++[zba af,zba after]/\∀ j,j<pre.length+1->∃ e∈after,e.on=j/\Region.binds .any e=true:=by
 unfold xu at h;split at h
 ·rename_i t' d' x' ty2 ps2 after e u ty1 ps1 af rest hr;split at h
  ·rename_i hc;simp only [zAA,zAD] at h;obtain ⟨rfl,rfl,rfl,rfl⟩:=h;simp only [zAC] at hc;obtain ⟨⟨c1,c2⟩,c3⟩:=hc;cases zAJ c1;cases zAJ c2;have hall:∀ n,zbb after.toList n=true->∀ j,j<n->∃ e∈after,e.on=j/\Region.binds .any e=true:=by
    intro n
    induction n with
    | zero=>intro _ j hj;omega
    | succ n ih =>
     intro ha j hj;simp only [zbb,zAC,List.any_eq_true] at ha;rcases zAZ j n with h1|h1
     ·exact ih ha.2 j h1
     ·obtain ⟨e,he,h2,h3⟩:=ha.1;exact ⟨e,Array.mem_toList_iff.1 he,by have:=zAJ h2;omega,h3⟩
   have hl:=congrArg List.reverse hr;rw [List.reverse_reverse] at hl;refine ⟨rest.reverse,ty1,ps1,af,ty2,ps2,after,by rw [hl];simp,by simp,fun j hj=>hall _ c3 j (by simpa using hj)⟩
  ·cases h
 ·cases h
theorem zhA {α:Type} {f:α->Bool}:∀ {l:List α},qu f l=true->∀ x∈l,f x=true
 | [],_,x,hx=>by cases hx
 | q::qs,h,x,hx=>by
  simp only [qu] at h;split at h
  ·rename_i hq;rcases zAK.1 hx with rfl|hx
   ·exact hq
   ·exact zhA h x hx
  ·cases h
theorem zmk {takes:List Tmp} {af:Array Edge} {env:List V} {H:Hp} {lk:List (Nat×Nat)} {df:List (V×List V)} {r:OR} {s2:St} (h:cx.op takes (zba af) env H lk df=some (r,s2)):s2=⟨env,H,lk,df⟩:=by
 obtain ⟨_,_,h1,_⟩:=wh (by rfl) h
 rw [h1];rfl
theorem zor {pre:List Oper} {ty1 ty2:TypeId} {ps1 ps2:String} {af after:Array Edge} {d:Tmp} {t:TypeId} {x:Operand} {ops all':Array Oper} {takes:List Tmp} {s0 s1 s':St} {Ev:Nat->List V} {rs:List Rec} {cs:List Cfg} {n:Nat} {z:V} {v:V} {env1:List V}
  (hops:ops.toList=pre++[⟨some d,.alloc t,ty1,ps1,af,none⟩,⟨none,.store t (.tmp d) x,ty2,ps2,after,none⟩]) (hos:all'=(pre++[zba af,zba after]).toArray) (haf:∀ j,j<pre.length+1->∃ e∈after,e.on=j/\Region.binds .any e=true)
  (hkeep:∀ o∈pre,zfN takes d o=true) (hR:RI cx all' takes s0 Ev all'.size rs cs s1) (hcx:CxOk P cx B)
  (hn:zy P t=some n) (hz:zU P t=some z) (hzk:okC z=true) (hzl:z.cells.length=n) (ht:take s1.env x=some (v,env1)) (hok:okC v=true) (hl:v.laid.length=n) (hs':s'={ s1 with env:=env1.set d (.ptr s1.H.blks.length 0),H:=s1.H.push (.cells v.laid t) }) :
  ∀ (fuel:Nat) (l:Array Bool) (s:St) (g:Gh) (a:Act) (w:World),left l ops.size<=fuel->Inv all' rs cs Ev l s->s.env[d]?=some .junk->¬ Lst l (pre.length+1) ->
   ((¬ Lst l pre.length/\Rel B g s a w)\/(Lst l pre.length/\∃ T N,(∀ p∈B.pend,p.t≠T)/\B.w.heap.size<=N/\a.tmps[d]?=some (.pointer (some ⟨N,0,none⟩))/\Rel (B.late T t n N) g s a w))->wpAny P .any ops (jJ B .normal s') fuel l a w:=by
 have hsz:ops.size=pre.length+2:=by rw [<- zAv,hops];simp
 have hsz':all'.size=pre.length+2:=by rw [hos];simp
 have hop:∀ j,j<pre.length->ops[j]?=all'[j]?:=fun j hj=>by
  rw [<- zBC,hops,hos,List.getElem?_toArray,zAR hj,zAR hj]
 have hk:ops[pre.length]?=some ⟨some d,.alloc t,ty1,ps1,af,none⟩:=by rw [<- zBC,hops];simp
 have hk':all'[pre.length]?=some (zba af):=by rw [hos];simp
 have hk1:ops[pre.length+1]?=some ⟨none,.store t (.tmp d) x,ty2,ps2,after,none⟩:=by rw [<- zBC,hops];simp
 have hk1':all'[pre.length+1]?=some (zba after):=by rw [hos];simp
 have hafter:∀ (j:Nat) (o r:Oper),ops[j]?=some o->all'[j]?=some r->r.after=o.after:=by
  intro j o r ho hr;rcases zAZ j pre.length with h1|h1
  ·rw [hop j h1,hr] at ho;cases ho;rfl
  ·rcases zAZ j (pre.length+1) with h2|h2
   ·have:j=pre.length:=by omega
    subst this;rw [hk] at ho;rw [hk'] at hr;cases ho;cases hr;rfl
   ·have:j=pre.length+1:=by
     have:=(zAX.1 ho).1;omega
    subst this;rw [hk1] at ho;rw [hk1'] at hr;cases ho;cases hr;rfl
 have nil:∀ (l:Array Bool) (s:St),Inv all' rs cs Ev l s->Region.ready .any ops l=[]->∀ j,j<ops.size->Lst l j:=by
  intro l s hI hr j
  induction j using Nat.strongRecOn with
  | ind j ih =>
   intro hj;cases hl:l.getD j false with
   | true=>exact hl
   | false =>
    obtain ⟨r,hr1,hr2⟩:=hR.ex j (by rw [hsz',<- hsz];exact hj)
    have hget:=hR.get r hr1;have ho:=zAy hj;have he':=hafter j _ r.o ho (by rw [<- hr2];exact hget)
    have:j∈Region.ready .any ops l:=mem_ready.2 ⟨by
     have:j<l.size:=by rw [hI.size,hsz',<- hsz];exact hj
     simp [this] at hl ⊢;exact hl,_,ho,fun e he hb=>by
      have he2:e∈r.o.after:=by rw [he'];exact he
      have h1:=hR.edge r hr1 e he2 hb
      exact ih e.on (by omega) (by omega)⟩
    rw [hr] at this;cases this
 intro fuel
 induction fuel with
 | zero =>
  intro l s g a w hle hI hj hun h;exact absurd (zcc (l:=l) (k:=ops.size) (by omega) _ (by omega)) hun
 | succ fuel ih =>
  intro l s g a w hle hI hj hun h;refine ⟨fun hr=>absurd (nil l s hI hr _ (by omega)) hun,fun i hi=>?_⟩
  obtain ⟨h1,o,ho,hpre⟩:=mem_ready.1 hi;have hlt:i<ops.size:=(zAX.1 ho).1;have hls:i<l.size:=by rw [hI.size,hsz',<- hsz];exact hlt
  have hun':¬ Lst l i:=by
   unfold Lst;simp [hls] at h1 ⊢;exact h1
  obtain ⟨r,hr1,hri⟩:=hR.ex i (by rw [hsz',<- hsz];exact hlt)
  have hget:=hR.get r hr1;rw [hri] at hget;have hpre':∀ e∈r.o.after,Region.binds .any e=true->Lst l e.on:=fun e he hb=>hpre e (by rw [<- hafter i o r.o ho hget];exact he) hb
  have hl':=xE hls hun' hlt;have hstep:=Inv.step hR hI hr1 (by rw [hri];exact hun') hpre'
  rw [hri] at hstep;unfold wpOp;simp only [ho];have hg:o.guard=none->Region.wanted o (yielded ops a.tmps)=true:=fun h=>by unfold Region.wanted;rw [h]
  rcases zAZ i pre.length with hi1|hi1
  ·
   have hor:r.o=o:=by
    have:=hop i hi1;rw [ho,hget] at this;cases this;rfl
   have hmem:o∈pre:=by
    have:pre[i]?=some o:=by
     rw [<- ho,<- zBC,hops,zAR hi1]
    exact zAb this
   have hkp:=hkeep o hmem;simp only [zfN,zAC] at hkp;obtain ⟨⟨hd,htk⟩,hgd⟩:=hkp;have hd:o.dst≠some d:=fun e=>by rw [e] at hd;simp at hd
   have htk:qt takes o≠some (.tmp d):=fun e=>by rw [e] at htk;simp at htk
   have hgd:o.guard=none:=by cases hh:o.guard with
    | none=>rfl
    | some _=>rw [hh] at hgd;cases hgd
   rw [hor] at hstep;rcases hstep with ⟨hw,_⟩|⟨hw,res,s2,hop2,hres,hI'⟩
   ·unfold zq at hw;rw [hgd] at hw;cases hw
   rw [if_pos (hg hgd)]
   left
   have he2:=(xC (env2:=s.env) (fun _ _=>rfl) hop2).1;have hj':(putA s2.env o.dst r.v)[d]?=some .junk:=by rw [zal hd,he2,ziZ htk];exact hj
   have hun1:¬ Lst (l.setIfInBounds i true) (pre.length+1):=fun e=>by
    rcases (qn hls).1 e with e|e
    ·omega
    ·exact hun e
   have hends:∀ (B':Base) (K:Act->World->Prop),(∀ g' a' w',Rel B' g' { s2 with env:=putA s2.env o.dst r.v } a' w'->K a' w')->Ends P B' o res s2 K (jJ B .normal s'):=fun B' K hK=>by
    refine ⟨fun v' hv g' cv a' w' hk=>?_,fun hv g' a' w' hk=>?_,fun v' hv=>?_⟩
    ·rcases hres with rfl|⟨rfl,_⟩
     ·cases hv;exact hK _ _ _ (jN hk)
     ·cases hv
    ·rcases hres with rfl|⟨_,he⟩
     ·cases hv
     ·rw [he] at hK;exact hK _ _ _ (jN (vo hk o))
    ·rcases hres with rfl|⟨rfl,_⟩<;>cases hv
   rcases h with ⟨hna,h⟩|⟨hna,T,N,hT,hN,hp,h⟩
   ·refine zbk hcx h hop2 (hends B _ fun g' a' w' hk=>ih _ _ g' _ w' (by omega) hI' hj' hun1 (.inl ⟨fun e=>?_,hk⟩))
    rcases (qn hls).1 e with e|e
    ·omega
    ·exact hna e
   ·have hcx':CxOk P cx (B.late T t n N):=⟨hcx.prog,hcx.num,hcx.prim,hcx.gl,hcx.calls⟩;have key:=zbk hcx' h hop2 (hends (B.late T t n N) (fun a' w'=>∃ g',Rel (B.late T t n N) g' { s2 with env:=putA s2.env o.dst r.v } a' w') fun g' a' w' hk=>⟨g',hk⟩);refine Oper.wp_mono (fun a' w' hk=>?_) (zoq hd key);obtain ⟨⟨g',hk⟩,hkp⟩:=hk
    exact ih _ _ g' _ w' (by omega) hI' hj' hun1 (.inr ⟨(qn hls).2 (.inr hna),T,N,hT,hN,hkp.trans hp,hk⟩)
  ·rcases zAZ i (pre.length+1) with hi2|hi2
   ·
    have hik:i=pre.length:=by omega
    subst hik;rw [hk] at ho;cases ho;rw [hk'] at hget;have hro:r.o=zba af:=(zAr hget).symm;rw [hro] at hstep;rcases hstep with ⟨hw,_⟩|⟨hw,res,s2,hop2,hres,hI'⟩
    ·cases hw
    have e2:=zmk hop2;subst e2;have hI':Inv all' rs cs Ev (l.setIfInBounds pre.length true) s:=hI';rcases h with ⟨_,h⟩|⟨h0,_⟩
    ·rw [if_pos (hg rfl)]
     left
     obtain ⟨cz,z1,z2,z3,_,z5⟩:=vj (g:=g) hz w;have hcs:=ky z2 hzk;have hrun:(execOp a.eval ⟨some d,.alloc t,ty1,ps1,af,none⟩).run P w=.ok (.value (.pointer (some ⟨w.heap.size,0,none⟩))) (w.alloc (.cells cz.cells t)):=by simp [execOp,Instr.alloc,z1,newVar,newRow]
     unfold Oper.wp;rw [hrun,Oper.upon_value];obtain ⟨T,hT1,hT2⟩:∃ T,s.env.length<T/\∀ p∈B.pend,p.t<T:=by
      have:∀ ps:List Pend,∃ T,s.env.length<T/\∀ p∈ps,p.t<T:=by
       intro ps
       induction ps with
       | nil=>exact ⟨s.env.length+1,by omega,fun p hp=>by cases hp⟩
       | cons q qs ih =>
        obtain ⟨T,t1,t2⟩:=ih;refine ⟨T+q.t+1,by omega,fun p hp=>?_⟩
        rcases zAK.1 hp with rfl|hp
        ·omega
        ·have:=t2 p hp;omega
      exact this B.pend
     have hr0:=h.settle [] (some (.slot B.d T)) (w':=w.alloc (.cells cz.cells t)) (by simp) (fun j hj=>by first | exact Go.heap_alloc_old w _ hj | exact Go.heap_alloc_old w _ _ hj) (fun _ _ e=>by simp at e) rfl rfl rfl
     have hr1:Rel B (g.row w.heap.size [] (some (.slot B.d T))) { s with env:=putA s.env (some d) .junk } (a.put (some d) (.pointer (some ⟨w.heap.size,0,none⟩))) (w.alloc (.cells cz.cells t)) :=
      jN (dst:=some d) ⟨hr0,.junk _,fun _ _=>trivial,zAW _⟩
     have henv:putA s.env (some d) .junk=s.env:=by
      apply zBP;intro k
      by_cases e:k=d
      ·subst e;rw [hj];have:=(zAB.1 hj).1;simp [putA,this]
      ·exact zal (fun e'=>e (by cases e';rfl))
     rw [henv] at hr1;have hdlt:d<a.tmps.size:=by rw [<- h.len];exact (zAB.1 hj).1
     refine ih _ s (g.row w.heap.size [] (some (.slot B.d T))) _ _ (by omega) hI' hj (fun e=>?_) (.inr ⟨(qn hls).2 (.inl rfl),T,w.heap.size,fun p hp e=>by have:=hT2 p hp;omega,h.fr.size,?_,?_⟩)
     ·rcases (qn hls).1 e with e|e
      ·omega
      ·exact hun e
     ·simp [Act.put,hdlt]
     ·refine { wok:=hr1.wok,len:=hr1.len,env:=hr1.env,envTop:=hr1.envTop,n0:=hr1.n0,edges:=hr1.edges,newer:=hr1.newer,fr:=hr1.fr,lks:=fun b off hb=>hr1.lks b off (held_late.1 hb),lkl:=fun p hp hb=>hr1.lkl p hp (held_late.1 hb),pend:=fun p hp=>?_,deflen:=hr1.deflen,defers:=hr1.defers,marks:=hr1.marks,mdis:=hr1.mdis };rcases zAK.1 hp with rfl|hp
      ·refine ⟨hT1,?_,?_,zAW _,fun b off e=>by cases e⟩
       ·exact .sl (c:=w.heap.size) (o:=0) (fun _=>.nilFunc) (fun _ e=>by simp at e) (zAW _) (fun e=>absurd rfl e) (fun _ _ e=>by simp [zo] at e) (fun _ _ e=>by simp [zo] at e) (fun _ _ e=>by simp [zo] at e)
       ·have hcz:cz.cells.size=n:=by have:=hcs.len;rw [hzl] at this;simpa using this.symm
        refine ⟨[],⟨by simp,.inr ⟨w.heap.size,0,1,cz.cells,rfl,heap_alloc_new w _,zAW _,by decide,.inr (by rw [hcz];omega),by simp⟩⟩,fun c' hc'=>?_⟩
        simp only [Value.ownBlock,zjX,zAA] at hc';subst hc';refine ⟨by simp [Gh.row,zjX],fun o' _ _=>by simp [Gh.row],fun b hb e=>?_⟩
        have:=h.wok.lt b hb;simp only [Gh.row] at e;omega
      ·exact hr1.pend p hp
    ·exact absurd h0 hun'
   ·
    have hik:i=pre.length+1:=by omega
    subst hik;rw [hk1] at ho;cases ho;rw [hk1'] at hget;have hro:r.o=zba after:=(zAr hget).symm;rw [hro] at hstep;have hallL:∀ j,j<pre.length+1->Lst l j:=fun j hj=>by
     obtain ⟨e,he,rfl,hb⟩:=haf j hj;exact hpre e he hb
    rcases hstep with ⟨hw,_⟩|⟨hw,res,s2,hop2,hres,hI'⟩
    ·cases hw
    have e2:=zmk hop2;subst e2;have hI':Inv all' rs cs Ev (l.setIfInBounds (pre.length+1) true) s:=hI';have hfull:∀ j,j<ops.size->Lst (l.setIfInBounds (pre.length+1) true) j:=fun j hj=>by
     rcases zAZ j (pre.length+1) with q|q
     ·exact (qn hls).2 (.inr (hallL j q))
     ·exact (qn hls).2 (.inl (by omega))
    have hfin:s=s1:=hI'.final hR (fun j hj=>hfull j (by omega))
    subst hfin;rcases h with ⟨h0,_⟩|⟨_,T,N,hT,hN,hp,h⟩
    ·exact absurd (hallL _ (by omega)) h0
    rw [if_pos (hg rfl)]
    left
    have hev:a.eval (.tmp d)=.pointer (some ⟨N,0,none⟩):=by simp [Act.eval,hp]
    obtain ⟨g',w',q1,q2,q3⟩:=zgg h hT hN hev ht hn hok hl;have hrun:(execOp a.eval ⟨none,.store t (.tmp d) x,ty2,ps2,after,none⟩).run P w=.ok .skip w':=by simp [execOp,q1]
    unfold Oper.wp;rw [hrun,Oper.upon_skip];have hput:a.put (some d) (.pointer (some ⟨N,0,none⟩))=a:=by
     unfold Act.put;have:a.tmps.setIfInBounds d (.pointer (some ⟨N,0,none⟩))=a.tmps:=by
      apply Array.ext_getElem?;intro k
      by_cases e:k=d
      ·subst e;have hlt:=(zAX.1 hp).1;rw [hp];simp [hlt]
      ·rw [Array.getElem?_setIfInBounds_ne (fun e'=>e e'.symm)]
     simp only [this]
    have hfin:=jN (dst:=some d) (v:=.ptr s.H.blks.length 0) (cv:=.pointer (some ⟨N,0,none⟩)) ⟨q2,q3,fun _ _=>trivial,by simp [V.top,Hp.push]⟩
    rw [hput] at hfin;have hQ:jJ B .normal s' .normal a w':=⟨g',by rw [hs'];exact hfin,trivial⟩
    have hnr:Region.ready .any ops (l.setIfInBounds (pre.length+1) true)=[]:=by
     apply List.eq_nil_iff_forall_not_mem.2;intro j hj;obtain ⟨j1,o,ho,_⟩:=mem_ready.1 hj;have hjl:=(zAX.1 ho).1;have h2:=hfull j hjl;have:j<(l.setIfInBounds (pre.length+1) true).size:=by rw [hI'.size,hsz',<- hsz];exact hjl
     unfold Lst at h2;simp only [Array.getD_eq_getD_getElem?,zAy this,zAs] at j1 h2;rw [j1] at h2;cases h2
    show wpAny P .any ops (jJ B .normal s') fuel _ a w';cases fuel with
    | zero=>exact ⟨hnr,hQ⟩
    | succ f=>exact ⟨fun _=>hQ,fun j hj=>by rw [hnr] at hj;cases hj⟩
theorem zml {s s':St} {ex:Ex} {ops:Array Oper} (hcx:CxOk P cx B) (hc:cx.late ops s=some (ex,s')) (h:Rel B g s a w):ex=.normal/\wpAny P .any ops (jJ B .normal s') ops.size (Array.replicate ops.size false) a { w with drawn:=w.drawn+1 }:=by
 obtain ⟨env,H,lk,df⟩:=s;unfold Cx.late at hc;simp only at hc;split at hc
 ·cases hc
 rename_i os d t x hlo;split at hc
 ·cases hc
 rename_i hkd;split at hc
 ·rename_i ex1 env2 H2 lk2 df2 hop;split at hc
  ·rename_i v env3 n z h1 h2 h3;split at hc
   ·rename_i hcond;simp only [zI,fCs_eq] at hc;split at hc
    ·rename_i hlen;rw [zB] at hc;simp only [zAA,zAD] at hc;obtain ⟨rfl,rfl⟩:=hc;refine ⟨rfl,?_⟩;obtain ⟨pre,ty1,ps1,af,ty2,ps2,after,hops,rfl,haf⟩:=zi1 hlo;simp only [zAC] at hkd hcond;obtain ⟨hkd,hdl⟩:=hkd;obtain ⟨⟨c1,c2⟩,c3⟩:=hcond;have hdl:d+1<=env.length:=by simpa [Nat.blt,Nat.ble_eq] using hdl
     have hdl:d<env.length:=hdl;obtain ⟨_,Ev,rs,cs,hR⟩:=yq _ 0 [] _ _ _ hop (RI.start (⟨env.set d .junk,H,[],df⟩:St)) (by simp)
     have hl0:=h.lent.drawnMore;have hdt:d<a.tmps.size:=by rw [<- hl0.len];exact hdl
     have hput:a.put (some d) a.tmps[d]=a:=by
      unfold Act.put;have:a.tmps.setIfInBounds d a.tmps[d]=a.tmps:=by
       apply Array.ext_getElem?;intro k
       by_cases e:k=d
       ·subst e;simp [hdt]
       ·rw [Array.getElem?_setIfInBounds_ne (fun e'=>e e'.symm)]
      simp only [this]
     have hst:=jN (dst:=some d) (v:=.junk) (cv:=a.tmps[d]) ⟨hl0,.junk _,fun _ _=>trivial,zAW _⟩;rw [hput] at hst;have hno:∀ j,¬ Lst (Array.replicate ops.size false) j:=fun j hj=>by
      unfold Lst at hj;simp [Array.getElem?_replicate] at hj;split at hj<;>simp_all
     have hsz:ops.size=(pre++[zba af,zba after]).toArray.size:=by rw [<- zAv,hops];simp
     have hI:=Inv.start hR;rw [<- hsz] at hI;exact zor hops rfl haf (fun o ho=>zhA hkd o (zAx _ ho)) hR hcx (hcx.prog ▸ h2) (hcx.prog ▸ h3) c2 (zAJ c3) h1 c1 (zAJ hlen) rfl ops.size _ _ g a _ zaT hI (by simp [hdl]) (hno _) (.inl ⟨hno _,hst⟩)
    ·cases hc
   ·cases hc
  ·cases hc
 ·cases hc
theorem zhB {s s':St} {ex:Ex} {ops:Array Oper} (hcx:CxOk P cx B) (hc:cx.draw ops s=some (ex,s')) (h:Rel B g s a w):ex=.normal/\wpAny P .any ops (jJ B .normal s') ops.size (Array.replicate ops.size false) a { w with drawn:=w.drawn+1 }:=by
 unfold Cx.draw at hc;split at hc
 ·split at hc
  ·exact zml hcx hc h
  ·exact zfa hcx hc h
 ·exact zfa hcx hc h
theorem zos (hmix:P.follows .mixedOrders=true):zb9 P cx B:=by
 intro hcx id ops s s' ex g a w hc h;obtain ⟨rfl,h1⟩:=zhB hcx hc h;exact wp_region_any hmix h1
theorem zgh {ops:Array Oper} {s:St} {r:Ex×St} (h:cx.drawn ops s=some r) (hl:cx.uq lateK=false\/xu ops=none):cx.draw ops s=some r:=by
 unfold Cx.draw;rcases hl with hl|hl<;>rw [hl]
 ·exact h
 ·split<;>exact h
theorem zk5 {ops:Array Oper} {s:St} {q:List Oper×Tmp×TypeId×Operand} {r:Ex×St} (hu:cx.uq lateK=true) (hq:xu ops=some q) (h:cx.late ops s=some r):cx.draw ops s=some r:=by
 unfold Cx.draw;rw [hu,hq];exact h
end Go.Vm
namespace Go.Vm
open Go
variable {P:Program} {B:Base} {g:Gh} {s:St} {a:Act} {w:World}
theorem zk6 {l n:Nat} {row:String} {args:Array Value} {R:Value->World->Prop} (h:Rows P row args w R):RowsIn (Fence.wide.inRound l) n P row args w R:=fun c cs _=>by
 obtain ⟨v,w',r,st⟩:=h c cs;exact ⟨v,w',r,stepsIn_wide.2 st⟩
theorem zjY {l n:Nat} {o:Oper} {next:Act->World->Prop} {Q:Exit->Act->World->Prop} (hd:zcF o=true) (h:o.wp P a w next Q):o.wpIn (Fence.wide.inRound l) n P a w next Q:=by
 refine ⟨fun f _=>trivial,?_⟩;have hs:o.semAt (Fence.wide.inRound l).round a.eval=execOp a.eval o:=Oper.semAt_some l a.eval o fun c hc=>by
  unfold zcF at hd;rw [hc] at hd;cases hd
 rw [hs];unfold Oper.wp at h;have hdep:∀ {p:Prop},(Fence.wide.inRound l).depth.isSome=true->p:=fun {p} e=>by
  have:(Fence.wide.inRound l).depth=none:=rfl;rw [this] at e;cases e
 cases hr:(execOp a.eval o).run P w with
 | ok x w' =>
  rw [hr] at h;cases x with
  | enter f args=>exact ⟨fun e=>hdep e,(callsIn_wide.2 h).inRound l⟩
  | row r args=>exact ⟨fun e=>hdep e,zk6 h⟩
  | round=>exact h.elim
  | _=>exact h
 | halt x w' =>
  rw [hr] at h;cases x<;>exact h
theorem zhC {ex:Ex} {s':St}:¬ LetsOut (jJ B ex s'):=by
 rintro ⟨a,w,g,_,h⟩;cases ex<;>exact h.elim
theorem zcd {l n:Nat} {ops:Array Oper} {Q:Exit->Act->World->Prop} (hQ:¬ LetsOut Q):∀ (os:List Oper) (a:Act) (w:World),os.all zcF=true->wpList P ops Q os a w->wpListIn (Fence.wide.inRound l) n P ops Q os a w
 | [],a,w,_,h=>h
 | o::os,a,w,hd,h=>by
  simp only [List.all_cons,zAC] at hd;unfold wpList at h;unfold wpListIn;split
  ·rename_i hw;rw [if_pos hw] at h;have h':=h.resolve_right fun e=>hQ e.2;refine zjY hd.1 ?_;exact Oper.wp_mono (fun a' w' k=>zcd hQ os a' w' hd.2 k) h'
  ·rename_i hw;rw [if_neg hw] at h;exact ⟨fun f _=>trivial,zcd hQ os _ w hd.2 h⟩
theorem zot {l n:Nat} {ops:Array Oper} {Q:Exit->Act->World->Prop} (hQ:¬ LetsOut Q) (hd:ops.toList.all zcF=true) {i:Nat} {K:Act->World->Prop} (h:wpOp P ops Q i K a w):wpOpIn (Fence.wide.inRound l) n P ops Q i K a w:=by
 unfold wpOp at h;unfold wpOpIn;split
 ·rename_i hn;rw [hn] at h;exact h
 ·rename_i o ho;rw [ho] at h;simp only at h
  have hod:zcF o=true:=zBH.1 hd o (by
   rw [<- zBC] at ho
   exact zAb ho)
  split
  ·rename_i hw;rw [if_pos hw] at h;exact zjY hod (h.resolve_right fun e=>hQ e.2)
  ·rename_i hw;rw [if_neg hw] at h;exact ⟨fun f _=>trivial,h⟩
theorem zhD {l n:Nat} {md:Region.Mode} {ops:Array Oper} {Q:Exit->Act->World->Prop} (hQ:¬ LetsOut Q) (hd:ops.toList.all zcF=true):∀ (fuel:Nat) (listed:Array Bool) (a:Act) (w:World),wpAny P md ops Q fuel listed a w->wpAnyIn (Fence.wide.inRound l) n P md ops Q fuel listed a w
 | 0,_listed,_a,_w,h=>h
 | fuel+1,_listed,_a,_w,h=>⟨h.1,fun i hi=>zot hQ hd (wpOp_mono (fun a' w' k=>zhD hQ hd fuel _ a' w' k) (h.2 i hi))⟩
theorem zmm (hmix:P.follows .mixedOrders=true) {cx:Cx} (hcx:CxOk P cx B) {l n id:Nat} {ops:Array Oper} {s s':St} {ex:Ex} (hd:ops.toList.all zcF=true) (hc:cx.draw ops s=some (ex,s')) (h:Rel B g s a w):(Code.region id ops true).wpIn (Fence.wide.inRound l) n P (jJ B ex s') a w:=by
 obtain ⟨rfl,h1⟩:=zhB hcx hc h;exact wpIn_region_any hmix (zhD zhC hd _ _ _ _ h1)
theorem zbn (hmix:P.follows .mixedOrders=true) {cx:Cx} (hcx:CxOk P cx B) {l n0:Nat} (n:Nat):∀ (c:Code) (s s':St) (ex:Ex) (g:Gh) (a:Act) (w:World),calm c=true->cx.code n c s=some (ex,s')->Rel B g s a w->c.wpIn (Fence.wide.inRound l) n0 P (jJ B ex s') a w:=by
 intro c
 induction c with
 | skip =>
  intro s s' ex g a w hd hc h;simp only [Cx.code,zAA,zAD] at hc;obtain ⟨rfl,rfl⟩:=hc;exact Go.wpIn_skip ⟨g,h,trivial⟩
 | label l =>
  intro s s' ex g a w hd hc h;simp only [Cx.code,zAA,zAD] at hc;obtain ⟨rfl,rfl⟩:=hc;exact wpIn_label ⟨g,h,trivial⟩
 | region id ops draw =>
  intro s s' ex g a w hd hc h;simp only [calm] at hd;cases draw with
  | false =>
   obtain ⟨env,H,lk,df⟩:=s;simp only [Cx.code] at hc;exact wpIn_region_list (zcd zhC _ _ _ hd (ziT hcx (fun _ _ _ q=>q) _ _ g a w h.lent hc))
  | true =>
   simp only [Cx.code] at hc;exact zmm hmix hcx hd hc h
 | seq x y ihx ihy =>
  intro s s' ex g a w hd hc h;simp only [calm,zAC] at hd;simp only [Cx.code] at hc;split at hc<;>try (cases hc;done)
  ·rename_i s1 hx;refine wpIn_seq (Go.wpIn_mono (ihx s s1 .normal g a w hd.1 hx h) (kg (fun _ g' a' w' h'=>ihy s1 s' ex g' a' w' hd.2 hc h') (fun e=>absurd rfl e)))
  ·rename_i e1 s1 hne hx;simp only [zAA,zAD] at hc;obtain ⟨rfl,rfl⟩:=hc;refine wpIn_seq (Go.wpIn_mono (ihx s _ _ g a w hd.1 hx h) (kg (fun e=>absurd e ?_) (fun _ _ _ _ q=>q)));exact fun e=>by simp_all
 | cond c x y ihx ihy =>
  intro s s' ex g a w hd hc h;simp only [calm,zAC] at hd;simp only [Cx.code] at hc;split at hc<;>try (cases hc;done)
  ·rename_i hp;have c1:=(zm h hp).1;generalize hce:a.eval c=cc at c1;cases c1;exact wpIn_cond_true hce (ihx s s' ex g a w hd.1 hc h)
  ·rename_i hp;have c1:=(zm h hp).1;generalize hce:a.eval c=cc at c1;cases c1;exact wpIn_cond_false hce (ihy s s' ex g a w hd.2 hc h)
 | block id c ih =>
  intro s s' ex g a w hd hc h;simp only [calm] at hd;simp only [Cx.code] at hc;split at hc<;>try (cases hc;done)
  ·rename_i i s1 hx;simp only [zAA,zAD] at hc;obtain ⟨rfl,rfl⟩:=hc;refine wpIn_block (Go.wpIn_mono (ih s s1 (.exit i) g a w hd hx h) ?_);rintro e a' w' ⟨g',h1,h2⟩;cases e<;>first|(exact h2.elim)|skip
   rename_i j;have:i=j:=h2;subst this;simp only [Exit.inBlock];split
   ·rename_i e;subst e;exact ⟨g',h1,by simp [zme]⟩
   ·rename_i e;refine ⟨g',h1,?_⟩;have:Nat.beq i id=false:=by
     cases hb:Nat.beq i id with
     | false=>rfl
     | true=>exact absurd (zAJ hb) e
    simp [this,zme]
  ·rename_i e1 s1 hne hx;simp only [zAA,zAD] at hc;obtain ⟨rfl,rfl⟩:=hc;refine wpIn_block (Go.wpIn_mono (ih s _ _ g a w hd hx h) ?_);rintro e a' w' ⟨g',h1,h2⟩;cases e with
   | exit j=>cases e1<;>first|(exact h2.elim)|(exact (hne _ rfl).elim)
   | _=>exact ⟨g',h1,h2⟩
 | loop c ih =>
  intro s s' ex g a w hd hc h;simp only [calm] at hd;simp only [Cx.code] at hc;refine wpIn_loop_rounds n ?_;have key:∀ (m:Nat) (s:St) (g:Gh) (a:Act) (w:World),vK (cx.code n c) m s=some (ex,s')->Rel B g s a w->Code.roundsIn (Fence.wide.inRound l) n0 P c (jJ B ex s') m a w:=by
   intro m
   induction m with
   | zero=>intro s g a w hi;simp [vK] at hi
   | succ m ihm =>
    intro s g a w hi h;simp only [vK] at hi;rw [roundsIn_succ];split at hi<;>try (cases hi;done)
    ·rename_i s1 hx;exact Go.wpIn_mono (ih s s1 .normal g a w hd hx h) (kg (fun _ g' a' w' h'=>ihm s1 g' a' w' hi h') (fun e=>absurd rfl e))
    ·rename_i e1 s1 hne hx;simp only [zAA,zAD] at hi;obtain ⟨rfl,rfl⟩:=hi;exact Go.wpIn_mono (ih s _ _ g a w hd hx h) (kg (fun e=>absurd e (fun e=>by simp_all)) (fun _ _ _ _ q=>q))
  exact key n s g a w hc h
 | exit id =>
  intro s s' ex g a w hd hc h;simp only [Cx.code,zAA,zAD] at hc;obtain ⟨rfl,rfl⟩:=hc;exact wpIn_exit ⟨g,h,rfl⟩
 | ret =>
  intro s s' ex g a w hd hc h;simp only [Cx.code,zAA,zAD] at hc;obtain ⟨rfl,rfl⟩:=hc;exact wpIn_ret ⟨g,h,trivial⟩
 | scope c ih=>intro s s' ex g a w hd;simp [calm] at hd
 | rangeFunc f ps as bd=>intro s s' ex g a w hd;simp [calm] at hd
 | _=>intro s s' ex g a w hd hc;simp [Cx.code] at hc
end Go.Vm
namespace Go.Vm
open Go Go.RowKit
variable {P:Program}
def zou (B:Nat) (Kp:World->World->Prop) (I:Nat->World->Prop) (Ix:Code->World->Prop) (k:Nat) (W:World):Exit->Act->World->Prop
 | .normal,_,W'=>KeepsFrom B W W'/\Kp W W'/\I (k+1) W'
 | .ret,_,W'=>KeepsFrom B W W'/\Ix .ret W'
 | .exit id,_,W'=>KeepsFrom B W W'/\Ix (.exit id) W'
 | _,_,_=>False
theorem zk7 {g:Operand} {ps:Array Tmp} {assign body:Code} {Q:Exit->Act->World->Prop} {a:Act} {w w0:World} {gf:Nat} {lb:Array Value} (hg:a.eval g=.func (.func gf) #[] lb) (eg:∀ args w,(callFunc gf args).run P w=.ok (.enter gf args) w)
  {encs:Nat->Array Value} {len:Nat} {Kp:World->World->Prop} (hit:zp6 P gf lb encs len Kp w0) (hb0:Below w0.heap.size w0 w) (hps:∀ k,(encs k).size=ps.size)
  (hKt:∀ {A B C:World},Kp A B->Kp B C->Kp A C) (hKb:∀ (W:World) (l:Nat) (o o':Obj),w.heap.size<=l->W.heap[l]?=some o->o.isCells=false->o.isWalk=false->Kp W (W.putObj l o'))
  (I:Nat->World->Prop) (Ix:Code->World->Prop) (M:Nat->Act->World->Prop) (hI:OwnFrom w.heap.size I) (hIx:OwnFrom w.heap.size Ix) (hM:∀ k a',OwnFrom w.heap.size (fun (_:Unit) W=>M k a' W)) (h0:I 0 w)
  (hassign:∀ (l k:Nat) (W:World) (K:Act->World->Prop),k<len->I k W->(∀ a' W',KeepsFrom w.heap.size W W'->Kp W W'->M k a' W'->K a' W') ->
   assign.wpIn (Fence.wide.inRound l) 1 P (Exit.then K (fun _ _ _=>False)) { tmps:=(ps.zip (encs k)).foldl (fun t (p,v)=>t.setIfInBounds p v) a.tmps,defers:=[] } W)
  (hbody:∀ (l k:Nat) (a':Act) (W:World),k<len->M k a' W->body.wpIn (Fence.wide.inRound l) 1 P (zou w.heap.size Kp I Ix k W) a' W)
  (hdone:∀ (D:Nat) (W:World),w.heap.size<=D->I len W->W.heap[D]?=some (.deferred (some []))->Q .normal { a with defers:={ target:=.collected D,args:=#[] }::a.defers } W)
  (hstop:∀ (D:Nat) (c:Code) (W:World),w.heap.size<=D->Ix c W->W.heap[D]?=some (.deferred (some []))->c.wpIn Fence.wide 3 P Q { a with defers:={ target:=.collected D,args:=#[] }::a.defers } W) :
  (Code.rangeFunc g ps assign body).wpIn Fence.wide 3 P Q a w:=by
 refine wpIn_rangeFunc ?_;intro fn hfn
 let rec':LoopState->Option Code->Loop:=fun st pe=>{ state:=st,pending:=pe,fn,tmps:=a.tmps,params:=ps,assign,body,defers:=w.heap.size }
 have hrec:∀ st pe,rec' st pe={ state:=st,pending:=pe,fn,tmps:=a.tmps,params:=ps,assign,body,defers:=w.heap.size }:=fun _ _=>rfl;generalize rec'=rec at hrec;obtain ⟨W1,hW1⟩:∃ W1,(w.alloc (.deferred (some []))).alloc (.loop (rec .ready none))=W1:=⟨_,rfl⟩;have hL1:W1.heap[w.heap.size+1]?=some (.loop (rec .ready none)):=by
  rw [<- hW1];have:=World.alloc_heap_new (w.alloc (.deferred (some []))) (.loop (rec .ready none))
  rwa [World.size_alloc] at this
 have hD1:W1.heap[w.heap.size]?=some (.deferred (some [])):=by
  rw [<- hW1];exact (Below.heap_alloc _ _ _ (by simp)).trans (World.alloc_heap_new w _)
 have hI1:I 0 W1:=by rw [<- hW1];exact hI.alloc _ (hI.alloc _ h0)
 have hb1:Below w0.heap.size w0 W1:=by
  rw [<- hW1];exact hb0.trans ((((Below.refl _ w).alloc (zAO _) _).alloc (by simp) _).mono hb0.size)
 refine ⟨w.heap.size+1,[{ target:=.collected w.heap.size,args:=#[] }],W1,{ target:=.fn (.func gf) lb,args:=#[.func (.yield (w.heap.size+1)) #[] #[]] },W1,gf,
  #[.func (.yield (w.heap.size+1)) #[] #[]]++lb,W1,?_,?_,fun _ _=>trivial,?_,(fun e=>nomatch e),?_⟩
 ·rw [<- hW1,hrec];exact run_enterLoop_outer _ _ _ _ _
 ·simp only [resolve,hg];simp [go_sem]
 ·simp [invoke,go_sem,eg]
 ·refine (hit (w.heap.size+1) (fun k W=>I k W/\W.heap[w.heap.size+1]?=some (.loop (rec .ready none))/\W.heap[w.heap.size]?=some (.deferred (some [])))
   (fun W=>∃ c,Ix c W/\W.heap[w.heap.size+1]?=some (.loop (rec .done (some c)))/\W.heap[w.heap.size]?=some (.deferred (some []))) W1 hb1 ?_ ⟨hI1,hL1,hD1⟩).mono ?_
  ·rintro k W hk ⟨hi,hl,hd⟩;have hy:=run_yield (P:=P) (args:=encs k) hl (by rw [hrec];exact hps k)
   rw [hrec] at hy;refine ⟨fn,_,assign,body,hy,roundIn_of_wpIn (F:=Fence.wide) trivial (hassign _ k W _ hk hi ?_)⟩;clear hy;intro a' Wa hkf hkp hm
   replace hl:=hkf.same _ _ (by omega) hl rfl
   replace hd:=hkf.same _ _ (zAO _) hd rfl
   have hlt:w.heap.size+1<Wa.heap.size:=(zAX.1 hl).1;refine ⟨_,run_beginRound hl (by rw [hrec]),?_⟩
   generalize hWb:Wa.putObj (w.heap.size+1) (.loop { rec .ready none with state:=.busy })=Wb;have hl2:Wb.heap[w.heap.size+1]?=some (.loop { rec .ready none with state:=.busy }):=by rw [<- hWb];exact World.putObj_heap_same hlt
   have hd2:Wb.heap[w.heap.size]?=some (.deferred (some [])):=by rw [<- hWb];exact (World.putObj_heap_other (by omega)).trans hd
   have hkp2:Kp Wa Wb:=by rw [<- hWb];exact hKb _ _ _ _ (by omega) hl rfl rfl
   have hm2:M k a' Wb:=by rw [<- hWb];exact (hM k a').putObj (s:=()) _ hm (by omega) hl rfl
   refine Go.wpIn_mono (hbody (w.heap.size+1) k a' Wb hk hm2) ?_;have fin:∀ (jump:Option Code) (W3:World),KeepsFrom w.heap.size Wb W3 ->
     (Instr.endRound (w.heap.size+1) jump).run P W3=.ok (.bool jump.isNone) (W3.putObj (w.heap.size+1) (.loop (rec (if jump.isNone then .ready else .done) jump))) /\
     W3.heap[w.heap.size+1]?=some (.loop { rec .ready none with state:=.busy }) /\
     (W3.putObj (w.heap.size+1) (.loop (rec (if jump.isNone then .ready else .done) jump))).heap[w.heap.size+1]?=some (.loop (rec (if jump.isNone then .ready else .done) jump)) /\
     (W3.putObj (w.heap.size+1) (.loop (rec (if jump.isNone then .ready else .done) jump))).heap[w.heap.size]?=some (.deferred (some [])):=fun jump W3 hk3=>by
    have hl3:=hk3.same _ _ (by omega) hl2 rfl
    have:=run_endRound (P:=P) jump hl3;rw [hrec] at this;rw [hrec];exact ⟨this,hl3,World.putObj_heap_same (zAX.1 hl3).1,(World.putObj_heap_other (by omega)).trans (hk3.same _ _ (zAO _) hd2 rfl)⟩
   rintro e a3 W3 hp;cases e with
   | normal =>
    obtain ⟨hk3,hkp3,hi3⟩:=hp;obtain ⟨hr,hl3,hl4,hd4⟩:=fin none W3 hk3;exact ⟨_,_,hr,.inl ⟨rfl,⟨hI.putObj _ hi3 (by omega) hl3 rfl,hl4,hd4⟩,hKt hkp (hKt (hKt hkp2 hkp3) (hKb _ _ _ _ (by omega) hl3 rfl rfl))⟩⟩
   | ret =>
    obtain ⟨hk3,hi3⟩:=hp;obtain ⟨hr,hl3,hl4,hd4⟩:=fin (some .ret) W3 hk3;exact ⟨_,_,hr,.inr ⟨rfl,.ret,hIx.putObj _ hi3 (by omega) hl3 rfl,hl4,hd4⟩⟩
   | exit id =>
    obtain ⟨hk3,hi3⟩:=hp;obtain ⟨hr,hl3,hl4,hd4⟩:=fin (some (.exit id)) W3 hk3;exact ⟨_,_,hr,.inr ⟨rfl,.exit id,hIx.putObj _ hi3 (by omega) hl3 rfl,hl4,hd4⟩⟩
   | goto t=>exact hp.elim
   | panic ch=>exact hp.elim
   | outgrown=>exact hp.elim
  ·rintro e W2 ⟨⟨v,rfl⟩,(⟨hi,hl,hd⟩|⟨c,hi,hl,hd⟩)⟩
   ·have:=run_endLoop (P:=P) hl (by rw [hrec];simp)
    rw [hrec] at this;exact ⟨none,_,this,hdone _ _ (zAO _) (hI.putObj _ hi (by omega) hl rfl) ((World.putObj_heap_other (by omega)).trans hd)⟩
   ·have:=run_endLoop (P:=P) hl (by rw [hrec];simp)
    rw [hrec] at this;exact ⟨some c,_,this,hstop _ c _ (zAO _) (hIx.putObj _ hi (by omega) hl rfl) ((World.putObj_heap_other (by omega)).trans hd)⟩
end Go.Vm
namespace Go.Vm
open Go Go.RowKit
variable {P:Program} {B:Base} {g:Gh} {w:World}
structure EnvOk (g:Gh) (n L:Nat) (env:List V) (tmps:Array Value):Prop where
 len:env.length=tmps.size
 L:env.length=L
 rel:∀ (t:Nat) (x:V) (v:Value),env[t]?=some x->tmps[t]?=some v->RelV g x v
 top:∀ (t:Nat) (x:V),env[t]?=some x->x.top<=n
 clr:∀ (t:Nat) (x:V),env[t]?=some x->clr x=x
theorem EnvOk.le {n n' L:Nat} {g g':Gh} {env:List V} {tmps:Array Value} (h:EnvOk g n L env tmps) (hg:Gh.Le n g g') (hn:n<=n'):EnvOk g' n' L env tmps :=
 ⟨h.len,h.L,fun t x v hx hv=>(h.rel t x v hx hv).le hg (h.top t x hx),fun t x hx=>zAM (h.top t x hx) hn,h.clr⟩
theorem clr_clr (x:V):clr (clr x)=clr x:=by cases x<;>rfl
theorem Rel.envOk {s:St} {a:Act} (h:Rel B g s a w):EnvOk g s.H.blks.length s.env.length (s.env.map clr) a.tmps:=by
 refine ⟨by rw [zAU];exact h.len,by rw [zAU],fun t x v hx hv=>?_,fun t x hx=>?_,fun t x hx=>?_⟩
 ·rw [zAY] at hx;obtain ⟨y,hy,rfl⟩:=zAV.1 hx;exact (h.env t y v hy hv).1.clr
 ·rw [zAY] at hx;obtain ⟨y,hy,rfl⟩:=zAV.1 hx;rw [top_clr];exact h.envTop t y hy
 ·rw [zAY] at hx;obtain ⟨y,hy,rfl⟩:=zAV.1 hx;exact clr_clr y
theorem Rel.clrAll {s:St} {a:Act} (h:Rel B g s a w):Rel B g ⟨s.env.map clr,s.H,[],s.defers⟩ a w:=by
 have he:=h.envOk;refine { wok:=h.wok,len:=he.len,env:=fun t x v hx hv=>⟨he.rel t x v hx hv,?_⟩,envTop:=he.top,n0:=h.n0,edges:=h.edges,newer:=h.newer,fr:=h.fr,lks:=h.lks,lkl:=fun _ hp=>by simp at hp,pend:=fun p hp=>?_,deflen:=h.deflen,defers:=h.defers,marks:=h.marks,mdis:=h.mdis }
 ·rw [<- he.clr t x hx];exact jf _ _ _ _ _ _
 ·obtain ⟨p1,p⟩:=h.pend p hp;exact ⟨by rw [zAU];exact p1,p⟩
theorem Rel.enter {env0 env1:List V} {H:Hp} {lk:List (Nat×Nat)} {df:List (V×List V)} {a:Act} {tmps:Array Value} (h:Rel B g ⟨env0,H,lk,df⟩ a w) (he:EnvOk g H.blks.length env1.length env1 tmps) (hpt:∀ p∈B.pend,env1.length<p.t) :
  Rel ⟨B.d,H.blks,g,w,B.pend⟩ g ⟨env1,⟨H.blks,[]⟩,[],[]⟩ { tmps:=tmps,defers:=[] } w:=by
 refine { wok:=h.wok,len:=he.len,env:=fun t x v hx hv=>⟨he.rel t x v hx hv,?_⟩,envTop:=he.top,n0:=zAO _,edges:=fun b x hx=>.inr (.inr ⟨x,hx,zAO _⟩),newer:=fun b h1 h2=>absurd h1 (Nat.not_le.2 h2),fr:=.refl _ _ _ _,lks:=fun b off hl=>?_,lkl:=fun _ hp=>by simp at hp,pend:=fun p hp=>?_,deflen:=rfl,defers:=(fun _ _ _ hx=>by simp at hx),marks:=(fun _ hd=>by simp at hd),mdis:=.nil }
 ·rw [<- he.clr t x hx];exact jf _ _ _ _ _ _
 ·rcases hl with hl|⟨q,hq,hqa⟩
  ·exact hl
  ·exact h.lks b off (.inr ⟨q,hq,hqa⟩)
 ·obtain ⟨p1,pr⟩:=h.pend p hp;exact ⟨hpt p hp,pr⟩
theorem Rel.leave {env0 e1:List V} {H H1:Hp} {lk lk1:List (Nat×Nat)} {df df1:List (V×List V)} {a a1:Act} {g':Gh} {w':World} (h:Rel B g ⟨env0,H,lk,df⟩ a w) (hc:∀ (t:Nat) (x:V),env0[t]?=some x->clr x=x)
  (h1:Rel ⟨B.d,H.blks,g,w,B.pend⟩ g' ⟨e1,H1,lk1,df1⟩ a1 w'):Rel B g' ⟨env0,⟨H1.blks,H1.edges++H.edges⟩,[],df⟩ a w':=by
 have hl:H.blks.length<=H1.blks.length:=h1.n0;have hle:=h1.fr.le
 refine { wok:=h1.wok,len:=h.len,env:=fun t x v hx hv=>⟨(h.env t x v hx hv).1.le hle (h.envTop t x hx),?_⟩,envTop:=fun t x hx=>zAM (h.envTop t x hx) hl,n0:=zAM h.n0 hl,edges:=fun b x hx=>?_,newer:=fun b h2 h3=>?_,fr:=?_,lks:=fun b off hb=>?_,lkl:=fun _ hp=>by simp at hp,pend:=fun p hp=>?_,deflen:=h.deflen,defers:=fun j x q hx hq=>(h.defers j x q hx hq).le hle hl,marks:=fun d hd D hD=>?_,mdis:=h.mdis }
 ·rw [<- hc t x hx];exact jf _ _ _ _ _ _
 ·rcases h1.edges b x hx with k|⟨m,k1,k2⟩|⟨y,k1,k2⟩
  ·exact .inl k
  ·exact .inr (.inl ⟨m,zAx _ k1,k2⟩)
  ·rcases h.edges b y k1 with k3|⟨m,k3,k4⟩|⟨z,k3,k4⟩
   ·exact .inl (zAM k2 k3)
   ·exact .inr (.inl ⟨m,zA9 _ k3,zAM k2 k4⟩)
   ·exact .inr (.inr ⟨z,k3,zAM k2 k4⟩)
 ·rcases zAZ b H.blks.length with h4|h4
  ·rw [hle.blk b h4];exact h.newer b h2 h4
  ·exact zAM h.fr.size (h1.newer b h4 h3)
 ·exact h.fr.trans h.n0 h.newer (fun b off hl=>h.lks b off (.inl hl)) h1.fr
 ·rcases hb with hb|⟨q,hq,hqa⟩
  ·exact h1.lks b off (.inl (h.lks b off (.inl hb)))
  ·exact h1.lks b off (.inr ⟨q,hq,hqa⟩)
 ·obtain ⟨p1,p2,p3,p4,p5⟩:=h1.pend p hp;exact ⟨(h.pend p hp).1,p2,p3,p4,p5⟩
 ·obtain ⟨m0,m1,m2,m3⟩:=h.marks d hd D hD;have hlt:D<w.heap.size:=(zAX.1 m1).1;have hp:Prot B.d H.blks.length g w D:=⟨hlt,m2,.inl m3⟩;refine ⟨m0,(h1.fr.heap D hp).trans m1,fun b hb e=>?_,(h1.fr.own D hp).trans m3⟩;rcases zAZ b H.blks.length with h4|h4
  ·rw [hle.blk b h4] at e;exact m2 b h4 e
  ·have:w.heap.size<=g'.blk b:=h1.newer b h4 hb;omega
def OwnC (N:Nat) (g:Gh) (w:World):Prop:=∀ c l,N<=c->g.own c=some l->∃ o:Obj,w.heap[c]?=some o/\o.isCells=true
open Classical in
noncomputable def qx (N:Nat) (g:Gh) (w:World):Gh:={ g with own:=fun c=>if N<=c/\¬ ∃ o:Obj,w.heap[c]?=some o/\o.isCells=true then none else g.own c }
theorem zfb {N:Nat} {c:Nat} (h:∃ o:Obj,w.heap[c]?=some o/\o.isCells=true):(qx N g w).own c=g.own c:=by
 unfold qx;simp only;rw [if_neg (fun e=>e.2 h)]
theorem zaU {N:Nat} {c:Nat} (h:g.own c=none):(qx N g w).own c=none:=by
 unfold qx;simp only;split
 ·rfl
 ·exact h
theorem xF {N n:Nat}:Gh.Le n g (qx N g w):=⟨fun _ _ _ h=>h,fun _ _=>rfl,rfl,fun _ _ _ _ h=>h⟩
theorem zi2 {N c:Nat} {l:Loc} (h:(qx N g w).own c=some l):g.own c=some l:=by
 unfold qx at h;simp only at h;split at h
 ·cases h
 ·exact h
theorem zaV {N:Nat}:OwnC N (qx N g w) w:=fun c l hN h=>by
 unfold qx at h;simp only at h;split at h
 ·cases h
 ·rename_i hn
  by_cases hx:∃ o:Obj,w.heap[c]?=some o/\o.isCells=true
  ·exact hx
  ·exact absurd ⟨hN,hx⟩ hn
theorem zk8 {base e sz n:Nat} {cv:Value} {xs:List Value} (h:w.ownsRow base e sz cv n xs):∀ c,cv.ownBlock=some c->∃ o:Obj,w.heap[c]?=some o/\o.isCells=true:=fun c hc=>by
 rcases h.2 with ⟨rfl,_⟩|⟨c',cap,cur,rfl,_,h1,_⟩
 ·cases hc
 ·cases hc;exact ⟨_,h1,rfl⟩
theorem zhE {e sz n:Nat} {cv:Value} {xs:List Value} (h:rowAt w e sz cv n xs):∀ c,cv.ownBlock=some c->∃ o:Obj,w.heap[c]?=some o/\o.isCells=true:=fun c hc=>by
 rcases h.2 with ⟨rfl,_⟩|⟨c',o,cap,cur,rfl,h1,_⟩
 ·cases hc
 ·cases hc;exact ⟨_,h1,rfl⟩
theorem OwnV.reset {N n:Nat} {l:Loc} {x:V} {cv:Value} (h:OwnV g n w l x cv):OwnV (qx N g w) n w l x cv:=by
 unfold OwnV at *;split
 ·obtain ⟨xs,h1,h2⟩:=h;refine ⟨xs,h1,fun c hc=>?_⟩;obtain ⟨k1,k2,k3⟩:=h2 c hc;exact ⟨by rw [zfb (zhE h1 c hc)];exact k1,k2,k3⟩
 ·trivial
theorem BlkOk.reset {N n b:Nat} {x:Blk} (ht:x.top<=n) (h:BlkOk g n w b x):BlkOk (qx N g w) n w b x:=by
 have hle:Gh.Le n g (qx N g w):=xF;cases x with
 | cells cs t =>
  obtain ⟨arr,h1,h2,h3⟩:=h;refine ⟨arr,h1,h2,fun j x v hx hv=>?_⟩;obtain ⟨k1,k2,k3,k4⟩:=h3 j x v hx hv;exact ⟨k1,k2.le hle (zAM (zg (zl hx)) ht),k3.reset,k4⟩
 | map es =>
  obtain ⟨en,ck,h1,h2,h3⟩:=h;have ht':=zBO.1 (show max (tops (es.map (·.1))) (tops (es.map (·.2)))<=n from ht);refine ⟨en,ck,h1,h2,fun j x me hx hm=>?_⟩;obtain ⟨k1,k2⟩:=h3 j x me hx hm;exact ⟨k1.le hle (zAM (zg (zBG (f:=(·.1)) (zl hx))) ht'.1),k2.le hle (zAM (zg (zBG (f:=(·.2)) (zl hx))) ht'.2)⟩
 | iter s pos=>exact h
 | ul ver sz cs e =>
  obtain ⟨c,len,cap,vs,hu⟩:=h;refine ⟨c,len,cap,vs,hu.hdr,hu.pos,hu.row,hu.mine.imp id fun h=>?_,hu.M,hu.others,hu.len,fun j x v hx hv=>?_,hu.fresh⟩
  ·rw [zfb (zk8 hu.row c rfl)];exact h
  ·obtain ⟨k1,k2⟩:=hu.cells j x v hx hv;exact ⟨k1,k2.le hle (zAM (zg (zl hx)) ht)⟩
theorem Rel.reset {s:St} {a:Act} (h:Rel B g s a w) {N:Nat} (hN:B.w.heap.size<=N):Rel B (qx N g w) s a w:=by
 have hle:∀ {n:Nat},Gh.Le n g (qx N g w):=fun {n}=>xF
 refine { wok:=⟨h.wok.mem,h.wok.lt,h.wok.inj,h.wok.apart,fun c l hc=>h.wok.ownlt c l (zi2 hc),fun b hb=>zaU (h.wok.unowned b hb),fun b x hx=>(h.wok.ok b x hx).reset (h.wok.tops b x hx),h.wok.tops,fun c hc=>?_⟩,len:=h.len,env:=fun t x v hx hv=>⟨(h.env t x v hx hv).1.le hle (h.envTop t x hx),(h.env t x v hx hv).2.reset⟩,envTop:=h.envTop,n0:=h.n0,edges:=h.edges,newer:=h.newer,fr:=?_,lks:=h.lks,lkl:=h.lkl,pend:=fun p hp=>?_,deflen:=h.deflen,defers:=fun j x q hx hq=>(h.defers j x q hx hq).le hle (zAO _),marks:=fun d hd D hD=>?_,mdis:=h.mdis }
 ·obtain ⟨k1,k2,k3⟩:=h.wok.laid c hc;exact ⟨k1,zaU k2,k3⟩
 ·refine ⟨h.fr.le.trans hle,h.fr.heap,fun c hc=>?_,h.fr.M,h.fr.size,h.fr.lk,h.fr.os,h.fr.tape,h.fr.output⟩;have hlt:¬ N<=c:=by have:=hc.1;omega
  have:(qx N g w).own c=g.own c:=by
   unfold qx;simp only;rw [if_neg fun e=>hlt e.1]
  rw [this];exact h.fr.own c hc
 ·obtain ⟨p1,p2,p3,p4,p5⟩:=h.pend p hp;exact ⟨p1,p2.le hle p4,p3.reset,p4,p5⟩
 ·obtain ⟨m0,m1,m2,m3⟩:=h.marks d hd D hD;exact ⟨m0,m1,m2,zaU m3⟩
structure NewC (n0 N:Nat) (g:Gh) (H:Hp):Prop where
 len:n0<=H.blks.length
 new:∀ (b:Nat) (x:Blk),n0<=b->H.blks[b]?=some x->x.isCells=true
 old:∀ b,b<n0->g.blk b<N
theorem zgi {n0:Nat} {bs:List Blk} (h:jP n0 bs=true):∀ (b:Nat) (x:Blk),n0<=b->bs[b]?=some x->x.isCells=true:=fun b x hb hx=>by
 unfold jP at h;refine zBH.1 h x ?_;have:(bs.drop n0)[b - n0]?=some x:=by rw [zBQ,show n0+(b - n0)=b by omega];exact hx
 exact zAb this
theorem NewC.isC {n0 N:Nat} {H:Hp} (h:NewC n0 N g H) {r:Nat} (hr:N<=r):∀ (b:Nat) (x:Blk),H.blks[b]?=some x->x.isC=false->g.blk b≠r:=fun b x hx hc e=>by
 rcases zAZ b n0 with h1|h1
 ·have:=h.old b h1;omega
 ·have:=h.new b x h1 hx;cases x<;>simp [Blk.isC,Blk.isCells] at hc this
theorem zgj {env0 e1:List V} {H H1:Hp} {lk lk1:List (Nat×Nat)} {df df1:List (V×List V)} {a a1:Act} {g':Gh} {w':World} {n0 N:Nat} (h:Rel B g ⟨env0,H,lk,df⟩ a w) (hn:NewC n0 N g H) (ho:OwnC N g w)
  (h1:Rel ⟨B.d,H.blks,g,w,B.pend⟩ g' ⟨e1,H1,lk1,df1⟩ a1 w'):KeepsFrom N w w':=by
 refine ⟨h1.fr.size,fun k o hk hko hc=>?_⟩;have hlt:k<w.heap.size:=(zAX.1 hko).1;refine (h1.fr.heap k ⟨hlt,fun b hb e=>?_,.inl ?_⟩).trans hko
 ·rcases zAZ b n0 with h2|h2
  ·have h3:=hn.old b h2;have e':g.blk b=k:=e;omega
  ·have hbx:H.blks[b]?=some H.blks[b]:=zAS hb;have hcl:=hn.new b _ h2 hbx;have hok:=h.wok.ok b _ hbx;cases hx:H.blks[b] with
   | cells cs t =>
    rw [hx] at hok;obtain ⟨arr,k1,_⟩:=hok;rw [e,hko] at k1;cases k1;cases hc
   | _=>rw [hx] at hcl;cases hcl
 ·cases hgo:g.own k with
  | none=>rfl
  | some l =>
   obtain ⟨o',k1,k2⟩:=ho k l hk hgo;rw [hko] at k1;cases k1;rw [hc] at k2;cases k2
theorem OwnC.turn {N:Nat} {w':World} (h:OwnC N g w) (hk:jF w w'):OwnC N g w':=fun c l hc hl=>by
 obtain ⟨o,h1,h2⟩:=h c l hc hl;cases o with
 | cells cs t k=>exact ⟨_,(hk c cs t k h1).trans h1,rfl⟩
 | _=>cases h2
end Go.Vm
namespace Go.Vm
open Go Go.RowKit
variable {P:Program} {B:Base} {g:Gh} {w:World}
theorem RelV.ow {g:Gh} {sz:Nat} {xs:List V} {o o':Own} {v:Value} (h:RelV g (.sl sz xs o) v):RelV g (.sl sz xs o') v:=by
 cases h with
 | sl f h1 h2 h3 h4 h5 h6=>exact .sl f h1 h2 h3 h4 h5 h6
theorem zdH {g:Gh} {n:Nat} {w:World} {l:Loc} {sz:Nat} {xs:List V} {o:Own} {v:Value} (h:∀ e,o≠.yes e):OwnV g n w l (.sl sz xs o) v:=by
 cases o with
 | yes e=>exact absurd rfl (h e)
 | _=>trivial
theorem Rel.box {s:St} {a:Act} (h:Rel B g s a w) {b:Nat} {ty:TypeId} {x:V} (hb:s.H.blks[b]?=some (.cells [x] ty)):∃ v,w.heap[g.blk b]?=some (.cells #[v] ty (0,0))/\RelV g x v/\zdv g b 0 x v:=by
 obtain ⟨arr,h1,h2,h3⟩:=h.wok.ok b _ hb;obtain ⟨v,rfl⟩:∃ v,arr=#[v]:=by
  obtain ⟨l⟩:=arr
  match l,h2 with
  | [v],_=>exact ⟨v,rfl⟩
 obtain ⟨_,k2,_,k4⟩:=h3 0 x v rfl rfl;exact ⟨v,h1,k2,k4⟩
theorem zmn {s:St} {a:Act} (h:Rel B g s a w) {b:Nat} {ty:TypeId} {sz:Nat} {xs:List V} (hb:s.H.blks[b]?=some (.cells [.sl sz xs .no] ty)):¬ zaA B b 0:=fun hh=>by
 obtain ⟨cs,t,sz',xs',h1,h2⟩:=h.lks b 0 hh;rw [hb] at h1;cases h1;simp at h2
theorem Rel.lockBox {s:St} {a:Act} (h:Rel B g s a w) {b:Nat} {ty:TypeId} {sz:Nat} {xs:List V} (hb:s.H.blks[b]?=some (.cells [.sl sz xs .no] ty)) :
  ∃ g',Gh.Le s.H.blks.length g g'/\g'.own=g.own/\(∃ v,w.heap[g.blk b]?=some (.cells #[v] ty (0,0))/\g'.lk b 0=v/\RelV g (.sl sz xs .no) v)/\Rel B g' ⟨s.env,⟨Vm.lockBox b ty sz xs s.H.blks,s.H.edges⟩,[],s.defers⟩ a w:=by
 obtain ⟨v,hv,hr,_⟩:=h.box hb;have hlt:b<s.H.blks.length:=(zAB.1 hb).1;have hnl:¬ zP s.H.blks b 0:=fun ⟨cs,t,sz',xs',h1,h2⟩=>by
  rw [hb] at h1;cases h1;simp at h2
 let g':Gh:={ g with lk:=fun b' o=>if b'=b/\o=0 then v else g.lk b' o }
 have hle:∀ {n},Gh.Le n g g':=fun {n}=>⟨fun _ _ _ h=>h,fun _ _=>rfl,rfl,fun _ _ _ _ h=>h⟩;refine ⟨g',hle,rfl,⟨v,hv,by simp [g'],hr⟩,?_⟩
 have hset:∀ b',(Vm.lockBox b ty sz xs s.H.blks)[b']?=if b=b' then some (.cells [.sl sz xs .lock] ty) else s.H.blks[b']?:=fun b'=>by
  unfold Vm.lockBox
  by_cases e:b=b'
  ·subst e;simp [hlt]
  ·simp [e]
 have hlen:(Vm.lockBox b ty sz xs s.H.blks).length=s.H.blks.length:=by simp [Vm.lockBox]
 refine h.master (b0:=some b) (l0:=some (.cell b 0)) (g':=g') (w':=w) (s':=⟨s.env,⟨Vm.lockBox b ty sz xs s.H.blks,s.H.edges⟩,[],s.defers⟩)
  ⟨hle,fun _ _ _ _=>rfl,fun _ _ _=>rfl,fun _ _ _ _=>rfl,zAO _,fun b' o hh=>?_,fun l hl=>?_,fun b' e=>?_,fun _ _ _ _=>rfl,rfl,rfl,rfl⟩ (by rw [hlen];exact zAO _) (fun b' h1 h2=>?_) (fun b' x h1 h2=>?_) (fun b' h1 h2=>?_) (fun b' b'' h1 h2=>?_) h.wok.mem h.wok.ownlt (fun b' j e=>?_) rfl rfl (fun t x hx=>⟨x,hx,.inl ⟨rfl,by simp⟩⟩) (fun b' x hx=>?_) (fun b' o hh=>?_) (fun p hp=>by simp at hp) (fun t e=>by simp at e)
 ·have:¬ (b'=b/\o=0):=fun ⟨e1,e2⟩=>hh _ rfl (by rw [e1,e2])
  simp only [g',if_neg this]
 ·cases hl;exact .inr ⟨b,0,rfl,rfl⟩
 ·cases e;exact hlt
 ·show (Vm.lockBox b ty sz xs s.H.blks)[b']?=_;rw [hset,if_neg fun e=>h2 (by rw [e])]
 ·have h2':(Vm.lockBox b ty sz xs s.H.blks)[b']?=some x:=h2;have:b'=b:=by
   rcases h1 with h1|h1
   ·cases h1;rfl
   ·have:=(zAB.1 h2').1;rw [hlen] at this;omega
  subst this;rw [hset,if_pos rfl] at h2';cases h2';refine ⟨⟨#[v],hv,rfl,fun j y u hy hu=>?_⟩,?_⟩
  ·match j,hy,hu with
   | 0,hy,hu =>
    simp only [zAt,zAA] at hy;subst hy;have:u=v:=by simpa using hu.symm
    subst this;exact ⟨rfl,(hr.ow).le hle (by have:=h.wok.tops b' _ hb;simpa [Blk.top,tops,V.top] using this),zdH (by simp),by simp [zdv,g']⟩
   | j+1,hy,_=>simp at hy
  ·have:=h.wok.tops b' _ hb;show Blk.top _<=(Vm.lockBox b' ty sz xs s.H.blks).length;rw [hlen];simpa [Blk.top,tops,V.top] using this
 ·have h2':b'<(Vm.lockBox b ty sz xs s.H.blks).length:=h2;rw [hlen] at h2';omega
 ·intro h3 h4;have h2':b'<(Vm.lockBox b ty sz xs s.H.blks).length:=h2;rw [hlen] at h2';omega
 ·cases e;exact hnl
 ·have hx':(Vm.lockBox b ty sz xs s.H.blks)[b']?=some x:=hx;rw [hset] at hx';split at hx'
  ·rename_i e;subst e;cases hx';rcases h.edges b _ hb with k|k|⟨y,k1,k2⟩
   ·exact .inl (by simpa [Blk.top,tops,V.top] using k)
   ·obtain ⟨m,k1,k2⟩:=k;exact .inr (.inl ⟨m,k1,by simpa [Blk.top,tops,V.top] using k2⟩)
   ·exact .inr (.inr ⟨y,k1,by simpa [Blk.top,tops,V.top] using k2⟩)
  ·exact h.edges b' x hx'
 ·obtain ⟨cs,t,sz',xs',k1,k2⟩:=h.lks b' o hh;refine ⟨cs,t,sz',xs',?_,k2⟩;show (Vm.lockBox b ty sz xs s.H.blks)[b']?=_;rw [hset,if_neg fun e=>?_]
  ·exact k1
  ·subst e;rw [hb] at k1;cases k1;cases o with
   | zero=>simp at k2
   | succ o=>simp at k2
theorem Rel.freeBox {s:St} {a:Act} (h:Rel B g s a w) {b:Nat} {ty:TypeId} {sz:Nat} {xs:List V} (hb:s.H.blks[b]?=some (.cells [.sl sz xs .lock] ty)) (hn:¬ zaA B b 0) :
  Rel B g ⟨s.env,⟨s.H.blks.set b (.cells [.sl sz xs .no] ty),s.H.edges⟩,[],s.defers⟩ a w:=by
 obtain ⟨v,hv,hr,_⟩:=h.box hb;have hlt:b<s.H.blks.length:=(zAB.1 hb).1;have hset:∀ b',(s.H.blks.set b (.cells [.sl sz xs .no] ty))[b']?=if b=b' then some (.cells [.sl sz xs .no] ty) else s.H.blks[b']?:=fun b'=>by
  by_cases e:b=b'
  ·subst e;simp [hlt]
  ·simp [e]
 have hlen:(s.H.blks.set b (.cells [.sl sz xs .no] ty)).length=s.H.blks.length:=by simp
 refine h.master (b0:=some b) (l0:=none) (g':=g) (w':=w) (s':=⟨s.env,⟨s.H.blks.set b (.cells [.sl sz xs .no] ty),s.H.edges⟩,[],s.defers⟩)
  ⟨.refl _ _,fun _ _ _ _=>rfl,fun _ _ _=>rfl,fun _ _ _ _=>rfl,zAO _,fun b' o hh=>rfl,fun l hl=>(by cases hl),fun b' e=>?_,fun _ _ _ _=>rfl,rfl,rfl,rfl⟩ (by rw [hlen];exact zAO _) (fun b' h1 h2=>?_) (fun b' x h1 h2=>?_) (fun b' h1 h2=>?_) (fun b' b'' h1 h2=>?_) h.wok.mem h.wok.ownlt (fun b' j e=>(by cases e)) rfl rfl (fun t x hx=>⟨x,hx,.inl ⟨rfl,by simp⟩⟩) (fun b' x hx=>?_) (fun b' o hh=>?_) (fun p hp=>by simp at hp) (fun t e=>by simp at e)
 ·cases e;exact hlt
 ·show (s.H.blks.set b (.cells [.sl sz xs .no] ty))[b']?=_;rw [hset,if_neg fun e=>h2 (by rw [e])]
 ·have h2':(s.H.blks.set b (.cells [.sl sz xs .no] ty))[b']?=some x:=h2;have:b'=b:=by
   rcases h1 with h1|h1
   ·cases h1;rfl
   ·have:=(zAB.1 h2').1;rw [hlen] at this;omega
  subst this;rw [hset,if_pos rfl] at h2';cases h2';refine ⟨⟨#[v],hv,rfl,fun j y u hy hu=>?_⟩,?_⟩
  ·match j,hy,hu with
   | 0,hy,hu =>
    simp only [zAt,zAA] at hy;subst hy;have:u=v:=by simpa using hu.symm
    subst this;exact ⟨rfl,hr.ow,zdH (by simp),trivial⟩
   | j+1,hy,_=>simp at hy
  ·have:=h.wok.tops b' _ hb;show Blk.top _<=(s.H.blks.set b' (.cells [.sl sz xs .no] ty)).length;rw [hlen];simpa [Blk.top,tops,V.top] using this
 ·have h2':b'<(s.H.blks.set b (.cells [.sl sz xs .no] ty)).length:=h2;rw [hlen] at h2';omega
 ·intro h3 h4;have h2':b'<(s.H.blks.set b (.cells [.sl sz xs .no] ty)).length:=h2;rw [hlen] at h2';omega
 ·have hx':(s.H.blks.set b (.cells [.sl sz xs .no] ty))[b']?=some x:=hx;rw [hset] at hx';split at hx'
  ·rename_i e;subst e;cases hx';rcases h.edges b _ hb with k|k|⟨y,k1,k2⟩
   ·exact .inl (by simpa [Blk.top,tops,V.top] using k)
   ·obtain ⟨m,k1,k2⟩:=k;exact .inr (.inl ⟨m,k1,by simpa [Blk.top,tops,V.top] using k2⟩)
   ·exact .inr (.inr ⟨y,k1,by simpa [Blk.top,tops,V.top] using k2⟩)
  ·exact h.edges b' x hx'
 ·obtain ⟨cs,t,sz',xs',k1,k2⟩:=h.lks b' o hh;refine ⟨cs,t,sz',xs',?_,k2⟩;show (s.H.blks.set b (.cells [.sl sz xs .no] ty))[b']?=_;rw [hset,if_neg fun e=>?_]
  ·exact k1
  ·subst e;rw [hb] at k1;cases k1;cases o with
   | zero=>exact hn hh
   | succ o=>simp at k2
end Go.Vm
namespace Go.Vm
open Go Go.RowKit
variable {P:Program} {B:Base} {g:Gh} {w:World}
theorem zp8 {x:V} {ag:Bool} {sz i:Nat} {f:Nat->Value} (hx:isAggV x=ag) (hl:x.cells.length=sz) (h1:∀ (r:Nat) (y:V),x.cells[r]?=some y->y.one=true/\RelV g y (f (i * sz+r))):RelV g x (elV ag sz f i):=by
 subst hx;cases x with
 | agg cs =>
  have hl':cs.length=sz:=hl;simp only [isAggV,elV,if_true];refine .agg (by simp [hl']) (fun j y hy=>(h1 j y hy).1) fun j y v hy hv=>?_
  have hj:j<sz:=by rw [<- hl'];exact (zAB.1 hy).1
  simp only [List.getElem?_toArray,zAY,zBW hj,zAa,zAA] at hv;subst hv;exact (h1 j y hy).2
 | _ =>
  simp only [isAggV,elV,zAH,if_false];have:=(h1 0 _ rfl).2
  rwa [zBf] at this
theorem zhF {n L:Nat}:∀ (l:List Tmp) (xs:List V) (vs:List Value) (env:List V) (tmps:Array Value),EnvOk g n L env tmps->(∀ (j:Nat) (x:V) (v:Value),xs[j]?=some x->vs[j]?=some v->RelV g x v/\x.top<=n)->xs.length=vs.length ->
  EnvOk g n L (ze0 env l xs) ((l.zip vs).foldl (fun t p=>t.setIfInBounds p.1 p.2) tmps)
 | [],xs,vs,env,tmps,h,_,_=>h
 | p::l,[],[],env,tmps,h,_,_=>h
 | p::l,[],v::vs,env,tmps,h,_,hl=>by simp at hl
 | p::l,x::xs,[],env,tmps,h,_,hl=>by simp at hl
 | p::l,x::xs,v::vs,env,tmps,h,hx,hl=>by
  have h0:=hx 0 x v rfl rfl;refine zhF l xs vs (env.set p (clr x)) (tmps.setIfInBounds p v) ?_ (fun j y u hy hu=>hx (j+1) y u (by simpa using hy) (by simpa using hu)) (by simpa using hl)
  refine ⟨by simp [h.len],by simp [h.L],fun t y u hy hu=>?_,fun t y hy=>?_,fun t y hy=>?_⟩
  ·rw [zAl] at hy;rw [Array.getElem?_setIfInBounds] at hu
   by_cases e:p=t
   ·subst e;simp only [if_true] at hy hu;split at hy
    ·split at hu
     ·cases hy;cases hu;exact h0.1.clr
     ·cases hu
    ·cases hy
   ·simp only [e,if_false] at hy hu;exact h.rel t y u hy hu
  ·rw [zAl] at hy
   by_cases e:p=t
   ·subst e;simp only [if_true] at hy;split at hy
    ·cases hy;rw [top_clr];exact h0.2
    ·cases hy
   ·simp only [e,if_false] at hy;exact h.top t y hy
  ·rw [zAl] at hy
   by_cases e:p=t
   ·subst e;simp only [if_true] at hy;split at hy
    ·cases hy;exact clr_clr x
    ·cases hy
   ·simp only [e,if_false] at hy;exact h.clr t y hy
theorem zk9 {ag back:Bool} {sz n:Nat} {ys:List V} {f:Nat->Value} (hag:∀ x∈ys,isAggV x=ag) (hl:∀ x∈ys,x.cells.length=sz) (htop:tops ys<=n)
  (h1:∀ (j:Nat) (y:V),(zo ys)[j]?=some y->y.one=true/\RelV g y (f j)) {k:Nat} (hk:k<ys.length) :
  ∃ xk,(kp back ys)[k]?=some xk/\xk.length=(zeR back ag sz ys.length f k).toList.length/\∀ (j:Nat) (x:V) (v:Value),xk[j]?=some x->(zeR back ag sz ys.length f k).toList[j]?=some v->RelV g x v/\x.top<=n:=by
 have hel:∀ (i:Nat) (x:V),ys[i]?=some x->RelV g x (elV ag sz f i)/\x.top<=n:=fun i x hx=>by
  have hm:=zAb hx;exact ⟨zp8 (hag x hm) (hl x hm) fun r y hy=>h1 _ y (zbf hl hx r y hy),zAM (zg hm) htop⟩
 cases back with
 | true =>
  have hlt:ys.length - 1 - k<ys.length:=by omega
  have hget:ys[ys.length - 1 - k]?=some ys[ys.length - 1 - k]:=zAS hlt;refine ⟨[.int .i64 ((ys.length - 1 - k:Nat):Int),ys[ys.length - 1 - k]],?_,by simp [zeR],fun j x v hx hv=>?_⟩
  ·simp only [kp,if_true];rw [zAY,zBW hk,zAa,zd,hget];rfl
  ·simp only [zeR,if_true] at hv
   match j,hx,hv with
   | 0,hx,hv =>
    simp at hx hv;subst hx hv;exact ⟨.int _ _,zAW _⟩
   | 1,hx,hv =>
    simp at hx hv;subst hx hv;exact hel _ _ hget
   | j+2,hx,_=>simp at hx
 | false =>
  have hget:ys[k]?=some ys[k]:=zAS hk;refine ⟨[ys[k]],?_,by simp [zeR],fun j x v hx hv=>?_⟩
  ·simp only [kp,zAH,if_false];rw [zAY,hget];rfl
  ·simp only [zeR,zAH,if_false] at hv
   match j,hx,hv with
   | 0,hx,hv =>
    simp at hx hv;subst hx hv;exact hel _ _ hget
   | j+1,hx,_=>simp at hx
theorem zhG {back:Bool} {ys:List V}:(kp back ys).length=ys.length:=by
 cases back<;>simp [kp]
def zrp (H:Hp) (b:Nat) (ty:TypeId) (sz:Nat) (ag:Bool):Option (Nat×List V)->Prop
 | none=>H.get b=some (.cells [.snil] ty)
 | some (sz',ys)=>H.get b=some (.cells [.sl sz' ys .no] ty)/\sz'=sz/\(∀ x∈ys,isAggV x=ag)/\ys.length<=140737488355328
theorem zov {cx:Cx} {fv:V} {H:Hp} {b:Nat} {ty:TypeId} {lv:Option (Nat×List V)} {back:Bool} (h:cx.itOf fv H=some (b,ty,lv,back)) :
  ∃ gf e sz ag,fv=.fn (.func gf) [] [.ptr b 0]/\cx.P.underlying ty=some (.slice e)/\zy cx.P e=some sz/\qC cx.P e=some ag/\0<sz/\(show Nat from ty)<1048576/\cx.uq (wo gf back ty)=true /\
   zrp H b ty sz ag lv:=by
 unfold Cx.itOf at h;split at h<;>try (cases h;done)
 rename_i gf b';generalize hb:H.get b'=ob at h;split at h<;>try (cases h;done)
 rename_i x ty';generalize hu:cx.P.underlying ty'=ou at h;split at h<;>try (cases h;done)
 rename_i e;generalize hs:zy cx.P e=os at h;generalize ha:qC cx.P e=oa at h;split at h<;>try (cases h;done)
 rename_i sz ag;simp only at h;split at h<;>try (cases h;done)
 rename_i hc;have hsz:0<sz:=by
  rcases zBx sz with e|e
  ·subst e;simp at hc
  ·exact e
 have hty:(show Nat from ty')<1048576:=by
  cases hb:Nat.blt ty' 1048576 with
  | true=>exact zAf hb
  | false=>rw [hb] at hc;simp at hc
 have huq:cx.uq (wo gf (cx.uq (wo gf true ty')) ty')=true:=by
  cases hk:cx.uq (wo gf true ty') with
  | true=>exact hk
  | false =>
   cases hk2:cx.uq (wo gf false ty') with
   | true=>rfl
   | false=>rw [hk,hk2] at hc;simp at hc
 split at h<;>try (cases h;done)
 ·simp only [zAA,zAD] at h;obtain ⟨rfl,rfl,rfl,rfl⟩:=h;exact ⟨gf,e,sz,ag,rfl,hu,hs,ha,hsz,hty,huq,hb⟩
 ·rename_i sz' xs;split at h<;>try (cases h;done)
  rename_i hcc;simp only [zAA,zAD] at h;obtain ⟨rfl,rfl,rfl,rfl⟩:=h;simp only [zAC] at hcc;obtain ⟨⟨c1,c2⟩,c3⟩:=hcc;refine ⟨gf,e,sz,ag,rfl,hu,hs,ha,hsz,hty,huq,hb,(zAJ c1).symm,fun x hx=>?_,zAf c3⟩;have:=zBH.1 c2 x hx;exact beq_iff_eq.1 this
end Go.Vm
namespace Go.Vm
open Go Go.RowKit
variable {P:Program} {B:Base} {g:Gh} {w:World}
theorem Rel.addMark {env0:List V} {H:Hp} {lk:List (Nat×Nat)} {df:List (V×List V)} {a:Act} (h:Rel B g ⟨env0,H,lk,df⟩ a w) {D:Nat} (hD:w.heap[D]?=some (.deferred (some []))) (h0:B.w.heap.size<=D) (hb:∀ b,b<H.blks.length->g.blk b≠D) (ho:g.own D=none)
  (hd:∀ d∈a.defers,∀ D',d.target=.collected D'->D'≠D):Rel B g ⟨env0,H,[],(.nilp,[])::df⟩ { a with defers:={ target:=.collected D,args:=#[] }::a.defers } w:=by
 refine { wok:=h.wok,len:=h.len,env:=h.env,envTop:=h.envTop,n0:=h.n0,edges:=h.edges,newer:=h.newer,fr:=h.fr,lks:=h.lks,lkl:=fun _ hp=>by simp at hp,pend:=h.pend,deflen:=by simp [h.deflen],defers:=fun j x q hx hq=>?_,marks:=fun d hdm D' hD'=>?_,mdis:=.cons (fun d' hd' D' e=>?_) h.mdis }
 ·cases j with
  | zero =>
   simp only [zAt,zAA] at hx hq;subst hx hq;exact .inr ⟨rfl,D,rfl⟩
  | succ j=>exact h.defers j x q (by simpa using hx) (by simpa using hq)
 ·rcases zAK.1 hdm with e|hdm
  ·subst e;cases hD';exact ⟨h0,hD,hb,ho⟩
  ·exact h.marks d hdm D' hD'
 ·cases e;intro e;exact hd d' hd' D e rfl
structure RS (B:Base) (g2:Gh) (n0 N:Nat) (env0:List V) (df:List (V×List V)) (a:Act) (b:Nat) (lc:Bool) (v:Value) (gi:Gh) (Hi:Hp) (W:World):Prop where
 rel:Rel B gi ⟨env0,Hi,[],df⟩ a W
 own:OwnC N gi W
 new:NewC n0 N gi Hi
 le:Gh.Le n0 g2 gi
 lk:lc=true->gi.lk b 0=v/\zP Hi.blks b 0
variable {g2 gi:Gh} {n0 N b:Nat} {env0:List V} {df:List (V×List V)} {a:Act} {lc:Bool} {v:Value} {Hi:Hp} {W W':World}
theorem RS.turn (h:RS B g2 n0 N env0 df a b lc v gi Hi W) (hN:B.w.heap.size<=N) (hm:∀ d∈a.defers,∀ D,d.target=.collected D->D<N) {row:Option Nat} (hg:W.grownBy W' row) (hr:∀ r,row=some r->N<=r/\∃ o:Obj,W.heap[r]?=some o/\o.isCells=false) :
  RS B g2 n0 N env0 df a b lc v gi Hi W' :=
 ⟨h.rel.turn hg fun r e=>⟨zAM hN (hr r e).1,(hr r e).2,h.new.isC (hr r e).1,fun d hd D hD e'=>by
   have:=hm d hd D hD;have:=(hr r e).1
   omega⟩,h.own.turn (zf9 hg fun r e=>(hr r e).2),h.new,h.le,h.lk⟩
theorem RS.round (h:RS B g2 n0 N env0 df a b lc v gi Hi W) (hN:B.w.heap.size<=N) (hc:∀ (t:Nat) (x:V),env0[t]?=some x->clr x=x) {g':Gh} {e1:List V} {H1:Hp} {lk1:List (Nat×Nat)} {df1:List (V×List V)} {a1:Act}
  (h1:Rel ⟨B.d,Hi.blks,gi,W,B.pend⟩ g' ⟨e1,H1,lk1,df1⟩ a1 W') (hn:jP n0 H1.blks=true):RS B g2 n0 N env0 df a b lc v (qx N g' W') ⟨H1.blks,H1.edges++Hi.edges⟩ W'/\KeepsFrom N W W':=by
 have hlen:Hi.blks.length<=H1.blks.length:=h1.n0;have hle:Gh.Le n0 gi g':=h1.fr.le.mono h.new.len;refine ⟨⟨(h.rel.leave hc h1).reset hN,zaV,⟨zAM h.new.len hlen,zgi hn,fun b hb=>?_⟩,(h.le.trans hle).trans xF,fun hl=>?_⟩,zgj h.rel h.new h.own h1⟩
 ·show g'.blk b<N;rw [hle.blk b hb];exact h.new.old b hb
 ·obtain ⟨k1,k2⟩:=h.lk hl;have k3:g'.lk b 0=gi.lk b 0:=h1.fr.lk b 0 k2;exact ⟨k3.trans k1,h1.lks b 0 (.inl k2)⟩
theorem RS.box (h:RS B g2 n0 N env0 df a b true v gi Hi W) (hb:b<n0):W.cell? ⟨g2.blk b,0,none⟩=some v:=by
 obtain ⟨k1,cs,t,sz,xs,k2,k3⟩:=h.lk rfl;obtain ⟨arr,m1,m2,m3⟩:=h.rel.wok.ok b _ k2;have hlt:0<arr.size:=by rw [<- m2];exact (zAB.1 k3).1
 have harr:arr[0]?=some arr[0]:=zAy hlt;obtain ⟨_,_,_,m4⟩:=m3 0 _ _ k3 harr;have hv:arr[0]=v:=by
  have:arr[0]=gi.lk b 0:=m4;rw [this,k1]
 rw [<- h.le.blk b hb];simp [World.cell?,m1,harr,hv]
theorem RS.marked (h:RS B g2 n0 N env0 df a b lc v gi Hi W) (hN:B.w.heap.size<=N) (hm:∀ d∈a.defers,∀ D,d.target=.collected D->D<N) {H':Hp} (hrel:Rel B gi ⟨env0,H',[],df⟩ a W) (hl:H'.blks.length=Hi.blks.length) {D:Nat} (hD:W.heap[D]?=some (.deferred (some []))) (hDN:N<=D) :
  Rel B gi ⟨env0,H',[],(.nilp,[])::df⟩ { a with defers:={ target:=.collected D,args:=#[] }::a.defers } W:=by
 refine hrel.addMark hD (zAM hN hDN) (fun b' hb' e=>?_) ?_ (fun d hd D' hD' e=>?_)
 ·rcases zAZ b' n0 with h2|h2
  ·have:=h.new.old b' h2;omega
  ·rw [hl] at hb';have hbx:Hi.blks[b']?=some Hi.blks[b']:=zAS hb';have hcl:=h.new.new b' _ h2 hbx;have hok:=h.rel.wok.ok b' _ hbx;cases hx:Hi.blks[b'] with
   | cells cs t =>
    rw [hx] at hok;obtain ⟨arr,k1,_⟩:=hok;rw [e,hD] at k1;cases k1
   | _=>rw [hx] at hcl;cases hcl
 ·cases hgo:gi.own D with
  | none=>rfl
  | some l =>
   obtain ⟨o',k1,k2⟩:=h.own D l hDN hgo;rw [hD] at k1;cases k1;cases k2
 ·have:=hm d hd D' hD';omega
end Go.Vm
namespace Go.Vm
open Go Go.RowKit
variable {P:Program} {B:Base} {g:Gh} {w:World}
theorem zmo {ps:Array Tmp} {vs tmps:Array Value}:(ps.zip vs).foldl (fun t (p,v)=>t.setIfInBounds p v) tmps=(ps.toList.zip vs.toList).foldl (fun t p=>t.setIfInBounds p.1 p.2) tmps:=by
 rw [<- Array.foldl_toList,Array.toList_zip]
theorem putPs_len:∀ (l:List Tmp) (xs:List V) (env:List V),(ze0 env l xs).length=env.length
 | [],xs,env=>rfl
 | p::l,[],env=>rfl
 | p::l,x::xs,env=>by
  have:=putPs_len l xs (env.set p (clr x));rw [zAF] at this;exact this
theorem zhH (hmix:P.follows .mixedOrders=true) {cx:Cx} (hcx:CxOk P cx B) {n:Nat} {f:Operand} {ps:Array Tmp} {as bd:Code} {ex:Ex} {s':St} {a:Act} {g2:Gh} {n0 b:Nat} {env0:List V} {df:List (V×List V)} {lc:Bool} {v:Value} {H0 H':Hp} {gf sz cap c o:Nat} {back ag:Bool} {ys:List V} {aa:Option Addr} {fM:Nat->Value}
  (hN:B.w.heap.size<=w.heap.size) (hm:∀ d∈a.defers,∀ D,d.target=.collected D->D<w.heap.size) (hc0:∀ (t:Nat) (x:V),env0[t]?=some x->clr x=x)
  (hS0:RS B g2 n0 w.heap.size env0 df a b lc v g2 H0 w) (hpt:∀ p∈B.pend,env0.length<p.t) (hbn:b<n0) (hlc:0<ys.length->lc=true) (hv:v=.slice aa ys.length cap) (hca:calm as=true) (hcb:calm bd=true) (hpsz:ps.size=if back then 2 else 1)
  (hg:a.eval f=.func (.func gf) #[] #[.pointer (some ⟨g2.blk b,0,none⟩)]) (heg:∀ args w,(callFunc gf args).run P w=.ok (.enter gf args) w)
  (hag:∀ x∈ys,isAggV x=ag) (hlen:∀ x∈ys,x.cells.length=sz) (htop:tops ys<=n0) (hfl:∀ (j:Nat) (y:V),(zo ys)[j]?=some y->y.one=true/\g2.M c (o+j)=some (fM j)/\RelV g2 y (fM j)) (htf:∀ (j:Nat) (y:V),(zo ys)[j]?=some y->y.top<=n0)
  (hit:∀ C:Addr->Value->Prop,C ⟨g2.blk b,0,none⟩ v->(∀ j,j<ys.length * sz->C ⟨c,o+j,none⟩ (fM j))->zp6 P gf #[.pointer (some ⟨g2.blk b,0,none⟩)] (zeR back ag sz ys.length fM) ys.length (KpC C) w)
  (hra:zaO (fun x bs=>cx.code n as ⟨ze0 env0 ps.toList x,⟨bs,[]⟩,[],[]⟩) (fun e bs=>cx.code n bd ⟨e,⟨bs,[]⟩,[],[]⟩) (jP n0) (kp back ys) H0=some (ex,H'))
  (hfin:∀ (gi:Gh) (W:World) (D:Nat),RS B g2 n0 w.heap.size env0 df a b lc v gi H' W->W.heap[D]?=some (.deferred (some []))->w.heap.size<=D->∃ g,Rel B g s' { a with defers:={ target:=.collected D,args:=#[] }::a.defers } W) :
  (Code.rangeFunc f ps as bd).wpIn Fence.wide 3 P (jJ B ex s') a w:=by
 generalize hasg:(fun x bs=>cx.code n as ⟨ze0 env0 ps.toList x,⟨bs,[]⟩,[],[]⟩)=asg at hra;generalize hbdf:(fun e bs=>cx.code n bd ⟨e,⟨bs,[]⟩,[],[]⟩)=bdf at hra
 let C:Addr->Value->Prop:=fun ad u=>(ad=⟨g2.blk b,0,none⟩/\u=v)\/∃ j,j<ys.length * sz/\ad=⟨c,o+j,none⟩/\u=fM j
 have hflen:(zo ys).length=ys.length * sz:=zE hlen;have hC:∀ gi Hi W,RS B g2 n0 w.heap.size env0 df a b lc v gi Hi W->0<ys.length->∀ ad u,C ad u->W.cell? ad=some u:=fun gi Hi W hS hpos ad u hcu=>by
  rcases hcu with ⟨rfl,rfl⟩|⟨j,hj,rfl,rfl⟩
  ·have:=hlc hpos;subst this;exact hS.box hbn
  ·have hy:(zo ys)[j]?=some (zo ys)[j]:=zAS (by rw [hflen];exact hj)
   exact hS.rel.wok.mem _ _ _ (hS.le.M _ _ _ (hfl j _ hy).2.1)
 have hcx1:∀ gi Hi W,RS B g2 n0 w.heap.size env0 df a b lc v gi Hi W->CxOk P cx ⟨B.d,Hi.blks,gi,W,B.pend⟩:=fun gi Hi W hS=>⟨hcx.prog,hcx.num,hcx.prim,hcx.gl.le hS.rel.fr.le,hcx.calls⟩
 refine zk7 (w0:=w) (len:=ys.length) hg heg (hit C (.inl ⟨rfl,rfl⟩) fun j hj=>.inr ⟨j,hj,rfl,rfl⟩) (Below.refl _ _) (fun k=>?_) (fun h1 h2 ad u hcu hx=>h2 ad u hcu (h1 ad u hcu hx)) (fun W l ob ob' hl hlo hnc _ ad u _ hx=>?_)
  (fun k W=>k<=ys.length/\∃ gi Hi,RS B g2 n0 w.heap.size env0 df a b lc v gi Hi W/\zaO asg bdf (jP n0) ((kp back ys).drop k) Hi=some (ex,H'))
  (fun cd W=>∃ gi,RS B g2 n0 w.heap.size env0 df a b lc v gi H' W/\((cd=.ret/\ex=.ret)\/∃ i,cd=.exit i/\ex=.exit i))
  (fun k a' W=>∃ gi bs1 es1 e1,RS B g2 n0 w.heap.size env0 df a b lc v gi ⟨bs1,es1⟩ W/\EnvOk gi bs1.length e1.length e1 a'.tmps/\a'.defers=[]/\(∀ p∈B.pend,e1.length<p.t) /\
   (match bdf e1 bs1 with
    | some (.normal,⟨_,⟨bs2,es2⟩,_,[]⟩)=>if !jP n0 bs2 then none else zaO asg bdf (jP n0) ((kp back ys).drop (k+1)) ⟨bs2,es2++es1⟩
    | some (.ret,⟨_,⟨bs2,es2⟩,_,[]⟩)=>if !jP n0 bs2 then none else some (.ret,⟨bs2,es2++es1⟩)
    | some (.exit i,⟨_,⟨bs2,es2⟩,_,[]⟩)=>if !jP n0 bs2 then none else some (.exit i,⟨bs2,es2++es1⟩)
    | _=>none)=some (ex,H'))
  (fun k W W' row hI hgr hr=>⟨hI.1,hI.2.elim fun gi h=>h.elim fun Hi h=>⟨gi,Hi,h.1.turn hN hm hgr hr,h.2⟩⟩)
  (fun cd W W' row hI hgr hr=>hI.elim fun gi h=>⟨gi,h.1.turn hN hm hgr hr,h.2⟩)
  (fun k a' _ W W' row hI hgr hr=>by
   obtain ⟨gi,bs1,es1,e1,q1,q2⟩:=hI
   exact ⟨gi,bs1,es1,e1,q1.turn hN hm hgr hr,q2⟩)
  ⟨zAW _,g2,H0,hS0,hra⟩ ?_ ?_ ?_ ?_
 ·cases back<;>simp [zeR,hpsz]
 ·exact zdD (zf9 (grownBy_putObj' W l ob') fun r e=>by cases e;exact ⟨ob,hlo,hnc⟩) hx
 ·
  rintro l k W K hk ⟨_,gi,⟨bsi,esi⟩,hS,hr⟩ hK;have hni:n0<=bsi.length:=hS.new.len;obtain ⟨xk,x1,x2,x3⟩:=zk9 (g:=gi) (back:=back) (n:=bsi.length) hag hlen (zAM htop hni) (fun j y hy=>⟨(hfl j y hy).1,((hfl j y hy).2.2).le hS.le (htf j y hy)⟩) hk;have hdrop:(kp back ys).drop k=xk::(kp back ys).drop (k+1):=by
   obtain ⟨hlt,hx⟩:=zAB.1 x1;rw [List.drop_eq_getElem_cons hlt,hx]
  rw [hdrop] at hr;simp only [zaO] at hr;split at hr<;>try (cases hr;done)
  rename_i e bs1 es1 lk1 ha1;split at hr<;>try (cases hr;done)
  rename_i hok;rw [fL_eq] at hr;rw [<- hasg] at ha1;simp only at ha1;have hE0:EnvOk gi bsi.length env0.length env0 a.tmps:=⟨hS.rel.len,rfl,fun t x u hx hu=>(hS.rel.env t x u hx hu).1,hS.rel.envTop,hc0⟩;have hE:=zhF ps.toList xk (zeR back ag sz ys.length fM k).toList env0 a.tmps hE0 x3 x2;have hpl:(ze0 env0 ps.toList xk).length=env0.length:=putPs_len _ _ _;rw [zmo]
  have hR:=hS.rel.enter (by rw [hpl];exact hE) (fun p hp=>by rw [hpl];exact hpt p hp)
  refine Go.wpIn_mono (zbn hmix (hcx1 _ _ _ hS) n as _ _ _ gi _ W hca ha1 hR) ?_;rintro e' a' W' ⟨g',q1,q2⟩;cases e'<;>first|(exact q2.elim)|skip
  obtain ⟨r1,r2⟩:=hS.round hN hc0 q1 (by simpa using hok)
  have hpos:0<ys.length:=by omega
  refine hK a' W' r2 (fun ad u hcu _=>hC _ _ _ r1 hpos ad u hcu) ⟨_,bs1,es1++esi,e.map clr,r1,?_,zBS.1 (by rw [<- q1.deflen];rfl),fun p hp=>?_,hr⟩
  ·have:=q1.envOk.le (g':=qx w.heap.size g' W') (n':=bs1.length) xF (zAO _);rw [zAU];exact this
  ·rw [zAU];exact (q1.pend p hp).1
 ·
  rintro l k ⟨tm,dfr⟩ W hk ⟨gi,bs1,es1,e1,hS,hE,hd,hpp,hr⟩;simp only at hd hE;subst hd;have hpos:0<ys.length:=by omega
  have hR:=hS.rel.enter hE hpp;split at hr<;>try (cases hr;done)
  ·rename_i e2 bs2 es2 lk2 hb;split at hr<;>try (cases hr;done)
   rename_i hok;rw [<- hbdf] at hb;simp only at hb;refine Go.wpIn_mono (zbn hmix (hcx1 _ _ _ hS) n bd _ _ _ gi _ W hcb hb hR) ?_;rintro e' a' W' ⟨g',q1,q2⟩;cases e'<;>first|(exact q2.elim)|skip
   obtain ⟨r1,r2⟩:=hS.round hN hc0 q1 (by simpa using hok)
   exact ⟨r2,fun ad u hcu _=>hC _ _ _ r1 hpos ad u hcu,by omega,_,_,r1,hr⟩
  ·rename_i e2 bs2 es2 lk2 hb;split at hr<;>try (cases hr;done)
   rename_i hok;rw [<- hbdf] at hb;simp only at hb;simp only [zAA,zAD] at hr;obtain ⟨rfl,rfl⟩:=hr;refine Go.wpIn_mono (zbn hmix (hcx1 _ _ _ hS) n bd _ _ _ gi _ W hcb hb hR) ?_;rintro e' a' W' ⟨g',q1,q2⟩;cases e'<;>first|(exact q2.elim)|skip
   obtain ⟨r1,r2⟩:=hS.round hN hc0 q1 (by simpa using hok)
   exact ⟨r2,_,r1,.inl ⟨rfl,rfl⟩⟩
  ·rename_i i e2 bs2 es2 lk2 hb;split at hr<;>try (cases hr;done)
   rename_i hok;rw [<- hbdf] at hb;simp only at hb;simp only [zAA,zAD] at hr;obtain ⟨rfl,rfl⟩:=hr;refine Go.wpIn_mono (zbn hmix (hcx1 _ _ _ hS) n bd _ _ _ gi _ W hcb hb hR) ?_;rintro e' a' W' ⟨g',q1,q2⟩;cases e'<;>first|(exact q2.elim)|skip
   rename_i j;have:i=j:=q2;subst this;obtain ⟨r1,r2⟩:=hS.round hN hc0 q1 (by simpa using hok)
   exact ⟨r2,_,r1,.inr ⟨i,rfl,rfl⟩⟩
 ·rintro D W hD ⟨_,gi,Hi,hS,hr⟩ hW;rw [List.drop_of_length_le (by rw [zhG];exact zAO _)] at hr
  simp only [zaO,zAA,zAD] at hr;obtain ⟨rfl,rfl⟩:=hr;obtain ⟨g,hrel⟩:=hfin gi W D hS hW hD;exact ⟨g,hrel,trivial⟩
 ·rintro D cd W hD ⟨gi,hS,hcd⟩ hW;obtain ⟨g,hrel⟩:=hfin gi W D hS hW hD;rcases hcd with ⟨rfl,rfl⟩|⟨i,rfl,rfl⟩
  ·exact wpIn_ret ⟨g,hrel,trivial⟩
  ·exact wpIn_exit ⟨g,hrel,rfl⟩
end Go.Vm
namespace Go.Vm
open Go Go.RowKit
variable {P:Program} {B:Base} {g:Gh} {w:World}
theorem zhI {b:Nat} {v:Value} {ty:TypeId} (h:w.heap[b]?=some (.cells #[v] ty (0,0))):w.cell? ⟨b,0,none⟩=some v:=by
 simp [World.cell?,h]
theorem zi3 (hmix:P.follows .mixedOrders=true) {cx:Cx} (hit:zon P cx.uq):zaj P cx B:=by
 intro hcx n f ps as bd s s' ex g a w hc h;obtain ⟨env,⟨bs,es⟩,lk,df⟩:=s;simp only [Cx.code] at hc;split at hc<;>try (cases hc;done)
 rename_i fv hp;split at hc<;>try (cases hc;done)
 rename_i b ty lv back hio;cases hx:(calm as && calm bd && Nat.beq ps.size (if back then 2 else 1)) with
 | false=>simp only [hx,zAm,if_true,reduceCtorEq] at hc
 | true =>
 simp only [hx,zAg,zAH,if_false] at hc;rw [fL_eq] at hc;obtain ⟨gf,e,sz,ag,rfl,hu,hs,ha,hsz,hty,huq,hlv⟩:=zov hio;rw [hcx.prog] at hu hs ha;obtain ⟨heg,hspec⟩:=hit gf back ty hty huq;simp only [zAC] at hx;obtain ⟨⟨hca,hcb⟩,hpz⟩:=hx;have hpsz:ps.size=if back then 2 else 1:=zAJ hpz
 have hcf:a.eval f=.func (.func gf) #[] #[.pointer (some ⟨g.blk b,0,none⟩)]:=by
  have hrf:=(zm h hp).1;generalize a.eval f=cf at hrf;cases hrf with
  | fn e1 e2 e3 e4 =>
   rename_i fa fc;have h1:fa=#[]:=Array.eq_empty_of_size_eq_zero e1.symm;obtain ⟨u,rfl⟩:∃ u,fc=#[u]:=by
    obtain ⟨l⟩:=fc
    match l,e2 with
    | [u],_=>exact ⟨u,rfl⟩
   have hp:=e4 0 _ u rfl rfl;cases hp;rw [h1]
 have hN:B.w.heap.size<=w.heap.size:=h.fr.size;have hm:∀ d∈a.defers,∀ D,d.target=.collected D->D<w.heap.size:=fun d hd D hD=>(zAX.1 (h.marks d hd D hD).2.1).1;have hcl:=h.clrAll;have hc0:∀ (t:Nat) (x:V),(env.map clr)[t]?=some x->clr x=x:=h.envOk.clr;have hpt:∀ p∈B.pend,(env.map clr).length<p.t:=fun p hp=>(hcl.pend p hp).1;rw [<- wpIn_wide (n:=3)];cases lv with
 | none =>
  simp only [zAA,zAD] at hc;obtain ⟨rfl,rfl⟩:=hc;have hbx:bs[b]?=some (.cells [.snil] ty):=by
   have:nth bs b=some (.cells [.snil] ty):=hlv
   rwa [zd] at this
  have hbl:b<bs.length:=(zAB.1 hbx).1;obtain ⟨v,hv,hr,_⟩:=hcl.box hbx;cases hr;have hS0:RS B (qx w.heap.size g w) bs.length w.heap.size (env.map clr) df a b false (.slice none 0 0) (qx w.heap.size g w) ⟨bs,es⟩ w :=
   ⟨hcl.reset hN,zaV,⟨zAO _,fun b' x h1 h2=>by have:=(zAB.1 h2).1;simp only at this;omega,fun b' hb'=>h.wok.lt b' hb'⟩,.refl _ _,fun e=>by cases e⟩
  refine zhH (n:=n) (ys:=[]) (aa:=none) (cap:=0) (c:=0) (o:=0) (sz:=sz) (ag:=ag) (back:=back) (fM:=fun _=>undef) hmix hcx hN hm hc0 hS0 hpt hbl (fun h=>by simp at h) rfl hca hcb hpsz hcf heg (fun x hx=>by cases hx) (fun x hx=>by cases hx) (zAW _) (fun j y hy=>by simp [zo] at hy) (fun j y hy=>by simp [zo] at hy) (fun C c1 c2=>?_) ?_ (fun gi W D hS hD hDN=>⟨gi,hS.marked hN hm hS.rel rfl hD hDN⟩)
  ·exact hspec e sz ag hu hs ha hsz w (g.blk b) none 0 0 0 0 (fun _=>undef) C (h.wok.lt b hbl) (fun h=>by simp at h) (zhI hv) (fun h=>by simp at h) (fun j hj=>by simp at hj) c1 (fun j hj=>by simp at hj) (by omega)
  ·cases back<;>rfl
 | some p =>
  obtain ⟨sz',ys⟩:=p;obtain ⟨hb0,rfl,hag,hyl⟩:=hlv;have hbx:bs[b]?=some (.cells [.sl sz' ys .no] ty):=by
   have:nth bs b=some (.cells [.sl sz' ys .no] ty):=hb0
   rwa [zd] at this
  have hbl:b<bs.length:=(zAB.1 hbx).1;simp only at hc;split at hc<;>try (cases hc;done)
  rename_i ex1 H1 hra;split at hc<;>try (cases hc;done)
  rename_i H2 hfr;simp only [zAA,zAD] at hc;obtain ⟨rfl,rfl⟩:=hc;have hnh:¬ zaA B b 0:=zmn hcl hbx;obtain ⟨g1,hle1,hown1,⟨v,hv,hlkv,hrv⟩,hrel1⟩:=hcl.lockBox hbx;have htops:tops ys<=bs.length:=by
   have:=h.wok.tops b _ hbx;simpa [Blk.top,tops,V.top] using this
  cases hrv with
  | sl fM k1 k2 k3 k4 k5 k6 =>
  rename_i aa cap c o;have hlkl:(lockBox b ty sz' ys bs).length=bs.length:=by simp [lockBox]
  have hS0:RS B (qx w.heap.size g1 w) bs.length w.heap.size (env.map clr) df a b true (.slice aa ys.length cap) (qx w.heap.size g1 w) ⟨lockBox b ty sz' ys bs,es⟩ w:=by
   refine ⟨hrel1.reset hN,zaV,⟨by simp only [hlkl];exact zAO _,fun b' x h1 h2=>?_,fun b' hb'=>?_⟩,.refl _ _,fun _=>⟨hlkv,?_⟩⟩
   ·have:=(zAB.1 h2).1;simp only [hlkl] at this;omega
   ·show g1.blk b'<_;rw [hle1.blk b' hb'];exact h.wok.lt b' hb'
   ·refine ⟨[.sl sz' ys .lock],ty,sz',ys,?_,rfl⟩;show (lockBox b ty sz' ys bs)[b]?=_;simp [lockBox,hbl]
  have hblk:(qx w.heap.size g1 w).blk b=g.blk b:=hle1.blk b hbl;have hfy:∀ (j:Nat) (y:V),(zo ys)[j]?=some y->y.top<=bs.length:=fun j y hy=>by
   obtain ⟨x,hx,hyx⟩:=List.mem_flatMap.1 (zAb hy);refine zAM ?_ (zAM (zg hx) htops);cases x<;>simp only [V.cells,zAp] at hyx<;>first|(subst hyx;exact zAO _)|exact zg hyx
  refine zhH (ys:=ys) (aa:=aa) (cap:=cap) (c:=c) (o:=o) (sz:=sz') (ag:=ag) (back:=back) (fM:=fM) hmix hcx hN hm hc0 hS0 hpt hbl (fun _=>rfl) rfl hca hcb hpsz (by rw [hblk];exact hcf) heg hag k1 htops (fun j y hy=>⟨k4 j y hy,hle1.M _ _ _ (k5 j y hy),(k6 j y hy).le (hle1.trans xF) (hfy j y hy)⟩) hfy (fun C c1 c2=>?_) hra (fun gi W D hS hD hDN=>?_)
  ·rw [hblk] at c1 ⊢;have hfl:=zE k1;refine hspec e sz' ag hu hs ha hsz w (g.blk b) aa ys.length cap c o fM C (h.wok.lt b hbl) (fun hpos=>?_) (zhI hv) (fun hpos=>k3 (zBd.1 hpos)) (fun j hj=>?_) c1 c2 hyl
   ·have h0:0<(zo ys).length:=by rw [hfl];exact Nat.mul_pos hpos hsz
    have hg0:(zo ys)[0]?=some (zo ys)[0]:=zAS h0;obtain ⟨ob,m1,_⟩:=cells_of_cell (h.wok.mem _ _ _ (k5 0 _ hg0));exact (zAX.1 m1).1
   ·have hg0:(zo ys)[j]?=some (zo ys)[j]:=zAS (by rw [hfl];exact hj)
    exact h.wok.mem _ _ _ (k5 j _ hg0)
  ·unfold freeBox at hfr;split at hfr<;>try (cases hfr;done)
   rename_i sz2 xs2 ty2 hnb;rw [zd] at hnb;simp only [zAA] at hfr;subst hfr;have hrel2:=hS.rel.freeBox hnb hnh;exact ⟨gi,hS.marked hN hm hrel2 (by simp) hD hDN⟩
end Go.Vm
namespace Go.Vm
open Go
variable {P:Program}
theorem xG {gl:Gl} (hmix:P.follows .mixedOrders=true) (hnum:vM P) (hprim:kz P) (hhk:HkOk P gl) (n:Nat):yJ P gl (zk P gl n) (2 * n) :=
 zht hnum hprim hhk (fun _ _=>⟨zos hmix,zi3 hmix hhk.it⟩) n
end Go.Vm
namespace Go.Vm
open Go Go.ChangeShapes Go.WideShapes Go.ChangeAt Go.RowKit
def yK (W:World):Gh :=
 {M:=fun c o=>W.cell? ⟨c,o,none⟩,blk:=fun _=>0,own:=fun _=>none,lk:=fun _ _=>undef,hdr:=fun _ _=>none,
  obj:=⟨fun k=>match W.cell? ⟨k,0,none⟩ with|some (.iface _ (.pointer (some a)))=>a|_=>⟨0,0,none⟩,fun c=>∃ cs t,W.heap[c]?=some (.cells cs t (0,0))⟩ }
theorem zmp (W:World):Wok (yK W) [] W :=
 {mem:=fun _ _ _ h=>h,lt:=fun b h=>by simp at h,inj:=fun b _ h=>by simp at h,apart:=fun b h=>by simp at h,ownlt:=(fun c l h=>by cases h),unowned:=fun b h=>by simp at h,
  ok:=fun b x h=>by simp at h,tops:=fun b x h=>by simp at h,laid:=fun c hc=>⟨hc,rfl,fun b hb=>by simp at hb⟩ }
def zhJ (U:TypeId) (ks:List Nat):Nat->Nat->Option V:=fun g o=>if Nat.beq o 0 && ks.any (Nat.beq g) then some (.ifc U (.obj g)) else none
structure Sents (U:TypeId) (W:World) (ks:List Nat):Prop where
 at_:∀ k∈ks,∃ a,W.cell? ⟨k,0,none⟩=some (.iface U (.pointer (some a)))/\∃ cs t,W.heap[a.block]?=some (.cells cs t (0,0))
 two:∀ k∈ks,∀ k'∈ks,∀ a,W.cell? ⟨k,0,none⟩=some (.iface U (.pointer (some a)))->W.cell? ⟨k',0,none⟩=some (.iface U (.pointer (some a)))->k=k'
theorem zce {U:TypeId} {ks:List Nat} {k off:Nat} {v:V} (hv:zhJ U ks k off=some v):k∈ks/\off=0/\v=.ifc U (.obj k):=by
 unfold zhJ at hv;split at hv<;>simp only [zAA,reduceCtorEq] at hv;rename_i hb;rw [zAC] at hb;obtain ⟨x,hx,hkx⟩:=List.any_eq_true.1 hb.2;have e2:=zAJ hkx;subst e2;exact ⟨hx,zAJ hb.1,hv.symm⟩
theorem zbo {U:TypeId} {W:World} {k:Nat} {a:Addr} (ha:W.cell? ⟨k,0,none⟩=some (.iface U (.pointer (some a)))):(yK W).obj k=a:=by simp only [yK,ha]
theorem zow {P:Program} {U:TypeId} {ks:List Nat} {W:World} (h:Sents U W ks):GlOk P (zhJ U ks) (yK W):=by
 refine ⟨?_,fun k u j hv=>?_⟩
 rotate_left
 ·obtain ⟨hk,_,e⟩:=zce hv;cases e;obtain ⟨a,ha,hc⟩:=h.at_ _ hk;refine ⟨by rw [zbo ha];exact hc,fun k' u' j' hv' e=>?_⟩
  obtain ⟨hk',_,e'⟩:=zce hv';cases e';obtain ⟨a',ha',_⟩:=h.at_ _ hk';rw [zbo ha,zbo ha'] at e;subst e;exact h.two _ hk _ hk' _ ha ha'
 intro k off v hv;obtain ⟨hk,rfl,rfl⟩:=zce hv;obtain ⟨a,ha,_⟩:=h.at_ _ hk;refine ⟨_,ha,.ifc ?_,rfl⟩;rw [<- zbo ha];exact .obj k
theorem zla {P:Program} {gl:Gl} (hmix:P.follows .mixedOrders=true) (hnum:vM P) (hprim:kz P) (hhk:HkOk P gl) {n:Nat} {f:FuncId} {args:List V} {cargs:Array Value} {W:World} {H':Hp}
  (hc:zk P gl n f args ⟨[],[]⟩=some (.ret (.bool true),H')) (hgl:GlOk P gl (yK W)) (ha:ArgsOk (yK W) 0 args cargs):Calls P f cargs W fun e W'=>e=.returned (.bool true)/\Below W.heap.size W W':=by
 refine Calls.mono (xG hmix hnum hprim hhk n f args ⟨[],[]⟩ _ _ hc (yK W) W cargs .ret hgl (zmp W) ha) fun e W' he=>?_;cases e with
 | returned cv =>
  obtain ⟨v,g',h1,h2,h3,_,_⟩:=he;cases h1;cases h3;exact ⟨rfl,h2.fr.os,h2.fr.tape,h2.fr.output,h2.fr.size,fun c hcc=>h2.fr.heap c ⟨hcc,fun b hb=>by simp at hb,.inl rfl⟩⟩
 | panicked chain =>
  obtain ⟨v,cv,g',h1,_⟩:=he;cases h1
 | outgrown=>exact he.elim
theorem zdI {H:Type} {enc:TypeId×Value->H} {P:Program} {W W':World} (hl:laidOutB P=true) (hb:Below W.heap.size W W'):∀ {ts:List TypeId} {vs:List Value} {ds:List (DataW H)} {ps:List MemPlace},
  (∀ t∈ts,P.readableRec t=true/\t<P.types.size)->DataW.TrodAll enc P W 0 (fun _=>true) true ts vs ds ps->(∀ x∈ps,x.block<W.heap.size)->DataW.TrodAll enc P W' 0 (fun b=>decide (b<W.heap.size)) true ts vs ds ps
 | [],vs,ds,ps,_,h,_=>by
  cases vs<;>cases ds<;>first|exact h|exact h.elim
 | t::ts,vs,ds,ps,ht,h,hlt=>by
  cases vs<;>cases ds<;>first|exact h.elim|skip
  obtain ⟨p,q,h1,h2,rfl⟩:=h
  exact ⟨p,q,Below.trod hl (ht t (zAL ..)).1 (ht t (zAL ..)).2 h1 hb fun x hx=>hlt x (zAx _ hx),
   zdI hl hb (fun u hu=>ht u (zAE _ hu)) h2 fun x hx=>hlt x (zA9 _ hx),rfl⟩
theorem zmq {H:Type} {enc:TypeId×Value->H} {P:Program} {f:Func} {s:ChangeSpec} {apart fresh handsOn:Bool} {W W':World} {args:Array Value} {ds gs:List (DataW H)} {before:List MemPlace} {tb:TypeId}
  (hvars:s.vars=[]) (hrt:f.resultTypes=#[tb]) (htb:P.underlying tb=some .bool) (hl:laidOutB P=true) (hread:∀ t∈f.params.toList,P.readableRec t=true/\t<P.types.size)
  (hfn:s.fn H (ds++[])={ results:=[.lit (.bool true)],args:=ds }) (hW:DataW.Whole enc P f.params.toList s.vars apart W args.toList ds gs before) (hb:Below W.heap.size W W') :
  s.post enc P f apart fresh handsOn false W args (.bool true) W':=by
 have hW':=hW;obtain ⟨p,q,hA,hV,rfl,_,_⟩:=hW;rw [hvars] at hV;obtain ⟨rfl,rfl⟩:gs=[]/\q=[]:=by
  cases gs with
  | nil=>exact ⟨rfl,hV⟩
  | cons g r=>exact absurd hV (by intro h;cases h)
 refine ⟨ds,[],_,[],p,[],hW',?_,?_,?_,hb.frame _,fun h=>by cases h⟩
 ·rw [hfn,hrt];exact trodAll_mk1 (shut_bool htb true)
 ·rw [hfn];exact zdI hl hb hread hA fun x hx=>hW'.lt x (by simpa using hx)
 ·rw [hfn,hvars];rfl
def zam (P:Program) (x:String×DataW Unit):Bool :=
 match P.globalNamed x.1,x.2 with
 | some g,.iface nm (.ptr _) =>
  (match (P.globals[g]?).map (·.type) with
  | some t=>match P.underlying t with
   | some (.interface _)=>true
   | _=>false
  | none=>false) && nm == "*errors.errorString"
 | _,_=>false
structure LaidOne (P:Program) (w:World) (ps:List MemPlace) (x:String×DataW Unit) (g t:Nat) (cs:Array Value) (fuel:Nat) (p:List MemPlace):Prop where
 named:P.globalNamed x.1=some g
 type:(P.globals[g]?).map (·.type)=some t
 var:w.var? P x.1=some cs
 trod:DataW.trod (fun _=>()) P w 0 (fun _=>true) false fuel t cs.toList=some (x.2,p)
 row:∀ y∈MemPlace.row ⟨g,0,none⟩ cs.size,y∈ps
 sub:∀ y∈p,y∈ps
theorem LaidOne.more {P:Program} {w:World} {ps ps':List MemPlace} {x:String×DataW Unit} {g t:Nat} {cs:Array Value} {fuel:Nat} {p:List MemPlace} (h:LaidOne P w ps x g t cs fuel p) (hs:∀ y∈ps,y∈ps'):LaidOne P w ps' x g t cs fuel p :=
 {h with row:=fun y hy=>hs y (h.row y hy),sub:=fun y hy=>hs y (h.sub y hy) }
theorem xH {P:Program} {w:World}:∀ {l:List (String×DataW Unit)} {ps:List MemPlace},DataW.LaidVars P w l ps->∀ x∈l,∃ g t cs fuel p,LaidOne P w ps x g t cs fuel p
 | [],_,_,x,hx=>by simp at hx
 | (n,d)::r,ps,h,x,hx=>by
  obtain ⟨g,t,cs,fuel,p,q,h1,h2,h3,h4,h5,h6⟩:=h;rcases zAK.1 hx with rfl|hx
  ·exact ⟨g,t,cs,fuel,p,h1,h2,h3,h4,fun y hy=>by rw [h6];exact zAx _ (zAx _ hy),fun y hy=>by rw [h6];exact zAx _ (zA9 _ hy)⟩
  ·obtain ⟨g',t',cs',f',p',a⟩:=xH h5 x hx;exact ⟨g',t',cs',f',p',a.more fun y hy=>by rw [h6];exact zA9 _ hy⟩
theorem zhK {P:Program} {w:World}:∀ {l:List (String×DataW Unit)} {ps:List MemPlace},DataW.LaidVars P w l ps->ps.Nodup->∀ x∈l,∀ x'∈l,∃ g t cs fuel p g' t' cs' fuel' p',LaidOne P w ps x g t cs fuel p/\LaidOne P w ps x' g' t' cs' fuel' p'/\(g=g'\/∀ y∈p,y ∉ p')
 | [],_,_,_,x,hx,_,_=>by simp at hx
 | (n,d)::r,ps,h,hn,x,hx,x',hx'=>by
  obtain ⟨g,t,cs,fuel,p,q,h1,h2,h3,h4,h5,h6⟩:=h;have hd:LaidOne P w ps (n,d) g t cs fuel p:=⟨h1,h2,h3,h4,fun y hy=>by rw [h6];exact zAx _ (zAx _ hy),fun y hy=>by rw [h6];exact zAx _ (zA9 _ hy)⟩
  have hq:∀ y∈q,y∈ps:=fun y hy=>by rw [h6];exact zA9 _ hy
  rw [h6] at hn;obtain ⟨_,hnq,hdis⟩:=List.nodup_append.1 hn;rcases zAK.1 hx with rfl|hx<;>rcases zAK.1 hx' with rfl|hx'
  ·exact ⟨g,t,cs,fuel,p,g,t,cs,fuel,p,hd,hd,.inl rfl⟩
  ·obtain ⟨g',t',cs',f',p',a⟩:=xH h5 x' hx';exact ⟨g,t,cs,fuel,p,g',t',cs',f',p',hd,a.more hq,.inr fun y hy hy'=>hdis y (zA9 _ hy) y (a.sub y hy') rfl⟩
  ·obtain ⟨g',t',cs',f',p',a⟩:=xH h5 x hx;exact ⟨g',t',cs',f',p',g,t,cs,fuel,p,a.more hq,hd,.inr fun y hy hy'=>hdis y (zA9 _ hy') y (a.sub y hy) rfl⟩
  ·obtain ⟨g1,t1,cs1,f1,p1,g2,t2,cs2,f2,p2,a1,a2,a3⟩:=zhK h5 hnq x hx x' hx';exact ⟨g1,t1,cs1,f1,p1,g2,t2,cs2,f2,p2,a1.more hq,a2.more hq,a3⟩
theorem zdJ {P:Program} {U:TypeId} {W:World} {ps:List MemPlace} (hok:∀ b off,MemPlace.cell b off∈ps->(∃ c t,W.heap[b]?=some (.cells c t (0,0)))/\∀ u v,W.cell? ⟨b,off,none⟩=some (.iface u v)->Value.okWide P W .any 0 u v)
  (hname:∀ u,P.typeName? 3 u=some "*errors.errorString"->u=U) {e:TypeId} (hU:P.underlying U=some (.pointer e)) (he:0<P.cellsOf e) {x:String×DataW Unit} {k t:Nat} {cs:Array Value} {fuel:Nat} {p:List MemPlace} (h:LaidOne P W ps x k t cs fuel p) (hB:zam P x=true) :
  ∃ a,W.cell? ⟨k,0,none⟩=some (.iface U (.pointer (some a)))/\MemPlace.cell a.block a.off∈p:=by
 obtain ⟨h1,h2,h3,h4,hrow,_⟩:=h;unfold zam at hB;rw [h1] at hB;split at hB<;>try (cases hB;done)
 rename_i g' nm d' hg' hd';cases hg';rw [h2] at hB;simp only [zAC] at hB;obtain ⟨hB1,hB3⟩:=hB;split at hB1<;>try (cases hB1;done)
 rename_i ms hti;have hnm:nm= "*errors.errorString":=by simpa using hB3
 subst hnm;rw [hd'] at h4;cases fuel with
 | zero=>simp [DataW.trod] at h4
 | succ fuel =>
  obtain ⟨l0⟩:=cs;simp only [DataW.trod,hti] at h4;have key:∃ u v,l0=[.iface u v]/\P.typeName? 3 u=some "*errors.errorString"/\∃ d2,DataW.trod (fun _=>()) P W 0 (fun _=>true) false fuel u v.cells.toList=some (.ptr d2,p):=by
   match l0,h4 with
   | [.iface u v],h4 =>
    simp only at h4;split at h4<;>try (cases h4;done)
    rename_i name hname;obtain ⟨x1,hx1,hx2⟩:=zAV.1 h4;simp only [zAD,DataW.iface.injEq] at hx2;refine ⟨u,v,rfl,by rw [hname,hx2.1.1],d',?_⟩
    rw [hx1,<- hx2.1.2,<- hx2.2]
   | [.nilIface],h4=>simp at h4
   | [],h4=>simp at h4
   | _::_::_,h4=>simp at h4
  obtain ⟨u,v,rfl,hn,d2,ht2⟩:=key;have hu:u=U:=hname u hn;subst hu;have hc0:W.cell? ⟨k,0,none⟩=some (.iface u v):=by
   have:=World.var?_cell h1 h3 0;simpa using this
  have hvo:=(hok k 0 (hrow _ (by simp [MemPlace.row]))).2 u v hc0
  have hva:∃ a,v=.pointer (some a):=by
   simp only [Value.okWide,hU,Cell.okWide] at hvo;cases fuel with
   | zero=>simp [DataW.trod] at ht2
   | succ fuel =>
    simp only [DataW.trod,hU] at ht2;cases v<;>simp [Cell.ok,hU] at hvo;rename_i oa;cases oa with
    | none=>simp [Value.cells] at ht2
    | some a=>exact ⟨a,rfl⟩
  obtain ⟨a,rfl⟩:=hva;refine ⟨a,hc0,?_⟩;cases fuel with
  | zero=>simp [DataW.trod] at ht2
  | succ fuel =>
   have ht3:DataW.trod (fun _=>()) P W 0 (fun _=>true) false (fuel+1) u [.pointer (some a)]=some (.ptr d2,p):=ht2;simp only [DataW.trod,hU] at ht3;obtain ⟨z,hz1,hz2⟩:=zAV.1 ht3;simp only [zAD] at hz2;rw [<- hz2.2];exact zAx _ (by simp only [MemPlace.row,zAo,zBi];exact ⟨0,he,rfl⟩)
theorem zgk {P:Program} {U:TypeId} {W:World} {l:List (String×DataW Unit)} (h:laidMet P l W) (hname:∀ u,P.typeName? 3 u=some "*errors.errorString"->u=U) {e:TypeId} (hU:P.underlying U=some (.pointer e)) (he:0<P.cellsOf e):Sents U W ((l.filter (zam P)).filterMap (fun x=>P.globalNamed x.1)):=by
 obtain ⟨ps,hv,hnd,hok⟩:=h;refine ⟨fun k hk=>?_,fun k hk k' hk' a ha ha'=>?_⟩
 ·obtain ⟨x,hx',hxk⟩:=List.mem_filterMap.1 hk;obtain ⟨hx,hB⟩:=List.mem_filter.1 hx';obtain ⟨g,t,cs,fuel,p,h1⟩:=xH hv x hx;have:=h1.named;rw [this] at hxk;cases hxk;obtain ⟨a,h2,h3⟩:=zdJ hok hname hU he h1 hB;exact ⟨a,h2,(hok _ _ (h1.sub _ h3)).1⟩
 ·obtain ⟨x,hx0,hxk⟩:=List.mem_filterMap.1 hk;obtain ⟨hx,hB⟩:=List.mem_filter.1 hx0;obtain ⟨x',hx0',hxk'⟩:=List.mem_filterMap.1 hk';obtain ⟨hx',hB'⟩:=List.mem_filter.1 hx0';obtain ⟨g,t,cs,fuel,p,g',t',cs',fuel',p',h1,h1',h2⟩:=zhK hv hnd x hx x' hx';have e1:=h1.named;rw [e1] at hxk;cases hxk;have e1':=h1'.named;rw [e1'] at hxk';cases hxk';rcases h2 with h2|h2
  ·exact h2
  ·obtain ⟨b,c1,c2⟩:=zdJ hok hname hU he h1 hB;obtain ⟨b',c1',c2'⟩:=zdJ hok hname hU he h1' hB';rw [ha] at c1;rw [ha'] at c1';cases c1;cases c1';exact absurd c2' (h2 _ c2)
end Go.Vm
namespace Go.Vm
open Go Go.ChangeShapes Go.WideShapes Go.ChangeAt Go.RowKit
def yL (P:Program) (t:TypeId):Bool :=
 match P.underlying t with
 | some (.struct _)|some (.array _ _)=>true
 | _=>false
def vt (P:Program) (e:TypeId) (cs:List V):V:=if yL P e then .agg cs else cs.headD .junk
def zfc (P:Program):Nat->List Field->Nat->Bool
 | off,[],n=>Nat.beq off n
 | off,f::fs,n=>Nat.beq f.offset off && zfc P (off+P.cellsOf f.type) fs n
def zc6 (P:Program) (S:List TypeId) (t:TypeId):Bool :=
 match P.underlying t with
 | some .bool|some (.int _)|some .string=>Nat.beq (P.cellsOf t) 1
 | some (.slice e)=>Nat.beq (P.cellsOf t) 1 && S.any (Nat.beq e) && Nat.blt 0 (P.cellsOf e)
 | some (.struct fs)=>zfc P 0 fs.toList (P.cellsOf t) && fs.toList.all fun f=>S.any (Nat.beq f.type)
 | some (.array n e)=>Nat.beq (n * P.cellsOf e) (P.cellsOf t) && S.any (Nat.beq e)
 | _=>false
def qD (P:Program):Nat->TypeId->List V->Prop
 | 0,_,_=>False
 | n+1,t,xs =>
  match P.underlying t with
  | some .bool=>∃ b,xs=[.bool b]
  | some (.int k)=>∃ z,xs=[.int k z]/\(Lit.int k z).wf=true
  | some .string=>∃ s,xs=[.str s]/\(∀ b∈s,b<256)/\s.length<=maxLen
  | some (.slice e)=>xs=[.snil]\/∃ ys,xs=[.sl (P.cellsOf e) ys .no]/\(ys.length<=maxLen/\ys.length * P.bytesOf e<=reachBytes)/\∀ y∈ys,∃ cs,qD P n e cs/\y=vt P e cs
  | some (.struct fs)=>xs.length=P.cellsOf t/\∀ f∈fs.toList,qD P n f.type ((xs.drop f.offset).take (P.cellsOf f.type))
  | some (.array m e)=>xs.length=P.cellsOf t/\∀ i,i<m->qD P n e ((xs.drop (i * P.cellsOf e)).take (P.cellsOf e))
  | _=>False
def zp9 (g:Gh) (x:V) (v:Value):Prop:=x.one=true/\RelV g x v/\x.top=0/\∀ sz ys e,x≠.sl sz ys (.yes e)
def RC (g:Gh):List V->List Value->Prop
 | [],[]=>True
 | x::xs,v::vs=>zp9 g x v/\RC g xs vs
 | _,_=>False
theorem RC.append {g:Gh}:∀ {xs ys:List V} {vs us:List Value},RC g xs vs->RC g ys us->RC g (xs++ys) (vs++us)
 | [],_,[],_,_,h=>h
 | _::_,_,_::_,_,h,k=>⟨h.1,RC.append h.2 k⟩
 | [],_,_::_,_,h,_=>h.elim
 | _::_,_,[],_,h,_=>h.elim
theorem RC.length {g:Gh}:∀ {xs:List V} {vs:List Value},RC g xs vs->xs.length=vs.length
 | [],[],_=>rfl
 | _::_,_::_,h=>by simp [RC.length h.2]
 | [],_::_,h=>h.elim
 | _::_,[],h=>h.elim
theorem RC.get {g:Gh}:∀ {xs:List V} {vs:List Value},RC g xs vs->∀ (j:Nat) (x:V),xs[j]?=some x->∃ v,vs[j]?=some v/\zp9 g x v
 | [],[],_,j,x,hx=>by simp at hx
 | y::ys,u::us,h,0,x,hx=>by
  simp only [zAt,zAA] at hx;subst hx;exact ⟨u,rfl,h.1⟩
 | y::ys,u::us,h,j+1,x,hx=>RC.get h.2 j x (by simpa using hx)
 | [],_::_,h,_,_,_=>h.elim
 | _::_,[],h,_,_,_=>h.elim
theorem zi4 {P:Program} {e:TypeId} {cs:List V} {vs:List Value} {g:Gh} (h:RC g cs vs) (hlen:yL P e=false->cs.length=1):(vt P e cs).cells=cs:=by
 unfold vt;split
 ·rfl
 ·rename_i ha;have:=hlen (by simpa using ha)
  match cs,this with
  | [x],_ =>
   obtain ⟨v,_,hx⟩:=RC.get h 0 x rfl;have h1:=hx.1;cases x<;>first|rfl|(simp [V.one,oneV] at h1)
theorem zgl {S:List TypeId} {e:TypeId} (h:S.any (Nat.beq e)=true):e∈S:=by
 obtain ⟨x,hx,hb⟩:=List.any_eq_true.1 h;rw [zAJ hb];exact hx
theorem zgm {α β:Type} {f:α->Option β}:∀ {l:List α} {r:List β},l.mapM f=some r->r.length=l.length/\∀ (i:Nat) (a:α),l[i]?=some a->∃ b,r[i]?=some b/\f a=some b
 | [],r,h=>by
  simp at h;subst h;exact ⟨rfl,fun i a ha=>by simp at ha⟩
 | x::l,r,h=>by
  simp only [List.mapM_cons,Option.bind_eq_bind,zAG,Option.pure_def,zAA] at h;obtain ⟨b,hb,r',hr',rfl⟩:=h;obtain ⟨h1,h2⟩:=zgm hr';refine ⟨by simp [h1],fun i a ha=>?_⟩
  cases i with
  | zero =>
   simp only [zAt,zAA] at ha;subst ha;exact ⟨b,rfl,hb⟩
  | succ i=>exact h2 i a (by simpa using ha)
theorem zdK {W:World} {base:Nat} {a:Addr} {n:Nat} {cs:List Value} (h:W.cells? base a n=some cs):cs.length=n/\∀ i,i<n->W.cell? (a.add i)=cs[i]?:=by
 unfold World.cells? at h;split at h<;>try (cases h;done)
 refine ⟨?_,fun i hi=>?_⟩
 ·have:=(zgm h).1;simpa using this
 ·obtain ⟨b,h1,h2⟩:=(zgm h).2 i i (by simp [hi])
  rw [h1,h2]
theorem zhL (a:Addr) (hs:a.spot=none) (n:Nat):a.add n=⟨a.block,a.off+n,none⟩:=by
 obtain ⟨b,o,s⟩:=a;subst hs;unfold Addr.add;split
 ·rename_i h;subst h;rfl
 ·rfl
theorem zmr (s:ByteArray):bytes (s.data.toList.map UInt8.toNat)=s:=by
 unfold bytes;have:(s.data.toList.map UInt8.toNat).map UInt8.ofNat=s.data.toList:=by
  rw [List.map_map];exact (List.map_congr_left fun b _=>by simp).trans (List.map_id _)
 rw [this]
theorem zdL {g:Gh} {W:World} {P:Program} {e:TypeId} {b o c:Nat} {f:Nat->List V} {v:Nat->List Value}:∀ (len:Nat),(∀ i,i<len->(vt P e (f i)).cells=f i/\RC g (f i) (v i)/\(f i).length=c/\∀ r,r<c->W.cell? ⟨b,o+(i * c+r),none⟩=(v i)[r]?) ->
  (zo ((List.range len).map fun i=>vt P e (f i))).length=len * c/\∀ j x,(zo ((List.range len).map fun i=>vt P e (f i)))[j]?=some x->∃ u,W.cell? ⟨b,o+j,none⟩=some u/\zp9 g x u
 | 0,_=>by simp [zo]
 | len+1,h=>by
  obtain ⟨h1,h2⟩:=zdL len fun i hi=>h i (by omega)
  obtain ⟨k1,k2,k3,k4⟩:=h len (by omega)
  have e:zo ((List.range (len+1)).map fun i=>vt P e (f i))=zo ((List.range len).map fun i=>vt P e (f i))++f len:=by
   simp only [List.range_succ,List.map_append,zAz,List.map_nil,zo,List.flatMap_append,zBK,List.flatMap_nil,zBB,k1]
  rw [e];refine ⟨by rw [zAi,h1,k3,Nat.succ_mul],fun j x hx=>?_⟩
  by_cases hj:j<len * c
  ·rw [zAR (by rw [h1];exact hj)] at hx
   exact h2 j x hx
  ·rw [zAP (by rw [h1];omega),h1] at hx
   obtain ⟨u,hu,hg⟩:=RC.get k2 _ x hx;have hr:j - len * c<c:=by
    have:=(zAB.1 hx).1;omega
   refine ⟨u,?_,hg⟩;rw [<- hu,<- k4 _ hr]
   congr 2
   omega
theorem tops_zero:∀ {xs:List V},(∀ x∈xs,x.top=0)->tops xs=0
 | [],_=>rfl
 | x::xs,h=>by simp [tops,h x (zAL ..),tops_zero fun y hy=>h y (zAE _ hy)]
theorem zqW {g:Gh} {P:Program} {n:Nat} {total:Nat}:∀ (fs:List Field) (off:Nat) (cs:List Value),zfc P off fs total=true->cs.length=total - off->off<=total ->
  (∀ f∈fs,∃ xs,qD P n f.type xs/\RC g xs ((cs.drop (f.offset - off)).take (P.cellsOf f.type))/\xs.length=P.cellsOf f.type) ->
  ∃ ys,RC g ys cs/\ys.length=total - off/\∀ f∈fs,off<=f.offset/\qD P n f.type ((ys.drop (f.offset - off)).take (P.cellsOf f.type))
 | [],off,cs,ht,hl,ho,_=>by
  have:=zAJ ht;have:cs=[]:=zBS.1 (by omega)
  subst this;exact ⟨[],trivial,by simp;omega,fun f hf=>by simp at hf⟩
 | f::fs,off,cs,ht,hl,ho,h=>by
  simp only [zfc,zAC] at ht;have hf0:=zAJ ht.1;obtain ⟨xs,x1,x2,x3⟩:=h f (zAL ..);rw [hf0,zBk,zBo] at x2;have hge:∀ (fs:List Field) (o:Nat),zfc P o fs total=true->o<=total/\∀ f∈fs,o<=f.offset:=by
   intro fs
   induction fs with
   | nil=>intro o ho;have:=zAJ ho;exact ⟨by omega,fun f hf=>by simp at hf⟩
   | cons k ks ih =>
    intro o ho;simp only [zfc,zAC] at ho;have h1:=zAJ ho.1;obtain ⟨i1,i2⟩:=ih _ ho.2;refine ⟨by omega,fun f hf=>?_⟩
    rcases zAK.1 hf with rfl|hf
    ·omega
    ·have:=i2 f hf;omega
  obtain ⟨g1,g2⟩:=hge fs _ ht.2
  obtain ⟨ys,y1,y2,y3⟩:=zqW (g:=g) (n:=n) fs (off+P.cellsOf f.type) (cs.drop (P.cellsOf f.type)) ht.2 (by simp;omega) g1 (fun k hk=>by
   obtain ⟨zs,z1,z2,z3⟩:=h k (zAE _ hk);refine ⟨zs,z1,?_,z3⟩;have:=g2 k hk;rw [List.drop_drop];rw [show P.cellsOf f.type+(k.offset - (off+P.cellsOf f.type))=k.offset - off by omega]
   exact z2)
  refine ⟨xs++ys,?_,by simp [x3,y2];omega,fun k hk=>?_⟩
  ·have:=RC.append x2 y1
   rwa [zA8] at this
  ·rcases zAK.1 hk with rfl|hk
   ·refine ⟨by omega,?_⟩
    rw [hf0,zBk,zBo,List.take_append_of_le_length (by omega),<- x3,zBc]
    exact x1
   ·obtain ⟨a1,a2⟩:=y3 k hk;refine ⟨by omega,?_⟩
    rw [show k.offset - off=xs.length+(k.offset - (off+P.cellsOf f.type)) by omega,List.drop_append]
    rw [List.drop_eq_nil_of_le (by omega),zA7]
    rw [show xs.length+(k.offset - (off+P.cellsOf f.type)) - xs.length=k.offset - (off+P.cellsOf f.type) by omega]
    exact a2
theorem zpN {g:Gh} {P:Program} {n c:Nat} {e:TypeId}:∀ (m:Nat) (cs:List Value),cs.length=m * c->(∀ i,i<m->∃ xs,qD P n e xs/\RC g xs ((cs.drop (i * c)).take c)/\xs.length=c) ->
  ∃ ys,RC g ys cs/\ys.length=m * c/\∀ i,i<m->qD P n e ((ys.drop (i * c)).take c)
 | 0,cs,hl,_=>by
  have:cs=[]:=zBS.1 (by simpa using hl)
  subst this;exact ⟨[],trivial,by simp,fun i hi=>by omega⟩
 | m+1,cs,hl,h=>by
  have hm:∀ i,i<m->i * c+c<=m * c:=fun i hi=>by
   have:=zBh c (show i+1<=m from hi)
   rwa [Nat.succ_mul] at this
  rw [Nat.succ_mul] at hl
  obtain ⟨ys,y1,y2,y3⟩:=zpN (g:=g) (P:=P) (n:=n) (c:=c) (e:=e) m (cs.take (m * c)) (by rw [zBA];omega) (fun i hi=>by
   obtain ⟨xs,x1,x2,x3⟩:=h i (by omega)
   refine ⟨xs,x1,?_,x3⟩;rw [List.drop_take,List.take_take,Nat.min_eq_left (by have:=hm i hi;omega)]
   exact x2)
  obtain ⟨xs,x1,x2,x3⟩:=h m (by omega)
  rw [zBN (by simp;omega)] at x2
  refine ⟨ys++xs,?_,by rw [zAi,y2,x3,Nat.succ_mul],fun i hi=>?_⟩
  ·have:=RC.append y1 x2
   rwa [zA8] at this
  ·by_cases he:i=m
   ·subst he;rw [<- y2,List.drop_left,<- x3,zBc];exact x1
   ·have hi':i<m:=by omega
    have:=hm i hi';rw [List.drop_append_of_le_length (by omega),List.take_append_of_le_length (by simp;omega)]
    exact y3 i hi'
theorem vu {H:Type} {P:Program} {e:TypeId} {d:DataW H}:∀ {l:List (DataW H)},d∈l->∀ w∈d.weights P e,w∈DataW.weightsAll P e l
 | x::l,h,w,hw=>by
  simp only [DataW.weightsAll,zA3];rcases zAK.1 h with rfl|h
  ·exact .inl hw
  ·exact .inr (vu h w hw)
theorem xi {H:Type} {P:Program} {t:TypeId} {d:DataW H}:∀ {i:Nat} {ts:List TypeId} {l:List (DataW H)},ts[i]?=some t->l[i]?=some d->∀ w∈d.weights P t,w∈DataW.weightsEach P ts l
 | 0,u::ts,x::l,h1,h2,w,hw=>by
  simp only [zAt,zAA] at h1 h2;subst h1 h2;simp only [DataW.weightsEach,zA3];exact .inl hw
 | i+1,u::ts,x::l,h1,h2,w,hw=>by
  simp only [DataW.weightsEach,zA3];exact .inr (xi (i:=i) (by simpa using h1) (by simpa using h2) w hw)
theorem zhM {H:Type} {enc:TypeId×Value->H} {P:Program} {W:World} {S:List TypeId} (hS:S.all (zc6 P S)=true):∀ (n:Nat) (t:TypeId) (cs:List Value) (x:DataW H×List MemPlace),t∈S->DataW.trod enc P W 0 (fun _=>true) true n t cs=some x->(∀ w∈x.1.weights P t,w<=reachBytes) ->
  ∃ xs,qD P n t xs/\RC (yK W) xs cs/\xs.length=P.cellsOf t
 | 0,_,_,_,_,h,_=>by simp [DataW.trod] at h
 | n+1,t,cs,x,ht,h,hwt=>by
  have ih:=zhM (enc:=enc) (W:=W) hS n;have hc:=zBH.1 hS t ht;unfold zc6 at hc;unfold qD;cases hu:P.underlying t with
  | none=>rw [hu] at hc;cases hc
  | some d =>
   rw [hu] at hc;cases d<;>simp only [zAH] at hc
   case bool =>
    have e1:=zAJ hc;simp only [DataW.trod,hu] at h
    match cs,h with
    | [.bool b],h=>exact ⟨[.bool b],⟨b,rfl⟩,⟨⟨rfl,.bool b,rfl,fun _ _ _ e=>by cases e⟩,trivial⟩,e1.symm⟩
   case int k =>
    have e1:=zAJ hc;simp only [DataW.trod,hu] at h
    match cs,h with
    | [.int k' z],h =>
     simp only at h;split at h<;>try (cases h;done)
     rename_i hk;obtain ⟨rfl,hw⟩:=hk;exact ⟨[.int k' z],⟨z,rfl,hw⟩,⟨⟨rfl,.int k' z,rfl,fun _ _ _ e=>by cases e⟩,trivial⟩,e1.symm⟩
   case string =>
    have e1:=zAJ hc;obtain ⟨s,rfl,_,hsz⟩:=DataW.trod_string hu h;have hb:∀ b∈s.data.toList.map UInt8.toNat,b<256:=fun b hb=>by
     obtain ⟨c,_,rfl⟩:=zAo.1 hb;exact c.toNat_lt
    refine ⟨[.str (s.data.toList.map UInt8.toNat)],⟨_,rfl,hb,by simpa using hsz⟩,⟨⟨rfl,?_,rfl,fun _ _ _ e=>by cases e⟩,trivial⟩,e1.symm⟩
    have:=RelV.str (g:=yK W) hb
    rwa [zmr] at this
   case slice e =>
    simp only [zAC] at hc;have e1:=zAJ hc.1.1;have he:=zgl hc.1.2;have hpos:0<P.cellsOf e:=by
     have:=hc.2;exact zAh (zBu 0) (zAf this)
    rcases DataW.trod_slice hu h with ⟨rfl,_⟩|⟨a,len,cap,elems,rest,m,hm,rfl,hxx,_,hlc,hcm,hel,hget,_,_⟩
    ·exact ⟨[.snil],.inl rfl,⟨⟨rfl,.snil,rfl,fun _ _ _ e=>by cases e⟩,trivial⟩,e1.symm⟩
    ·cases hm;have hwx:∀ w∈DataW.weights P t (.slice (elems.map (·.1)) (rest.map (·.1))),w<=reachBytes:=by rw [hxx] at hwt;exact hwt
     simp only [DataW.weights,hu] at hwx;have hbytes:len * P.bytesOf e<=reachBytes:=by
      refine zAM (zBh _ ?_) (hwx _ (zAL ..));simp [hel]
     have each:∀ i,∃ (f:List V) (v:List Value),i<len->qD P n e f/\RC (yK W) f v/\f.length=P.cellsOf e/\W.cells? 0 (a.add (i * P.cellsOf e)) (P.cellsOf e)=some v:=by
      intro i
      by_cases hi:i<len
      ·have h1:=hget i hi;have h2:∃ y,elems[i]?=some y:=⟨elems[i]'(by omega),by simp [hel,hi]⟩
       obtain ⟨y,hy⟩:=h2;rw [hy] at h1;obtain ⟨v,hv,ht2⟩:=zAG.1 h1;obtain ⟨xs,x1,x2,x3⟩:=ih e v y he ht2 fun w hw=>hwx w (zAE _ (zAx _ (vu (zBG (f:=(·.1)) (zAb hy)) w hw)));exact ⟨xs,v,fun _=>⟨x1,x2,x3,hv⟩⟩
      ·exact ⟨[],[],fun h=>absurd h hi⟩
     have hf:∃ f:Nat->List V,∃ v:Nat->List Value,∀ i,i<len->qD P n e (f i)/\RC (yK W) (f i) (v i)/\(f i).length=P.cellsOf e/\W.cells? 0 (a.add (i * P.cellsOf e)) (P.cellsOf e)=some (v i) :=
      ⟨fun i=>Classical.choose (each i),fun i=>Classical.choose (Classical.choose_spec (each i)),fun i=>Classical.choose_spec (Classical.choose_spec (each i))⟩
     obtain ⟨f,v,hfv⟩:=hf;have hone:yL P e=false->P.cellsOf e=1:=fun ha=>by
      have hce:=zBH.1 hS e he;unfold zc6 at hce;unfold yL at ha;split at hce<;>simp_all
     have hcell:∀ i,i<len->(vt P e (f i)).cells=f i:=fun i hi=>zi4 (hfv i hi).2.1 fun ha=>(hfv i hi).2.2.1.trans (hone ha);have hspot:0<len->a.spot=none:=fun hl=>by
      obtain ⟨_,_,_,hv⟩:=hfv 0 hl;obtain ⟨l1,l2⟩:=zdK hv;have h0:=l2 0 hpos;have h3:∃ u,(v 0)[0]?=some u:=⟨(v 0)[0]'(by omega),by simp [l1,hpos]⟩
      obtain ⟨u,hu0⟩:=h3;rw [hu0] at h0;have:(a.add (0 * P.cellsOf e)).add 0=a:=by simp [Addr.add]
      rw [this] at h0;unfold World.cell? at h0;split at h0<;>try (cases h0;done)
      split at h0<;>try (cases h0;done)
      rename_i hs;simpa using hs
     obtain ⟨hfl,hflat⟩:=zdL (g:=yK W) (W:=W) (P:=P) (e:=e) (b:=a.block) (o:=a.off) (c:=P.cellsOf e) (f:=f) (v:=v) len fun i hi=>by
      obtain ⟨a1,a2,a3,a4⟩:=hfv i hi;refine ⟨hcell i hi,a2,a3,fun r hr=>?_⟩;obtain ⟨l1,l2⟩:=zdK a4;rw [<- l2 r hr,zhL a (hspot (by omega)) (i * P.cellsOf e),zhL _ rfl r]
      simp [zBJ]
     refine ⟨[.sl (P.cellsOf e) ((List.range len).map fun i=>vt P e (f i)) .no],.inr ⟨_,rfl,⟨by simp;omega,by simpa using hbytes⟩,fun y hy=>?_⟩,⟨⟨rfl,?_,?_,fun _ _ _ e=>by cases e⟩,trivial⟩,e1.symm⟩
     ·obtain ⟨i,hi,rfl⟩:=zAo.1 hy;exact ⟨f i,(hfv i (zBi.1 hi)).1,rfl⟩
     ·have hl:((List.range len).map fun i=>vt P e (f i)).length=len:=by simp
      have:=RelV.sl (g:=yK W) (sz:=P.cellsOf e) (xs:=(List.range len).map fun i=>vt P e (f i)) (ow:=.no) (a:=some a) (cap:=cap) (c:=a.block) (o:=a.off) (fun j=>(W.cell? ⟨a.block,a.off+j,none⟩).getD undef)
       (fun x hx=>by
        obtain ⟨i,hi,rfl⟩:=zAo.1 hx;rw [hcell i (zBi.1 hi)]
        exact (hfv i (zBi.1 hi)).2.2.1)
       (by rw [hl];exact hlc)
       (fun hne=>by
        have:0<len:=by
         rcases zBx len with h0|h0
         ·subst h0;simp at hne
         ·exact h0
        have hs:=hspot this;obtain ⟨ab,ao,asp⟩:=a;simp only at hs;subst hs
        rfl)
       (fun j x hx=>(hflat j x hx).elim fun u hu=>hu.2.1)
       (fun j x hx=>by
        obtain ⟨u,hu1,hu2⟩:=hflat j x hx;show W.cell? _=_
        rw [hu1];rfl)
       (fun j x hx=>by
        obtain ⟨u,hu1,hu2⟩:=hflat j x hx;rw [hu1]
        exact hu2.2.1)
      rwa [hl] at this
     ·simp only [V.top];refine tops_zero fun x hx=>?_;obtain ⟨i,hi,rfl⟩:=zAo.1 hx;have hi':=zBi.1 hi;unfold vt;split
      ·simp only [V.top];refine tops_zero fun z hz=>?_;obtain ⟨j,hj⟩:=List.mem_iff_getElem?.1 hz;exact (RC.get (hfv i hi').2.1 j z hj).elim fun u hu=>hu.2.2.2.1
      ·rename_i ha;have hl1:=(hfv i hi').2.2.1.trans (hone (by simpa using ha))
       match hfi:f i,hl1 with
       | [z],_ =>
        have:=RC.get (hfv i hi').2.1 0 z (by rw [hfi];rfl)
        exact this.elim fun u hu=>hu.2.2.2.1
   case struct fs =>
    simp only [zAC] at hc;obtain ⟨xs,m,hm,hxx,hlen,_,hget⟩:=DataW.trod_struct hu h;cases hm
    obtain ⟨ys,y1,y2,y3⟩:=zqW (g:=yK W) (n:=n) (total:=P.cellsOf t) fs.toList 0 cs hc.1 (by simpa using hlen) (zAW _) (fun f hf=>by
     obtain ⟨i,hi⟩:=List.mem_iff_getElem?.1 hf;have h1:=hget i f (by simpa using hi)
     have hfS:=zgl (zBH.1 hc.2 f hf)
     have h2:∃ y,xs[i]?=some y:=⟨xs[i]'(by
      have:=(zAB.1 hi).1;simp at this
      omega),by simp⟩
     obtain ⟨y,hy⟩:=h2;rw [hy] at h1;have hwx:∀ w∈DataW.weights P t (.agg (xs.map (·.1))),w<=reachBytes:=by rw [hxx] at hwt;exact hwt
     simp only [DataW.weights,hu] at hwx
     simpa using ih f.type _ y hfS h1 fun w hw=>hwx w (xi (i:=i) (t:=f.type) (d:=y.1) (by simp at hi ⊢;simp [hi]) (by simp [hy]) w hw))
    refine ⟨ys,⟨by simpa using y2,fun f hf=>by simpa using (y3 f hf).2⟩,y1,by simpa using y2⟩
   case array m e =>
    simp only [zAC] at hc;have hmc:=zAJ hc.1;have he:=zgl hc.2;obtain ⟨xs,k,hk,hxx,hlen,hxl,hget⟩:=DataW.trod_array hu h;cases hk
    obtain ⟨ys,y1,y2,y3⟩:=zpN (g:=yK W) (n:=n) (P:=P) (e:=e) (c:=P.cellsOf e) m cs (by omega) (fun i hi=>by
     have h1:=hget i hi;have h2:∃ y,xs[i]?=some y:=⟨xs[i]'(by omega),by simp [hxl,hi]⟩
     obtain ⟨y,hy⟩:=h2;rw [hy] at h1;have hwx:∀ w∈DataW.weights P t (.agg (xs.map (·.1))),w<=reachBytes:=by rw [hxx] at hwt;exact hwt
     simp only [DataW.weights,hu] at hwx
     exact ih e _ y he h1 fun w hw=>hwx w (vu (zBG (f:=(·.1)) (zAb hy)) w hw))
    exact ⟨ys,⟨by omega,y3⟩,y1,by omega⟩
end Go.Vm
namespace Go.Vm
open Go
theorem zc1 {P:Program} {f:FuncId} {fn:Func} {e:Array Value->Sem Value} {args:Array Value} {w w':World} {v:Value} (hf:P.funcs[f]?=some fn) (hname:(fn.name == "runtime.NumGoroutine")=false) (hb:fn.body=none) (hn:Extern.findNext fn=none) (he:Extern.find fn=some e)
  (hr:(e args).run P w=.ok v w'):(callFunc f args).run P w=.ok (.value v) w':=by
 unfold callFunc;have hne:¬ fn.name= "runtime.NumGoroutine":=by simpa using hname
 simp [hf,hne,hb,hn,he,hr]
theorem idx_eq:∀ (s:List Nat) (c:Nat),(∀ b∈s,b<256)->c<256->Lib.indexByte (s.map UInt8.ofNat) c.toUInt8=(match s.findIdx? (fun (b:Nat)=>Nat.beq b c) with|some i=>(i:Int)|none=>-1)
 | [],c,_,_=>rfl
 | b::s,c,hs,hc=>by
  have ih:=idx_eq s c (fun x hx=>hs x (zAE _ hx)) hc;have hb:=hs b (zAL ..);simp only [zAz,Lib.indexByte,List.findIdx?_cons];have e:(UInt8.ofNat b == c.toUInt8)=Nat.beq b c:=by
   cases h:Nat.beq b c with
   | true =>
    have:=zAJ h;subst this;simp
   | false =>
    have:=Nat.ne_of_beq_eq_false h;rw [beq_eq_false_iff_ne];intro he;have:=congrArg UInt8.toNat he;simp at this;omega
  rw [e,ih];cases Nat.beq b c with
  | true=>rfl
  | false =>
   simp only [zAH,if_false];cases hfi:s.findIdx? (fun (b:Nat)=>Nat.beq b c) with
   | none=>simp
   | some i =>
    simp only [zAa];have:((i:Int) == -1)=false:=by rw [beq_eq_false_iff_ne];omega
    rw [this];simp
theorem zlb {P:Program} {k:FuncId} {fk:Func} (huniq:(List.range P.funcs.size).all (fun f=>match P.funcs[f]? with|some fn=>fn.name != "internal/bytealg.IndexByteString" || f == k|none=>true)=true)
  (hfk:P.funcs[k]?=some fk) (hname:(fk.name == "runtime.NumGoroutine")=false) (hn:Extern.findNext fk=none) (he:Extern.find fk=some Extern.BytealgIndexByte.indexByte):kz P:=by
 intro f fn args v hf hb hp g n cargs w ha;unfold zl1 at hp;split at hp<;>try (cases hp;done)
 rename_i nm l s c hnm;split at hp<;>try (cases hp;done)
 rename_i hc;simp only [zAA] at hp;have hlt:f<P.funcs.size:=(zAX.1 hf).1;have h1:=zBH.1 huniq f (zBi.2 hlt);rw [hf] at h1;have hfk':f=k:=by
  simp only [hnm,bne_self_eq_false,zBE] at h1;simpa using h1
 subst hfk';rw [hf] at hfk;cases hfk;obtain ⟨al,ar,_,_⟩:=ha
 match cargs,al,ar with
 | ⟨[c0,c1]⟩,_,ar =>
  have r0:=ar 0 _ c0 rfl rfl;have r1:=ar 1 _ c1 rfl rfl;cases r1;have hs:∀ b∈s,b<256:=by cases r0;assumption
  cases r0;refine ⟨_,zc1 hf hname hb hn he (Lib.run_indexByteString (bytes s) c w),?_,by rw [<- hp];rfl,fun _ _=>by rw [<- hp];trivial⟩
  have e1:(bytes s).data.toList=s.map UInt8.ofNat:=by simp [bytes]
  rw [e1,idx_eq s c.toNat hs (by omega),<- hp]
  exact .int _ _
 | ⟨[]⟩,al,_=>simp at al
 | ⟨[_]⟩,al,_=>simp at al
 | ⟨_::_::_::_⟩,al,_=>simp at al
def zrq (P:Program):Bool:=P.funcs.toList.all fun fn=>!(fn.name == "runtime.NumGoroutine")
theorem zms {P:Program} (h:zrq P=true):vM P:=fun f fn hf=>by
 have:=zBH.1 h fn (by
  have:=Array.mem_of_getElem? hf
  simpa using this)
 simpa using this
end Go.Vm
namespace Go.Vm
open Go Go.ChangeShapes Go.WideShapes Go.ChangeAt Go.RowKit
theorem zi5 {d n:Nat} {g:Gh} {w w':World} (hb:Below w.heap.size w w'):Same d none none n g w g w' :=
 ⟨.refl _ _,fun c hc _ _=>hb.block c hc,fun _ _ _=>rfl,fun _ _ _ _=>rfl,hb.size,fun _ _ _=>rfl,fun _ h=>(by cases h),fun _ h=>(by cases h),fun _ _ _ _=>rfl,hb.os,hb.tape,hb.output⟩
theorem zi6 {w w':World} (hb:Below w.heap.size w w') {c o:Nat} {v:Value} (h:w.cell? ⟨c,o,none⟩=some v):w'.cell? ⟨c,o,none⟩=some v:=by
 have hc:c<w.heap.size:=by
  rcases zAZ c w.heap.size with hc|hc
  ·exact hc
  ·have:w.heap[c]?=none:=Array.getElem?_eq_none hc;simp [World.cell?,this] at h
 have:=hb.block c hc;simp only [World.cell?,this] at h ⊢;exact h
theorem zcO {d:Nat} {H:Hp} {g:Gh} {w w':World} (hw:Wok g H.blks w) (hb:Below w.heap.size w w'):After d H g w H g w' where
 wok :=
  {mem:=fun c o v h=>zi6 hb (hw.mem c o v h)
   lt:=fun b h=>zAh (hw.lt b h) hb.size
   inj:=hw.inj
   apart:=hw.apart
   ownlt:=fun c l h=>zAh (hw.ownlt c l h) hb.size
   unowned:=hw.unowned
   ok:=fun b x hx=>by
    have hlt:b<H.blks.length:=(zAB.1 hx).1;exact BlkOk.same (d:=d) (zi5 hb) (by simp) hlt (hw.lt b hlt) (hw.unowned b hlt) (fun _ h=>by cases h) (fun c h1 h2=>by omega) (hw.tops b x hx) (hw.ok b x hx)
   tops:=hw.tops
   laid:=fun c hc=>by
    obtain ⟨⟨cs,t,h1⟩,h2⟩:=hw.laid c hc
    exact ⟨⟨cs,t,by rw [hb.block c (zAX.1 h1).1];exact h1⟩,h2⟩ }
 fr:=⟨.refl _ _,fun c hc=>hb.block c hc.1,fun _ _=>rfl,fun _ _ _=>rfl,hb.size,fun _ _ _=>rfl,hb.os,hb.tape,hb.output⟩
 len:=zAO _
 newer:=fun b h1 h2=>by omega
 edges:=fun b x hx=>.inr (.inr ⟨x,hx,zAO _⟩)
 keep:=fun _ h=>h
 lks:=fun _ _ h=>h
end Go.Vm
namespace Go.Vm
open Go
def Gh.bare (g:Gh):Gh:={ g with own:=fun _=>none }
def Gh.over (n:Nat) (g g':Gh):Gh :=
 {M:=fun c o=>if c<n then g.M c o else g'.M c o,blk:=g.blk,obj:=g.obj,own:=fun c=>if c<n then g.own c else g'.own c,lk:=g.lk,hdr:=g.hdr }
theorem zbp {w:World} {c o:Nat} {v:Value} (h:w.cell? ⟨c,o,none⟩=some v):c<w.heap.size:=by
 rcases zAZ c w.heap.size with hc|hc
 ·exact hc
 ·have:w.heap[c]?=none:=Array.getElem?_eq_none hc;simp [World.cell?,this] at h
variable {P:Program} {gl:Gl} {d:Nat} {H:Hp} {g g':Gh} {w w':World}
theorem zhN {bs:List Blk} (hw:Wok g bs w):Wok g.bare [] w :=
 {mem:=hw.mem,lt:=fun b h=>by simp at h,inj:=fun b _ h=>by simp at h,apart:=fun b h=>by simp at h,ownlt:=(fun c l h=>by cases h),unowned:=fun b h=>by simp at h,ok:=fun b x h=>by simp at h,tops:=fun b x h=>by simp at h,laid:=fun c hc=>⟨(hw.laid c hc).1,rfl,fun b hb=>by simp at hb⟩ }
theorem bare_le:Gh.Le 0 g g.bare:=⟨fun _ _ _ h=>h,fun b h=>by omega,rfl,fun _ _ _ h=>by omega⟩
theorem jh {dd:Nat} (hf:Fr dd [] g.bare w g' w') {c:Nat} (hc:c<w.heap.size):w'.heap[c]?=w.heap[c]?/\g'.own c=none/\∀ o,g'.M c o=g.M c o:=by
 have hp:Prot dd ([]:List Blk).length g.bare w c:=⟨hc,fun b hb=>by simp at hb,.inl rfl⟩
 exact ⟨hf.heap c hp,hf.own c hp,hf.M c hp⟩
theorem zmt {dd:Nat} (hf:Fr dd [] g.bare w g' w'):Gh.Le 0 g' (Gh.over w.heap.size g g'):=by
 refine ⟨fun c o v h=>?_,fun b h=>by omega,hf.le.obj.symm,fun _ _ _ h=>by omega⟩
 simp only [Gh.over];split
 ·rename_i hc;rw [<- (jh hf hc).2.2 o];exact h
 ·exact h
theorem zfd {n dd:Nat} {bs:List Blk} (hw:Wok g bs w) (hf:Fr dd [] g.bare w g' w'):Same d none none n g w (Gh.over w.heap.size g g') w':=by
 refine ⟨⟨fun c o v h=>?_,fun _ _=>rfl,rfl,fun _ _ _ _ h=>h⟩,fun c hc _ _=>(jh hf hc).1,fun c hc _=>by simp [Gh.over,hc],fun c hc _ o=>by simp [Gh.over,hc],hf.size,fun _ _ _=>rfl,fun _ h=>(by cases h),fun _ h=>(by cases h),fun _ _ _ _=>rfl,hf.os,hf.tape,hf.output⟩
 have:=zbp (hw.mem c o v h);simp [Gh.over,this,h]
theorem zi7 {dd:Nat} (hw:Wok g H.blks w) {bs':List Blk} (hw':Wok g' bs' w') (hf:Fr dd [] g.bare w g' w'):After d H g w H (Gh.over w.heap.size g g') w' where
 wok :=
  {mem:=fun c o v h=>by
    simp only [Gh.over] at h;split at h
    ·rename_i hc;have h0:=hw.mem c o v h;simp only [World.cell?,(jh hf hc).1] at h0 ⊢;exact h0
    ·exact hw'.mem c o v h
   lt:=fun b h=>zAh (hw.lt b h) hf.size
   inj:=hw.inj
   apart:=fun b h o=>by simp only [Gh.over,hw.lt b h,if_true];exact hw.apart b h o
   ownlt:=fun c l h=>by
    simp only [Gh.over] at h;split at h
    ·exact zAh (hw.ownlt c l h) hf.size
    ·exact hw'.ownlt c l h
   unowned:=fun b h=>by simp only [Gh.over,hw.lt b h,if_true];exact hw.unowned b h
   ok:=fun b x hx=>by
    have hlt:b<H.blks.length:=(zAB.1 hx).1;exact BlkOk.same (d:=d) (zfd hw hf) (by simp) hlt (hw.lt b hlt) (hw.unowned b hlt) (fun _ h=>by cases h) (fun c h1 h2=>by omega) (hw.tops b x hx) (hw.ok b x hx)
   tops:=hw.tops
   laid:=fun c hc=>by
    obtain ⟨⟨cs,t,h1⟩,h2,h3⟩:=hw.laid c hc;have hlt:=(zAX.1 h1).1
    exact ⟨⟨cs,t,by rw [(jh hf hlt).1];exact h1⟩,by simp only [Gh.over,hlt,if_true];exact h2,h3⟩ }
 fr:=⟨(zfd (d:=d) (n:=H.blks.length) hw hf).le,fun c hc=>(jh hf hc.1).1,fun c hc=>by simp [Gh.over,hc.1],fun c hc o=>by simp [Gh.over,hc.1],hf.size,fun _ _ _=>rfl,hf.os,hf.tape,hf.output⟩
 len:=zAO _
 newer:=fun b h1 h2=>by omega
 edges:=fun b x hx=>.inr (.inr ⟨x,hx,zAO _⟩)
 keep:=fun _ h=>h
 lks:=fun _ _ h=>h
theorem zmu {dd:Nat} (hw:Wok g H.blks w) (hf:Fr dd [] g.bare w g' w') {n:Nat} {l:Loc} {v:V} {cv:Value} (h:OwnV g' n w' l v cv):OwnV (Gh.over w.heap.size g g') H.blks.length w' l v cv:=by
 unfold OwnV at *;split
 ·rename_i sz xs e;have h':OwnAt g' n w' l e sz xs.length cv:=h;obtain ⟨vs,h1,h2⟩:=h';refine ⟨vs,h1,fun c hc=>?_⟩;have hge:¬ c<w.heap.size:=fun hlt=>by
   have:=(h2 c hc).1;rw [(jh hf hlt).2.1] at this;cases this
  refine ⟨by simp only [Gh.over,hge,if_false];exact (h2 c hc).1,(h2 c hc).2.1.eq fun o=>by simp only [Gh.over,hge,if_false],fun b hb e=>?_⟩
  have:=hw.lt b hb;rw [show (Gh.over w.heap.size g g').blk b=g.blk b from rfl] at e;omega
 ·trivial
theorem zc7 (hmix:P.follows .mixedOrders=true) (hnum:vM P) (hprim:kz P) (hhk:HkOk P gl) {n:Nat} {f:FuncId} {args:List V} {v:V} {H':Hp}
  (hc:zk P gl n f args ⟨[],[]⟩=some (.ret v,H')) (ht:tops args=0) (hv:v.top=0) {cargs:Array Value} {l:Loc} (h1:GlOk P gl g) (h2:Wok g H.blks w) (h3:ArgsOk g H.blks.length args cargs) :
  Calls P f cargs w (CallPost d H g w l (.ret v) H):=by
 refine Calls.mono (xG hmix hnum hprim hhk n f args ⟨[],[]⟩ _ _ hc g.bare w cargs l (h1.le bare_le) (zhN h2) ⟨h3.len,fun j x c hx hcv=>(h3.rel j x c hx hcv).le bare_le (zAM (zg (zl hx)) (by omega)),by simp [ht],h3.no⟩) fun e w' he=>?_
 cases e with
 | returned cv =>
  obtain ⟨v',g',e1,e2,e3,e4,_⟩:=he;cases e1;exact ⟨v,_,rfl,zi7 h2 e2.wok e2.fr,e3.le (zmt e2.fr) (by omega),zmu h2 e2.fr e4,by omega⟩
 | panicked chain =>
  obtain ⟨v',cv,g',e1,_⟩:=he;cases e1
 | outgrown=>exact he.elim
abbrev Hooks:=List (FuncId×List V×V)
def hkOf:Hooks->FuncId->List V->Option V
 | [],_,_=>none
 | (f,xs,v)::r,f',ys=>match Nat.beq f' f with
  | true=>match sames ys xs with
   | true=>some v
   | false=>hkOf r f' ys
  | false=>hkOf r f' ys
def wi (P:Program) (g0:Nat->Nat->Option V) (l:Hooks):Prop:=HkOk P { g:=g0,hk:=hkOf l }
theorem zcf {g0:Nat->Nat->Option V}:wi P g0 []:=⟨fun f args v h=>(by cases h),fun n f args H out H' h=>(by cases h),fun _ _ _ _ h=>(by cases h)⟩
theorem zan {a b:List V} (h:sames a b=true):a=b:=by
 have:V.same (.tup a) (.tup b)=true:=h;have:=V.same_eq this;cases this;rfl
structure Memo where
 n:Nat
 f:FuncId
 args:List V
 H:Hp
 out:Out
 H':Hp
def zqa (a b:Hp):Bool:=sameNN a.edges b.edges && sameBs a.blks b.blks
def hk2Of:List Memo->Nat->FuncId->List V->Hp->Option (Out×Hp)
 | [],_,_,_,_=>none
 | m::r,n,f,args,H=>match Nat.beq f m.f with
  | true=>match Nat.ble m.n (n+1) && (sames args m.args && zqa H m.H) with
   | true=>some (m.out,m.H')
   | false=>hk2Of r n f args H
  | false=>hk2Of r n f args H
def zjZ (P:Program) (g0:Nat->Nat->Option V) (l:Hooks) (ms:List Memo):Prop:=HkOk P { g:=g0,hk:=hkOf l,hk2:=hk2Of ms }
theorem zi8 (hmix:P.follows .mixedOrders=true) (hnum:vM P) (hprim:kz P) {g0:Nat->Nat->Option V} {l:Hooks} {ms:List Memo} (hl:zjZ P g0 l ms) {n:Nat} {f:FuncId} {args:List V} {v:V} {H':Hp}
  {uq:TypeId->Bool} (hc:zk P { g:=g0,hk:=hkOf l,uq:=uq,hk2:=hk2Of ms } n f args ⟨[],[]⟩=some (.ret v,H')) (ht:tops args=0) (hv:v.top=0) (hit:zon P uq:=by intro _ _ _ _ h;cases h):zjZ P g0 ((f,args,v)::l) ms:=by
 refine ⟨fun f' args' v' h d H g w cargs lc h1 h2 h3=>?_,hl.heap,hl.it⟩;simp only [hkOf] at h;cases hb:Nat.beq f' f with
 | false=>rw [hb] at h;exact hl.pure f' args' v' h d H g w cargs lc h1 h2 h3
 | true =>
  rw [hb] at h;cases hs:sames args' args with
  | false=>rw [hs] at h;exact hl.pure f' args' v' h d H g w cargs lc h1 h2 h3
  | true =>
   rw [hs] at h;cases h;have:=zAJ hb;subst this;have:=zan hs;subst this;exact zc7 (gl:={ g:=g0,hk:=hkOf l,uq:=uq,hk2:=hk2Of ms }) hmix hnum hprim ⟨hl.pure,hl.heap,hit⟩ hc ht hv h1 h2 h3
theorem After.mono {d d':Nat} (h:d<=d') {H H':Hp} {g g':Gh} {w w':World} (hA:After d H g w H' g' w'):After d' H g w H' g' w':={ hA with fr:=hA.fr.mono h }
theorem CallPost.mono {d d':Nat} (h:d<=d') {H H':Hp} {g:Gh} {w w':World} {l:Loc} {out:Out} {e:Ending} (hp:CallPost d H g w l out H' e w'):CallPost d' H g w l out H' e w':=by
 cases e with
 | returned cv =>
  obtain ⟨v,g',h1,h2,h3,h4,h5⟩:=hp;exact ⟨v,g',h1,h2.mono h,h3,h4,h5⟩
 | panicked chain =>
  obtain ⟨v,cv,g',h1,h2,h3,h4⟩:=hp;exact ⟨v,cv,g',h1,h2,h3.mono h,h4⟩
 | outgrown=>exact hp.elim
theorem vv (hmix:P.follows .mixedOrders=true) (hnum:vM P) (hprim:kz P) {g0:Nat->Nat->Option V} {l:Hooks} (hl:wi P g0 l) {n:Nat} {f:FuncId} {args:List V} {v:V} {H':Hp}
  {uq:TypeId->Bool} (hc:zk P { g:=g0,hk:=hkOf l,uq:=uq } n f args ⟨[],[]⟩=some (.ret v,H')) (ht:tops args=0) (hv:v.top=0) (hit:zon P uq:=by intro _ _ _ _ h;cases h):wi P g0 ((f,args,v)::l) :=
 zi8 (ms:=[]) hmix hnum hprim hl hc ht hv hit
end Go.Vm
