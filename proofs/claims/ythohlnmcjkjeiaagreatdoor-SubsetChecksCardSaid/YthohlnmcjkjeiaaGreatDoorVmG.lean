/- Vm: a region whose order is drawn, where what changes the heap is in order with all that looks at it: its run is the one in the order of the text; Vm: operations over lists that live in the heap, as equations; Vm: a region whose order is drawn, run in the order of the text; and what follows from it. Conditions: none but those that each theorem names. -/
import Derived.Test.YthohlnmcjkjeiaaGreatDoorVmF
namespace Go.Vm
open Go
structure SR where
 idx:Nat
 m:Nat
 tm:Nat
 lm:Nat
 hp:Bool
 lk:Bool
 al:Bool
 ld:Bool
 tk:Bool
def zat (o:Oper):Bool:=match o.op with|.alloc _=>true|_=>false
def wb (takes:List Tmp) (o:Oper):Bool :=
 match o.op with
 | .load ..=>match o.dst with
  | some d=>takes.any (Nat.beq d)
  | none=>false
 | _=>false
def zgS (takes:List Tmp) (o:Oper):Bool :=
 match o.op with
 | .load ..=>match o.dst with
  | some d=>!(takes.any (Nat.beq d))
  | none=>false
 | .call ⟨.builtin .len,⟨[_]⟩,⟨[_]⟩⟩=>true
 | _=>false
def maskSAt:List SR->Nat->Option Nat
 | [],_=>none
 | r::rs,j=>if Nat.beq r.idx j then some r.m else maskSAt rs j
def zih (rs:List SR):List Edge->Option Nat
 | []=>some 0
 | e::es=>match Region.binds .any e with
  | false=>zih rs es
  | true=>match maskSAt rs e.on with
   | none=>none
   | some m=>match zih rs es with
    | none=>none
    | some k=>some (Nat.lor k (Nat.lor m (Nat.pow 2 e.on)))
def znn (r q:SR):Bool :=
 match bit r.m q.idx with
 | true=>true
 | false=>Nat.beq (Nat.land q.tm r.lm) 0 && Nat.beq (Nat.land r.tm q.lm) 0
def zqw (r q:SR):Bool :=
 match bit r.m q.idx with
 | true=>true
 | false=>!(r.hp && q.hp) && (!(q.hp && r.lk) || (q.tk && r.ld)) && (!(r.hp && q.lk) || (r.al && q.ld))
def zii (P:Program) (uq:TypeId->Bool) (all:Array Oper) (takes:List Tmp):Nat->List SR->List Oper->Bool
 | _,_,[]=>true
 | i,rs,o::os=>match zih rs o.after.toList with
  | none=>false
  | some m =>
   let r:SR:=⟨i,m,tmM takes o,Nat.lor (tmM takes o) (lkM all o),z9 P uq takes o,jV P uq o,zat o,zgS takes o,wb takes o⟩
   (!r.tk || qu (fun q=>!q.tk) rs) && qu (znn r) rs && (qu (zqw r) rs && zii P uq all takes (i+1) (r::rs) os)
variable {cx:Cx} {all:Array Oper} {takes:List Tmp}
structure SRel (cx:Cx) (takes:List Tmp) (q:Rec) (t:SR):Prop where
 idx:q.idx=t.idx
 m:q.m=t.m
 tm:q.tm=t.tm
 lm:q.lm=t.lm
 hp:q.hp=true->t.hp=true
 lk:q.hp=false->q.free=false->t.lk=true
 ld:t.ld=zgS takes q.o
 tk:t.tk=wb takes q.o
inductive Prs (cx:Cx) (takes:List Tmp):List Rec->List SR->Prop where
 |nil:Prs cx takes [] []
 |cons {q:Rec} {t:SR} {rs:List Rec} {ts:List SR} (h:SRel cx takes q t) (r:Prs cx takes rs ts):Prs cx takes (q::rs) (t::ts)
theorem zlA {rs:List Rec} {ts:List SR} (h:Prs cx takes rs ts):∀ (es:List Edge),qP rs es=zih ts es:=by
 have hat:∀ j,maskAt rs j=maskSAt ts j:=by
  intro j
  induction h with
  | nil=>rfl
  | cons a _ ih=>simp only [maskAt,maskSAt,a.idx,a.m,ih]
 intro es
 induction es with
 | nil=>rfl
 | cons e es ih=>simp only [qP,zih,hat,ih];rfl
theorem zno {rs:List Rec} {ts:List SR} (h:Prs cx takes rs ts) {f:Rec->Bool} {g:SR->Bool} (hfg:∀ q t,SRel cx takes q t->g t=true->f q=true) (hg:qu g ts=true):qu f rs=true:=by
 induction h with
 | nil=>rfl
 | cons a _ ih =>
  simp only [qu] at hg ⊢;split at hg
  ·rename_i h1;rw [hfg _ _ a h1];exact ih hg
  ·cases hg
theorem kH {α:Type} {f:α->Bool}:∀ {l:List α},(∀ x∈l,f x=true)->qu f l=true
 | [],_=>rfl
 | y::l,h=>by simp only [qu,h y (zAL ..)];exact kH fun x hx=>h x (zAE _ hx)
theorem zcV {rs:List Rec} {ts:List SR} (h:Prs cx takes rs ts) {g:SR->Bool} (hg:qu g ts=true):∀ q∈rs,∃ t,SRel cx takes q t/\g t=true:=by
 induction h with
 | nil=>intro q hq;simp at hq
 | cons a _ ih =>
  simp only [qu] at hg;split at hg<;>try (cases hg;done)
  rename_i h1;intro q hq;rcases zAK.1 hq with rfl|hq
  ·exact ⟨_,a,h1⟩
  ·exact ih hg q hq
theorem yi {H:Hp} {b:Nat} {x y:Blk} (h:H.get b=some y):(H.push x).get b=some y:=by rw [get_push,h]
theorem zjk {P:Program} {gl:Nat->Nat->Option V} {H:Hp} {x:Blk} {t:TypeId} {p v:V} (h:zn P H gl t p=some v):zn P (H.push x) gl t p=some v:=by
 cases p<;>simp only [zn] at h ⊢<;>first|exact h|skip
 ·rename_i b off;cases hb:H.get b with
  | none=>simp [hb] at h
  | some y=>rw [yi hb];simpa [hb] using h
 ·rename_i b u k;cases hb:H.get b with
  | none=>simp [hb] at h
  | some y=>rw [yi hb];simpa [hb] using h
theorem zlB {P:Program} {H:Hp} {x:Blk} {t:TypeId} {p:V} {v:Int} (h:qH P H t p=some v):qH P (H.push x) t p=some v:=by
 unfold qH at h ⊢;split at h<;>try (simp only [*];done)
 ·rename_i hu;split at h<;>try (cases h;done)
  rename_i es hb;simp only [yi hb];exact h
theorem zlC {o:Oper} (hld:zgS takes o=true) {env:List V} {v:V} {D:Nat} {H:Hp} {x:Blk} {lk:List (Nat×Nat)} {df:List (V×List V)} (h:cx.valC takes o env v ⟨D,H,lk,df⟩=true):cx.valC takes o env v ⟨D,H.push x,lk,df⟩=true:=by
 obtain ⟨dst,op,type,pos,after,guard⟩:=o;unfold zgS at hld;split at hld<;>try (cases hld;done)
 ·rename_i t a hop;simp only at hop;subst hop;cases dst with
  | none=>simp at hld
  | some d =>
   have ht:takes.any (Nat.beq d)=false:=by simpa using hld
   simp only [Cx.valC,Cx.runC,zbq ht] at h ⊢;cases hp:peek env a with
   | none=>simp [hp,rdQ] at h
   | some p =>
    cases hl:zn cx.P H cx.gl t p with
    | none=>simp [hp,hl,rdQ] at h
    | some u=>simpa [hp,hl,zjk hl,rdQ] using h
 ·rename_i x0 t0 hop;simp only at hop;subst hop;have hh:∀ H',cx.op takes ⟨dst,.call ⟨.builtin .len,#[x0],#[t0]⟩,type,pos,after,guard⟩ env H' lk df=rdQ env H' lk df (((peek env x0).bind (qH cx.P H' t0)).map (.int .i64)):=fun H'=>zcj;simp only [Cx.valC,Cx.runC] at h ⊢;rw [show (⟨[x0]⟩:Array Operand)=#[x0] from rfl,show (⟨[t0]⟩:Array TypeId)=#[t0] from rfl] at *;rw [hh] at h ⊢
  cases hp:peek env x0 with
  | none=>simp [hp,rdQ] at h
  | some p =>
   cases hl:qH cx.P H t0 p with
   | none=>simp [hp,hl,rdQ] at h
   | some u=>simpa [hp,hl,zlB hl,rdQ] using h
end Go.Vm
namespace Go.Vm
open Go
variable {cx:Cx} {takes:List Tmp} {P:Program} {gl:Nat->Nat->Option V} {dst:Option Tmp} {type:TypeId} {pos:String} {after:Array Edge} {guard:Option (Nat×Bool)} {env:List V} {H:Hp} {lk:List (Nat×Nat)} {df:List (V×List V)}
def zqx (P:Program) (t:TypeId) (env:List V) (H:Hp) (lk:List (Nat×Nat)) (df:List (V×List V)) (y x:Option V):Option (OR×St):=do
 let .slice e <- P.underlying t|none
 let n <- zy P e
 let i <- P.info? e
 let z <- i.zero
 let ys <- jv P H e (<- y)
 if !Nat.beq z.cells.size n || Nat.beq n 0 then none else
 match <- x with
 | .snil=>match ys with
  | []=>some (.val .snil,⟨env,H,lk,df⟩)
  | _=>if qG ys.length i.bytes then some (.val (.ulr H.blks.length 0 ys.length),⟨env,H.push (.ul 0 n (flatV ys) e),lk,df⟩) else none
 | .ulr b u len=>match H.get b with
  | some (.ul ver sz cs e') =>
   if Nat.beq e e' && Nat.beq n sz && Nat.beq ver u && qG (len+ys.length) i.bytes then
    some (.val (.ulr b (ver+1) (len+ys.length)),⟨env,(H.set b (.ul (ver+1) sz (cs++flatV ys) e)).edge b (.tup ys),lk,df⟩)
   else none
  | _=>none
 | .sr b off len cap=>match H.get b with
  | some (.cells cs ty) =>
   if Nat.beq off 0 && Nat.beq n 1 && Nat.beq ty e && Nat.beq ((flatV ys).map clr).length ys.length && Nat.ble (len+ys.length) cap && Nat.ble (len+ys.length) cs.length && kQ lk b len ys.length (cs.drop len) then
    some (.val (.sr b 0 (len+ys.length) cap),⟨env,(H.set b (.cells (storeCells cs len ((flatV ys).map clr)) ty)).edge b (.tup ((flatV ys).map clr)),lk,df⟩)
   else none
  | _=>none
 | _=>none
theorem zo4 {t e n:Nat} {i:TypeInfo} {z:Value} (h1:P.underlying t=some (.slice e)) (h2:zy P e=some n) (h3:P.info? e=some i) (h4:i.zero=some z) (h5:z.cells.size=n) (h6:n≠0) {xs:List V} {o:Own} {x:Option V} :
  zqx P t env H lk df (some (.sl n xs o)) x=match x with
   | some .snil=>(match xs with
    | []=>some (.val .snil,⟨env,H,lk,df⟩)
    | _=>if qG xs.length i.bytes then some (.val (.ulr H.blks.length 0 xs.length),⟨env,H.push (.ul 0 n (flatV xs) e),lk,df⟩) else none)
   | some (.ulr b u len)=>(match H.get b with
    | some (.ul ver sz cs e')=>if (e=e'/\n=sz/\ver=u/\qG (len+xs.length) i.bytes=true) then
      some (.val (.ulr b (ver+1) (len+xs.length)),⟨env,(H.set b (.ul (ver+1) sz (cs++flatV xs) e)).edge b (.tup xs),lk,df⟩) else none
    | _=>none)
   | some (.sr b off len cap)=>(match H.get b with
    | some (.cells cs ty)=>if Nat.beq off 0 && Nat.beq n 1 && Nat.beq ty e && Nat.beq ((flatV xs).map clr).length xs.length && Nat.ble (len+xs.length) cap && Nat.ble (len+xs.length) cs.length && kQ lk b len xs.length (cs.drop len) then
      some (.val (.sr b 0 (len+xs.length) cap),⟨env,(H.set b (.cells (storeCells cs len ((flatV xs).map clr)) ty)).edge b (.tup ((flatV xs).map clr)),lk,df⟩) else none
    | _=>none)
   | _=>none:=by
 have h7:(!Nat.beq z.cells.size n || Nat.beq n 0)=false:=by
  rw [h5];cases n with
  | zero=>exact absurd rfl h6
  | succ n=>simp [Nat.beq]
 simp only [zqx,h1,h2,h3,h4,jv,Option.bind_eq_bind,zAT,h7,if_true,zAH,if_false];cases x with
 | none=>rfl
 | some v =>
  cases v<;>try rfl
  rename_i b u len;simp only [zAT];cases H.get b with
  | none=>rfl
  | some y =>
   cases y<;>try rfl
   rename_i ver sz cs e';simp only [zAC,Nat.beq_eq,and_assoc]
def qZ (P:Program) (t:TypeId) (H:Hp) (lk:List (Nat×Nat)) (df:List (V×List V)) (x:Option (V×List V)):Option V->Option (OR×St)
 | some (.ptr b off)=>match zy P t with
  | some n=>zci n H lk df (some (.ptr b off)) x
  | none=>none
 | some (.ulp b u k)=>match x,zy P t,H.get b with
  | some (x,env),some n,some (.ul ver sz cs e)=>if ver=u/\okC (clr x)=true/\(clr x).cells.length=n/\k+n<=cs.length then
    some (.skip,⟨env,(H.set b (.ul ver sz (storeCells cs k (clr x).cells) e)).edge b (clr x),lk,df⟩) else none
  | _,_,_=>none
 | _=>none
theorem zed {t:TypeId} {a x:Operand}:cx.op takes ⟨dst,.store t a x,type,pos,after,guard⟩ env H lk df=qZ cx.P t H lk df (take env x) (peek env a):=by
 cases ha:peek env a with
 | none=>simp [Cx.op,ha,qZ]
 | some p =>
  cases p<;>try (simp [Cx.op,ha,qZ];done)
  ·rename_i b off;cases hn:zy cx.P t with
   | none =>
    simp only [Cx.op,ha,hn,qZ];cases take env x<;>rfl
   | some n =>
    rw [zhR hn (fun _ _ _=>by rw [ha];simp)]
    simp only [qZ,hn,ha]
  ·rename_i b u k;simp only [Cx.op,ha,qZ,zI,fL_eq,zR];cases take env x with
   | none=>rfl
   | some q =>
    obtain ⟨x,env'⟩:=q;cases zy cx.P t with
    | none=>rfl
    | some n =>
     cases H.get b with
     | none=>rfl
     | some y =>
      cases y<;>try rfl
      simp only [zAC,Nat.beq_eq,Nat.ble_eq,and_assoc]
def x6 (P:Program) (t:TypeId) (env:List V) (H:Hp) (lk:List (Nat×Nat)) (df:List (V×List V)):Option V->Option (OR×St)
 | some (.ptr b off)=>match qC P t with
  | some false=>match H.get b with
   | some (.cells cs ty)=>match nth cs off with
    | some (.sl sz xs (.yes e))=>some (.val (.sl sz xs (.yes e)),⟨env,(H.set b (.cells (cs.set off (.sl sz xs .lock)) ty)).edge b .nilp,(b,off)::lk,df⟩)
    | some .snil=>some (.val .snil,⟨env,H,lk,df⟩)
    | some (.ulr c u n)=>some (.val (.ulr c u n),⟨env,H,lk,df⟩)
    | _=>none
   | _=>none
  | _=>none
 | _=>none
theorem zau {d:Tmp} {t:TypeId} {a:Operand} (h:takes.any (Nat.beq d)=true):cx.op takes ⟨some d,.load t a,type,pos,after,guard⟩ env H lk df=x6 cx.P t env H lk df (peek env a):=by
 simp only [Cx.op,h,fSet_eq,zR];unfold x6;cases ha:peek env a with
 | none=>cases qC cx.P t with
  | none=>rfl
  | some b=>cases b<;>rfl
 | some p =>
  cases p<;>cases qC cx.P t<;>(try rfl)<;>rename_i g<;>cases g<;>rfl
def zo5 (t:TypeId) (env:List V) (H:Hp) (lk:List (Nat×Nat)) (df:List (V×List V)):Option V->Option (OR×St)
 | some z=>if okC z=true then some (.val (.ptr H.blks.length 0),⟨env,H.push (.cells z.cells t),lk,df⟩) else none
 | none=>none
theorem zee {t:TypeId}:cx.op takes ⟨dst,.alloc t,type,pos,after,guard⟩ env H lk df=zo5 t env H lk df (zU cx.P t):=by
 simp only [Cx.op,zo5];cases zU cx.P t with
 | none=>rfl
 | some z=>cases hz:okC z<;>simp [zI,zB,hz]
theorem jI {t:TypeId} {z:V} (h:okC z=true):zo5 t env H lk df (some z)=some (.val (.ptr H.blks.length 0),⟨env,H.push (.cells z.cells t),lk,df⟩):=by simp [zo5,h]
theorem zq4 {d t:Nat} (h:d≠t):[t].any (Nat.beq d)=false:=by
 cases hb:Nat.beq d t with
 | false=>simp [hb]
 | true=>exact absurd (zAJ hb) h
theorem zij {t d:Tmp} {x:Operand} (h:d≠t):cx.op [t] ⟨some d,.move x,type,pos,after,guard⟩ env H lk df=rdQ env H lk df (peek env x):=zgn (zq4 h)
theorem zik {t d:Tmp} {ty:TypeId} {a:Operand} (h:d≠t):cx.op [t] ⟨some d,.load ty a,type,pos,after,guard⟩ env H lk df=rdQ env H lk df (((peek env a).bind (zn cx.P H cx.gl ty)).map clr):=zbq (zq4 h)
theorem zfv {d:Tmp} {t:TypeId} {a:Operand}:cx.op [d] ⟨some d,.load t a,type,pos,after,guard⟩ env H lk df=x6 cx.P t env H lk df (peek env a):=zau (by simp)
theorem zfw {d:Tmp} {x:Operand}:cx.op [d] ⟨some d,.move x,type,pos,after,guard⟩ env H lk df=tkQ H lk df (take env x):=zhQ (by simp)
def znp (P:Program) (t:TypeId):Option V->Option V
 | some v=>match P.underlying t with
  | some (.slice e)=>match zy P e,zU P e with
   | some n,some z=>if n≠0/\n<=16777216/\z.cells.length=n/\okC z=true/\okC v=true/\v.cells.length=n then some (.sl n [v] (.yes e)) else none
   | _,_=>none
  | _=>none
 | none=>none
theorem zkv {t:TypeId} {x:Operand}:cx.op takes ⟨dst,.buildSlice t 1 #[(0,x)],type,pos,after,guard⟩ env H lk df=rdQ env H lk df (znp cx.P t (peek env x)):=by
 simp only [Cx.op];refine jK ?_;simp only [zD,znp];cases h1:cx.P.underlying t with
 | none=>cases peek env x<;>rfl
 | some d =>
  cases d<;>(try (cases peek env x<;>rfl))
  rename_i e;cases h2:zy cx.P e with
  | none=>cases peek env x<;>simp [h2]
  | some n =>
   cases h3:zU cx.P e with
   | none=>cases peek env x<;>simp [h2,h3]
   | some z =>
    simp only [h2,h3,Option.bind_eq_bind,zAT];cases hx:peek env x with
    | none=>simp [za9,hx]
    | some v =>
     simp only [za9,hx,Option.bind_eq_bind,zAT,zI,fSet_eq,Nat.one_mul]
     by_cases c0:n=0
     ·subst c0;simp [Nat.beq]
     ·have c0':Nat.beq n 0=false:=by cases n with
       | zero=>exact absurd rfl c0
       | succ n=>rfl
      by_cases c1:n<=16777216
      ·have c1':Nat.blt 16777216 n=false:=by
        cases hb:Nat.blt 16777216 n with
        | false=>rfl
        | true=>have:=zAf hb;omega
       by_cases c2:z.cells.length=n
       ·cases c3:okC z with
        | false=>simp [c0',c1',c2]
        | true =>
         cases c4:okC v with
         | false=>simp [c0',c1',c2]
         | true =>
          by_cases c5:v.cells.length=n
          ·simp [c0',c2,c5,c0,c1,Nat.blt];omega
          ·simp [c0',c1',c2,c5]
       ·simp [c0',c1',c2]
      ·have c1':Nat.blt 16777216 n=true:=zBa (by omega)
       simp [c0',c1',c1]
theorem zo6 {P:Program} {t e n:Nat} {z v:V} (h1:P.underlying t=some (.slice e)) (h2:zy P e=some n) (h3:zU P e=some z) (h4:(n≠0/\n<=16777216/\z.cells.length=n/\okC z=true)) (h5:okC v=true) (h6:v.cells.length=n):znp P t (some v)=some (.sl n [v] (.yes e)):=by
 obtain ⟨a,b,c,d⟩:=h4;simp [znp,h1,h2,h3,a,b,c,d,h5,h6]
end Go.Vm
namespace Go.Vm
open Go
variable {cx:Cx} {all:Array Oper} {takes:List Tmp}
def zef (c:Cfg) (s:St):Prop :=
 (c.H=s.H/\c.lk=s.lk/\c.df=s.defers)\/∃ b off cs ty sz xs e,c.H.get b=some (.cells cs ty)/\nth cs off=some (.sl sz xs (.yes e))/\s.H=(c.H.set b (.cells (cs.set off (.sl sz xs .lock)) ty)).edge b .nilp/\s.lk=(b,off)::c.lk/\s.defers=c.df
theorem zo7 {o:Oper} (h:wb takes o=true) {env:List V} {H:Hp} {lk:List (Nat×Nat)} {df:List (V×List V)} {v:V} {D:Nat} {s1:St} (hop:cx.op takes o env H lk df=some (.val v,s1)):zef ⟨D,H,lk,df⟩ s1:=by
 obtain ⟨dst,op,type,pos,after,guard⟩:=o;unfold wb at h;split at h<;>try (cases h;done)
 rename_i t a hop';simp only at hop';subst hop';cases dst with
 | none=>cases h
 | some d =>
  simp only at h;rw [zau h] at hop;unfold x6 at hop;split at hop<;>try (cases hop;done)
  split at hop<;>try (cases hop;done)
  split at hop<;>try (cases hop;done)
  rename_i cs ty hb;split at hop<;>try (cases hop;done)
  ·rename_i sz xs e hn;cases hop;exact .inr ⟨_,_,cs,ty,sz,xs,e,hb,hn,rfl,rfl,rfl⟩
  ·cases hop;exact .inl ⟨rfl,rfl,rfl⟩
  ·cases hop;exact .inl ⟨rfl,rfl,rfl⟩
theorem zlD {P:Program} {c:Cfg} {s:St} (h:zef c s) {t:TypeId} {p:V} {v:Int} (hl:qH P s.H t p=some v):qH P c.H t p=some v:=by
 rcases h with ⟨h,_⟩|⟨b,off,cs,ty,sz,xs,e,hb,hn,hs,_⟩
 ·rw [h];exact hl
 ·unfold qH at hl ⊢;split at hl<;>try (simp only [*];done)
  rename_i m hu;split at hl<;>try (cases hl;done)
  rename_i es hm;rw [hs,zbP,zdm] at hm;split at hm<;>try (cases hm;done)
  rename_i y hy;split at hm
  ·cases hm
  ·cases hm;simp only [hy];exact hl
theorem zjl {P:Program} {gl:Nat->Nat->Option V} {c:Cfg} {s:St} (h:zef c s) {t:TypeId} {p u:V} (hk:qC P t=some false\/∀ b off,p=.ptr b off->s.lk.all (fun q=>!(Nat.beq q.1 b))=true) (hl:zn P s.H gl t p=some u):∃ u',zn P c.H gl t p=some u'/\clr u'=clr u:=by
 rcases h with ⟨h,_⟩|⟨b,off,cs,ty,sz,xs,e,hb,hn,hs,hlk,_⟩
 ·rw [h];exact ⟨u,hl,rfl⟩
 ·cases p<;>(try (exact ⟨u,hl,rfl⟩))
  ·rename_i b' off';simp only [zn,hs,zbP,zdm] at hl ⊢
   by_cases hbb:b'=b
   ·subst hbb;rcases hk with hk|hk
    ·simp only [hb,if_true,Option.bind_eq_bind,zAT,qq,hk] at hl ⊢;rw [zd,List.getElem?_set'] at hl
     by_cases ho:off=off'
     ·subst ho;rw [zd] at hn;simp only [if_true,hn,zAa,Function.const,Option.map_eq_map] at hl;cases hl;exact ⟨.sl sz xs (.yes e),by simp [zd,hn],rfl⟩
     ·rw [if_neg ho] at hl;exact ⟨u,by rw [zd];exact hl,rfl⟩
    ·have:=hk b' off' rfl;rw [hlk] at this;simp at this
   ·cases hg:c.H.get b' with
    | none=>simp [hg] at hl
    | some y=>simp only [hg,if_neg hbb] at hl;exact ⟨u,by simpa [hg] using hl,rfl⟩
  ·rename_i b' u' k;simp only [zn,hs,zbP,zdm] at hl ⊢
   by_cases hbb:b'=b
   ·subst hbb;simp [hb] at hl
   ·cases hg:c.H.get b' with
    | none=>simp [hg] at hl
    | some y=>simp only [hg,if_neg hbb] at hl;exact ⟨u,by simpa [hg] using hl,rfl⟩
theorem zlE {o:Oper} (hld:zgS takes o=true) {env:List V} {v:V} {c:Cfg} {s s1:St} (hL:zef c s) (hk:ldChk cx o env s.lk=true) (hop:cx.op takes o env s.H s.lk s.defers=some (.val v,s1)):cx.valC takes o env v c=true:=by
 obtain ⟨dst,op,type,pos,after,guard⟩:=o;unfold zgS at hld;split at hld<;>try (cases hld;done)
 ·rename_i t a hop';simp only at hop';subst hop';cases dst with
  | none=>simp at hld
  | some d =>
   have ht:takes.any (Nat.beq d)=false:=by simpa using hld
   simp only [Cx.valC,Cx.runC,zbq ht] at hop ⊢;cases hp:peek env a with
   | none=>simp [hp,rdQ] at hop
   | some p =>
    cases hl:zn cx.P s.H cx.gl t p with
    | none=>simp [hp,hl,rdQ] at hop
    | some u =>
     obtain ⟨u',h1,h2⟩:=zjl hL (by
      simp only [ldChk] at hk;split at hk
      ·rename_i h;exact .inl h
      ·refine .inr fun b off e=>?_;rw [hp,e] at hk
       exact hk) hl
     simp only [hp,hl,rdQ,zAT,zAa,zAA,zAD,OR.val.injEq] at hop;simp only [zAT,h1,zAa,rdQ,h2,hop.1,V.same_refl]
 ·rename_i x0 t0 hop';simp only at hop';subst hop';have hh:∀ H' lk' df',cx.op takes ⟨dst,.call ⟨.builtin .len,#[x0],#[t0]⟩,type,pos,after,guard⟩ env H' lk' df'=rdQ env H' lk' df' (((peek env x0).bind (qH cx.P H' t0)).map (.int .i64)):=fun H' lk' df'=>zcj;rw [show (⟨[x0]⟩:Array Operand)=#[x0] from rfl,show (⟨[t0]⟩:Array TypeId)=#[t0] from rfl,hh] at hop;simp only [Cx.valC,Cx.runC]
  rw [show (⟨[x0]⟩:Array Operand)=#[x0] from rfl,show (⟨[t0]⟩:Array TypeId)=#[t0] from rfl,hh];cases hp:peek env x0 with
  | none=>simp [hp,rdQ] at hop
  | some p =>
   cases hl:qH cx.P s.H t0 p with
   | none=>simp [hp,hl,rdQ] at hop
   | some u =>
    simp only [hp,hl,rdQ,zAT,zAa,zAA,zAD,OR.val.injEq] at hop;simp only [zAT,zlD hL hl,zAa,rdQ,hop.1,V.same_refl]
structure SqI (cx:Cx) (takes:List Tmp) (i:Nat) (rs:List Rec) (ts:List SR) (c0:Cfg) (rest:List Cfg) (s:St):Prop where
 pr:Prs cx takes rs ts
 lt:∀ q∈rs,q.idx<i
 cD:∀ b,bit c0.D b=true ↔ ∃ q∈rs,q.hp=true/\q.idx=b
 c0:c0.H=s.H/\c0.lk=s.lk/\c0.df=s.defers
 rD:∀ c∈rest,∀ b,bit c.D b=true->∃ q∈rs,q.idx=b
 rest:∀ c∈rest,(∃ q∈rs,q.hp=true/\wb takes q.o=false/\bit c.D q.idx=false)\/((∃ q∈rs,q.hp=true/\wb takes q.o=true/\bit c.D q.idx=false)/\zef c s)
 vals:∀ q∈rs,q.hp=false->q.free=false->(∃ c∈rs,c.hp=true/\bit c.m q.idx=true)\/(∀ D,cx.valC takes q.o q.env q.v ⟨D,s.H,s.lk,s.defers⟩=true)
theorem zo8 {rs:List Rec} {c0 c1:Cfg} {rest:List Cfg} {r:Rec} {k:List Cfg->Option (Ex×St)}
  (hsub:r.hp=true->∀ c∈rest,qO (Nat.land r.m (chgM rs)) c.D=false)
  (hval:r.hp=false->r.free=false->∀ c∈rest,qO (Nat.land r.m (chgM rs)) c.D=false\/cx.valC takes r.o r.env r.v c=true)
  (hc1:∀ b,(∃ q∈rs,q.hp=true/\q.idx=b)->bit c1.D b=true)
  (hlook:r.hp=true->∀ q∈rs,q.hp=false->q.free=false->bit r.m q.idx=true\/(∃ c∈rs,c.hp=true/\bit c.m q.idx=true)\/cx.valC takes q.o q.env q.v c1=true) :
  cx.cfgsK takes rs r c0 c1 rest k=k (bif r.hp then c1::c0::rest else c0::rest):=by
 unfold Cx.cfgsK;cases hh:r.hp with
 | false =>
  have:(r.free || qu (fun c=>match qO (Nat.land r.m (chgM rs)) c.D with|true=>cx.valC takes r.o r.env r.v c|false=>true) rest)=true:=by
   cases hf:r.free with
   | true=>rfl
   | false =>
    simp only [zBE];exact kH fun c hc=>by
     rcases hval hh hf c hc with h|h
     ·simp only [h]
     ·split
      ·exact h
      ·rfl
  show (match r.free || qu (fun c=>match qO (Nat.land r.m (chgM rs)) c.D with|true=>cx.valC takes r.o r.env r.v c|false=>true) rest with|true=>k (c0::rest)|false=>none)=k (c0::rest)
  rw [this]
 | true =>
  simp only [cond_true];have hrun:∀ l:List Cfg,(∀ c∈l,qO (Nat.land r.m (chgM rs)) c.D=false)->cx.runAll takes r.o r.env r.v (Nat.land r.m (chgM rs)) (Nat.pow 2 r.idx) l=some []:=by
   intro l
   induction l with
   | nil=>intro _;rfl
   | cons c l ih=>intro h;simp only [Cx.runAll,h c (zAL ..)];exact ih fun c hc=>h c (zAE _ hc)
  rw [hrun rest (hsub hh)];have hnew:cx.newOk takes rs (chgM rs) r (c1::c0::rest) c1=true:=by
   unfold Cx.newOk;refine kH fun q hq=>?_;split
   ·rfl
   ·cases hqh:q.hp with
    | true =>
     simp only;rw [hc1 q.idx ⟨q,hq,hqh,rfl⟩]
    | false =>
     simp only;cases hqf:q.free with
     | true=>rfl
     | false =>
      rcases hlook hh q hq hqh hqf with h|⟨c,hc,h1,h2⟩|h
      ·simp [h]
      ·have:z4 c1.D q rs=true:=by
        have hx:∀ l:List Rec,c∈l->z4 c1.D q l=true:=by
         intro l
         induction l with
         | nil=>intro h;simp at h
         | cons d l ih =>
          intro h;simp only [z4,zAe,zAC];rcases zAK.1 h with rfl|h
          ·exact .inl ⟨⟨h1,hc1 _ ⟨c,hc,h1,rfl⟩⟩,h2⟩
          ·exact .inr (ih h)
        exact hx rs hc
       simp [this]
      ·simp [h]
  have hnew':cx.newOk takes rs (chgM rs) r ([c1]++c0::rest) c1=true:=hnew;simp only [qu,hnew'];rfl
theorem znq {o:Oper} (h:zat o=true) {env:List V} {H:Hp} {lk:List (Nat×Nat)} {df:List (V×List V)} {v:V} {s1:St} (hop:cx.op takes o env H lk df=some (.val v,s1)):∃ x,s1=⟨env,H.push x,lk,df⟩:=by
 obtain ⟨dst,op,type,pos,after,guard⟩:=o;unfold zat at h;split at h<;>try (cases h;done)
 rename_i t hop';simp only at hop';subst hop';simp only [Cx.op] at hop;split at hop<;>try (cases hop;done)
 split at hop<;>try (cases hop;done)
 simp only [zI,zB,zAA,zAD] at hop;exact ⟨_,hop.2.symm⟩
theorem zeg {s':St}:∀ (os:List Oper) (i:Nat) (rs:List Rec) (ts:List SR) (c0:Cfg) (rest:List Cfg) (s:St),SqI cx takes i rs ts c0 rest s->zii cx.P cx.uq all takes i ts os=true->cx.opsN all takes os s=some s'->cx.opsD all takes i rs (c0::rest) os s=some (.normal,s')
 | [],i,rs,ts,c0,rest,s,_,_,hc=>by
  simp only [Cx.opsN,zAA] at hc;simp only [Cx.opsD,hc]
 | o::os,i,rs,ts,c0,rest,⟨env,H,lk,df⟩,hI,hst,hc=>by
  simp only [zii] at hst;split at hst<;>try (cases hst;done)
  rename_i m hm;simp only [zAC] at hst;obtain ⟨⟨htk,hsl⟩,hord,hst⟩:=hst;have hslots:∀ (hp free:Bool) (v:V),qu (qm ⟨i,o,m,tmM takes o,Nat.lor (tmM takes o) (lkM all o),hp,free,env,v⟩) rs=true:=fun hp free v =>
   zno hI.pr (fun q t hqt hg=>by simp only [znn] at hg;simp only [qm,hqt.idx,hqt.tm,hqt.lm];exact hg) hsl
  have key:∀ (hp free:Bool) (v:V) (H1:Hp) (lk1:List (Nat×Nat)) (df1:List (V×List V)) (env1:List V),
    (hp=true->z9 cx.P cx.uq takes o=true)->(hp=false->free=false->jV cx.P cx.uq o=true) ->
    (hp=false->H1=H/\lk1=lk/\df1=df)->(hp=false->free=false->∀ D,cx.valC takes o env v ⟨D,H,lk,df⟩=true) ->
    (hp=true->zat o=true->∃ x,H1=H.push x/\lk1=lk/\df1=df) ->
    (hp=true->wb takes o=true->∀ D,zef ⟨D,H,lk,df⟩ ⟨env1,H1,lk1,df1⟩) ->
    (hp=false->free=false->zgS takes o=true->∀ c,zef c ⟨env,H,lk,df⟩->cx.valC takes o env v c=true) ->
    cx.opsN all takes os ⟨env1,H1,lk1,df1⟩=some s' ->
    (match qu (qm ⟨i,o,m,tmM takes o,Nat.lor (tmM takes o) (lkM all o),hp,free,env,v⟩) rs,c0::rest with
     | true,c0::cs=>cx.cfgsK takes rs ⟨i,o,m,tmM takes o,Nat.lor (tmM takes o) (lkM all o),hp,free,env,v⟩ c0 ⟨Nat.lor c0.D (Nat.pow 2 i),H1,lk1,df1⟩ cs fun cs =>
      cx.opsD all takes (i+1) (⟨i,o,m,tmM takes o,Nat.lor (tmM takes o) (lkM all o),hp,free,env,v⟩::rs) cs os ⟨env1,H1,lk1,df1⟩
     | _,_=>none)=some (.normal,s'):=by
   intro hp free v H1 lk1 df1 env1 h1 h2 h3 h4 h5 h5a h5b h6;rw [hslots];simp only;have hlt:∀ q∈rs,q.idx≠i:=fun q hq e=>by have:=hI.lt q hq;omega
   have hc1:∀ b,(∃ q∈rs,q.hp=true/\q.idx=b)->bit (Nat.lor c0.D (Nat.pow 2 i)) b=true:=fun b hb=>by rw [qa,(hI.cD b).2 hb];rfl
   have hordq:=zcV hI.pr hord;have hlook:hp=true->∀ q∈rs,q.hp=false->q.free=false->bit m q.idx=true\/(∃ c∈rs,c.hp=true/\bit c.m q.idx=true)\/∀ D,cx.valC takes q.o q.env q.v ⟨D,H1,lk1,df1⟩=true:=fun hr q hq hqh hqf=>by
    obtain ⟨t,ht,hg⟩:=hordq q hq;simp only [zqw] at hg;split at hg
    ·rename_i hb;exact .inl (by rw [ht.idx];exact hb)
    ·rw [h1 hr,ht.lk hqh hqf] at hg;simp only [zBD,zAg,zBE,zAC] at hg;obtain ⟨_,hal,hld⟩:=hg;rcases hI.vals q hq hqh hqf with h|h
     ·exact .inr (.inl h)
     ·obtain ⟨x,e1,e2,e3⟩:=h5 hr hal;subst e1 e2 e3;rw [ht.ld] at hld;exact .inr (.inr fun D=>zlC hld (h D))
   have hnotk:wb takes o=true->∀ q∈rs,wb takes q.o=false:=fun ht q hq=>by
    rw [ht] at htk;simp only [zAg,zBE] at htk;obtain ⟨t,h7,h8⟩:=zcV hI.pr htk q hq;rw [<- h7.tk];simpa using h8
   have hafter:(hp=true\/(hp=false/\free=false))->∀ q∈rs,q.hp=true->bit m q.idx=true\/(hp=false/\wb takes q.o=true/\zgS takes o=true):=fun hr q hq hqh=>by
    obtain ⟨t,ht,hg⟩:=hordq q hq;simp only [zqw] at hg;split at hg
    ·rename_i hb;exact .inl (by rw [ht.idx];exact hb)
    ·rw [ht.hp hqh] at hg;simp only [zBv,zBD,zAC,zAn] at hg;obtain ⟨⟨g1,g2⟩,_⟩:=hg;rcases hr with hr|⟨hr,hf⟩
     ·rw [h1 hr] at g1;cases g1
     ·rw [h2 hr hf] at g2;simp only [zAg,zBE,zAC] at g2;exact .inr ⟨hr,by rw [<- ht.tk];exact g2.1,g2.2⟩
   have hmiss:∀ c:Cfg,(∃ q∈rs,q.hp=true/\bit m q.idx=true/\bit c.D q.idx=false)->qO (Nat.land m (chgM rs)) c.D=false:=fun c hc=>by
    obtain ⟨q,hq,e1,e2,e3⟩:=hc;cases hs:qO (Nat.land m (chgM rs)) c.D with
    | false=>rfl
    | true =>
     have:=subM_spec.1 hs q.idx (by rw [z6,e2,bit_chgM.2 ⟨q,hq,e1,rfl⟩];rfl)
     rw [this] at e3;cases e3
   have hci:∀ c:Cfg,(∀ b,bit c.D b=true->∃ q∈rs,q.idx=b)->bit c.D i=false:=fun c hc=>by
    cases hb:bit c.D i with
    | false=>rfl
    | true =>
     obtain ⟨q,hq,e⟩:=hc i hb;exact absurd e (hlt q hq)
   rw [zo8 (r:=⟨i,o,m,tmM takes o,Nat.lor (tmM takes o) (lkM all o),hp,free,env,v⟩) ?_ ?_ hc1 ?_]
   ·have hnewI:SqI cx takes (i+1) (⟨i,o,m,tmM takes o,Nat.lor (tmM takes o) (lkM all o),hp,free,env,v⟩::rs) (⟨i,m,tmM takes o,Nat.lor (tmM takes o) (lkM all o),z9 cx.P cx.uq takes o,jV cx.P cx.uq o,zat o,zgS takes o,wb takes o⟩::ts)
      (bif hp then ⟨Nat.lor c0.D (Nat.pow 2 i),H1,lk1,df1⟩ else c0) (bif hp then c0::rest else rest) ⟨env1,H1,lk1,df1⟩:=by
     refine ⟨.cons ⟨rfl,rfl,rfl,rfl,h1,h2,rfl,rfl⟩ hI.pr,?_,?_,?_,?_,?_,?_⟩
     ·intro q hq;rcases zAK.1 hq with rfl|hq
      ·exact zBu _
      ·have:=hI.lt q hq;omega
     ·intro b;cases hp with
      | false =>
       simp only [cond_false];rw [hI.cD];constructor
       ·rintro ⟨q,hq,e⟩;exact ⟨q,zAE _ hq,e⟩
       ·rintro ⟨q,hq,e1,e2⟩;rcases zAK.1 hq with rfl|hq
        ·cases e1
        ·exact ⟨q,hq,e1,e2⟩
      | true =>
       simp only [cond_true];rw [qa,zAe,hI.cD,qg,decide_eq_true_eq];constructor
       ·rintro (⟨q,hq,e⟩|rfl)
        ·exact ⟨q,zAE _ hq,e⟩
        ·exact ⟨_,zAL ..,rfl,rfl⟩
       ·rintro ⟨q,hq,e1,e2⟩;rcases zAK.1 hq with rfl|hq
        ·exact .inr e2
        ·exact .inl ⟨q,hq,e1,e2⟩
     ·cases hp with
      | false=>obtain ⟨e1,e2,e3⟩:=h3 rfl;subst e1 e2 e3;exact hI.c0
      | true=>exact ⟨rfl,rfl,rfl⟩
     ·intro c hc' b hb;cases hp with
      | false=>obtain ⟨q,hq,e⟩:=hI.rD c hc' b hb;exact ⟨q,zAE _ hq,e⟩
      | true =>
       rcases zAK.1 hc' with rfl|hc'
       ·obtain ⟨q,hq,_,e⟩:=(hI.cD b).1 hb;exact ⟨q,zAE _ hq,e⟩
       ·obtain ⟨q,hq,e⟩:=hI.rD c hc' b hb;exact ⟨q,zAE _ hq,e⟩
     ·intro c hc';cases hp with
      | false =>
       obtain ⟨e1,e2,e3⟩:=h3 rfl;subst e1 e2 e3;rcases hI.rest c hc' with ⟨q,hq,e⟩|⟨⟨q,hq,e⟩,hL⟩
       ·exact .inl ⟨q,zAE _ hq,e⟩
       ·exact .inr ⟨⟨q,zAE _ hq,e⟩,hL⟩
      | true =>
       have hc0i:bit c0.D i=false:=hci c0 fun b hb=>by obtain ⟨q,hq,_,e⟩:=(hI.cD b).1 hb;exact ⟨q,hq,e⟩
       cases htl:wb takes o with
       | false =>
        rcases zAK.1 hc' with rfl|hc'
        ·exact .inl ⟨_,zAL ..,rfl,htl,hc0i⟩
        ·exact .inl ⟨_,zAL ..,rfl,htl,hci c (hI.rD c hc')⟩
       | true =>
        rcases zAK.1 hc' with rfl|hc'
        ·refine .inr ⟨⟨_,zAL ..,rfl,htl,hc0i⟩,?_⟩;obtain ⟨D0,H0,lk0,df0⟩:=c;obtain ⟨e1,e2,e3⟩:=hI.c0;simp only at e1 e2 e3;subst e1 e2 e3;exact h5a rfl htl D0
        ·rcases hI.rest c hc' with ⟨q,hq,e⟩|⟨⟨q,hq,e1,e2,_⟩,_⟩
         ·exact .inl ⟨q,zAE _ hq,e⟩
         ·rw [hnotk htl q hq] at e2;cases e2
     ·intro q hq hqh hqf;rcases zAK.1 hq with rfl|hq'
      ·obtain ⟨e1,e2,e3⟩:=h3 hqh;subst e1 e2 e3;exact .inr (h4 hqh hqf)
      ·clear hq;cases hp with
       | false =>
        obtain ⟨e1,e2,e3⟩:=h3 rfl;subst e1 e2 e3;rcases hI.vals q hq' hqh hqf with ⟨c,hc,e⟩|h
        ·exact .inl ⟨c,zAE _ hc,e⟩
        ·exact .inr h
       | true =>
        rcases hlook rfl q hq' hqh hqf with h|⟨c,hc,e⟩|h
        ·exact .inl ⟨_,zAL ..,rfl,h⟩
        ·exact .inl ⟨c,zAE _ hc,e⟩
        ·exact .inr h
    have:=zeg os _ _ _ _ _ _ hnewI hst h6;cases hp<;>exact this
   ·intro hr c hc';refine hmiss c ?_;rcases hI.rest c hc' with ⟨q,hq,e1,_,e2⟩|⟨⟨q,hq,e1,_,e2⟩,_⟩
    ·rcases hafter (.inl hr) q hq e1 with h|⟨h,_⟩
     ·exact ⟨q,hq,e1,h,e2⟩
     ·exact absurd (hr.symm.trans h) (by simp)
    ·rcases hafter (.inl hr) q hq e1 with h|⟨h,_⟩
     ·exact ⟨q,hq,e1,h,e2⟩
     ·exact absurd (hr.symm.trans h) (by simp)
   ·intro hr hf c hc';rcases hI.rest c hc' with ⟨q,hq,e1,e3,e2⟩|⟨⟨q,hq,e1,e3,e2⟩,hL⟩
    ·rcases hafter (.inr ⟨hr,hf⟩) q hq e1 with h|⟨_,h,_⟩
     ·exact .inl (hmiss c ⟨q,hq,e1,h,e2⟩)
     ·rw [e3] at h;cases h
    ·rcases hafter (.inr ⟨hr,hf⟩) q hq e1 with h|⟨_,_,h⟩
     ·exact .inl (hmiss c ⟨q,hq,e1,h,e2⟩)
     ·exact .inr (h5b hr hf h c hL)
   ·intro hr q hq hqh hqf;rcases hlook hr q hq hqh hqf with h|h|h
    ·exact .inl h
    ·exact .inr (.inl h)
    ·exact .inr (.inr (h _))
  simp only [Cx.opsD,zlA hI.pr,hm,zH,zI,zS];simp only [Cx.opsN] at hc;split at hc<;>try (cases hc;done)
  ·rename_i hw;simp only [hw];exact key false true (.tup []) H lk df _ (fun h=>nomatch h) (fun _ h=>nomatch h) (fun _=>⟨rfl,rfl,rfl⟩) (fun _ h=>nomatch h) (fun h=>nomatch h) (fun h=>nomatch h) (fun _ h=>nomatch h) hc
  ·rename_i hw;simp only [hw];split at hc<;>try (cases hc;done)
   rename_i hck;split at hc<;>try (cases hc;done)
   ·rename_i v env1 H1 lk1 df1 hop;simp only [hop];refine key _ _ v H1 lk1 df1 _ (fun h=>h) (fun _ h=>by simpa using h) (fun hf=>?_) (fun hf _ D=>?_) (fun _ ha=>?_) (fun _ ht D=>?_) (fun _ _ hl c hL=>zlE hl hL hck hop) hc
    ·obtain ⟨v',_,e2,_⟩:=wh hf hop;cases e2;exact ⟨rfl,rfl,rfl⟩
    ·simp [Cx.valC,Cx.runC,hop,V.same_refl]
    ·obtain ⟨x,e⟩:=znq ha hop;cases e;exact ⟨x,rfl,rfl,rfl⟩
    ·rcases zo7 (D:=D) ht hop with h|h
     ·exact .inl h
     ·exact .inr h
   ·rename_i env1 H1 lk1 df1 hop;simp only [hop];have hhp:z9 cx.P cx.uq takes o=true:=by
     cases hb:z9 cx.P cx.uq takes o with
     | true=>rfl
     | false=>obtain ⟨v',e1,_⟩:=wh hb hop;cases e1
    rw [hhp];refine key true false (.tup []) H1 lk1 df1 _ (fun _=>hhp) (fun h=>nomatch h) (fun h=>nomatch h) (fun h=>nomatch h) (fun _ ha=>?_) (fun _ ht=>?_) (fun h=>nomatch h) hc
    ·obtain ⟨dst,op,type,pos,after,guard⟩:=o;unfold zat at ha;split at ha<;>try (cases ha;done)
     rename_i t hop';simp only at hop';subst hop';simp only [Cx.op] at hop;split at hop<;>try (cases hop;done)
     split at hop<;>try (cases hop;done)
     simp [zI,zB] at hop
    ·obtain ⟨dst,op,type,pos,after,guard⟩:=o;unfold wb at ht;split at ht<;>try (cases ht;done)
     rename_i t a hop';simp only at hop';subst hop';cases dst with
     | none=>cases ht
     | some d =>
      simp only at ht;rw [zau ht] at hop;unfold x6 at hop;split at hop<;>try (cases hop;done)
      split at hop<;>try (cases hop;done)
      split at hop<;>try (cases hop;done)
      split at hop<;>cases hop
theorem znr {ops:Array Oper} {env:List V} {H:Hp} {lk:List (Nat×Nat)} {df:List (V×List V)} {s':St} (hst:zii cx.P cx.uq ops (qb ops) 0 [] ops.toList=true) (hc:cx.opsN ops (qb ops) ops.toList ⟨env,H,[],df⟩=some s') (hl:cx.uq lateK=false\/xu ops=none):cx.draw ops ⟨env,H,lk,df⟩=some (.normal,s'):=by
 refine zgh ?_ hl;unfold Cx.drawn;exact zeg _ _ _ _ _ _ _ ⟨.nil,fun q hq=>by simp at hq,fun b=>by simp [kA],⟨rfl,rfl,rfl⟩,fun c hc=>by simp at hc,fun c hc=>by simp at hc,fun q hq=>by simp at hq⟩ hst hc
theorem zo9 {n id:Nat} {Q:Ex->St->Prop} {k:List It} {ops:Array Oper} {env:List V} {H:Hp} {lk:List (Nat×Nat)} {df:List (V×List V)} (hst:zii cx.P cx.uq ops (qb ops) 0 [] ops.toList=true)
  (h:go cx n Q (.on ops (qb ops) ops.toList::k) .normal ⟨env,H,[],df⟩) (hl:cx.uq lateK=false\/xu ops=none:=by first|exact .inl rfl|exact .inr (by kernel_rfl)):go cx n Q (.c (.region id ops true)::k) .normal ⟨env,H,lk,df⟩:=by
 simp only [go] at h ⊢;obtain ⟨s',h1,h2⟩:=h;exact ⟨.normal,s',by simp only [Cx.code];exact znr hst h1 hl,h2⟩
theorem x7 {n id:Nat} {Q:Ex->St->Prop} {k:List It} {ops:Array Oper} {env:List V} {H:Hp} {lk:List (Nat×Nat)} {df:List (V×List V)} {tk:List Tmp} (ht:qb ops=tk) (hst:zii cx.P cx.uq ops tk 0 [] ops.toList=true)
  (h:go cx n Q (.on ops tk ops.toList::k) .normal ⟨env,H,[],df⟩) (hl:cx.uq lateK=false\/xu ops=none:=by first|exact .inl rfl|exact .inr (by kernel_rfl)):go cx n Q (.c (.region id ops true)::k) .normal ⟨env,H,lk,df⟩:=by
 subst ht;exact zo9 hst h hl
theorem ze {n id:Nat} {Q:Ex->St->Prop} {k:List It} {ops:Array Oper} {env:List V} {H:Hp} {lk:List (Nat×Nat)} {df:List (V×List V)} {tk:List Tmp} (ht:qb ops=tk)
  (h:go cx n Q (.os ops tk ops.toList::k) .normal ⟨env,H,[],df⟩):go cx n Q (.c (.region id ops false)::k) .normal ⟨env,H,lk,df⟩:=by
 subst ht;exact go_region.2 h
end Go.Vm
namespace Go.Vm
open Go
variable {cx:Cx} {all:Array Oper} {takes:List Tmp}
section
variable {P:St->Prop} {pend:List (Oper×List V×V)} {fl:List (Bool×Bool)} {os:List Oper} {env:List V} {H:Hp} {lk:List (Nat×Nat)} {df:List (V×List V)} {s:St} {dst:Option Tmp} {op:Op} {type:TypeId} {pos:String} {after:Array Edge} {ld hp:Bool}
theorem valC_of {D:Nat} {o:Oper} {v:V} {s1:St} (h:cx.op takes o env H lk df=some (.val v,s1)):cx.valC takes o env v ⟨D,H,lk,df⟩=true:=by simp [Cx.valC,Cx.runC,h,V.same_refl]
end
def zq5 (cx:Cx) (n:Nat) (Q:Ex->St->Prop) (k:List It) (R:St->Prop):Ex->St->Prop
 | .normal,s=>R s
 | ex,s=>go cx n Q k ex s
theorem kK {n:Nat} {Q:Ex->St->Prop} {k:List It} {R:St->Prop} {s:St}:zq5 cx n Q k R .normal s ↔ R s:=Iff.rfl
theorem kL {n:Nat} {Q:Ex->St->Prop} {k:List It} {R:St->Prop} {s:St} {i:Nat}:zq5 cx n Q k R (.exit i) s ↔ go cx n Q k (.exit i) s:=Iff.rfl
theorem bq43:Nat.beq 4 3=false:=rfl
theorem bq53:Nat.beq 5 3=false:=rfl
theorem bq54:Nat.beq 5 4=false:=rfl
theorem bq23:Nat.beq 2 3=false:=rfl
theorem bq24:Nat.beq 2 4=false:=rfl
theorem bq25:Nat.beq 2 5=false:=rfl
theorem bq12:Nat.beq 1 2=false:=rfl
theorem bq02:Nat.beq 0 2=false:=rfl
theorem bq13:Nat.beq 1 3=false:=rfl
theorem bq14:Nat.beq 1 4=false:=rfl
theorem bq15:Nat.beq 1 5=false:=rfl
theorem bq01:Nat.beq 0 1=false:=rfl
theorem go_gen {n:Nat} {Q:Ex->St->Prop} {k:List It} {s:St} (F:St->Prop) (h:F s) (h2:∀ s,F s->go cx n Q k .normal s):go cx n Q k .normal s:=h2 s h
end Go.Vm
namespace Go.Vm
open Go
variable {cx:Cx} {takes:List Tmp} {dst:Option Tmp} {type:TypeId} {pos:String} {after:Array Edge} {guard:Option (Nat×Bool)} {env:List V} {H:Hp} {lk:List (Nat×Nat)} {df:List (V×List V)}
theorem zkw {t e n k:Nat} {lo co:Operand} {z:V} {i:TypeInfo} (h1:cx.P.underlying t=some (.slice e)) (h2:zy cx.P e=some n) (h3:zU cx.P e=some z) (hu:cx.uq e=false) (h4:cx.P.info? e=some i) (hn:n≠0) (hz:z.cells.length=n) (hz':okC z=true) (hl:peek env lo=some (.int .i64 (k:Int))) (hc:peek env co=some (.int .i64 (k:Int))) (hr:qG k i.bytes=true) (hk:k≠0) :
  cx.op takes ⟨dst,.makeSlice t lo co,type,pos,after,guard⟩ env H lk df=some (.val (.sr H.blks.length 0 k k),⟨env,H.push (.cells (List.replicate k z.cells).flatten e),lk,df⟩):=by
 have e1:Nat.beq n 0=false:=by
  cases n with
  | zero=>exact absurd rfl hn
  | succ n=>rfl
 have e2:¬ ((k:Int)<0):=by omega
 have e3:¬ ((k:Int)=0):=by omega
 simp [Cx.op,h1,h2,h3,h4,hu,e1,e2,hz,hz',hl,hc,hr,hk,fCs_eq,zB]
end Go.Vm
namespace Go.Vm
open Go
variable {cx:Cx} {all:Array Oper} {takes:List Tmp}
theorem yD {n id:Nat} {Q:Ex->St->Prop} {k:List It} {ops:Array Oper} {env:List V} {H:Hp} {lk:List (Nat×Nat)} {df:List (V×List V)} {tk:List Tmp} (ht:qb ops=tk) (h:∃ s',cx.opsD ops tk 0 [] [⟨0,H,[],df⟩] ops.toList ⟨env,H,[],df⟩=some (.normal,s')/\go cx n Q k .normal s') (hl:cx.uq lateK=false\/xu ops=none:=by first|exact .inl rfl|exact .inr (by kernel_rfl)):go cx n Q (.c (.region id ops true)::k) .normal ⟨env,H,lk,df⟩:=by
 subst ht;obtain ⟨s',h1,h2⟩:=h;simp only [go];exact ⟨.normal,s',by simp only [Cx.code];exact zgh h1 hl,h2⟩
section
variable {i m:Nat} {rs:List Rec} {c0:Cfg} {cs cs':List Cfg} {o:Oper} {os:List Oper} {env env1:List V} {H H1:Hp} {lk lk1:List (Nat×Nat)} {df df1:List (V×List V)} {v:V} {r:Option (Ex×St)}
def jL (all:Array Oper) (takes:List Tmp) (i:Nat) (o:Oper) (m:Nat) (hp free:Bool) (env:List V) (v:V):Rec:=⟨i,o,m,tmM takes o,Nat.lor (tmM takes o) (lkM all o),hp,free,env,v⟩
theorem zK (hm:qP rs o.after.toList=some m) (hg:zq all o env=some true) (hop:cx.op takes o env H lk df=some (.val v,⟨env1,H1,lk1,df1⟩)) (h1:z9 cx.P cx.uq takes o=false) (h2:jV cx.P cx.uq o=false)
  (hs:qu (qm (jL all takes i o m false true env v)) rs=true) (k:cx.opsD all takes (i+1) (jL all takes i o m false true env v::rs) (c0::cs) os ⟨putA env1 o.dst v,H1,lk1,df1⟩=r):cx.opsD all takes i rs (c0::cs) (o::os) ⟨env,H,lk,df⟩=r:=by
 simp only [jL] at hs k;simp only [Cx.opsD,hm,zH,hg,hop,zI,zS,h1,h2,zAm,hs];simp only [Cx.cfgsK,zBr];exact k
theorem q7 (hm:qP rs o.after.toList=some m) (hg:zq all o env=some true) (hop:cx.op takes o env H lk df=some (.val v,⟨env1,H1,lk1,df1⟩)) (h1:z9 cx.P cx.uq takes o=false) (h2:jV cx.P cx.uq o=true)
  (hs:qu (qm (jL all takes i o m false false env v)) rs=true) (hc:qu (fun c=>match qO (Nat.land m (chgM rs)) c.D with|true=>cx.valC takes o env v c|false=>true) cs=true)
  (k:cx.opsD all takes (i+1) (jL all takes i o m false false env v::rs) (c0::cs) os ⟨putA env1 o.dst v,H1,lk1,df1⟩=r):cx.opsD all takes i rs (c0::cs) (o::os) ⟨env,H,lk,df⟩=r:=by
 simp only [jL] at hs k;simp only [Cx.opsD,hm,zH,hg,hop,zI,zS,h1,h2,zAg,hs];simp only [Cx.cfgsK,zBE];split
 ·exact k
 ·rename_i h;exact absurd (hc.symm.trans h) (by decide)
theorem zcv (hm:qP rs o.after.toList=some m) (hg:zq all o env=some true) (hop:cx.op takes o env H lk df=some (.val v,⟨env1,H1,lk1,df1⟩)) (h1:z9 cx.P cx.uq takes o=true) (h2:jV cx.P cx.uq o=true)
  (hs:qu (qm (jL all takes i o m true false env v)) rs=true) (hc:∀ K,cx.cfgsK takes rs (jL all takes i o m true false env v) c0 ⟨Nat.lor c0.D (Nat.pow 2 i),H1,lk1,df1⟩ cs K=K cs')
  (k:cx.opsD all takes (i+1) (jL all takes i o m true false env v::rs) cs' os ⟨putA env1 o.dst v,H1,lk1,df1⟩=r):cx.opsD all takes i rs (c0::cs) (o::os) ⟨env,H,lk,df⟩=r:=by
 have hc':=fun K=>hc K;simp only [jL] at hs k hc';simp only [Cx.opsD,hm,zH,hg,hop,zI,zS,h1,h2,zAg,hs];rw [hc'];exact k
theorem vF (hm:qP rs o.after.toList=some m) (hg:zq all o env=some true) (hop:cx.op takes o env H lk df=some (.skip,⟨env1,H1,lk1,df1⟩)) (h1:z9 cx.P cx.uq takes o=true)
  (hs:qu (qm (jL all takes i o m true false env (.tup []))) rs=true) (hc:∀ K,cx.cfgsK takes rs (jL all takes i o m true false env (.tup [])) c0 ⟨Nat.lor c0.D (Nat.pow 2 i),H1,lk1,df1⟩ cs K=K cs')
  (k:cx.opsD all takes (i+1) (jL all takes i o m true false env (.tup [])::rs) cs' os ⟨putA env1 o.dst (.tup []),H1,lk1,df1⟩=r):cx.opsD all takes i rs (c0::cs) (o::os) ⟨env,H,lk,df⟩=r:=by
 have hc':=fun K=>hc K;simp only [jL] at hs k hc';simp only [Cx.opsD,hm,zH,hg,hop,zI,zS,h1,hs];rw [hc'];exact k
theorem yE {s:St}:cx.opsD all takes i rs cs [] s=some (.normal,s):=by simp only [Cx.opsD]
theorem zlF {R:Rec} {c1:Cfg} {k:List Cfg->Option (Ex×St)} (hp:R.hp=true) (hrun:∀ c∈cs,qO (Nat.land R.m (chgM rs)) c.D=false)
  (hnew:cx.newOk takes rs (chgM rs) R (c1::c0::cs) c1=true):cx.cfgsK takes rs R c0 c1 cs k=k (c1::c0::cs):=by
 have hr:∀ l:List Cfg,(∀ c∈l,qO (Nat.land R.m (chgM rs)) c.D=false)->cx.runAll takes R.o R.env R.v (Nat.land R.m (chgM rs)) (Nat.pow 2 R.idx) l=some []:=by
  intro l
  induction l with
  | nil=>intro _;rfl
  | cons c l ih=>intro h;simp only [Cx.runAll,h c (zAL ..)];exact ih fun c hc=>h c (zAE _ hc)
 unfold Cx.cfgsK;rw [hp];simp only [hr cs hrun,zA6,zA7,qu,hnew]
end
theorem sameBs_refl:∀ (l:List Blk),sameBs l l=true
 | []=>rfl
 | a::l=>by
  have h:sameBlk a a=true:=by
   cases a with
   | cells a t=>simp [sameBlk,sames_refl]
   | map a =>
    have:∀ (l:List (V×V)),sameP l l=true:=by
     intro l
     induction l with
     | nil=>rfl
     | cons x l ih=>obtain ⟨a,b⟩:=x;simp [sameP,V.same_refl,ih]
    simp [sameBlk,this]
   | iter a i =>
    have:∀ (l:List Nat),eqL l l=true:=by
     intro l
     induction l with
     | nil=>rfl
     | cons x l ih=>simp [eqL,ih]
    simp [sameBlk,this]
   | ul a b c d=>simp [sameBlk,sames_refl]
  simp [sameBs,h,sameBs_refl l]
theorem sameNN_refl:∀ (l:List (Nat×Nat)),sameNN l l=true
 | []=>rfl
 | (a,b)::l=>by simp [sameNN,sameNN_refl l]
theorem sameDf_refl:∀ (l:List (V×List V)),sameDf l l=true
 | []=>rfl
 | (a,b)::l=>by simp [sameDf,V.same_refl,sames_refl,sameDf_refl l]
theorem sameCfg_of {D D':Nat} {H:Hp} {lk:List (Nat×Nat)} {df:List (V×List V)}:wM ⟨D,H,lk,df⟩ ⟨D',H,lk,df⟩=true:=by
 simp [wM,sameNN_refl,sameDf_refl,sameBs_refl]
theorem jZ {rs:List Rec} {cs:List Cfg} {R:Rec} {c0 c1 c1':Cfg} {k:List Cfg->Option (Ex×St)} (e:c1=c1') (hp:R.hp=true) (hrun:∀ c∈cs,qO (Nat.land R.m (chgM rs)) c.D=false)
  (hnew:cx.newOk takes rs (chgM rs) R (c1'::c0::cs) c1'=true):cx.cfgsK takes rs R c0 c1 cs k=k (c1'::c0::cs):=by
 subst e;exact zlF hp hrun hnew
end Go.Vm
namespace Go.Vm
open Go
def zpS (f:Nat->Bool):Nat->Nat
 | 0=>0
 | n+1=>zpS f n ||| (if f n=true then 2 ^ n else 0)
def zrr (p:Nat->Bool) (i:Nat):Nat:=zpS (fun j=>p (64 * i+j)) 64
def pv (m:Nat) (p:Nat->Bool):List V:=(List.range m).map fun i=>.int .u64 (zrr p i:Nat)
theorem zns {n:Nat} (h:n<2 ^ 64):IntKind.u64.wrap (n:Int)=n:=by
 simp only [IntKind.wrap,IntKind.bits,IntKind.signed];simp only [zBj,zAH,if_false];omega
theorem kN {n:Int} (h:-9223372036854775808<=n) (h':n<9223372036854775808):IntKind.i64.wrap n=n:=by
 simp only [IntKind.wrap,IntKind.bits,IntKind.signed];simp only [zBD,decide_eq_true_eq,ge_iff_le];have e1:(2:Int) ^ 64=18446744073709551616:=by decide
 have e2:(2:Int) ^ (64 - 1)=9223372036854775808:=by decide
 rw [e1,e2];split<;>omega
theorem zfx {n:Nat} (h:n<2 ^ 64):(BitVec.ofInt 64 (n:Int)).toNat=n:=by
 simp [];omega
variable {P:Program} {t:TypeId} {x y:Operand}
theorem zlG {H:Hp} {b off n:Nat} {v:V} {env:List V} {cs:List V} {ty:TypeId} {lk:List (Nat×Nat)} {df:List (V×List V)} (hb:H.get b=some (.cells cs ty)) (h1:okC v=true) (h2:v.laid.length=n) (h3:off+n<=cs.length) (h4:kQ lk b off n (cs.drop off)=true) :
  zci n H lk df (some (.ptr b off)) (some (v,env))=some (.skip,⟨env,(H.set b (.cells (Vm.storeCells cs off v.laid) ty)).edge b v,lk,df⟩):=by
 simp only [zci,hb,h1,h2,h4];simp [h3]
theorem v4 {H:Hp} {b:Nat} {v:V} (h:v.top<=b+1):H.edge b v=H:=by simp [Hp.edge,h]
theorem zil {lk:List (Nat×Nat)} {b:Nat}:∀ {n off:Nat} {l:List V},(∀ i,i<n->∃ c,l[i]?=some c/\locked c=false)->kQ lk b off n l=true
 | 0,_,_,_=>by simp [kQ]
 | n+1,off,[],h=>by obtain ⟨c,hc,_⟩:=h 0 (by omega);simp at hc
 | n+1,off,c::l,h=>by
  obtain ⟨d,hd,hl⟩:=h 0 (by omega)
  simp only [zAt,zAA] at hd;subst hd;simp only [kQ,hl,zAm,zBr,zBD];exact zil fun i hi=>by
   have:=h (i+1) (by omega)
   simpa using this
theorem zcw {lk:List (Nat×Nat)} {b n off:Nat} {cs:List V} (h:∀ i,i<n->∃ c,cs[off+i]?=some c/\locked c=false):kQ lk b off n (cs.drop off)=true :=
 zil fun i hi=>by rw [zBQ];exact h i hi
end Go.Vm
namespace Go.Vm
open Go
def bruN:List Int:=[0,1,56,2,57,49,28,3,61,58,42,50,38,29,17,4,62,47,59,36,45,43,51,22,53,39,33,30,24,18,12,5,63,55,48,27,60,41,37,16,46,35,44,21,52,32,23,11,54,26,40,15,34,20,31,10,25,14,19,9,13,8,7,6]
def bruT:List V:=bruN.map (V.int .u8)
variable {P:Program} {t:TypeId} {x y:Operand}
theorem zlH {a b:Nat} (ha:a<2 ^ 64) (hb:b<2 ^ 64):zQ P .and t x y (some (.int .u64 a)) (some (.int .u64 b))=some (.int .u64 ((a &&& b:Nat):Int)):=by
 have h0:((BitVec.ofInt 64 (a:Int) &&& BitVec.ofInt 64 (b:Int)).toNat)=a &&& b:=by
  rw [BitVec.toNat_and,zfx ha,zfx hb]
 have h:((BitVec.ofInt IntKind.u64.bits (a:Int) &&& BitVec.ofInt IntKind.u64.bits (b:Int)).toNat)=a &&& b:=h0;simp only [zQ,zM,ja,ql,if_true];rw [h,zns (Nat.lt_of_le_of_lt Nat.and_le_left ha)]
end Go.Vm
namespace Go.Vm
open Go
def UL (H:Hp) (sz:Nat) (e:TypeId) (c:V) (i:Option Nat) (xs:List (List V)):Prop :=
 match i with
 | none=>c=.snil/\xs=[]
 | some j=>∃ v,c=.ulr j v xs.length/\H.get j=some (.ul v sz xs.flatten e)
theorem UL.frame {A B:Hp} {sz:Nat} {e:TypeId} {c:V} {i:Option Nat} {xs:List (List V)} (h:UL A sz e c i xs) (hg:∀ j,i=some j->B.get j=A.get j):UL B sz e c i xs:=by
 cases i with
 | none=>exact h
 | some j=>obtain ⟨v,h1,h2⟩:=h;exact ⟨v,h1,(hg j rfl).trans h2⟩
theorem UL.lt {H:Hp} {sz:Nat} {e:TypeId} {c:V} {j:Nat} {xs:List (List V)} (h:UL H sz e c (some j) xs):j<H.blks.length:=by
 obtain ⟨v,_,h2⟩:=h;exact zqv h2
theorem roomA_of {n b:Nat} (h:n * b<=140737488355328) (h':n<=140737488355328):qG n b=true:=by
 simp [qG,Nat.ble_eq,h,h']
def zqy (z:V):Bool:=okC z && z.cells.all fun c=>!(locked c)
theorem zkx {P:Program} {e n:Nat} (h:(zU P e).map (fun z=>(z.cells.length,zqy z))=some (n,true)) (hn:n≠0/\n<=16777216):∃ z,zU P e=some z/\(n≠0/\n<=16777216/\z.cells.length=n/\okC z=true)/\z.cells.all (fun c=>!(locked c))=true:=by
 cases hz:zU P e with
 | none=>rw [hz] at h;cases h
 | some z =>
  rw [hz] at h;simp only [zAa,zAA,zAD,zqy,zAC] at h;exact ⟨z,rfl,⟨hn.1,hn.2,h.1,h.2.1⟩,h.2.2⟩
structure RowT (P:Program) (t e n bytes:Nat):Prop where
 u:P.underlying t=some (.slice e)
 s:zy P e=some n
 z:(zU P e).map (fun z=>(z.cells.length,zqy z))=some (n,true)
 n0:n≠0/\n<=16777216
 i:((P.info? e).bind fun i=>i.zero.map fun z=>(z.cells.size,i.bytes))=some (n,bytes)
 a:qC P t=some false
 st:zy P t=some 1
theorem RowT.bsl {P:Program} {t e n by':Nat} (h:RowT P t e n by') {v:V} (h5:okC v=true) (h6:v.cells.length=n):znp P t (some v)=some (.sl n [v] (.yes e)):=by
 obtain ⟨z,h1,h2,_⟩:=zkx h.z h.n0;exact zo6 h.u h.s h1 h2 h5 h6
theorem RowT.app {P:Program} {t e n by':Nat} (h:RowT P t e n by') {env:List V} {H:Hp} {lk:List (Nat×Nat)} {df:List (V×List V)} {ys:List V} {o:Own} {c:V} {i:Option Nat} {xs:List (List V)} (hy:ys≠[]) (hu:UL H n e c i xs) (hroom:qG (xs.length+ys.length) by'=true) :
  zqx P t env H lk df (some (.sl n ys o)) (some c)=match i with
   | none=>some (.val (.ulr H.blks.length 0 ys.length),⟨env,H.push (.ul 0 n (flatV ys) e),lk,df⟩)
   | some j=>match c with
    | .ulr _ v _=>some (.val (.ulr j (v+1) (xs.length+ys.length)),⟨env,(H.set j (.ul (v+1) n (xs.flatten++flatV ys) e)).edge j (.tup ys),lk,df⟩)
    | _=>none:=by
 have hi:=h.i;cases hi1:P.info? e with
 | none=>rw [hi1] at hi;cases hi
 | some ti =>
  rw [hi1] at hi;simp only [zAT] at hi;cases hz:ti.zero with
  | none=>rw [hz] at hi;cases hi
  | some z =>
   rw [hz] at hi;simp only [zAa,zAA,zAD] at hi;rw [zo4 h.u h.s hi1 hz hi.1 h.n0.1,hi.2];cases i with
   | none =>
    obtain ⟨rfl,rfl⟩:=hu;cases ys with
    | nil=>exact absurd rfl hy
    | cons y ys=>simp at hroom;simp [hroom]
   | some j =>
    obtain ⟨v,rfl,hj⟩:=hu;simp [hj,hroom]
theorem zu {P:Program} {t:TypeId} {H:Hp} {gl:Nat->Nat->Option V} {b off:Nat} {cs:List V} {ty:TypeId} {v:V} (ha:qC P t=some false) (hb:H.get b=some (.cells cs ty)) (hn:nth cs off=some v):zn P H gl t (.ptr b off)=some v:=by
 rw [qF,hb,qi,jj,ha,zgp,hn]
theorem zT {P:Program} {t n:TypeId} {H:Hp} {lk:List (Nat×Nat)} {df:List (V×List V)} {b off:Nat} {v:V} {env:List V} {cs:List V} {ty:TypeId} (hs:zy P t=some n) (hb:H.get b=some (.cells cs ty)) (h1:okC v=true) (h2:v.laid.length=n) (h3:off+n<=cs.length) (h4:kQ lk b off n (cs.drop off)=true) :
  qZ P t H lk df (some (v,env)) (some (.ptr b off))=some (.skip,⟨env,(H.set b (.cells (Vm.storeCells cs off v.laid) ty)).edge b v,lk,df⟩):=by
 simp only [qZ,hs,zlG hb h1 h2 h3 h4]
theorem zfy {env:List V} {t j v l:Nat}:qE env t (some (.ulr j v l))=some (.ulr j v l,env):=rfl
theorem zky {j v l:Nat}:clr (.ulr j v l)=.ulr j v l:=rfl
theorem RowT.zero {P:Program} {t e n by':Nat} (h:RowT P t e n by'):∃ z,zU P e=some z/\okC z=true/\z.cells.length=n/\z.cells.all (fun c=>!(locked c))=true:=by
 obtain ⟨z,h1,h2,h3⟩:=zkx h.z h.n0;exact ⟨z,h1,h2.2.2.2,h2.2.2.1,h3⟩
theorem zkz {a b c:Nat}:clr (.ulp a b c)=.ulp a b c:=rfl
theorem zqz {H:Hp} {b:Nat} {x y:Blk} (h:H.get b=some y):(H.set b x).get b=some x:=by
 rw [zdm,h];simp
theorem edge_eq {H:Hp} {b:Nat} {x y:Blk} {v:V} (h:H.get b=some y):((H.set b x).edge b v).get b=some x:=by rw [zbP,zqz h]
theorem za {l:List V} {i j:Nat} {v:V}:nth (l.set i v) j=if i=j then (if i<l.length then some v else none) else nth l j:=by
 rw [zd,zd,zAl]
theorem q8 {α:Type} {l:List α} {d:Nat} {v:α} (h:nth l d=some v):l.set d v=l:=by
 rw [zd] at h;apply zBP;intro t;rw [List.getElem?_set'];split
 ·rename_i e;subst e;rw [h];rfl
 ·rfl
def zp (n:Nat) (e:TypeId) (xs:List V):V:=match xs with|[]=>.snil|xs=>.sl n xs (.yes e)
theorem zim {env:List V} {t n:Nat} {e:TypeId} {xs:List V} (h:nth env t=some (zp n e xs)):take env (.tmp t)=some (zp n e xs,env.set t (clr (zp n e xs))):=by
 rw [jQ,h];cases xs with
 | nil =>
  have h':nth env t=some .snil:=h;simp only [zp,zaW,clr_snil];rw [q8 h']
 | cons x xs=>rfl
theorem wc {P:Program} {t e n by':Nat} (h:RowT P t e n by') {H:Hp} {xs ys:List V} {o:Own} (hy:ys≠[]) (hroom:qG (xs.length+ys.length) by'=true):zV P H t (zp n e xs) (.sl n ys o)=some (zp n e (xs++ys)):=by
 have hi:=h.i;cases hi1:P.info? e with
 | none=>rw [hi1] at hi;cases hi
 | some ti =>
  rw [hi1] at hi;simp only [zAT] at hi;cases hz:ti.zero with
  | none=>rw [hz] at hi;cases hi
  | some z =>
   rw [hz] at hi;simp only [zAa,zAA,zAD] at hi;have hn0:Nat.beq n 0=false:=by
    have:=h.n0.1;cases n with
    | zero=>exact absurd rfl this
    | succ n=>rfl
   obtain ⟨y,ys,rfl⟩:∃ y l,ys=y::l:=by
    cases ys with
    | nil=>exact absurd rfl hy
    | cons y l=>exact ⟨y,l,rfl⟩
   simp only [zV,h.u,h.s,hi1,hz,hi.1,jv,Option.bind_eq_bind,zAT,zAu,zAg,zAH,if_false,if_true];cases xs with
   | nil =>
    simp only [zp,zA7];rw [hi.2,hn0];simp only [List.length_nil,zA0,zAj] at hroom;simp [hroom]
   | cons x xs =>
    simp only [zp,zA6];rw [hi.2,hn0];simp only [zAj] at hroom;simp [hroom]
theorem znt {P:Program} {t:TypeId} {x y:Operand} {a b:Nat} (h:a * b<2 ^ 60):zQ P .mul t x y (some (.int .i64 a)) (some (.int .i64 b))=some (.int .i64 ((a * b:Nat):Int)):=by
 rw [zoD,<- Int.natCast_mul,kN (by omega) (by omega)]
theorem zeh {P:Program} {t:TypeId} {x y:Operand} {a b:Nat} (h:a+b<2 ^ 60):zQ P .add t x y (some (.int .i64 a)) (some (.int .i64 b))=some (.int .i64 ((a+b:Nat):Int)):=by
 rw [zda,<- Int.natCast_add,kN (by omega) (by omega)]
theorem znu {P:Program} {t:TypeId} {x y:Operand} {a b:Nat} (h:a<2 ^ 60) (hb:b<=a):zQ P .sub t x y (some (.int .i64 a)) (some (.int .i64 b))=some (.int .i64 ((a - b:Nat):Int)):=by
 rw [zgq,<- Int.natCast_sub hb,kN (by omega) (by omega)]
theorem zin {P:Program} {H:Hp} {t e n:Nat} {xs:List V} (hu:P.underlying t=some (.slice e)):qH P H t (clr (zp n e xs))=some (xs.length:Int):=by
 cases xs with
 | nil=>simp [zp,clr,qH,hu]
 | cons x xs=>simp [zp,clr,qH,hu]
theorem x8 {n:Nat} {e:TypeId} {xs:List V}:clr (clr (zp n e xs))=clr (zp n e xs):=by cases xs<;>rfl
def lkL (n:Nat) (xs:List V):V:=match xs with|[]=>.snil|xs=>.sl n xs .lock
def kR (b off:Nat) (xs:List V):List (Nat×Nat):=match xs with|[]=>[]|_=>[(b,off)]
theorem znv {P:Program} {t:TypeId} {env:List V} {H:Hp} {df:List (V×List V)} {b off n:Nat} {e:TypeId} {xs cs:List V} {ty:TypeId} (ha:qC P t=some false) (hb:H.get b=some (.cells cs ty)) (hn:nth cs off=some (zp n e xs)) :
  x6 P t env H [] df (some (.ptr b off))=some (.val (zp n e xs),⟨env,H.set b (.cells (cs.set off (lkL n xs)) ty),kR b off xs,df⟩):=by
 cases xs with
 | nil =>
  simp only [x6,ha,hb,hn,zp,lkL,kR];have h1:cs.set off .snil=cs:=q8 hn;have h2:H.set b (.cells cs ty)=H:=by
   obtain ⟨bs,es⟩:=H;simp only [Hp.set];rw [q8 hb]
  rw [h1,h2]
 | cons x xs =>
  simp only [x6,ha,hb,hn,zp,lkL,kR];rw [v4 (by simp [V.top])]
theorem zio {b off n:Nat} {xs cs:List V} (h:off<cs.length):kQ (kR b off xs) b off 1 ((cs.set off (lkL n xs)).drop off)=true:=by
 have h2:(cs.set off (lkL n xs)).drop off=lkL n xs::cs.drop (off+1):=by
  rw [List.drop_eq_getElem_cons (by simpa using h)]
  simp [List.drop_set]
 rw [h2];cases xs<;>simp [kQ,lkL,kR,locked]
theorem zkA {n:Nat} {e:TypeId} {xs:List V}:okC (zp n e xs)=true:=by cases xs<;>rfl
theorem zei {n:Nat} {e:TypeId} {xs:List V}:(zp n e xs).laid=[zp n e xs]:=by cases xs<;>rfl
theorem q9 {P:Program} {t:TypeId} {x y:Operand} {k:Nat} (h:k<2 ^ 60):zQ P .add t x y (some (.int .i64 k)) (some (.int .i64 1))=some (.int .i64 ((k+1:Nat):Int)):=by
 rw [zda,kN (by omega) (by omega)];simp
def zrs (env:List V) (t n:Nat) (e:TypeId) (xs:List V):Option (V×List V):=qE env t (some (zp n e xs))
open Classical in
theorem zfz {env:List V} {t n:Nat} {e:TypeId} {xs:List V}:qE env t (some (zp n e xs))=if nth env t=some (zp n e xs) then some (zp n e xs,env.set t (clr (zp n e xs))) else zrs env t n e xs:=by
 split
 ·rename_i h;rw [<- h,<- jQ];exact zim h
 ·rfl
theorem zej {env:List V} {t n:Nat} {e:TypeId} {xs:List V}:qE env t (some (clr (zp n e xs)))=some (clr (zp n e xs),env):=by cases xs<;>rfl
def zkB (want:Bool) (env:List V):Option (Option Tmp)->Option Bool
 | some (some d)=>zcU want (nth env d)
 | _=>none
theorem qS {l:List Oper} {dst:Option Tmp} {op:Op} {type:TypeId} {pos:String} {after:Array Edge} {j:Nat} {want:Bool} {env:List V}:zq l.toArray ⟨dst,op,type,pos,after,some (j,want)⟩ env=zkB want env ((nth l j).map (·.dst)):=by
 have hj:l.toArray[j]?=nth l j:=by rw [zd,List.getElem?_toArray]
 cases hd:nth l j with
 | none =>
  unfold zq;simp only [hj,hd];rfl
 | some o =>
  cases ho:o.dst with
  | none =>
   unfold zq;simp only [hj,hd,zAT,ho];simp only [zAa,ho,zkB]
  | some d =>
   rw [zlz (d:=d) (by rw [hj,hd];exact ho)]
   simp only [zAa,ho,zkB]
theorem wl {want:Bool} {env:List V} {d:Tmp}:zkB want env (some (some d))=zcU want (nth env d):=rfl
theorem wantB_tt:zcU true (some (.bool true))=some true:=rfl
theorem wantB_tf:zcU true (some (.bool false))=some false:=rfl
theorem wantB_ft:zcU false (some (.bool true))=some false:=rfl
theorem wantB_ff:zcU false (some (.bool false))=some true:=rfl
theorem zaK {a b:Prop}:gdQ a b (some true) ↔ a:=Iff.rfl
theorem zaL {a b:Prop}:gdQ a b (some false) ↔ b:=Iff.rfl
theorem zdn {a b:Option V}:zmx a b (some (.bool true))=a:=rfl
theorem zdo {a b:Option V}:zmx a b (some (.bool false))=b:=rfl
theorem zc {B:List Blk} {x:Blk} {es:List (Nat×Nat)}:Hp.push ⟨B,es⟩ x=⟨B++[x],es⟩:=rfl
theorem zb {B ls:List Blk} {x:Blk} {es:List (Nat×Nat)}:Hp.push ⟨B++ls,es⟩ x=⟨B++(ls++[x]),es⟩:=by simp [Hp.push]
theorem ziq {env:List V} {t b o l c:Nat}:qE env t (some (.sr b o l c))=some (.sr b o l c,env):=rfl
end Go.Vm
namespace Go.Vm
open Go
theorem BA:type_of% (And.intro @zku (And.intro @go_os_nil (And.intro @zpR (And.intro @go_on_nil (And.intro @zA (And.intro @go_skip (And.intro @kG (And.intro @qk (And.intro @zdQ (And.intro @zij (And.intro @zfw (And.intro @zhU (And.intro @zik (And.intro @zfv (And.intro @zi9 (And.intro @zee (And.intro @zed (And.intro @yx (And.intro @zc8 (And.intro @yM (And.intro @zdP (And.intro @zap (And.intro @vP (And.intro @wj (And.intro @jd (And.intro @zcj (And.intro @zc9 (And.intro @zkv (And.intro @ne_eq.{1} (And.intro @not_false_eq_true (And.intro @peeks.eq_1 (And.intro @peeks.eq_2 (And.intro @zI (And.intro @peek.eq_1 (And.intro @peek.eq_2 (And.intro @peek.eq_3 (And.intro @peek.eq_4 (And.intro @jQ (And.intro @zdM (And.intro @ofVal.eq_1 (And.intro @ofVal.eq_2 (And.intro @ofVal.eq_3 (And.intro @ofVal.eq_4 (And.intro @ofVal.eq_5 (And.intro @ofVal.eq_6 (And.intro @ofVal.eq_7 (And.intro @ofVal.eq_8 (And.intro @ofVal.eq_9 (And.intro @ofVal.eq_10 (And.intro @ofVal.eq_11 (And.intro @ofVal.eq_12 (And.intro @zcg (And.intro @zdN (And.intro @zfe (And.intro @zff (And.intro @zfy (And.intro @zaW (And.intro @zhP (And.intro @zfz (And.intro @zej (And.intro @yu (And.intro @zdO (And.intro @opQ_val (And.intro @opQ_skip (And.intro @putA.eq_1 (And.intro @putA.eq_2 (And.intro @jt (And.intro @jk (And.intro @kB (And.intro @qV (And.intro @zj2 (And.intro @zky (And.intro @zkz (And.intro @zmD (And.intro @clr_snil (And.intro @vz (And.intro @x8 (And.intro @Option.bind_some.{0,0} (And.intro @Option.map_some.{0,0} (And.intro @derefA.eq_1 (And.intro @derefA.eq_2 (And.intro @derefA.eq_3 (And.intro @derefA.eq_4 (And.intro @derefA.eq_5 (And.intro @derefA.eq_6 (And.intro @derefA.eq_7 (And.intro @derefA.eq_8 (And.intro @vR (And.intro @faddrV.eq_1 (And.intro @faddrV.eq_2 (And.intro @faddrV.eq_3 (And.intro @faddrV.eq_4 (And.intro @faddrV.eq_5 (And.intro @idxV.eq_1 (And.intro @idxV.eq_2 (And.intro @yN (And.intro @callQ.eq_1 (And.intro @callQ.eq_2 (And.intro @List.map_cons.{0,0} (And.intro @List.map_nil.{0,0} (And.intro @true_and (And.intro @List.length_append.{0} (And.intro @List.length_cons.{0} (And.intro @List.length_nil.{0} (And.intro @Nat.zero_add (And.intro @Nat.add_zero (And.intro @Nat.add_assoc (And.intro @List.append_assoc.{0} (And.intro @List.cons_append.{0} (And.intro @List.nil_append.{0} (And.intro @zbO (And.intro @zdl (And.intro @ldChk.eq_1 (And.intro @if_true.{1} (And.intro @zdn (@zdo)))))))))))))))))))))))))))))))))))))))))))))))))))))))))))))))))))))))))))))))))))))))))))))))))))))))))))))))))))):=And.intro @zku (And.intro @go_os_nil (And.intro @zpR (And.intro @go_on_nil (And.intro @zA (And.intro @go_skip (And.intro @kG (And.intro @qk (And.intro @zdQ (And.intro @zij (And.intro @zfw (And.intro @zhU (And.intro @zik (And.intro @zfv (And.intro @zi9 (And.intro @zee (And.intro @zed (And.intro @yx (And.intro @zc8 (And.intro @yM (And.intro @zdP (And.intro @zap (And.intro @vP (And.intro @wj (And.intro @jd (And.intro @zcj (And.intro @zc9 (And.intro @zkv (And.intro @ne_eq.{1} (And.intro @not_false_eq_true (And.intro @peeks.eq_1 (And.intro @peeks.eq_2 (And.intro @zI (And.intro @peek.eq_1 (And.intro @peek.eq_2 (And.intro @peek.eq_3 (And.intro @peek.eq_4 (And.intro @jQ (And.intro @zdM (And.intro @ofVal.eq_1 (And.intro @ofVal.eq_2 (And.intro @ofVal.eq_3 (And.intro @ofVal.eq_4 (And.intro @ofVal.eq_5 (And.intro @ofVal.eq_6 (And.intro @ofVal.eq_7 (And.intro @ofVal.eq_8 (And.intro @ofVal.eq_9 (And.intro @ofVal.eq_10 (And.intro @ofVal.eq_11 (And.intro @ofVal.eq_12 (And.intro @zcg (And.intro @zdN (And.intro @zfe (And.intro @zff (And.intro @zfy (And.intro @zaW (And.intro @zhP (And.intro @zfz (And.intro @zej (And.intro @yu (And.intro @zdO (And.intro @opQ_val (And.intro @opQ_skip (And.intro @putA.eq_1 (And.intro @putA.eq_2 (And.intro @jt (And.intro @jk (And.intro @kB (And.intro @qV (And.intro @zj2 (And.intro @zky (And.intro @zkz (And.intro @zmD (And.intro @clr_snil (And.intro @vz (And.intro @x8 (And.intro @Option.bind_some.{0,0} (And.intro @Option.map_some.{0,0} (And.intro @derefA.eq_1 (And.intro @derefA.eq_2 (And.intro @derefA.eq_3 (And.intro @derefA.eq_4 (And.intro @derefA.eq_5 (And.intro @derefA.eq_6 (And.intro @derefA.eq_7 (And.intro @derefA.eq_8 (And.intro @vR (And.intro @faddrV.eq_1 (And.intro @faddrV.eq_2 (And.intro @faddrV.eq_3 (And.intro @faddrV.eq_4 (And.intro @faddrV.eq_5 (And.intro @idxV.eq_1 (And.intro @idxV.eq_2 (And.intro @yN (And.intro @callQ.eq_1 (And.intro @callQ.eq_2 (And.intro @List.map_cons.{0,0} (And.intro @List.map_nil.{0,0} (And.intro @true_and (And.intro @List.length_append.{0} (And.intro @List.length_cons.{0} (And.intro @List.length_nil.{0} (And.intro @Nat.zero_add (And.intro @Nat.add_zero (And.intro @Nat.add_assoc (And.intro @List.append_assoc.{0} (And.intro @List.cons_append.{0} (And.intro @List.nil_append.{0} (And.intro @zbO (And.intro @zdl (And.intro @ldChk.eq_1 (And.intro @if_true.{1} (And.intro @zdn (@zdo)))))))))))))))))))))))))))))))))))))))))))))))))))))))))))))))))))))))))))))))))))))))))))))))))))))))))))))))))))
end Go.Vm
namespace Go.Vm
open Go
def by8 (p i:Nat):Nat:=p / 2 ^ (8 * i) % 256
theorem wd {p i:Nat}:by8 p i<256:=Nat.mod_lt _ (by decide)
theorem jS {p i j:Nat} (h:j<8):(by8 p i).testBit j=p.testBit (8 * i+j):=by
 have e:(256:Nat)=2 ^ 8:=rfl;rw [by8,e,Nat.testBit_mod_two_pow,Nat.testBit_div_two_pow,decide_eq_true h,zBD,Nat.add_comm]
theorem zek {m p i:Nat} (hm:m<256) (h:∀ j,j<8->m.testBit j=p.testBit (8 * i+j)):m=by8 p i:=by
 apply Nat.eq_of_testBit_eq;intro j
 by_cases hj:j<8
 ·rw [h j hj,jS hj]
 ·have h1:2 ^ 8<=2 ^ j:=Nat.pow_le_pow_right (by decide) (by omega)
  have h2:by8 p i<256:=wd;rw [Nat.testBit_lt_two_pow (by omega),Nat.testBit_lt_two_pow (by omega)]
theorem zel {a b:Nat} (ha:a<256) (hb:b<256):a ||| b<256:=Nat.or_lt_two_pow (n:=8) ha hb
theorem zqA {p q i:Nat}:by8 p i ||| by8 q i=by8 (p ||| q) i :=
 zek (zel wd wd) fun j hj=>by rw [zBZ,zBZ,jS hj,jS hj]
theorem zcx {k:Nat} (h:k<8):2 ^ k<256:=Nat.pow_lt_pow_right (n:=8) (by decide) h
theorem zpa {p n:Nat}:by8 p (n / 8) ||| 2 ^ (n % 8)=by8 (p ||| 2 ^ n) (n / 8) :=
 zek (zel wd (zcx (Nat.mod_lt _ (by decide)))) fun j hj=>by
  rw [zBZ,zBZ,jS hj,zBX,zBX]
  congr 1
  rw [zBU];simp only [decide_eq_true_eq];omega
theorem zjm {p n i:Nat} (h:i≠n / 8):by8 (p ||| 2 ^ n) i=by8 p i :=
 (zek wd fun j hj=>by
  rw [jS hj,zBZ,zBX];have:¬ (n=8 * i+j):=fun e=>h (by omega)
  simp [this]).symm
def byN (m p:Nat):List Nat:=(List.range m).map (by8 p)
def bys (m p:Nat):List V:=(byN m p).map fun b=>.int .u8 (b:Nat)
theorem zpb {m p:Nat}:(byN m p).length=m:=by simp [byN]
theorem v5 {m p:Nat}:(bys m p).length=m:=by simp [bys,zpb]
theorem wm {m p i:Nat} (h:i<m):(bys m p)[i]?=some (.int .u8 (by8 p i:Nat)):=by simp [bys,byN,h]
theorem zgT {m:Nat} {l:List V} {p:Nat} (hl:l.length=m) (h:∀ i,i<m->l[i]?=some (.int .u8 (by8 p i:Nat))):l=bys m p:=by
 apply zBP;intro i
 by_cases hi:i<m
 ·rw [h i hi,wm hi]
 ·rw [zAk (by omega),zAk (by rw [v5];omega)]
theorem zpc {m p n:Nat}:(bys m p).set (n / 8) (.int .u8 (by8 (p ||| 2 ^ n) (n / 8):Nat))=bys m (p ||| 2 ^ n):=by
 refine zgT (by rw [zAF,v5]) fun i hi=>?_
 rw [List.getElem?_set']
 by_cases e:n / 8=i
 ·subst e;simp [wm hi]
 ·simp [e,wm hi,zjm (Ne.symm e)]
theorem znw {m:Nat}:bys m 0=List.replicate m (.int .u8 0):=by
 refine (zgT (by simp) fun i hi=>?_).symm
 simp [by8,hi]
theorem zqB {m p:Nat}:∀ b∈byN m p,b<256:=fun b hb=>by
 obtain ⟨i,_,rfl⟩:=zAo.1 hb;exact wd
theorem zpd {m p q:Nat} (hp:p<2 ^ (8 * m)) (hq:q<2 ^ (8 * m)) (h:byN m p=byN m q):p=q:=by
 apply Nat.eq_of_testBit_eq;intro j
 by_cases hj:j<8 * m
 ·have hi:j / 8<m:=by omega
  have e:(byN m p)[j / 8]?=(byN m q)[j / 8]?:=by rw [h]
  simp only [byN,zAY,zBW hi,zAa,zAA] at e;have h1:=jS (p:=p) (i:=j / 8) (j:=j % 8) (Nat.mod_lt _ (by decide))
  have h2:=jS (p:=q) (i:=j / 8) (j:=j % 8) (Nat.mod_lt _ (by decide))
  rw [show 8 * (j / 8)+j % 8=j by omega] at h1 h2
  rw [<- h1,<- h2,e]
 ·have hx:=Nat.pow_le_pow_right (n:=2) (by decide) (show 8 * m<=j by omega)
  rw [Nat.testBit_lt_two_pow (by omega),Nat.testBit_lt_two_pow (by omega)]
theorem eqL_same:∀ {a b:List Nat},eqL a b=true ↔ a=b
 | [],[]=>by simp [eqL]
 | [],_::_=>by simp [eqL]
 | _::_,[]=>by simp [eqL]
 | x::a,y::b=>by
  simp only [eqL,zAC,eqL_same (a:=a),List.cons.injEq,Nat.beq_eq]
theorem zkC {m p q:Nat} (hp:p<2 ^ (8 * m)) (hq:q<2 ^ (8 * m)):eqL (byN m p) (byN m q)=(p == q):=by
 rw [zBU,eqL_same,beq_iff_eq];exact ⟨zpd hp hq,fun h=>by rw [h]⟩
def xl (w:Nat):List Nat:=(List.range 8).filter fun j=>w.testBit j
def x9 (w:Nat):Nat:=(xl w).headD 8
theorem bits8_step:∀ w:Nat,w<256->w≠0->xl w=x9 w::xl (w &&& (w - 1))/\w &&& (w - 1)<w:=by
 have h:(List.range 256).all (fun w:Nat=>w == 0 || (xl w == x9 w::xl (w &&& (w - 1)) && decide (w &&& (w - 1)<w)))=true:=by decide +kernel
 intro w hw h0;have:=zBH.1 h w (zBi.2 hw);simp only [zAe,beq_iff_eq,zAC,decide_eq_true_eq] at this;rcases this with h|h
 ·exact absurd h h0
 ·exact h
theorem bits8_zero:xl 0=[]:=by decide
def j8 (m p:Nat):List Nat:=(List.range (8 * m)).filter fun j=>p.testBit j
def zfA (p:Nat):Nat->List Nat
 | 0=>[]
 | i+1=>zfA p i++(xl (by8 p i)).map (8 * i + ·)
theorem zkD (p:Nat):∀ m,zfA p m=j8 m p
 | 0=>rfl
 | m+1=>by
  have h:List.range (8 * (m+1))=List.range (8 * m)++(List.range 8).map (8 * m + ·):=by
   rw [show 8 * (m+1)=8 * m+8 by omega,List.range_add]
  rw [zfA,zkD p m,j8,j8,h,List.filter_append,List.filter_map]
  congr 2
  apply List.filter_congr;intro j hj;have hj:=zBi.1 hj;simp only [Function.comp_apply];rw [jS hj]
variable {P:Program} {t:TypeId} {x y:Operand}
theorem zbQ {n:Nat} (h:n<256):IntKind.u8.wrap (n:Int)=n:=by
 simp only [IntKind.wrap,IntKind.bits,IntKind.signed];simp only [zBj,zAH,if_false];omega
theorem xd {n:Nat} (h:n<256):(BitVec.ofInt 8 (n:Int)).toNat=n:=by
 simp [];omega
theorem zkE {a b:Nat} (ha:a<256) (hb:b<256):zQ P .or t x y (some (.int .u8 a)) (some (.int .u8 b))=some (.int .u8 ((a ||| b:Nat):Int)):=by
 have h0:((BitVec.ofInt 8 (a:Int) ||| BitVec.ofInt 8 (b:Int)).toNat)=a ||| b:=by
  rw [BitVec.toNat_or,xd ha,xd hb]
 have h:((BitVec.ofInt IntKind.u8.bits (a:Int) ||| BitVec.ofInt IntKind.u8.bits (b:Int)).toNat)=a ||| b:=h0
 simp only [zQ,zM,ja,ql,if_true];rw [h,zbQ (zel ha hb)]
theorem znx {a b:Nat} (ha:a<256) (hb:b<256):zQ P .and t x y (some (.int .u8 a)) (some (.int .u8 b))=some (.int .u8 ((a &&& b:Nat):Int)):=by
 have h0:((BitVec.ofInt 8 (a:Int) &&& BitVec.ofInt 8 (b:Int)).toNat)=a &&& b:=by
  rw [BitVec.toNat_and,xd ha,xd hb]
 have h:((BitVec.ofInt IntKind.u8.bits (a:Int) &&& BitVec.ofInt IntKind.u8.bits (b:Int)).toNat)=a &&& b:=h0;simp only [zQ,zM,ja,ql,if_true];rw [h,zbQ (Nat.lt_of_le_of_lt Nat.and_le_left ha)]
theorem zny {w:Nat} (h0:w≠0) (h:w<256):zQ P .sub t x y (some (.int .u8 w)) (some (.int .u8 1))=some (.int .u8 ((w - 1:Nat):Int)):=by
 rw [zgq]
 congr 2
 simp only [IntKind.wrap,IntKind.bits,IntKind.signed,zBj,zAH,if_false];omega
theorem zir {k:Nat} (hk:k<2 ^ 60):zQ P .quo t x y (some (.int .i64 k)) (some (.int .i64 8))=some (.int .i64 ((k / 8:Nat):Int)):=by
 have h:(k:Int).tdiv 8=((k / 8:Nat):Int):=by
  rw [Int.tdiv_eq_ediv_of_nonneg (by omega)];omega
 simp only [zQ,zM,ja,ql,if_true];rw [h,kN (by omega) (by omega)]
 rfl
theorem znz {k:Nat}:zQ P .rem t x y (some (.int .i64 k)) (some (.int .i64 8))=some (.int .i64 ((k % 8:Nat):Int)):=by
 have h:(k:Int).tmod 8=((k % 8:Nat):Int):=by
  rw [Int.tmod_eq_emod_of_nonneg (by omega)];omega
 simp only [zQ,zM,ja,ql,if_true];rw [h];rfl
theorem znA {k:Nat} (hk:k<8):zQ P .shl t x y (some (.int .u8 1)) (some (.int .i64 k))=some (.int .u8 ((2 ^ k:Nat):Int)):=by
 have h1:¬ ((k:Int)<0):=by omega
 have h2:min (k:Int).toNat IntKind.u8.bits=k:=by simp [IntKind.bits];omega
 have h3:(1:Int) * 2 ^ k=((2 ^ k:Nat):Int):=by simp
 simp only [zQ,zM,ja,zb2,if_true,h1,if_false,h2];rw [h3,zbQ (zcx hk)]
end Go.Vm
namespace Go.Vm
open Go
variable {cx:Cx}
theorem zlI {ops:Array Oper} {env:List V} {H:Hp} {df:List (V×List V)} {s':St} (hst:zii cx.P cx.uq ops (qb ops) 0 [] ops.toList=true) (hc:cx.opsN ops (qb ops) ops.toList ⟨env,H,[],df⟩=some s'):cx.opsD ops (qb ops) 0 [] [⟨0,H,[],df⟩] ops.toList ⟨env,H,[],df⟩=some (.normal,s') :=
 zeg _ _ _ _ _ _ _ ⟨.nil,fun q hq=>by simp at hq,fun b=>by simp [kA],⟨rfl,rfl,rfl⟩,fun c hc=>by simp at hc,fun c hc=>by simp at hc,fun q hq=>by simp at hq⟩ hst hc
def zpT (cx:Cx) (t:TypeId) (x:Operand) (d:Tmp) (K:St->Prop):St->Prop
 | ⟨env,H,lk,df⟩=>∃ v env' m z,take env x=some (v,env')/\zy cx.P t=some m/\zU cx.P t=some z/\okC z=true/\z.cells.length=m/\okC v=true/\v.laid.length=m/\K ⟨env'.set d (.ptr H.blks.length 0),H.push (.cells v.laid t),lk,df⟩
theorem zpe {n id:Nat} {Q:Ex->St->Prop} {k:List It} {ops:Array Oper} {env:List V} {H:Hp} {lk:List (Nat×Nat)} {df:List (V×List V)} {os:List Oper} {d:Tmp} {t:TypeId} {x:Operand} {tk:List Tmp} (hu:cx.uq lateK=true) (hq:xu ops=some (os,d,t,x)) (htk:qb os.toArray=tk)
  (hkp:qu (zfN tk d) os=true) (hd:d<env.length) (hst:zii cx.P cx.uq os.toArray tk 0 [] os=true)
  (h:go cx n (fun ex s=>ex=.normal/\zpT cx t x d (fun s'=>go cx n Q k .normal s') s) [.on os.toArray tk os] .normal ⟨env.set d .junk,H,[],df⟩):go cx n Q (.c (.region id ops true)::k) .normal ⟨env,H,lk,df⟩:=by
 subst htk;simp only [go] at h ⊢;obtain ⟨⟨env2,H2,lk2,df2⟩,h1,_,v,env',m,z,e1,e2,e3,e4,e5,e6,e7,hK⟩:=h;refine ⟨.normal,_,?_,hK⟩;simp only [Cx.code];refine zk5 hu hq ?_;have hdn:=zlI (cx:=cx) (ops:=os.toArray) hst h1;have hdl:Nat.blt d env.length=true:=by
  show Nat.ble (d+1) env.length=true;rw [Nat.ble_eq];exact hd
 unfold Cx.late;simp only [hq,hkp,hdl,zBL];rw [show os.toArray.toList=os from rfl] at hdn;rw [hdn];have l1:Nat.beq z.cells.length m=true:=by rw [e5];simp
 have l2:Nat.beq v.laid.length m=true:=by rw [e7];simp
 simp only [e1,e2,e3,e4,e6,l1,zBL,zI,fCs_eq,l2,zB]
end Go.Vm
namespace Go.Vm
open Go
variable {cx:Cx} {takes:List Tmp}
theorem zjn {rs:List Rec} {r1 R:Rec} {c0 c1 c1' d c2 e:Cfg} {k:List Cfg->Option (Ex×St)} (e1:c1=c1') (hp:R.hp=true) (ho:∀ q∈rs,q=r1\/(q.hp=false/\(q.free=true\/bit R.m q.idx=true))) (h1:r1.hp=true)
  (hs:qO (Nat.land R.m (chgM rs)) d.D=true) (hr:cx.runC takes R.o R.env d (Nat.lor d.D (Nat.pow 2 R.idx))=some (R.v,c2)) (hb1:bit c1'.D r1.idx=true) (hb2:bit c2.D r1.idx=false)
  (hq:cx.runC takes r1.o r1.env c2 0=some (r1.v,e)) (hf:wN (Nat.lor c2.D (Nat.pow 2 r1.idx)) [c1',c2,c0,d]=some c1') (he:wM e c1'=true) :
  cx.cfgsK takes rs R c0 c1 [d] k=k [c1',c2,c0,d]:=by
 subst e1;have hn1:cx.newOk takes rs (chgM rs) R [c1,c2,c0,d] c1=true:=by
  unfold Cx.newOk;refine kH fun q hq=>?_;split
  ·rfl
  ·rcases ho q hq with rfl|⟨h2,h3⟩
   ·simp [h1,hb1]
   ·rcases h3 with h3|h3<;>simp [h2,h3]
 have hn2:cx.newOk takes rs (chgM rs) R [c1,c2,c0,d] c2=true:=by
  unfold Cx.newOk;refine kH fun q hq'=>?_;split
  ·rfl
  ·rcases ho q hq' with rfl|⟨h2,h3⟩
   ·simp only [h1,hb2,hq,hf,V.same_refl,he,zBL]
   ·rcases h3 with h3|h3<;>simp [h2,h3]
 unfold Cx.cfgsK;rw [hp];simp only [Cx.runAll,hs,hr,V.same_refl,zA6,zA7,qu,hn1,hn2]
end Go.Vm
namespace Go.Vm.Sx
open Go Go.Vm
theorem SA:type_of% (And.intro @zgP (And.intro @zgQ (And.intro @wU (And.intro @y7 (And.intro @ev_esc (And.intro @wV (And.intro @wW (And.intro @y8 (And.intro @ev_opn (And.intro @ev_unt (And.intro @y9 (And.intro @wX (And.intro @wY (And.intro @xc (And.intro @ev_blk (And.intro @wT (And.intro @zgJ (And.intro @zgK (And.intro @wQ (And.intro @zgL (And.intro @zgM (And.intro @zbL (And.intro @kSl (And.intro @zgN (And.intro @zgO (And.intro @ks_nil (And.intro @Bool.and_self (And.intro @Bool.and_true (And.intro @Bool.true_and (And.intro @Bool.and_false (And.intro @Bool.false_and (And.intro @Bool.or_true (And.intro @Bool.true_or (And.intro @Bool.or_false (And.intro @Bool.false_or (And.intro @Bool.not_true (And.intro @Bool.not_false (And.intro @zbJ (And.intro @zbK (And.intro @decide_true (And.intro @decide_false (And.intro @kF (And.intro @wP (And.intro @wZ (And.intro @evB.eq_1 (And.intro @evB.eq_2 (And.intro @evB.eq_3 (And.intro @evB.eq_4 (And.intro @evB.eq_5 (And.intro @evB.eq_6 (And.intro @evB.eq_7 (And.intro @evB.eq_8 (And.intro @evB.eq_9 (And.intro @evB.eq_10 (And.intro @evB.eq_11 (And.intro @evB.eq_12 (And.intro @evB.eq_13 (And.intro @evB.eq_14 (And.intro @evB.eq_15 (And.intro @evI.eq_1 (And.intro @evI.eq_2 (And.intro @evI.eq_3 (And.intro @evI.eq_4 (And.intro @evI.eq_5 (And.intro @evI.eq_6 (And.intro @evI.eq_7 (And.intro @evI.eq_8 (And.intro @evS.eq_1 (And.intro @evS.eq_2 (And.intro @evS.eq_3 (And.intro @evS.eq_4 (And.intro @evS.eq_5 (And.intro @evL.eq_1 (And.intro @evL.eq_2 (And.intro @evL.eq_3 (And.intro @evL.eq_4 (And.intro @evL.eq_5 (And.intro @evL.eq_6 (And.intro @evCs.eq_1 (And.intro @evCs.eq_2 (And.intro @evC.eq_1 (And.intro @evC.eq_2 (And.intro @evC.eq_3 (And.intro @evC.eq_4 (And.intro @evC.eq_5 (And.intro @evC.eq_6 (And.intro @evC.eq_7 (And.intro @evC.eq_8 (And.intro @evC.eq_9 (And.intro @evSC.eq_1 (And.intro @evSC.eq_2 (And.intro @evSCs.eq_1 (And.intro @evSCs.eq_2 (And.intro @evAs.eq_1 (And.intro @evAs.eq_2 (And.intro @evA.eq_1 (And.intro @evA.eq_2 (And.intro @evLent.eq_1 (And.intro @evLent.eq_2 (And.intro @evVE.eq_1 (And.intro @evVE.eq_2 (And.intro @evVE.eq_3 (And.intro @evVE.eq_4 (And.intro @evVE.eq_5 (And.intro @y5 (And.intro @wR (And.intro @y6 (And.intro @zbM (And.intro @vL_nil (And.intro @yW (And.intro @yX (And.intro @yY (And.intro @yZ (And.intro @y0 (And.intro @y4 (And.intro @cmS.eq_1 (And.intro @cmS.eq_2 (And.intro @cmS.eq_3 (And.intro @cmS.eq_4 (And.intro @cmS.eq_5 (And.intro @cmS.eq_6 (And.intro @cmS.eq_7 (And.intro @biI.eq_1 (And.intro @biI.eq_2 (And.intro @biI.eq_3 (And.intro @biI.eq_4 (And.intro @biI.eq_5 (And.intro @biI.eq_6 (And.intro @biI.eq_7 (And.intro @biI.eq_8 (And.intro @biI.eq_9 (And.intro @biI.eq_10 (And.intro @biI.eq_11 (And.intro @biI.eq_12 (And.intro @jR (And.intro @joinL.eq_1 (And.intro @joinL.eq_2 (And.intro @sizesOk.eq_1 (And.intro @sizesOk.eq_2 (And.intro @sizesOk.eq_3 (And.intro @jt (And.intro @jk (And.intro @kB (And.intro @qV (And.intro @vz (And.intro @clr_snil (And.intro @clr_tup (And.intro @clr_nili (And.intro @Nat.beq_refl (And.intro @List.length_cons.{0} (@List.length_nil.{0}))))))))))))))))))))))))))))))))))))))))))))))))))))))))))))))))))))))))))))))))))))))))))))))))))))))))))))))))))))))))))))))))))))))))))))))))))))))):=And.intro @zgP (And.intro @zgQ (And.intro @wU (And.intro @y7 (And.intro @ev_esc (And.intro @wV (And.intro @wW (And.intro @y8 (And.intro @ev_opn (And.intro @ev_unt (And.intro @y9 (And.intro @wX (And.intro @wY (And.intro @xc (And.intro @ev_blk (And.intro @wT (And.intro @zgJ (And.intro @zgK (And.intro @wQ (And.intro @zgL (And.intro @zgM (And.intro @zbL (And.intro @kSl (And.intro @zgN (And.intro @zgO (And.intro @ks_nil (And.intro @Bool.and_self (And.intro @Bool.and_true (And.intro @Bool.true_and (And.intro @Bool.and_false (And.intro @Bool.false_and (And.intro @Bool.or_true (And.intro @Bool.true_or (And.intro @Bool.or_false (And.intro @Bool.false_or (And.intro @Bool.not_true (And.intro @Bool.not_false (And.intro @zbJ (And.intro @zbK (And.intro @decide_true (And.intro @decide_false (And.intro @kF (And.intro @wP (And.intro @wZ (And.intro @evB.eq_1 (And.intro @evB.eq_2 (And.intro @evB.eq_3 (And.intro @evB.eq_4 (And.intro @evB.eq_5 (And.intro @evB.eq_6 (And.intro @evB.eq_7 (And.intro @evB.eq_8 (And.intro @evB.eq_9 (And.intro @evB.eq_10 (And.intro @evB.eq_11 (And.intro @evB.eq_12 (And.intro @evB.eq_13 (And.intro @evB.eq_14 (And.intro @evB.eq_15 (And.intro @evI.eq_1 (And.intro @evI.eq_2 (And.intro @evI.eq_3 (And.intro @evI.eq_4 (And.intro @evI.eq_5 (And.intro @evI.eq_6 (And.intro @evI.eq_7 (And.intro @evI.eq_8 (And.intro @evS.eq_1 (And.intro @evS.eq_2 (And.intro @evS.eq_3 (And.intro @evS.eq_4 (And.intro @evS.eq_5 (And.intro @evL.eq_1 (And.intro @evL.eq_2 (And.intro @evL.eq_3 (And.intro @evL.eq_4 (And.intro @evL.eq_5 (And.intro @evL.eq_6 (And.intro @evCs.eq_1 (And.intro @evCs.eq_2 (And.intro @evC.eq_1 (And.intro @evC.eq_2 (And.intro @evC.eq_3 (And.intro @evC.eq_4 (And.intro @evC.eq_5 (And.intro @evC.eq_6 (And.intro @evC.eq_7 (And.intro @evC.eq_8 (And.intro @evC.eq_9 (And.intro @evSC.eq_1 (And.intro @evSC.eq_2 (And.intro @evSCs.eq_1 (And.intro @evSCs.eq_2 (And.intro @evAs.eq_1 (And.intro @evAs.eq_2 (And.intro @evA.eq_1 (And.intro @evA.eq_2 (And.intro @evLent.eq_1 (And.intro @evLent.eq_2 (And.intro @evVE.eq_1 (And.intro @evVE.eq_2 (And.intro @evVE.eq_3 (And.intro @evVE.eq_4 (And.intro @evVE.eq_5 (And.intro @y5 (And.intro @wR (And.intro @y6 (And.intro @zbM (And.intro @vL_nil (And.intro @yW (And.intro @yX (And.intro @yY (And.intro @yZ (And.intro @y0 (And.intro @y4 (And.intro @cmS.eq_1 (And.intro @cmS.eq_2 (And.intro @cmS.eq_3 (And.intro @cmS.eq_4 (And.intro @cmS.eq_5 (And.intro @cmS.eq_6 (And.intro @cmS.eq_7 (And.intro @biI.eq_1 (And.intro @biI.eq_2 (And.intro @biI.eq_3 (And.intro @biI.eq_4 (And.intro @biI.eq_5 (And.intro @biI.eq_6 (And.intro @biI.eq_7 (And.intro @biI.eq_8 (And.intro @biI.eq_9 (And.intro @biI.eq_10 (And.intro @biI.eq_11 (And.intro @biI.eq_12 (And.intro @jR (And.intro @joinL.eq_1 (And.intro @joinL.eq_2 (And.intro @sizesOk.eq_1 (And.intro @sizesOk.eq_2 (And.intro @sizesOk.eq_3 (And.intro @jt (And.intro @jk (And.intro @kB (And.intro @qV (And.intro @vz (And.intro @clr_snil (And.intro @clr_tup (And.intro @clr_nili (And.intro @Nat.beq_refl (And.intro @List.length_cons.{0} (@List.length_nil.{0}))))))))))))))))))))))))))))))))))))))))))))))))))))))))))))))))))))))))))))))))))))))))))))))))))))))))))))))))))))))))))))))))))))))))))))))))))))))
end Go.Vm.Sx
