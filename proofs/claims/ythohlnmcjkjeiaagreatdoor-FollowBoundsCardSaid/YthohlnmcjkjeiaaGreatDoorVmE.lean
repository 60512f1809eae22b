/- Vm: each operation's equation. Conditions: none but those named. -/
import Derived.Test.YthohlnmcjkjeiaaGreatDoorVmD
set_option linter.defProp false
namespace Go.Vm
open Go
section
variable{cx:Cx}{takes:bP}{P:aM}{gl:Nat->Nat->cP}{dst:fQ}{type:aq}{pos:String}{after:Array Edge}{guard:oq}{env:aA}{H:Hp}{lk:bk}{df:bH}
def gM(env:aA)(H:Hp)(lk:bk)(df:bH):cP->Option (OR×St)
 | some v=>some (.val v,⟨env,H,lk,df⟩)
 | none=>none
def zk{v:V}:gM env H lk df (some v)=some (.val v,⟨env,H,lk,df⟩):=rfl
def v7{x y:cP}:x=y->(match x with|none=>none|some v=>some (OR.val v,(⟨env,H,lk,df⟩:St)))=gM env H lk df y:=by
 rintro rfl;cases x<;>rfl
def vA(env:aA)(t:Nat):cP->Option (V×aA)
 | some (.sl sz xs (.yes e))=>some (.sl sz xs (.yes e),env.set t (.sl sz xs .no))
 | some v=>some (aT v,env)
 | none=>none
def zu{t:Nat}:take env (.tmp t)=vA env t (nth env t):=by
 simp only[take,vA,fB];rfl
def zj{v:aS}:take env (.const v)=(aH v).map (·,env):=rfl
def zt{t:Nat}{k:IntKind}{n:Int}:vA env t (some (.int k n))=some (.int k n,env):=rfl
def zo{t:Nat}{b:Bool}:vA env t (some (.bool b))=some (.bool b,env):=rfl
def zy{t:Nat}{s:aA}:vA env t (some (.agg s))=some (.agg s,env):=rfl
def zE{t b o:Nat}:vA env t (some (.ptr b o))=some (.ptr b o,env):=rfl
def zm{t:Nat}:vA env t (some .aJ)=some (.aJ,env):=rfl
def zP{t sz:Nat}{xs:aA}:vA env t (some (.sl sz xs .no))=some (.sl sz xs .no,env):=rfl
def Y1{t:Nat}:vA env t (some .cV)=some (.cV,env):=rfl
def zgJ{t:Nat}{u:aq}{v:V}:vA env t (some (.fq u v))=some (.fq u v,env):=rfl
def Y2{d:Tmp}{x:aO}(h:takes.any (Nat.beq d)=false):cx.op takes ⟨some d,.move x,type,pos,after,guard⟩ env H lk df=gM env H lk df (aB env x):=by
 simp only[Cx.op,h];exact v7 rfl
def Ra(H:Hp)(lk:bk)(df:bH):Option (V×aA)->Option (OR×St)
 | some (v,env)=>some (.val v,⟨env,H,lk,df⟩)
 | none=>none
def zH{v:V}:Ra H lk df (some (v,env))=some (.val v,⟨env,H,lk,df⟩):=rfl
def zjc{d:Tmp}{x:aO}(h:takes.any (Nat.beq d)=true):cx.op takes ⟨some d,.move x,type,pos,after,guard⟩ env H lk df=Ra H lk df (take env x):=by
 simp only[Cx.op,h];cases take env x<;>rfl
def zq{x:aO}:cx.op takes ⟨dst,.assign x,type,pos,after,guard⟩ env H lk df=Ra H lk df (take env x):=by
 simp only[Cx.op];cases take env x<;>rfl
def Y3(a b:cP):cP->cP
 | some (.bool true)=>a
 | some (.bool false)=>b
 | _=>none
def zZ{c a b:aO}:cx.op takes ⟨dst,.pick c a b,type,pos,after,guard⟩ env H lk df=gM env H lk df (Y3 (aB env a) (aB env b) (aB env c)):=by
 simp only[Cx.op];refine v7 ?_;simp only[jA];cases h:aB env c with
 | none=>rfl
 | some v=>cases v<;>first|rfl|(rename_i t;cases t<;>rfl)
def zO{t:aq}{ps:Array (Nat×aO)}:cx.op takes ⟨dst,.build t ps,type,pos,after,guard⟩ env H lk df=gM env H lk df (wx cx.P t ps env):=by
 simp only[Cx.op];exact v7 rfl
def Rb{d:Tmp}{t:aq}{a:aO}(h:takes.any (Nat.beq d)=false):cx.op takes ⟨some d,.load t a,type,pos,after,guard⟩ env H lk df=gM env H lk df (((aB env a).bind (qJ cx.P H cx.gl t)).map aT):=by
 simp only[Cx.op,h];refine v7 ?_;simp only[jA];cases aB env a with
 | none=>rfl
 | some v=>cases h:qJ cx.P H cx.gl t v<;>simp[h]
def zd{x:aO}:cx.op takes ⟨dst,.nilCheck x,type,pos,after,guard⟩ env H lk df=gM env H lk df ((aB env x).bind aG):=by
 simp only[Cx.op];exact v7 rfl
def jY(P:aM)(op:BinOp)(t:aq)(x y:aO):cP->cP->cP
 | some u,some v=>if kb P op t x y u v then wT P op t u v else none
 | _,_=>none
def zA{o:BinOp}{t u:aq}{x y:aO}:cx.op takes ⟨dst,.binOp o t x y u,type,pos,after,guard⟩ env H lk df=gM env H lk df (jY cx.P o t x y (aB env x) (aB env y)):=by
 simp only[Cx.op];refine v7 ?_;simp only[jA];cases aB env x<;>cases aB env y<;>rfl
def z4{o:UnOp}{t:aq}{x:aO}:cx.op takes ⟨dst,.unOp o t x,type,pos,after,guard⟩ env H lk df=gM env H lk df ((aB env x).bind (FU o)):=by
 simp only[Cx.op];exact v7 rfl
def Y4{P:aM}{a b:aq}{x:aO}{v:V}(hp:aB env x=some v)(hv:∀sz xs o,v≠.sl sz xs o):vJ P a b x env=none:=by
 unfold vJ;split<;>try rfl
 split<;>try rfl
 rename_i ht;exfalso;cases x with
 | tmp t =>
  simp only[take,aB] at ht hp;split at ht
  next hn=>rw[hn] at hp;simp only[aT,aR] at hp;exact hv _ _ _ hp.symm
  next u _ hn=>rw[hn] at hp;simp only[aR,bS] at hp ht;exact hv _ _ _ (hp.symm.trans ht.1)
  ·cases ht
 | _ =>
  simp only[take,hp,bG,aR,bS] at ht;exact hv _ _ _ ht.1
def zqc{P:aM}{a b:aq}{x:aO}(h:P.underlying a≠P.underlying b):vJ P a b x env=none:=by
 unfold vJ;split
 next e0 _=>exact absurd (congrArg P.underlying (gy e0)) h
 ·rfl
def xl{a b:aq}{x:aO}{v:V}(hp:aB env x=some v)(hv:∀b o l c,v≠.sr b o l c)(hm:vJ cx.P a b x env=none):cx.op takes ⟨dst,.convert a b x,type,pos,after,guard⟩ env H lk df=gM env H lk df (vw cx.P a b v):=by
 simp only[Cx.op,hm];cases cx.uq (Km a) with
 | true =>
  simp only[T5,hp,Xv hv];cases vw cx.P a b v<;>rfl
 | false=>exact v7 (by simp[jA,hp])
def zjd{a b:aq}{x:aO}(hu:cx.uq (Km a)=false)(hm:Nat.beq a b=false):cx.op takes ⟨dst,.convert a b x,type,pos,after,guard⟩ env H lk df=gM env H lk df ((aB env x).bind (vw cx.P a b)):=by
 have hk:vJ cx.P a b x env=none:=by
  unfold vJ;rw[hm]
 simp only[Cx.op,hk,hu];exact v7 rfl
def Y5{x:aO}{i:Nat}:cx.op takes ⟨dst,.extract x i,type,pos,after,guard⟩ env H lk df=gM env H lk df ((aB env x).bind λv=>match v with|.bz vs=>(nth vs i).map aT|_=>none):=by
 simp only[Cx.op];refine v7 ?_;simp only[jA];cases aB env x with
 | none=>rfl
 | some v=>cases v<;>first|rfl|(rename_i vs;cases h:nth vs i<;>simp[h])
def qa(off:Nat):V->cP
 | .ptr b o=>some (.ptr b (o+off))
 | .gI g o=>some (.gI g (o+off))
 | .gY b u k=>some (.gY b u (k+off))
 | .vp cs=>some (.vp (cs.drop off))
 | _=>none
def zhN{t:aq}{x:aO}{f:Nat}{fs:Array Field}{fd:Field}{sz:Nat}(h1:cx.P.underlying t=some (.struct fs))(h2:fs[f]?=some fd)(h3:jh cx.P fd.type=some sz)(h4:Nat.beq sz 0=false) :
  cx.op takes ⟨dst,.fieldAddr t x f,type,pos,after,guard⟩ env H lk df=gM env H lk df ((aB env x).bind (qa fd.offset)):=by
 simp only[Cx.op];refine v7 ?_;simp only[jA,h1];have h5:¬sz=0:=Nat.ne_of_beq_eq_false h4;simp[h2,h3,h5];cases aB env x with
 | none=>rfl
 | some v=>cases v<;>rfl
def zn9{t:aq}{x:aO}{f:Nat}{fs:Array Field}{fd:Field}(h1:cx.P.underlying t=some (.struct fs))(h2:fs[f]?=some fd) :
  cx.op takes ⟨dst,.field t x f,type,pos,after,guard⟩ env H lk df=gM env H lk df ((aB env x).bind λv=>match v with|.agg cs=>(wk cx.P fd.type cs fd.offset).map aT|_=>none):=by
 simp only[Cx.op];refine v7 ?_;simp only[jA,h1];simp[h2];cases aB env x with
 | none=>rfl
 | some v=>cases v<;>rfl
def qM(f:V->Int->cP):cP->cP->cP
 | some x,some (.int _ i)=>f x i
 | _,_=>none
def zc{t:aq}{x i:aO}:cx.op takes ⟨dst,.indexAddr t x i,type,pos,after,guard⟩ env H lk df=gM env H lk df (qM (q7 cx.P t) (aB env x) (aB env i)):=by
 simp only[Cx.op];refine v7 ?_;simp only[jA];cases h:aB env i with
 | none=>cases aB env x<;>rfl
 | some v=>cases v<;>cases aB env x<;>rfl
def Y6{t:aq}{x i:aO}:cx.op takes ⟨dst,.index t x i,type,pos,after,guard⟩ env H lk df=gM env H lk df (qM (N8 cx.P t) (aB env x) (aB env i)):=by
 simp only[Cx.op];refine v7 ?_;simp only[jA];cases h:aB env i with
 | none=>cases aB env x<;>rfl
 | some v=>cases v<;>cases aB env x<;>rfl
def US(t:aq)(H:Hp)(lk:bk)(df:bH):Option (V×aA)->Option (OR×St)
 | some (v,env)=>if !fH v then none else some (.val (.ptr H.aj.length 0),⟨env,H.push (.cells v.laid t),lk,df⟩)
 | none=>none
def qf{t:aq}{x:aO}:cx.op takes ⟨dst,.box t x,type,pos,after,guard⟩ env H lk df=US t H lk df (take env x):=by
 simp only[Cx.op,US,qd,ep,jv];cases take env x<;>rfl
def wn{t:aq}{v:V}(h:fH v=true):US t H lk df (some (v,env))=some (.val (.ptr H.aj.length 0),⟨env,H.push (.cells v.laid t),lk,df⟩):=by
 simp[US,h]
def zoa{t:aq}{z:V}(hz:kf cx.P t=some z)(hk:fH z=true):cx.op takes ⟨dst,.alloc t,type,pos,after,guard⟩ env H lk df=some (.val (.ptr H.aj.length 0),⟨env,H.push (.cells z.cells t),lk,df⟩):=by
 simp[Cx.op,hz,hk,qd,jv]
def OE(n:Nat)(H:Hp)(lk:bk)(df:bH):cP->Option (V×aA)->Option (OR×St)
 | some (.ptr b off),some (v,env)=>match H.get b with
  | some (.cells cs ty)=>if fH v && Nat.beq v.laid.length n && Nat.ble (off+n) cs.length && wQ lk b off n (cs.drop off) then some (.skip,⟨env,(H.set b (.cells (storeCells cs off v.laid) ty)).bI b v,lk,df⟩) else none
  | _=>none
 | _,_=>none
def zje{t:aq}{a x:aO}{n:Nat}(hn:jh cx.P t=some n)(sq:∀b u k,aB env a≠some (.gY b u k)):cx.op takes ⟨dst,.store t a x,type,pos,after,guard⟩ env H lk df=OE n H lk df (aB env a) (take env x):=by
 simp only[Cx.op,qd,ep,fj,jU,hn];cases ha:aB env a with
 | none=>rfl
 | some p =>
  cases p<;>try rfl
  case gY b u k=>exact absurd ha (sq b u k)
  rename_i b off;cases take env x with
  | none=>rfl
  | some q =>
   simp only[OE];cases H.get b with
   | none=>rfl
   | some y=>cases y<;>rfl
def qp(lk:bk)(df:bH)(env:aA):Option (OR×Hp)->Option (OR×St)
 | some (r,H)=>some (r,⟨env,H,lk,df⟩)
 | none=>none
def zfq{r:OR}:qp lk df env (some (r,H))=some (r,⟨env,H,lk,df⟩):=rfl
def Y7(cx:Cx)(f:FuncId)(H:Hp)(lk:bk)(df:bH)(env:aA):Option aA->Option (OR×St)
 | some args=>qp lk df env (cx.dZ f (args.map aT) H)
 | none=>none
def zi{f:FuncId}{args:aA}:Y7 cx f H lk df env (some args)=qp lk df env (cx.dZ f (args.map aT) H):=rfl
def zW{f:FuncId}{args:ot}{ts:Array aq}:cx.op takes ⟨dst,.call ⟨.value (.func f),args,ts⟩,type,pos,after,guard⟩ env H lk df=Y7 cx f H lk df env (aL env args.toList):=by
 simp only[Cx.op,aB];cases aL env args.toList with
 | none=>rfl
 | some l=>simp only[Cx.s8,fj,cq,oZ,Y7];cases cx.dZ f (l.map aT) H<;>rfl
def ji{P:aM}{gl:Nat->Nat->cP}{uq:aq->Bool}{call:FuncId->aA->Hp->Option (Out×Hp)}{f:FuncId}{fn:Func}{body:Code}{args:aA}{v:V}{H':Hp}(hf:P.funcs[f]?=some fn)(hb:fn.body=some body)(hc:call f args H=some (.ret v,H')) :
  Cx.dZ ⟨P,gl,call,uq⟩ f args H=some (.val v,H'):=by
 simp only[Cx.dZ,hf,hb,hc,IN]
def Y8(H:Hp)(lk:bk)(df:bH):Option (OR×aA)->Option (OR×St)
 | some (r,env)=>some (r,⟨env,H,lk,df⟩)
 | none=>none
def qc{x:aO}{t:aq}:cx.op takes ⟨dst,.call ⟨.builtin .len,#[x],#[t]⟩,type,pos,after,guard⟩ env H lk df=gM env H lk df (((aB env x).bind (kU cx.P H t)).map (.int .i64)):=by
 simp only[Cx.op,Cx.builtin];cases aB env x with
 | none=>rfl
 | some v=>cases h:kU cx.P H t v<;>simp[h,gM]
def Fz(P:aM)(H:Hp)(t:aq)(lk:bk)(df:bH)(y:cP):Option (V×aA)->Option (OR×St)
 | some (v,env)=>match y.bind (kG P H t v) with
  | some u=>some (.val u,⟨env,H,lk,df⟩)
  | none=>none
 | none=>none
def vC{x y:aO}{t:aq}(hu:sS cx.P cx.uq t=false):cx.op takes ⟨dst,.call ⟨.builtin .append,#[x,y],#[t,t]⟩,type,pos,after,guard⟩ env H lk df=Fz cx.P H t lk df (aB env y) (take env x):=by
 simp only[Cx.op,Cx.builtin,hu,dW,eU,dF,bZ];cases hy:aB env y with
 | none=>cases hx:take env x<;>simp[Fz]
 | some v =>
  cases hx:take env x with
  | none=>simp[Fz]
  | some p =>
   obtain⟨u,e⟩:=p;cases h:kG cx.P H t u v<;>simp[Fz,h]
end
section
variable{P:aM}{gl:Gl}
def Fin(P:aM)(rs:List ResultVar)(n0:Nat)(es:bk)(out:Out)(H':Hp):Ex->St->Prop
 | .normal,⟨env,H,_,df⟩|.ret,⟨env,H,_,df⟩=>df=[]/\∃vs,ja P H env rs=some vs/\out=.ret (iI vs)/\H'=jl n0 es (iI vs).top H
 | .p7 v,⟨_,H,_,df⟩=>df=[]/\out=.p7 v/\H'=jl n0 es v.top H
 | _,_=>False
def yB{n:Nat}{f:FuncId}{fn:Func}{body:Code}{args:aA}{bs:List br}{es:bk}{out:Out}{H':Hp}(hk:gl.hk f args=none)(iA:∀H,gl.iA n f args H=none)(hf:P.funcs[f]?=some fn)(hb:fn.body=some body)
  (h:W ⟨P,gl,qt P gl n,gl.uq⟩ n body ⟨args++List.replicate (fn.ntmps - args.length) (.bz []),⟨bs++[],[]⟩,[],[]⟩ (Fin P fn.results.toList bs.length es out H')):qt P gl (n+1) f args ⟨bs,es⟩=some (out,H'):=by
 obtain⟨ex,⟨env,H,lk,df⟩,h1,h2⟩:=h;rw[oZ] at h1;simp only[qt,hk,iA,hf,hb,jr,fj,h1];cases ex<;>simp only[Fin] at h2
 ·obtain⟨rfl,vs,h3,h4,h5⟩:=h2;simp[Bv,T7,vM,fZ,h3,h4,h5,qd,wy]
 ·obtain⟨rfl,vs,h3,h4,h5⟩:=h2;simp[Bv,T7,vM,fZ,h3,h4,h5,qd,wy]
 ·obtain⟨rfl,h4,h5⟩:=h2;simp[Bv,T7,vM,fZ,h4,h5,wy]
def kg{bs ls:List br}{es:bk}{t:Nat}(ht:t<=bs.length):jl bs.length es t ⟨bs++ls,[]⟩=⟨bs,es⟩:=by
 have:Nat.ble t bs.length=true:=Kj ht;simp[jl,this]
def zR{α:Type}{x:α}{xs:List α}:nth (x::xs) 0=some x:=rfl
def z6{α:Type}{x:α}{xs:List α}{n:Nat}:nth (x::xs) (n+1)=nth xs n:=rfl
end
section
variable{takes:bP}
def v8(takes:bP)(o:Oper):Bool :=
 match o.op with
 | .alloc _|.box ..|.store ..|.makeMap ..|.makeSlice ..|.mapUpdate ..|.insert ..|.range ..|.next ..|.defer _|.panic _=>true
 | .load ..=>match o.dst with
  | some d=>takes.any (Nat.beq d)
  | none=>false
 | .call c=>match c.callee with
  | .builtin .copy=>true
  | .builtin _=>false
  | _=>true
 | _=>false
def OF(o:Oper):Bool :=
 match o.op with
 | .load ..|.lookup ..|.call _=>true
 | _=>false
abbrev mw(gl:Gl):Prop:=Nonempty ((∀e,gl.uq e=false)/\∀n f args H,gl.iA n f args H=none)
def mw.out{gl:Gl}[h:mw gl]:∀e,gl.uq e=false:=h.elim And.left
def mw.Rc{gl:Gl}[h:mw gl]:∀n f args H,gl.iA n f args H=none:=h.elim And.right
def KI{P:aM}{uq:aq->Bool}(hu:∀e,uq e=false)(t:aq):sS P uq t=false:=by
 unfold sS;split
 ·exact hu _
 ·rfl
def OG{P:aM}{uq:aq->Bool}(hu:∀e,uq e=false)(o:Oper):jT P uq takes o=v8 takes o:=by
 obtain⟨dst,op,type,pos,after,guard⟩:=o;cases op<;>try rfl
 case slice t x lo hi mx=>cases mx<;>simp[jT,v8,KI hu]
 case call c =>
  cases hc:c.callee<;>simp[jT,v8,hc];rename_i b;cases b<;>simp;split<;>simp[KI hu]
def zjf{P:aM}{uq:aq->Bool}(hu:∀e,uq e=false)(o:Oper):wM P uq o=OF o:=by
 obtain⟨dst,op,type,pos,after,guard⟩:=o;cases op<;>try rfl
 case slice t x lo hi mx=>cases mx<;>simp[wM,OF,KI hu]
 case convert a b x=>simp[wM,OF,hu]
def xm{α:Type}{f:α->Bool}:∀{l:List α},(∀x∈l,f x=true)->kH f l=true
 | [],_=>rfl
 | y::l,h=>by simp only[kH,h y (eS ..),xm λx hx=>h x (dB _ hx)]
end
section
variable{cx:Cx}{n:Nat}{takes:bP}{P:aM}{gl:Nat->Nat->cP}{dst:fQ}{type:aq}{pos:String}{after:Array Edge}{guard:oq}{env:aA}{H:Hp}{lk:bk}{df:bH}
def jD(P:aM)(t:aq)(f:Nat):Option Nat :=
 match P.underlying t with
 | some (.struct fs)=>match fs[f]? with
  | some fd=>match jh P fd.type with
   | some m=>if Nat.beq m 0 then none else some fd.offset
   | none=>none
  | none=>none
 | _=>none
def KJ(v:cP):Option Nat->cP
 | some off=>v.bind (qa off)
 | none=>none
def ze{v:cP}{off:Nat}:KJ v (some off)=v.bind (qa off):=rfl
def za{t:aq}{x:aO}{f:Nat}:cx.op takes ⟨dst,.fieldAddr t x f,type,pos,after,guard⟩ env H lk df=gM env H lk df (KJ (aB env x) (jD cx.P t f)):=by
 unfold jD;cases h1:cx.P.underlying t with
 | none=>simp[Cx.op,jA,h1,KJ,gM]
 | some d =>
  cases d<;>try (simp[Cx.op,jA,h1,KJ,gM];done)
  rename_i fs;cases h2:fs[f]? with
  | none=>simp[Cx.op,jA,h1,h2,KJ,gM]
  | some fd =>
   cases h3:jh cx.P fd.type with
   | none=>simp[Cx.op,jA,h1,h2,h3,KJ,gM]
   | some m =>
    cases m with
    | zero=>simp[Cx.op,jA,h1,h2,h3,KJ,gM]
    | succ m=>rw[zhN h1 h2 h3 rfl];simp[KJ,h2,h3]
def fieldAt(P:aM)(t:aq)(f:Nat):Option (aq×Nat) :=
 match P.underlying t with
 | some (.struct fs)=>(fs[f]?).map λfd=>(fd.type,fd.offset)
 | _=>none
def OH(P:aM)(v:cP):Option (aq×Nat)->cP
 | some (t,off)=>v.bind λv=>match v with|.agg cs=>(wk P t cs off).map aT|_=>none
 | none=>none
def zjg{v:cP}{t off:Nat}:OH P v (some (t,off))=v.bind λv=>match v with|.agg cs=>(wk P t cs off).map aT|_=>none:=rfl
def zmN{t:aq}{x:aO}{f:Nat}:cx.op takes ⟨dst,.field t x f,type,pos,after,guard⟩ env H lk df=gM env H lk df (OH cx.P (aB env x) (fieldAt cx.P t f)):=by
 unfold fieldAt;cases h1:cx.P.underlying t with
 | none=>simp[Cx.op,jA,h1,OH,gM]
 | some d =>
  cases d<;>try (simp[Cx.op,jA,h1,OH,gM];done)
  rename_i fs;cases h2:fs[f]? with
  | none=>simp[Cx.op,jA,h1,h2,OH,gM]
  | some fd =>
   rw[zn9 h1 h2];simp only[h2,bG,OH]
   try rfl
def OI(cs:aA)(off:Nat):Option Bool->Option Nat->cP
 | some true,some n=>if off+n<=cs.length then some (.agg ((cs.drop off).take n)) else none
 | some false,_=>nth cs off
 | _,_=>none
def wX{t:aq}{cs:aA}{off:Nat}:wk P t cs off=OI cs off (ka P t) (jh P t):=by
 unfold wk;cases ka P t with
 | none=>rfl
 | some b =>
  cases b with
  | false=>simp[OI]
  | true=>cases jh P t<;>simp[OI]
def OJ{cs:aA}{off:Nat}{s:Option Nat}:OI cs off (some false) s=nth cs off:=by cases s<;>rfl
def Rd{cs:aA}{off n:Nat}:OI cs off (some true) (some n)=if off+n<=cs.length then some (.agg ((cs.drop off).take n)) else none:=rfl
def UT(P:aM)(t:aq)(off:Nat):Option br->cP
 | some (.cells cs _)=>wk P t cs off
 | _=>none
def xn{t u:aq}{off:Nat}{cs:aA}:UT P t off (some (.cells cs u))=wk P t cs off:=rfl
def Re{t:aq}{b off:Nat}:qJ P H gl t (.ptr b off)=UT P t off (H.get b):=by
 cases h:H.get b with
 | none=>simp[qJ,h,UT]
 | some x=>cases x<;>simp[qJ,h,UT]
def zoc{t:aq}{cs:aA}:qJ P H gl t (.vp cs)=wk P t cs 0:=rfl
def zrM{c:Code}{s:St}{Q:Ex->St->Prop}(Inv:Nat->St->Prop)(k:Nat)(hk:k<n)(h0:Inv k s)(Gv:∀j s,Inv j s->W cx n c s (Ji (λs'=>∃i,i<j/\Inv i s') Q)):W cx n (.loop c) s Q:=by
 unfold W;simp only[Cx.code];have key:∀(m:Nat)(s:St)(j:Nat),j<m->Inv j s->∃ex s',xK (cx.code n c) m s=some (ex,s')/\Q ex s':=by
  intro m
  induction m with
  | zero=>intro s j h;omega
  | succ m ih =>
   intro s j hj hI;obtain⟨ex,s1,h1,h2⟩:=Gv j s hI;simp only[xK,h1];cases ex with
   | normal =>
    obtain⟨i,hi,Mq⟩:=h2;exact ih s1 i (by omega) Mq
   | _=>exact⟨_,_,rfl,h2⟩
 exact key n s k hk h0
end
section
variable{cx:Cx}{n:Nat}{all:Array Oper}{takes:bP}{dst:fQ}{op:Op}{type:aq}{pos:String}{after:Array Edge}{os:List Oper}{env de bK:aA}{H H1:Hp}{lk eA:bk}{df eZ:bH}{v:V}{Q:Ex->St->Prop}
def zly{P:aM}{t:aq}{x y:aO}{k:IntKind}{a b:Int}:jY P .add t x y (some (.int k a)) (some (.int k b))=some (.int k (k.wrap (a+b))):=by simp[jY,kb,wT,wl]
def UU{P:aM}{t:aq}{x y:aO}{k:IntKind}{a b:Int}:jY P .sub t x y (some (.int k a)) (some (.int k b))=some (.int k (k.wrap (a - b))):=by simp[jY,kb,wT,wl]
def zqe{P:aM}{t:aq}{x y:aO}{k:IntKind}{a b:Int}:jY P .mul t x y (some (.int k a)) (some (.int k b))=some (.int k (k.wrap (a * b))):=by simp[jY,kb,wT,wl]
def yq{P:aM}{t:aq}{x y:aO}{k:IntKind}{a b:Int}:jY P .eql t x y (some (.int k a)) (some (.int k b))=some (.bool (a == b)):=by simp[jY,kb,wR,wT,wl]
def UW{P:aM}{t:aq}{x y:aO}{k:IntKind}{a b:Int}:jY P .neq t x y (some (.int k a)) (some (.int k b))=some (.bool (a != b)):=by simp[jY,kb,wR,wT,wl]
def vU{P:aM}{t:aq}{x y:aO}{k:IntKind}{a b:Int}:jY P .lss t x y (some (.int k a)) (some (.int k b))=some (.bool (a<b)):=by simp[jY,kb,wT,wl]
def UX{P:aM}{t:aq}{x y:aO}{k:IntKind}{a b:Int}:jY P .gtr t x y (some (.int k a)) (some (.int k b))=some (.bool (a > b)):=by simp[jY,kb,wT,wl]
def zI{d:Tmp}{t:aq}{a:aO}{guard:oq}:cx.op [] ⟨some d,.load t a,type,pos,after,guard⟩ env H lk df=gM env H lk df (((aB env a).bind (qJ cx.P H cx.gl t)).map aT):=Rb rfl
def zw{d:Tmp}{x:aO}{guard:oq}:cx.op [] ⟨some d,.move x,type,pos,after,guard⟩ env H lk df=gM env H lk df (aB env x):=Y2 rfl
def zg{k:IntKind}{n:Int}:aT (.int k n)=.int k n:=rfl
def zf{b:Bool}:aT (.bool b)=.bool b:=rfl
def zr{s:bR}:aT (.str s)=.str s:=rfl
def zp{s:aA}:aT (.agg s)=.agg s:=rfl
def qh{s:aA}:aT (.vp s)=.vp s:=rfl
def qw{s:aA}:aT (.bz s)=.bz s:=rfl
def zS{a b:Nat}:aT (.ptr a b)=.ptr a b:=rfl
def zod{a b:Nat}:aT (.gI a b)=.gI a b:=rfl
def ai:aT .aJ=.aJ:=rfl
def aN:aT .cV=.cV:=rfl
def zK{sz:Nat}{xs:aA}{o:Own}:aT (.sl sz xs o)=.sl sz xs .no:=rfl
def zlz{t:aq}{v:V}:aT (.fq t v)=.fq t v:=rfl
def zjh{l:aA}{d:Nat}{v:V}(h:nth l d=some v):l.set d v=l:=by
 rw[zV] at h;apply Dt;intro t;rw[List.getElem?_set'];split
 next e=>subst e;rw[h];rfl
 ·rfl
end
end Go.Vm
namespace Go.Vm.Sx
open Go Go.Vm
section
mutual
inductive TI where
 |var (i:Nat)|lit (n:Int)|bin (op:BinOp) (k:IntKind) (a b:TI)|conv (k:IntKind) (a:TI)|len (l:TL)|tD (s:TS)|byte (s:TS) (i:TI)|ite (c:TB) (a b:TI)
inductive TB where
 |var (i:Nat)|lit (b:Bool)|not (a:TB)|and (a b:TB)|or (a b:TB)|ite (c a b:TB)|beq (a b:TB)|cmp (op:BinOp) (a b:TI)|oB (op:BinOp) (a b:TS)|cV (i:Nat)|tE (i:Nat)|own (i:Nat) (e:aq)|mj (i:Nat)|room (l:TL) (n:Nat)|oH (a b:TS)
inductive TS where
 |var (i:Nat)|lit (l:bR)|cat (a b:TS)|sub (s:TS) (lo hi:TI)|OK (l:TL)
inductive TL where
 |var (i:Nat)|nil|snoc (l:TL) (i:Nat)|cat (a b:TL)|sub (l:TL) (lo hi:TI)|KK (s:TS)
end
inductive C where
 |k (v:V)|v (i:Nat) (cl:Bool)|i (kd:IntKind) (t:TI)|b (t:TB)|s (t:TS)|sl (sz:Nat) (t:TL) (o:Own)|p (a off:Nat)|BL (i:Nat)
inductive SC where
 |one (c:C)|agg (cs:List C)
inductive SV where
 |val (x:SC)|vp (cs:List C)|bz (xs:List SC)|gd (c:TB) (x:SC)|KL|fn (f:Fn) (cs:List C)
inductive CK where
 |raw|any|int (k:IntKind)|bool|str|sl (sz:Nat)|fq
 deriving DecidableEq
inductive VE where
 |sc (x:SC)|app (c:C) (sz:Nat) (e:aq) (l:TL)|slc (i:Nat) (lo hi:TI)|fq (t:aq) (x:SC)|bz (xs:List SC)
inductive AS where
 |d (x:SC)|p (j off:Nat)
inductive AV where
 |d (x:V)|p (j off:Nat)
inductive Tree where
 |out (vs:List C)
 |oR (t:Tree)
 |ite (c:TB) (a b:Tree)
 |ny (c:TB) (t:Tree)
 |dg (e:VE) (t:Tree)
 |elem (l:TL) (i:TI) (t:Tree)
 |Y9 (cs:List C) (i:TI) (t:Tree)
 |uf (i:Nat) (ks:List CK) (t:Tree)
 |MA (i:Nat) (ks:List CK) (t:Tree)
 |gv (i:Nat) (k:CK) (t:Tree)
 |Y_ (l:TL) (t:Tree)
 |MB (g off:Nat) (t:Tree)
 |call (f:FuncId) (args:List AS) (bu:List (List C×aq)) (ks:List CK) (t:Tree)
 |loop (uH:List C) (body:Tree)
 |bM (body t:Tree)
def at'(ρ:aA)(i:Nat):V:=match nth ρ i with|some v=>v|none=>.mU
def vI:V->Int|.int _ n=>n|_=>0
def vB:V->Bool|.bool b=>b|_=>false
def vS:V->bR|.str s=>s|_=>[]
def vL:V->aA|.sl _ xs _=>xs|_=>[]
def fK(op:BinOp)(k:IntKind)(x y:Int):Int :=
 match op with
 | .add=>k.wrap (x+y)
 | .sub=>k.wrap (x - y)
 | .mul=>k.wrap (x * y)
 | .quo=>k.wrap (x.tdiv y)
 | .rem=>x.tmod y
 | .and=>k.wrap ((BitVec.ofInt k.bits x &&& BitVec.ofInt k.bits y).toNat)
 | .or=>k.wrap ((BitVec.ofInt k.bits x ||| BitVec.ofInt k.bits y).toNat)
 | .xor=>k.wrap ((BitVec.ofInt k.bits x ^^^ BitVec.ofInt k.bits y).toNat)
 | .andNot=>k.wrap ((BitVec.ofInt k.bits x &&& ~~~ (BitVec.ofInt k.bits y)).toNat)
 | .shl=>k.wrap (x * 2 ^ (min y.toNat k.bits))
 | .shr=>x.fdiv (2 ^ (min y.toNat k.bits))
 | _=>0
def BM(op:BinOp)(x y:Int):Bool :=
 match op with
 | .eql=>x == y
 | .neq=>x != y
 | .lss=>x<y
 | .leq=>x<=y
 | .gtr=>x > y
 | .geq=>x ≥ y
 | _=>false
def fI(op:BinOp)(x y:bR):Bool :=
 match op with
 | .eql=>rZ x y
 | .neq=>!(rZ x y)
 | .lss=>FR x y
 | .leq=>FR x y || rZ x y
 | .gtr=>!(FR x y || rZ x y)
 | .geq=>!(FR x y)
 | _=>false
def zoe(s:bR)(i:Int):Int:=match nth s i.toNat with|some b=>(b:Int)|none=>0
def tF:V->Bool|.cV=>true|_=>false
def MC:V->Bool|.aJ=>true|_=>false
def UY(e:aq):V->Bool|.aJ=>true|.sl _ _ (.yes e')=>Nat.beq e e'|_=>false
def Jj:V->Bool|.aJ=>true|.sl _ _ (.yes _)=>true|_=>false
mutual
def bL(ρ:aA):TI->Int
 | .var i=>vI (at' ρ i)
 | .lit n=>n
 | .bin op k a b=>fK op k (bL ρ a) (bL ρ b)
 | .conv k a=>k.wrap (bL ρ a)
 | .len l=>((cj ρ l).length:Int)
 | .tD s=>((dH ρ s).length:Int)
 | .byte s i=>zoe (dH ρ s) (bL ρ i)
 | .ite c a b=>bif bt ρ c then bL ρ a else bL ρ b
def bt(ρ:aA):TB->Bool
 | .var i=>vB (at' ρ i)
 | .lit b=>b
 | .not a=>!(bt ρ a)
 | .and a b=>bt ρ a && bt ρ b
 | .or a b=>bt ρ a || bt ρ b
 | .ite c a b=>bif bt ρ c then bt ρ a else bt ρ b
 | .beq a b=>bt ρ a == bt ρ b
 | .cmp op a b=>BM op (bL ρ a) (bL ρ b)
 | .oB op a b=>fI op (dH ρ a) (dH ρ b)
 | .cV i=>tF (at' ρ i)
 | .tE i=>MC (at' ρ i)
 | .own i e=>UY e (at' ρ i)
 | .mj i=>Jj (at' ρ i)
 | .room l n=>kr (cj ρ l).length n
 | .oH a b=>Nat.ble ((dH ρ a).length+(dH ρ b).length) 140737488355328
def dH(ρ:aA):TS->bR
 | .var i=>vS (at' ρ i)
 | .lit l=>l
 | .cat a b=>dH ρ a++dH ρ b
 | .sub s lo hi=>((dH ρ s).take (bL ρ hi).toNat).drop (bL ρ lo).toNat
 | .OK l=>match l_ (cj ρ l) with|some s=>s|none=>[]
def cj(ρ:aA):TL->aA
 | .var i=>vL (at' ρ i)
 | .nil=>[]
 | .snoc l i=>cj ρ l++[at' ρ i]
 | .cat a b=>cj ρ a++cj ρ b
 | .sub l lo hi=>((cj ρ l).take (bL ρ hi).toNat).drop (bL ρ lo).toNat
 | .KK s=>(dH ρ s).map λ(b:Nat)=>.int .u8 b
end
def pd(pa:bR)(a:Nat):Nat:=match nth pa a with|some b=>b|none=>0
def w_:V->V|.sl sz xs _=>.sl sz xs .lock|v=>v
def bB(ρ:aA)(pa:bR):C->V
 | .k v=>v
 | .v i true=>aT (at' ρ i)
 | .v i false=>at' ρ i
 | .i k t=>.int k (bL ρ t)
 | .b t=>.bool (bt ρ t)
 | .s t=>.str (dH ρ t)
 | .sl sz t o=>.sl sz (cj ρ t) o
 | .p a off=>.ptr (pd pa a) off
 | .BL i=>w_ (at' ρ i)
def qk(ρ:aA)(pa:bR):List C->aA
 | []=>[]
 | c::cs=>bB ρ pa c::qk ρ pa cs
def qq(ρ:aA)(pa:bR):SC->V
 | .one c=>bB ρ pa c
 | .agg cs=>.agg (qk ρ pa cs)
def q0(ρ:aA)(pa:bR):List SC->aA
 | []=>[]
 | c::cs=>qq ρ pa c::q0 ρ pa cs
def kK(ρ:aA)(pa:bR):SV->cP
 | .val x=>some (qq ρ pa x)
 | .vp cs=>some (.vp (qk ρ pa cs))
 | .bz xs=>some (.bz (q0 ρ pa xs))
 | .gd c x=>some (bif bt ρ c then qq ρ pa x else .bz [])
 | .KL=>none
 | .fn f cs=>some (.fn f [] (qk ρ pa cs))
def fh:CK->V->Bool
 | .raw,_=>true
 | .any,v=>oJ v && !(locked v)
 | .int k,.int k' _=>if k=k' then true else false
 | .bool,.bool _=>true
 | .str,.str _=>true
 | .sl _,.aJ=>true
 | .sl sz,.sl mc xs o=>Nat.beq sz mc && !(locked (.sl mc xs o))
 | .fq,.cV=>true
 | .fq,.fq _ _=>true
 | _,_=>false
def lB:List CK->aA->Bool
 | [],[]=>true
 | k::ks,v::vs=>fh k v && lB ks vs
 | _,_=>false
def Ih(v:V)(sz:Nat)(e:aq)(ys:aA):V :=
 match v with
 | .aJ=>match ys with
  | []=>.aJ
  | ys=>.sl sz ys (.yes e)
 | .sl _ xs _=>.sl sz (xs++ys) (.yes e)
 | _=>.mU
def Za(v:V)(lo hi:Int):V :=
 match v with
 | .aJ=>.aJ
 | .sl sz xs _=>.sl sz ((xs.take hi.toNat).drop lo.toNat) .no
 | _=>.mU
def jp(ρ:aA):VE->V
 | .sc x=>qq ρ [] x
 | .app c sz e l=>Ih (bB ρ [] c) sz e (cj ρ l)
 | .slc i lo hi=>Za (at' ρ i) (bL ρ lo) (bL ρ hi)
 | .fq t x=>.fq t (qq ρ [] x)
 | .bz xs=>.bz (q0 ρ [] xs)
def FA{α:Type}(step:α->Option (Nat×α)):Nat->α->Option (Nat×α)
 | 0,_=>none
 | n+1,a=>match step a with
  | none=>none
  | some (0,a)=>FA step n a
  | some (j+1,a)=>some (j,a)
def fF(ρ:aA):AS->AV
 | .d x=>.d (qq ρ [] x)
 | .p j off=>.p j off
def jq(ρ:aA):List AS->List AV
 | []=>[]
 | x::xs=>fF ρ x::jq ρ xs
def qK(ρ:aA):List (List C×aq)->List (aA×aq)
 | []=>[]
 | (cs,t)::r=>(qk ρ [] cs,t)::qK ρ r
def aV:List aA->aA
 | []=>[]
 | l::r=>l++aV r
def aP:List (List C×aq)->List aA->Bool
 | [],[]=>true
 | (cs,_)::r,l::ls=>Nat.beq cs.length l.length && aP r ls
 | _,_=>false
def cw(pc:FuncId->List AV->List (aA×aq)->Option (V×List aA))(gl:Nat->Nat->cP)(N:Nat):Tree->aA->Option (Nat×aA)
 | .out vs,ρ=>some (0,qk ρ [] vs)
 | .oR t,ρ=>match cw pc gl N t ρ with
  | some (j,vs)=>some (j+1,vs)
  | none=>none
 | .ite c a b,ρ=>bif bt ρ c then cw pc gl N a ρ else cw pc gl N b ρ
 | .ny c t,ρ=>bif bt ρ c then cw pc gl N t ρ else none
 | .dg e t,ρ=>cw pc gl N t (ρ++[jp ρ e])
 | .elem l i t,ρ=>if bL ρ i<0 then none else match nth (cj ρ l) (bL ρ i).toNat with
  | some v=>cw pc gl N t (ρ++[v])
  | none=>none
 | .Y9 cs i t,ρ=>if bL ρ i<0 then none else match nth (qk ρ [] cs) (bL ρ i).toNat with
  | some v=>cw pc gl N t (ρ++[v])
  | none=>none
 | .uf i ks t,ρ=>match at' ρ i with
  | .agg cs=>bif lB ks cs then cw pc gl N t (ρ++cs) else none
  | _=>none
 | .MA i ks t,ρ=>match at' ρ i with
  | .bz cs=>bif lB ks cs then cw pc gl N t (ρ++cs) else none
  | _=>none
 | .gv i k t,ρ=>bif fh k (at' ρ i) then cw pc gl N t ρ else none
 | .Y_ l t,ρ=>match l_ (cj ρ l) with
  | some s=>cw pc gl N t (ρ++[.str s])
  | none=>none
 | .MB g off t,ρ=>match gl g off with
  | some v=>cw pc gl N t (ρ++[v])
  | none=>none
 | .call f args bu ks t,ρ=>match pc f (jq ρ args) (qK ρ bu) with
  | some (v,out)=>bif aP bu out && lB ks (aV out) then cw pc gl N t (ρ++(v::aV out)) else none
  | none=>none
 | .loop uH body,ρ=>FA (λvs=>cw pc gl N body (ρ++vs)) N (qk ρ [] uH)
 | .bM body t,ρ=>match cw pc gl N body ρ with
  | some (0,vs)=>cw pc gl N t (ρ++vs)
  | some (j+1,vs)=>some (j,vs)
  | none=>none
mutual
def ug:TI->TI->Bool
 | .var i,.var j=>Nat.beq i j
 | .lit a,.lit b=>a == b
 | .bin op k a b,.bin Cv k' a' b'=>(if op=Cv then true else false) && (if k=k' then true else false) && ug a a' && ug b b'
 | .conv k a,.conv k' a'=>(if k=k' then true else false) && ug a a'
 | .len a,.len a'=>CT a a'
 | .tD a,.tD a'=>CU a a'
 | .byte a b,.byte a' b'=>CU a a' && ug b b'
 | .ite c a b,.ite c' a' b'=>nt c c' && ug a a' && ug b b'
 | _,_=>false
def nt:TB->TB->Bool
 | .var i,.var j=>Nat.beq i j
 | .lit a,.lit b=>a == b
 | .not a,.not b=>nt a b
 | .and a b,.and a' b'=>nt a a' && nt b b'
 | .or a b,.or a' b'=>nt a a' && nt b b'
 | .beq a b,.beq a' b'=>nt a a' && nt b b'
 | .ite c a b,.ite c' a' b'=>nt c c' && nt a a' && nt b b'
 | .cmp op a b,.cmp Cv a' b'=>(if op=Cv then true else false) && ug a a' && ug b b'
 | .oB op a b,.oB Cv a' b'=>(if op=Cv then true else false) && CU a a' && CU b b'
 | .cV i,.cV j=>Nat.beq i j
 | .tE i,.tE j=>Nat.beq i j
 | _,_=>false
def CU:TS->TS->Bool
 | .var i,.var j=>Nat.beq i j
 | .lit a,.lit b=>rZ a b
 | .cat a b,.cat a' b'=>CU a a' && CU b b'
 | .sub a b c,.sub a' b' c'=>CU a a' && ug b b' && ug c c'
 | .OK a,.OK b=>CT a b
 | _,_=>false
def CT:TL->TL->Bool
 | .var i,.var j=>Nat.beq i j
 | .nil,.nil=>true
 | .snoc a i,.snoc b j=>CT a b && Nat.beq i j
 | .cat a b,.cat a' b'=>CT a a' && CT b b'
 | .sub a b c,.sub a' b' c'=>CT a a' && ug b b' && ug c c'
 | .KK a,.KK b=>CU a b
 | _,_=>false
end
def OL:C->C->Bool
 | .k v,.k w=>V.same v w
 | .v i a,.v j b=>Nat.beq i j && (a == b)
 | .i k t,.i k' t'=>(if k=k' then true else false) && ug t t'
 | .b t,.b t'=>nt t t'
 | .s t,.s t'=>CU t t'
 | .sl a t o,.sl a' t' o'=>Nat.beq a a' && CT t t' && (if o=o' then true else false)
 | .p a b,.p a' b'=>Nat.beq a a' && Nat.beq b b'
 | .BL i,.BL j=>Nat.beq i j
 | _,_=>false
mutual
def uI(m:Nat):TI->Bool
 | .var i=>Nat.blt i m
 | .lit _=>true
 | .bin _ _ a b=>uI m a && uI m b
 | .conv _ a=>uI m a
 | .len l=>DP m l
 | .tD s=>Cw m s
 | .byte s i=>Cw m s && uI m i
 | .ite c a b=>rC m c && uI m a && uI m b
def rC(m:Nat):TB->Bool
 | .var i=>Nat.blt i m
 | .lit _=>true
 | .not a=>rC m a
 | .and a b=>rC m a && rC m b
 | .or a b=>rC m a && rC m b
 | .beq a b=>rC m a && rC m b
 | .ite c a b=>rC m c && rC m a && rC m b
 | .cmp _ a b=>uI m a && uI m b
 | .oB _ a b=>Cw m a && Cw m b
 | .cV i=>Nat.blt i m
 | .tE i=>Nat.blt i m
 | .own i _=>Nat.blt i m
 | .mj i=>Nat.blt i m
 | .room l _=>DP m l
 | .oH a b=>Cw m a && Cw m b
def Cw(m:Nat):TS->Bool
 | .var i=>Nat.blt i m
 | .lit _=>true
 | .cat a b=>Cw m a && Cw m b
 | .sub s a b=>Cw m s && uI m a && uI m b
 | .OK l=>DP m l
def DP(m:Nat):TL->Bool
 | .var i=>Nat.blt i m
 | .nil=>true
 | .snoc l i=>DP m l && Nat.blt i m
 | .cat a b=>DP m a && DP m b
 | .sub l a b=>DP m l && uI m a && uI m b
 | .KK s=>Cw m s
end
def UZ(m:Nat):C->Bool
 | .k _=>true
 | .v i _=>Nat.blt i m
 | .i _ t=>uI m t
 | .b t=>rC m t
 | .s t=>Cw m t
 | .sl _ t _=>DP m t
 | .p _ _=>true
 | .BL i=>Nat.blt i m
end
structure Sg where
 env:List SV
 aj:List (Nat×List C×aq)
 na:Nat
 ks:List CK
 lk:bk
 as:List TB
 nf:Nat
def jV(takes:bP):fQ->Bool
 | some d=>takes.any (Nat.beq d)
 | none=>false
def xo{α:Type}(f:α->Bool):List α->Bool
 | []=>false
 | x::xs=>match f x with|true=>true|false=>xo f xs
def CV(as:List TB):TB->Option Bool
 | .lit b=>some b
 | .not a=>match CV as a with
  | some b=>some (!b)
  | none=>if xo (nt (.not a)) as then some true else none
 | .and a b=>match CV as a,CV as b with
  | some true,some true=>some true
  | some false,_=>some false
  | _,some false=>some false
  | _,_=>if xo (nt (.and a b)) as then some true else if xo (nt (.not (.and a b))) as then some false else none
 | t=>if xo (nt t) as then some true else if xo (nt (.not t)) as then some false else none
def mkNot:TB->TB|.lit b=>.lit !b|.not a=>a|t=>.not t
def nS:TB->List TB->List TB
 | .and a b,as=>.and a b::nS a (nS b as)
 | .not (.or a b),as=>.not (.or a b)::mkNot a::mkNot b::as
 | t,as=>t::as
def nT:List TB->List TB->List TB
 | as,[]=>as
 | as,.not (.and a b)::r=>match CV as a,CV as b with
  | some true,none=>nT (mkNot b::as) r
  | none,some true=>nT (mkNot a::as) r
  | _,_=>nT as r
 | as,_::r=>nT as r
def xP(t:TB)(as:List TB):List TB:=nT (nS t as) (nS t as)
def Gw(a b:TB):TB :=
 match a with
 | .lit true=>b
 | .lit false=>.lit false
 | _=>match b with
  | .lit true=>a
  | .lit false=>.lit false
  | _=>.and a b
def Rf(a b:TB):TB :=
 match a with
 | .lit true=>.lit true
 | .lit false=>b
 | _=>match b with
  | .lit true=>.lit true
  | .lit false=>a
  | _=>.or a b
def Zb(c a b:TB):TB :=
 match nt c a with
 | true=>Rf c b
 | false=>match nt c b with
  | true=>Gw c a
  | false=>match a,b with
   | .lit true,b=>Rf c b
   | a,.lit false=>Gw c a
   | .lit false,b=>Gw (mkNot c) b
   | a,.lit true=>Rf (mkNot c) a
   | a,b=>.ite c a b
def pR:SV:=.val (.one (.k (.bz [])))
def Gx:C->C
 | .sl sz t _=>.sl sz t .no
 | .v i _=>.v i true
 | .BL i=>.v i true
 | .k v=>.k (aT v)
 | c=>c
def mL:SC->SC|.one c=>.one (Gx c)|.agg cs=>.agg cs
def Gy:SV->SV|.val x=>.val (mL x)|x=>x
def cC:V->C
 | .int k n=>.i k (.lit n)
 | .bool b=>.b (.lit b)
 | .str s=>.s (.lit s)
 | v=>.k v
def OM:aA->List C
 | []=>[]
 | v::vs=>cC v::OM vs
def Rg:V->SC
 | .agg cs=>.agg (OM cs)
 | v=>.one (cC v)
def U0(as:List TB):SV->Option SV
 | .gd c x=>match CV as c with
  | some true=>some (.val x)
  | some false=>some pR
  | none=>none
 | .KL=>none
 | sv=>some sv
def slot(σ:Sg)(t:Tmp):Option SV :=
 match nth σ.env t with
 | some sv=>U0 σ.as sv
 | none=>none
def pk(σ:Sg):aO->Option SV
 | .tmp t=>match slot σ t with
  | some sv=>some (Gy sv)
  | none=>none
 | .const v=>match aH v with
  | some v=>some (.val (Rg v))
  | none=>none
 | _=>none
def Bh(σ:Sg)(x:aO):Option C :=
 match pk σ x with
 | some (.val (.one c))=>some c
 | _=>none
def DQ(ks:List CK):C->Option (IntKind×TI)
 | .i k t=>some (k,t)
 | .v i _=>match nth ks i with
  | some (.int k)=>some (k,.var i)
  | _=>none
 | .k (.int k n)=>some (k,.lit n)
 | _=>none
def EK(ks:List CK):C->Option TB
 | .b t=>some t
 | .v i _=>match nth ks i with
  | some .bool=>some (.var i)
  | _=>none
 | .k (.bool b)=>some (.lit b)
 | _=>none
def DS(ks:List CK):C->Option TS
 | .s t=>some t
 | .v i _=>match nth ks i with
  | some .str=>some (.var i)
  | _=>none
 | .k (.str l)=>some (.lit l)
 | _=>none
def Jk(ks:List CK)(sz:Nat):C->Option TL
 | .sl mc t _=>if Nat.beq sz mc then some t else none
 | .v i _=>match nth ks i with
  | some (.sl mc)=>if Nat.beq sz mc then some (.var i) else none
  | _=>none
 | .k .aJ=>some .nil
 | _=>none
def AD(σ:Sg)(x:aO):Option (IntKind×TI):=match Bh σ x with|some c=>DQ σ.ks c|none=>none
def Rh(σ:Sg)(x:aO):Option TB:=match Bh σ x with|some c=>EK σ.ks c|none=>none
def Ri(σ:Sg)(x:aO):Option TS:=match Bh σ x with|some c=>DS σ.ks c|none=>none
def Gz(P:aM)(t:aq)(cs:List C)(off:Nat):Option SC :=
 match ka P t with
 | some true=>match jh P t with
  | some n=>if off+n<=cs.length then some (.agg ((cs.drop off).take n)) else none
  | none=>none
 | some false=>match nth cs off with
  | some c=>some (.one c)
  | none=>none
 | none=>none
def kN(a:Nat):List (Nat×List C×aq)->Option (List C×aq)
 | []=>none
 | (b,x)::r=>if Nat.beq a b then some x else kN a r
def GA(a:Nat)(cs:List C):List (Nat×List C×aq)->List (Nat×List C×aq)
 | []=>[]
 | (b,x,t)::r=>if Nat.beq a b then (b,cs,t)::r else (b,x,t)::GA a cs r
def x_:BinOp->Bool
 | .eql|.neq|.lss|.leq|.gtr|.geq=>true
 | _=>false
def GB:BinOp->Bool
 | .add|.sub|.mul|.and|.or|.xor|.andNot=>true
 | _=>false
def Zc(ks:List CK)(ds:TypeDesc)(x y:C):Option TB :=
 match ds with
 | .bool=>match EK ks x,EK ks y with
  | some a,some b=>some (.beq a b)
  | _,_=>none
 | .int _=>match DQ ks x,DQ ks y with
  | some (k,a),some (k',b)=>if k=k' then some (.cmp .eql a b) else none
  | _,_=>none
 | .string=>match DS ks x,DS ks y with
  | some a,some b=>some (.oB .eql a b)
  | _,_=>none
 | _=>none
def U1(P:aM)(eq:aq->SC->SC->Option TB):List Field->List C->List C->Option TB
 | [],_,_=>some (.lit true)
 | f::fs,xs,ys =>
  if f.name= "_" then none else
  match Gz P f.type xs f.offset,Gz P f.type ys f.offset with
  | some a,some b=>match eq f.type a b,U1 P eq fs xs ys with
   | some t,some r=>some (Gw t r)
   | _,_=>none
  | _,_=>none
def U2(P:aM)(eq:aq->SC->SC->Option TB)(e:aq)(n:Nat)(xs ys:List C):Nat->Nat->Option TB
 | _,0=>some (.lit true)
 | i,k+1 =>
  match Gz P e xs (i * n),Gz P e ys (i * n) with
  | some a,some b=>match eq e a b,U2 P eq e n xs ys (i+1) k with
   | some t,some r=>some (Gw t r)
   | _,_=>none
  | _,_=>none
def Rj(P:aM)(ks:List CK):Nat->aq->SC->SC->Option TB
 | 0,_,_,_=>none
 | d+1,t,x,y=>match P.underlying t with
  | none=>none
  | some ds=>match x,y with
   | .agg xs,.agg ys=>match ds with
    | .struct fs=>if P.stoodInHeld t then none else U1 P (Rj P ks d) fs.toList xs ys
    | .array len e=>match jh P e with
     | some n=>U2 P (Rj P ks d) e n xs ys 0 len
     | none=>none
    | _=>none
   | .one x,.one y=>Zc ks ds x y
   | _,_=>none
def U3(P:aM)(σ:Sg)(t:aq)(x y:aO)(u v:SV):Option TB :=
 match u,v with
 | .val (.agg a),.val (.agg b)=>if P.eqGuardType P.depth t then none else Rj P σ.ks 100 t (.agg a) (.agg b)
 | .val (.one a),.val (.one b) =>
  match DQ σ.ks a,DQ σ.ks b with
  | some (k,a),some (k',b)=>if k=k' then some (.cmp .eql a b) else none
  | _,_=>match DS σ.ks a,DS σ.ks b with
   | some a,some b=>some (.oB .eql a b)
   | _,_=>match P.underlying t with
    | some .bool=>match EK σ.ks a,EK σ.ks b with
     | some a,some b=>some (.beq a b)
     | _,_=>none
    | some (.interface _)=>match a,b with
     | .v i _,.k .cV=>match nth σ.ks i,isConst y with
      | some .fq,true=>some (.cV i)
      | _,_=>none
     | .k .cV,.v i _=>match nth σ.ks i,isConst x with
      | some .fq,true=>some (.cV i)
      | _,_=>none
     | .k .cV,.k .cV=>if isConst x || isConst y then some (.lit true) else none
     | _,_=>none
    | some (.pointer _)=>match a,b with
     | .p _ _,.k .ef=>some (.lit false)
     | .k .ef,.p _ _=>some (.lit false)
     | .k .ef,.k .ef=>some (.lit true)
     | _,_=>none
    | _=>none
 | _,_=>none
def Zd(P:aM)(σ:Sg)(op:BinOp)(t:aq)(x y:aO):Option SV :=
 match pk σ x,pk σ y with
 | some u,some v =>
  match op with
  | .eql=>match U3 P σ t x y u v with
   | some b=>some (.val (.one (.b b)))
   | none=>none
  | .neq=>match U3 P σ t x y u v with
   | some b=>some (.val (.one (.b (mkNot b))))
   | none=>none
  | _=>match u,v with
   | .val (.one a),.val (.one b)=>match DQ σ.ks a,DQ σ.ks b with
    | some (k,a),some (k',b)=>match GB op,x_ op,(if k=k' then true else false) with
     | true,_,true=>some (.val (.one (.i k (.bin op k a b))))
     | _,true,true=>some (.val (.one (.b (.cmp op a b))))
     | _,_,_=>none
    | _,_=>match DS σ.ks a,DS σ.ks b with
     | some a,some b=>if x_ op then some (.val (.one (.b (.oB op a b)))) else none
     | _,_=>none
   | _,_=>none
 | _,_=>none
def U4(P:aM)(t:aq):Option CK :=
 match P.underlying t with
 | some (.int k)=>some (.int k)
 | some .bool=>some .bool
 | some .string=>some .str
 | some (.slice e)=>match jh P e with
  | some n=>some (.sl n)
  | none=>none
 | some (.interface _)=>some .fq
 | some _=>some .any
 | none=>none
def Rk:Nat->List CK->List CK
 | 0,_=>[]
 | n+1,l=>l++Rk n l
def zrk(lay:aq->Option (List CK)):List Field->Option (List CK)
 | []=>some []
 | f::fs=>match lay f.type,zrk lay fs with
  | some a,some b=>some (a++b)
  | _,_=>none
def ON(P:aM):Nat->aq->Option (List CK)
 | 0,_=>none
 | d+1,t=>match P.underlying t with
  | some (.struct fs)=>zrk (ON P d) fs.toList
  | some (.array n e)=>match ON P d e with
   | some l=>some (Rk n l)
   | none=>none
  | _=>match U4 P t with
   | some k=>some [k]
   | none=>none
def lits:List CK->Nat->List C
 | [],_=>[]
 | _::ks,i=>.v i false::lits ks (i+1)
def Jl(P:aM)(σ:Sg)(t:aq)(i:Nat)(k:Sg->SC->Option Tree):Option Tree :=
 match ka P t with
 | some true=>match ON P 20 t with
  | some ks=>match k { σ with ks:=σ.ks++ks } (.agg (lits ks σ.ks.length)) with
   | some t=>some (.uf i ks t)
   | none=>none
  | none=>none
 | some false=>match U4 P t with
  | some ck=>match k { σ with ks:=σ.ks.set i ck } (.one (.v i false)) with
   | some t=>some (.gv i ck t)
   | none=>none
  | none=>none
 | none=>none
def h_:SC->List C|.one c=>[c]|.agg cs=>cs
def DT:List C->List C
 | []=>[]
 | c::cs=>Gx c::DT cs
def iY:SC->List C|.one c=>[c]|.agg cs=>DT cs
def GC(ks:List CK):C->Bool
 | .k v=>Nat.beq v.top 0 && !(locked v)
 | .v i _=>match nth ks i with|some .any=>true|some (.int _)=>true|some .bool=>true|some .str=>true|some (.sl _)=>true|some .fq=>true|_=>false
 | .i _ _|.b _|.s _=>true
 | .sl _ _ .lock=>false
 | .sl _ _ _=>true
 | _=>false
def ye(ks:List CK):List C->Bool
 | []=>true
 | c::cs=>GC ks c && ye ks cs
def MD(ks:List CK):SC->Bool
 | .one c=>GC ks c
 | .agg cs=>ye ks cs
def U5(ks:List CK):List SC->Bool
 | []=>true
 | c::cs=>MD ks c && U5 ks cs
def Ze(ks:List CK):C->Bool
 | .k v=>oJ v
 | .v i _=>match nth ks i with|some .any=>true|some (.int _)=>true|some .bool=>true|some .str=>true|some (.sl _)=>true|some .fq=>true|_=>false
 | .BL _=>false
 | _=>true
def OO(ks:List CK):SC->Bool
 | .one c=>Ze ks c
 | .agg _=>true
def Rl(σ:Sg)(cells:List C)(place:Nat->Option (Nat×Nat)):List (Nat×aO)->Option (List C)
 | []=>some cells
 | (i,x)::r=>match pk σ x,place i with
  | some (.val v),some (off,n)=>if OO σ.ks v && Nat.beq (h_ v).length n && Nat.ble (off+n) cells.length then Rl σ (storeCells cells off (h_ v)) place r else none
  | _,_=>none
def Zf(P:aM)(σ:Sg)(t:aq)(parts:List (Nat×aO)):Option (List C) :=
 match kf P t with
 | some (.agg z)=>match P.underlying t with
  | some (.struct fs)=>match P5 P fs with
   | some ps=>Rl σ (OM z) (nth ps) parts
   | none=>none
  | some (.array _ e)=>match P.info? e with
   | some ie=>Rl σ (OM z) (λi=>some (i * ie.size,ie.size)) parts
   | none=>none
  | _=>none
 | _=>none
def KM(P:aM)(σ:Sg)(o:Op):Option SV :=
 match o with
 | .move x=>pk σ x
 | .pick c a b=>match Rh σ c with
  | none=>none
  | some t=>match CV σ.as t with
   | some true=>pk σ a
   | some false=>pk σ b
   | none=>match Bh { σ with as:=xP t σ.as } a,Bh { σ with as:=xP (mkNot t) σ.as } b with
    | some a,some b=>match EK σ.ks a,EK σ.ks b with
     | some a,some b=>some (.val (.one (.b (Zb t a b))))
     | _,_=>match DQ σ.ks a,DQ σ.ks b with
      | some (k,a),some (k',b)=>if k=k' then some (.val (.one (.i k (.ite t a b)))) else none
      | _,_=>none
    | _,_=>none
 | .build t parts=>match Zf P σ t parts.toList with
  | some cs=>some (.val (.agg cs))
  | none=>none
 | .load t a=>match pk σ a with
  | some (.vp cs)=>match Gz P t cs 0 with
   | some x=>some (.val (mL x))
   | none=>none
  | some (.val (.one (.p a off)))=>match kN a σ.aj with
   | some (cs,_)=>match Gz P t cs off with
    | some x=>some (.val (mL x))
    | none=>none
   | none=>none
  | _=>none
 | .nilCheck x=>match pk σ x with
  | some (.vp cs)=>some (.vp cs)
  | some (.val (.one (.p a off)))=>some (.val (.one (.p a off)))
  | _=>none
 | .binOp op t x y _=>Zd P σ op t x y
 | .unOp op _ x=>match op,Bh σ x with
  | .neg,some c=>match DQ σ.ks c with
   | some (k,t)=>some (.val (.one (.i k (.bin .sub k (.lit 0) t))))
   | none=>none
  | .not,some c=>match EK σ.ks c with
   | some t=>some (.val (.one (.b (mkNot t))))
   | none=>none
  | _,_=>none
 | .convert a b x=>match P.underlying a,P.underlying b,Bh σ x with
  | some _,some (.int k),some c=>match DQ σ.ks c with
   | some (_,t)=>some (.val (.one (.i k (.conv k t))))
   | none=>none
  | some .string,some .string,some c=>match DS σ.ks c with
   | some t=>some (.val (.one (.s t)))
   | none=>none
  | some .string,some (.slice e),some c=>match P.underlying e,DS σ.ks c with
   | some (.int .u8),some t=>some (.val (.one (.sl 1 (.KK t) .no)))
   | _,_=>none
  | _,_,_=>none
 | .fieldAddr t x f=>match jD P t f,pk σ x with
  | some off,some (.vp cs)=>some (.vp (cs.drop off))
  | some off,some (.val (.one (.p a o)))=>some (.val (.one (.p a (o+off))))
  | _,_=>none
 | .field t x f=>match fieldAt P t f,pk σ x with
  | some (ft,off),some (.val (.agg cs))=>match Gz P ft cs off with
   | some x=>some (.val (mL x))
   | none=>none
  | _,_=>none
 | .indexAddr t x ix=>match P.underlying t,AD σ ix with
  | some (.array len e),some (_,.lit (.ofNat i))=>match jh P e,pk σ x with
   | some n,some (.vp cs)=>if Nat.blt i len then some (.vp (cs.drop (i * n))) else none
   | some n,some (.val (.one (.p a off)))=>if Nat.blt i len then some (.val (.one (.p a (off+i * n)))) else none
   | _,_=>none
  | _,_=>none
 | .index t x ix=>match P.underlying t,AD σ ix with
  | some (.array len e),some (_,.lit (.ofNat i))=>match jh P e,pk σ x with
   | some n,some (.val (.agg cs))=>if Nat.blt i len then (match Gz P e cs (i * n) with
    | some x=>some (.val (mL x))
    | none=>none) else none
   | _,_=>none
  | _,_=>none
 | .extract x i=>match pk σ x with
  | some (.bz xs)=>match nth xs i with
   | some x=>some (.val (mL x))
   | none=>none
  | _=>none
 | .call c=>match c.callee,c.args.toList,c.argTypes.toList with
  | .builtin .len,[x],[t]=>match P.underlying t,Bh σ x with
   | some .string,some c=>match DS σ.ks c with
    | some s=>some (.val (.one (.i .i64 (.tD s))))
    | none=>none
   | some (.slice e),some c=>match jh P e with
    | some n=>match Jk σ.ks n c with
     | some l=>some (.val (.one (.i .i64 (.len l))))
     | none=>none
    | none=>none
   | _,_=>none
  | .builtin .min,[x,y],_=>match AD σ x,AD σ y with
   | some (k,a),some (k',b)=>if k=k' then some (.val (.one (.i k (.ite (.cmp .lss b a) b a)))) else none
   | _,_=>none
  | .builtin .max,[x,y],_=>match AD σ x,AD σ y with
   | some (k,a),some (k',b)=>if k=k' then some (.val (.one (.i k (.ite (.cmp .gtr b a) b a)))) else none
   | _,_=>none
  | _,_,_=>none
 | _=>none
abbrev KT:=Sg->SV->Option Tree
def yP(c:TB)(t:Option Tree):Option Tree :=
 match c with
 | .lit true=>t
 | c=>match t with
  | some t=>some (.ny c t)
  | none=>none
def OP(e:VE)(t:Option Tree):Option Tree:=match t with|some t=>some (.dg e t)|none=>none
def Jm:SC->Bool|.one (.k (.sl _ _ _))=>false|_=>true
def xQ(σ:Sg)(x:aO)(k:Sg->SC->Option Tree):Option Tree :=
 match x with
 | .tmp t=>match slot σ t with
  | some (.val (.one (.sl sz l (.yes e))))=>k { σ with env:=σ.env.set t (.val (.one (.sl sz l .no))) } (.one (.sl sz l (.yes e)))
  | some (.val (.one (.v i false)))=>match GC σ.ks (.v i false) with
   | true=>k { σ with env:=σ.env.set t (.val (.one (.v i true))) } (.one (.v i false))
   | false=>none
  | some (.val x)=>match Jm x with
   | true=>k σ (mL x)
   | false=>none
  | _=>none
 | x=>match pk σ x with
  | some (.val x)=>k σ x
  | _=>none
def xR(σ:Sg)(cs:List C)(t:aq):Sg:={ σ with aj:=(σ.na,cs,t)::σ.aj,na:=σ.na+1 }
def U6(ks:List CK):C->Bool
 | .k v=>!(locked v)
 | .sl _ _ .lock=>false
 | .BL _=>false
 | .v i _=>GC ks (.v i false)
 | _=>true
def U7(ks:List CK):List C->Bool
 | []=>true
 | c::cs=>U6 ks c && U7 ks cs
def Rm(lk:bk)(ks:List CK)(b:Nat):Nat->Nat->List C->Bool
 | _,0,_=>true
 | _,_,[]=>false
 | off,n+1,c::cs=>(xo (λp=>Nat.beq p.1 b && Nat.beq p.2 off) lk || U6 ks c) && Rm lk ks b (off+1) n cs
def OQ(x y:TL):TL :=
 match y with
 | .nil=>x
 | .snoc .nil i=>.snoc x i
 | y=>.cat x y
def CW:TL->Bool|.snoc _ _=>true|_=>false
def Zg(P:aM)(σ:Sg)(t:aq)(x y:aO)(k:KT):Option Tree :=
 match P.underlying t with
 | some (.slice e)=>match jh P e,P.info? e,Bh σ y with
  | some n,some i,some yc=>match i.zero,Jk σ.ks n yc with
   | some z,some l=>if !Nat.beq z.cells.size n || Nat.beq n 0 then none else
    xQ σ x λσ x=>match x with
     | .one (.k .aJ)=>match CW l with
      | true=>yP (.room l i.bytes) (k σ (.val (.one (.sl n l (.yes e)))))
      | false=>yP (.room l i.bytes) (OP (.app (.k .aJ) n e l) (k { σ with ks:=σ.ks++[.sl n] } (.val (.one (.v σ.ks.length false)))))
     | .one (.sl sz xs (.yes e'))=>if Nat.beq e e' && Nat.beq n sz then yP (.room (OQ xs l) i.bytes) (k σ (.val (.one (.sl n (OQ xs l) (.yes e))))) else none
     | .one (.v j false)=>match nth σ.ks j with
      | some (.sl sz)=>if Nat.beq n sz then yP (.own j e) (yP (.room (OQ (.var j) l) i.bytes) (match CW l with
        | true=>k σ (.val (.one (.sl n (OQ (.var j) l) (.yes e))))
        | false=>OP (.app (.v j false) n e l) (k { σ with ks:=σ.ks++[.sl n] } (.val (.one (.v σ.ks.length false)))))) else none
      | _=>none
     | _=>none
   | _,_=>none
  | _,_,_=>none
 | _=>none
def U8(σ:Sg)(n:Nat)(k:Sg->TL->Option Tree):Nat->TL->List (Nat×aO)->Option Tree
 | _,l,[]=>k σ l
 | j,l,(i,x)::r=>match pk σ x with
  | some (.val v)=>if Nat.beq i j && OO σ.ks v && MD σ.ks v && Nat.beq (h_ v).length n then
    OP (.sc v) (U8 { σ with ks:=σ.ks++[.raw] } n k (j+1) (.snoc l σ.ks.length) r)
   else none
  | _=>none
def ME(a:Nat):bR->Option Nat
 | []=>none
 | b::r=>match Nat.beq a b with
  | true=>some 0
  | false=>match ME a r with
   | some i=>some (i+1)
   | none=>none
def MF(σ:Sg):bR->List aO->Option (List AS×bR)
 | ns,[]=>some ([],ns)
 | ns,x::xs=>match pk σ x with
  | some (.val (.one (.p a off)))=>match ME a ns with
   | some j=>match MF σ ns xs with
    | some (vs,ns)=>some (.p j off::vs,ns)
    | none=>none
   | none=>match MF σ (ns++[a]) xs with
    | some (vs,ns')=>some (.p ns.length off::vs,ns')
    | none=>none
  | some (.val v)=>match MD σ.ks v,MF σ ns xs with
   | true,some (vs,ns)=>some (.d v::vs,ns)
   | _,_=>none
  | _=>none
def Rn(ks:List CK):C->CK
 | .k .cV=>.fq|.k .ef=>.any|.k (.sl n _ _)=>.sl n|.k _=>.any
 | .v i _=>match nth ks i with|some k=>k|none=>.raw
 | .i k _=>.int k
 | .b _=>.bool
 | .s _=>.str
 | .sl n _ _=>.sl n
 | _=>.any
def OS(σ:Sg):bR->Option (List (List C×aq))
 | []=>some []
 | a::r=>match kN a σ.aj,OS σ r with
  | some (cs,t),some l=>if ye σ.ks cs then some ((cs,t)::l) else none
  | _,_=>none
def OT(σ:Sg):bR->List SV->Option (List AS×bR)
 | ns,[]=>some ([],ns)
 | ns,x::xs=>match x with
  | .val (.one (.p a off))=>match ME a ns with
   | some j=>match OT σ ns xs with
    | some (vs,ns)=>some (.p j off::vs,ns)
    | none=>none
   | none=>match OT σ (ns++[a]) xs with
    | some (vs,ns')=>some (.p ns.length off::vs,ns')
    | none=>none
  | .val v=>match MD σ.ks v,OT σ ns xs with
   | true,some (vs,ns)=>some (.d v::vs,ns)
   | _,_=>none
  | _=>none
def U9(σ:Sg):List aO->Option (List SV)
 | []=>some []
 | x::xs=>match pk σ x,U9 σ xs with
  | some v,some vs=>some (v::vs)
  | _,_=>none
def Ro(σ:Sg):List aO->Option (List C)
 | []=>some []
 | x::xs=>match Bh σ x,Ro σ xs with
  | some (.p a off),some cs=>some (.p a off::cs)
  | _,_=>none
def yL(ks:List CK):List (List C×aq)->List CK
 | []=>[]
 | (cs,_)::r=>cs.map (Rn ks)++yL ks r
def y_:bR->List (List C×aq)->Nat->List (Nat×List C×aq)->List (Nat×List C×aq)
 | a::ns,(cs,_)::r,i,bs=>y_ ns r (i+cs.length) (GA a (lits (cs.map λ_=>.raw) i) bs)
 | _,_,_,bs=>bs
def U_(P:aM):List aq->Option (List CK)
 | []=>some []
 | t::ts=>match ka P t,U_ P ts with
  | some true,some r=>some (.raw::r)
  | some false,some r=>match U4 P t with
   | some k=>some (k::r)
   | none=>none
  | _,_=>none
def Rp(P:aM)(k:Sg->List SC->Option Tree):Sg->List aq->Nat->List SC->Option Tree
 | σ,[],_,acc=>k σ acc
 | σ,t::ts,i,acc=>match ka P t with
  | some true=>match ON P 20 t with
   | some ks=>match Rp P k { σ with ks:=σ.ks++ks } ts (i+1) (acc++[.agg (lits ks σ.ks.length)]) with
    | some t=>some (.uf i ks t)
    | none=>none
   | none=>none
  | some false=>Rp P k σ ts (i+1) (acc++[.one (.v i false)])
  | none=>none
def Va(P:aM)(σ:Sg)(i:Nat)(k:KT):List aq->Option Tree
 | []=>k σ (.val (.one (.v i false)))
 | [t]=>Jl P σ t i λσ x=>k σ (.val x)
 | ts=>match U_ P ts with
  | some ks=>match Rp P (λσ xs=>k σ (.bz xs)) { σ with ks:=σ.ks++ks } ts σ.ks.length [] with
   | some t=>some (.MA i ks t)
   | none=>none
  | none=>none
def Vb(P:aM)(σ:Sg)(f:FuncId)(args:List aO)(k:KT):Option Tree :=
 match P.funcs[f]?,MF σ [] args with
 | some fn,some (vs,ns)=>match fn.body,OS σ ns with
  | some _,some bu=>match Va P { σ with ks:=σ.ks++(CK.raw::yL σ.ks bu),aj:=y_ ns bu (σ.ks.length+1) σ.aj } σ.ks.length k fn.resultTypes.toList with
   | some t=>some (.call f vs bu (yL σ.ks bu) t)
   | none=>none
  | _,_=>none
 | _,_=>none
def Jn:List C->Bool
 | []=>true
 | .p _ _::cs=>Jn cs
 | _=>false
def Zh(P:aM)(σ:Sg)(x:aO)(args:List aO)(k:KT):Option Tree :=
 match pk σ x,U9 σ args with
 | some (.fn (.func f) cs),some lJ=>if !(Jn cs) then none else match P.funcs[f]?,OT σ [] (lJ++cs.map λc=>.val (.one c)) with
  | some fn,some (vs,ns)=>match fn.body,OS σ ns with
   | some _,some bu=>match Va P { σ with ks:=σ.ks++(CK.raw::yL σ.ks bu),aj:=y_ ns bu (σ.ks.length+1) σ.aj } σ.ks.length k fn.resultTypes.toList with
    | some t=>some (.call f vs bu (yL σ.ks bu) t)
    | none=>none
   | _,_=>none
  | _,_=>none
 | _,_=>none
def MG(c:TB)(a b:Option Tree):Option Tree:=match a,b with|some a,some b=>some (.ite c a b)|_,_=>none
def zrl(σ:Sg)(e:VE)(ck:CK)(k:KT):Option Tree:=OP e (k { σ with ks:=σ.ks++[ck] } (.val (.one (.v σ.ks.length false))))
def Zi(P:aM)(σ:Sg)(e:aq)(l:TL)(i:TI)(k:Sg->SC->Option Tree):Option Tree :=
 match Jl P { σ with ks:=σ.ks++[.raw] } e σ.ks.length k with
 | some t=>some (.elem l i t)
 | none=>none
def Zj(P:aM)(σ:Sg)(e:aq)(cs:List C)(i:TI)(k:Sg->SC->Option Tree):Option Tree :=
 match Jl P { σ with ks:=σ.ks++[.raw] } e σ.ks.length k with
 | some t=>some (.Y9 cs i t)
 | none=>none
def OU(i:TI)(f:Nat->SV)(k:KT):Sg->Nat->Nat->Option Tree
 | _,_,0=>some (.ny (.lit false) (.out []))
 | σ,j,n+1=>match CV σ.as (.cmp .eql i (.lit (.ofNat j))) with
  | some true=>k σ (f j)
  | some false=>OU i f k σ (j+1) n
  | none=>MG (.cmp .eql i (.lit (.ofNat j))) (k { σ with as:=xP (.cmp .eql i (.lit (.ofNat j))) σ.as } (f j)) (OU i f k { σ with as:=xP (mkNot (.cmp .eql i (.lit (.ofNat j)))) σ.as } (j+1) n)
def Ii(σ:Sg)(x:Option aO)(d:TI):Option TI :=
 match x with
 | none=>some d
 | some x=>match AD σ x with
  | some (_,t)=>some t
  | none=>none
def yQ(P:aM)(σ:Sg)(o:Op)(k:KT):Option Tree :=
 match KM P σ o with
 | some v=>k σ v
 | none=>none
def Zk(σ:Sg):aO->Option (Fn×List C)
 | .tmp t=>match slot σ t with
  | some (.fn f cs)=>some (f,cs)
  | _=>none
 | _=>none
def iZ(P:aM)(takes:bP)(σ:Sg)(o:Oper)(k:KT):Option Tree :=
 let taken:=jV takes o.dst
 match o.op with
 | .move x=>match taken with
  | true=>xQ σ x λσ x=>k σ (.val x)
  | false=>yQ P σ o.op k
 | .assign x=>match Zk σ x with
  | some (f,cs)=>k σ (.fn f cs)
  | none=>xQ σ x λσ x=>k σ (.val x)
 | .pick c a b=>match KM P σ o.op with
  | some v=>k σ v
  | none=>match Rh σ c,pk σ a,pk σ b with
   | some t,some a,some b=>MG t (k σ a) (k σ b)
   | _,_,_=>none
 | .load t a=>match taken with
  | true=>match ka P t,pk σ a with
   | some false,some (.val (.one (.p a off)))=>match kN a σ.aj with
    | some (cs,_)=>match nth cs off with
     | some (.k .aJ)=>k σ (.val (.one (.k .aJ)))
     | some (.sl sz l (.yes e))=>k { σ with aj:=GA a (cs.set off (.sl sz l .lock)) σ.aj,lk:=(a,off)::σ.lk } (.val (.one (.sl sz l (.yes e))))
     | some (.v i false)=>match nth σ.ks i with
      | some (.sl _)=>yP (.mj i) (k { σ with aj:=GA a (cs.set off (.BL i)) σ.aj,lk:=(a,off)::σ.lk } (.val (.one (.v i false))))
      | _=>none
     | _=>none
    | none=>none
   | _,_=>none
  | false=>match a with
   | .global g=>match ka P t with
    | some false=>match Jl P { σ with ks:=σ.ks++[.raw] } t σ.ks.length λσ x=>k σ (.val (mL x)) with
     | some t=>some (.MB g 0 t)
     | none=>none
    | _=>none
   | _=>yQ P σ o.op k
 | .alloc t=>match kf P t with
  | some z=>if fH z then k (xR σ (h_ (Rg z)) t) (.val (.one (.p σ.na 0))) else none
  | none=>none
 | .box t x=>xQ σ x λσ x=>if OO σ.ks x then k (xR σ (iY x) t) (.val (.one (.p σ.na 0))) else none
 | .store t a x=>match Bh σ a with
  | some (.p a off)=>xQ σ x λσ x=>match jh P t,kN a σ.aj with
   | some n,some (cs,_) =>
    if (Nat.ble σ.nf a || ye σ.ks (iY x)) && U7 σ.ks (iY x) && OO σ.ks x && Nat.beq (iY x).length n && Nat.ble (off+n) cs.length && Rm σ.lk σ.ks a off n (cs.drop off) then
     k { σ with aj:=GA a (storeCells cs off (iY x)) σ.aj } pR
    else none
   | _,_=>none
  | _=>none
 | .binOp op _t x y _=>match op with
  | .quo|.rem=>match AD σ x,AD σ y with
   | some (kd,a),some (KN,b)=>if kd=KN then yP (match b with|.lit (.ofNat (_+1))=>.lit true|b=>.not (.cmp .eql b (.lit 0))) (k σ (.val (.one (.i kd (.bin op kd a b))))) else none
   | _,_=>none
  | .shl|.shr=>match AD σ x,AD σ y with
   | some (kd,a),some (_,b)=>yP (match b with|.lit (.ofNat _)=>.lit true|b=>.cmp .geq b (.lit 0)) (k σ (.val (.one (.i kd (.bin op kd a b)))))
   | _,_=>none
  | .add=>match Ri σ x,Ri σ y with
   | some a,some b=>yP (.oH a b) (k σ (.val (.one (.s (.cat a b)))))
   | _,_=>yQ P σ o.op k
  | _=>yQ P σ o.op k
 | .convert a b x=>match P.underlying a,P.underlying b,Bh σ x with
  | some (.slice e),some .string,some c=>match P.underlying e,Jk σ.ks 1 c with
   | some (.int .u8),some l=>match CT l .nil with
    | true=>k σ (.val (.one (.s (.lit []))))
    | false=>match k { σ with ks:=σ.ks++[.str] } (.val (.one (.s (.var σ.ks.length)))) with
     | some t=>some (.Y_ l t)
     | none=>none
   | _,_=>none
  | _,_,_=>yQ P σ o.op k
 | .indexAddr t x ix=>match P.underlying t,AD σ ix with
  | some (.slice e),some (_,i)=>match jh P e,Bh σ x with
   | some n,some c=>match Jk σ.ks n c with
    | some l=>Zi P σ e l i λσ x=>k σ (.vp (h_ x))
    | none=>none
   | _,_=>none
  | some (.array len e),some (_,i)=>match KM P σ o.op with
   | some v=>k σ v
   | none=>match jh P e,pk σ x with
    | some n,some (.vp cs)=>if Nat.ble len 16 then OU i (λj=>.vp (cs.drop (j * n))) k σ 0 len else none
    | some n,some (.val (.one (.p a off)))=>if Nat.ble len 16 then OU i (λj=>.val (.one (.p a (off+j * n)))) k σ 0 len else none
    | _,_=>none
  | _,_=>none
 | .index t x ix=>match P.underlying t,AD σ ix with
  | some .string,some (_,i)=>match Ri σ x with
   | some s=>yP (.and (.cmp .geq i (.lit 0)) (.cmp .lss i (.tD s))) (k σ (.val (.one (.i .u8 (.byte s i)))))
   | none=>none
  | some (.array len e),some (_,i)=>match KM P σ o.op with
   | some v=>k σ v
   | none=>match jh P e,ka P e,pk σ x with
    | some 1,some false,some (.val (.agg cs))=>if Nat.ble len cs.length && ye σ.ks (cs.take len) then Zj P σ e (cs.take len) i λσ x=>k σ (.val (mL x)) else none
    | _,_,_=>none
  | _,_=>none
 | .slice t x lo hi mx=>if mx.isSome || xX takes x lo hi then none else match P.underlying t,Bh σ x with
  | some .string,some c=>match DS σ.ks c with
   | some s=>match Ii σ lo (.lit 0),Ii σ hi (.tD s) with
    | some l,some h=>yP (Gw (.cmp .leq (.lit 0) l) (.and (.cmp .leq l h) (.cmp .leq h (.tD s)))) (k σ (.val (.one (.s (.sub s l h)))))
    | _,_=>none
   | none=>none
  | some (.slice e),some c=>match jh P e with
   | some n=>match Jk σ.ks n c with
    | some xs=>match Ii σ lo (.lit 0),Ii σ hi (.len xs) with
     | some l,some h=>yP (Gw (.cmp .leq (.lit 0) l) (.and (.cmp .leq l h) (.cmp .leq h (.len xs)))) (match c with
      | .sl sz _ _=>k σ (.val (.one (.sl sz (.sub xs l h) .no)))
      | .v i _=>zrl σ (.slc i l h) (.sl n) k
      | .k .aJ=>k σ (.val (.one (.k .aJ)))
      | _=>none)
     | _,_=>none
    | none=>none
   | none=>none
  | _,_=>none
 | .buildSlice t len parts=>match P.underlying t with
  | some (.slice e)=>match jh P e,kf P e with
   | some n,some z=>if Nat.beq n 0 || Nat.blt 16777216 (len * n) || !Nat.beq z.cells.length n || !fH z || !Nat.beq parts.toList.length len then none else
    U8 σ n (λσ l=>k σ (.val (.one (.sl n l (.yes e))))) 0 .nil parts.toList
   | _,_=>none
  | _=>none
 | .makeInterface t x=>match pk σ x with
  | some (.val v)=>if P6 P t || !(MD σ.ks v) then none else zrl σ (.fq t v) .fq k
  | _=>none
 | .call c=>match c.callee,c.args.toList,c.argTypes.toList with
  | .builtin .append,[x,y],[t,u]=>if Nat.beq t u then Zg P σ t x y k else none
  | .builtin _,_,_=>yQ P σ o.op k
  | .value (.func f),args,_=>Vb P σ f args k
  | .value (.tmp t),args,_=>Zh P σ (.tmp t) args k
  | _,_,_=>none
 | .makeFunc f first cap=>match first.toList,Ro σ cap.toList with
  | [],some cs=>k σ (.fn f cs)
  | _,_=>none
 | _=>yQ P σ o.op k
def mM(σ:Sg)(dst:fQ)(v:SV):Sg :=
 match dst with
 | some d=>{ σ with env:=σ.env.set d v }
 | none=>σ
inductive Gd where
 |yes|no|sym (c:TB)
def Vc(as:List TB)(t:TB):Option Gd :=
 match CV as t with
 | some true=>some .yes
 | some false=>some .no
 | none=>some (.sym t)
def OV(want:Bool)(t:TB):TB:=match want with|true=>t|false=>mkNot t
def Vd(σ:Sg)(all:Array Oper)(o:Oper):Option Gd :=
 match o.guard with
 | none=>some .yes
 | some (j,want)=>match (all[j]?).bind (·.dst) with
  | none=>none
  | some d=>match nth σ.env d with
   | some (.val (.one (.k (.bz _))))=>some .no
   | some (.val (.one c))=>match EK σ.ks c with
    | some t=>Vc σ.as (OV want t)
    | none=>none
   | some (.gd g (.one c))=>match EK σ.ks c with
    | some t=>Vc σ.as (Gw g (OV want t))
    | none=>none
   | _=>none
def OW(takes:bP)(o:Oper):Bool:=match jV takes o.dst with
 | false=>true
 | true=>match o.op with
  | .move _|.assign _|.load _ _=>true
  | .call c=>match c.callee,c.args.toList,c.argTypes.toList with
   | .builtin .append,[_,_],[_,_]=>true
   | _,_,_=>false
  | _=>false
def Ij(P:aM)(all:Array Oper)(takes:bP)(k:Sg->Option Tree):List Oper->Sg->Option Tree
 | [],σ=>k σ
 | o::os,σ=>if !(OW takes o) then none else match Vd σ all o with
  | none=>none
  | some .no=>Ij P all takes k os (mM σ o.dst pR)
  | some .yes=>iZ P takes σ o λσ v=>Ij P all takes k os (mM σ o.dst v)
  | some (.sym c) =>
   let p_:={ σ with as:=xP c σ.as }
   match (match o.dst with|some d=>!(jV takes (some d))|none=>false),KM P p_ o.op with
   | true,some (.val x)=>Ij P all takes k os (mM σ o.dst (.gd c x))
   | _,_=>MG c (iZ P takes p_ o λσ v=>Ij P all takes k os (mM σ o.dst v)) (Ij P all takes k os (mM { σ with as:=xP (mkNot c) σ.as } o.dst pR))
inductive Bi where
 |free|rd (b:Nat)|call|wr (b:Nat)
def Bi.real:Bi->Bool|.wr _=>true|_=>false
def Ve(σ:Sg)(x:aO):Bool :=
 match Bh σ x with
 | some (.s _)=>true
 | some (.sl _ _ _)=>true
 | some (.k .aJ)=>true
 | some (.v i _)=>match nth σ.ks i with
  | some .str=>true
  | some (.sl _)=>true
  | _=>false
 | _=>false
def wo(takes:bP)(σ:Sg)(o:Oper):Option Bi :=
 match o.op with
 | .load _ a=>match jV takes o.dst,a with
  | false,.global _=>some .free
  | tk,a=>match pk σ a,tk with
   | some (.val (.one (.p b _))),true=>some (.wr b)
   | some (.val (.one (.p b _))),false=>some (.rd b)
   | some (.vp _),false=>some .free
   | _,_=>none
 | .store _ a _=>match Bh σ a with
  | some (.p b _)=>some (.wr b)
  | _=>none
 | .alloc _=>some (.wr σ.na)
 | .box _ _=>some (.wr σ.na)
 | .call c=>match c.callee,c.args.toList with
  | .value (.func _),l=>match MF σ [] l with
   | some (_,[])=>some .call
   | _=>none
  | .builtin .len,[x]=>if Ve σ x then some .free else none
  | .builtin .append,[_,y]=>if Ve σ y then some .free else none
  | .builtin .min,_=>some .free
  | .builtin .max,_=>some .free
  | _,_=>none
 | .move _|.assign _|.pick _ _ _|.build _ _|.buildSlice _ _ _|.nilCheck _|.binOp ..|.unOp ..|.convert ..|.makeInterface _ _|.slice ..|.fieldAddr ..|.field ..|.indexAddr ..|.index ..|.typeAssert ..|.extract ..=>some .free
 | _=>none
structure DR where
 lA:Rec
 cls:Bi
def zol(b:Nat):Bi->Bool|.wr a=>Nat.beq b a|_=>false
def Rq(m:Nat)(c:Bi)(ds:List DR):Bool :=
 match c with
 | .free|.call=>true
 | .rd b=>kH (λd=>bit m d.lA.idx || !(zol b d.cls)) ds
 | .wr a=>kH (λd=>bit m d.lA.idx || (match d.cls with
  | .wr _=>false
  | .rd b=>!(Nat.beq b a) || xo (λe=>e.cls.real && bit e.lA.m d.lA.idx) ds
  | _=>true)) ds
def GD(takes:bP)(all:Array Oper)(i m:Nat)(o:Oper):Rec:=⟨i,o,m,lC takes o,Nat.lor (lC takes o) (r9 all o),v8 takes o,false,[],.mU⟩
def Jo(P:aM)(all:Array Oper)(takes:bP)(k:Sg->Option Tree):Nat->List DR->List Oper->Sg->Option Tree
 | _,_,[],σ=>k σ
 | i,ds,o::os,σ=>if !(OW takes o) then none else
  match wd (ds.map (·.lA)) o.after.toList with
  | none=>none
  | some m =>
   let r:=GD takes all i m o
   if !(kH (kx r) (ds.map (·.lA))) then none else
   let run (σ:Sg):Option Tree:=match wo takes σ o with
    | none=>none
    | some c=>if Rq m c ds then (iZ P takes σ o λσ v=>Jo P all takes k (i+1) (⟨r,c⟩::ds) os (mM σ o.dst v)) else none
   let skip (σ:Sg):Option Tree:=Jo P all takes k (i+1) (⟨{ r with hp:=false },.free⟩::ds) os (mM σ o.dst pR)
   match Vd σ all o with
   | none=>none
   | some .no=>skip σ
   | some .yes=>run σ
   | some (.sym c)=>MG c (run { σ with as:=xP c σ.as }) (skip { σ with as:=xP (mkNot c) σ.as })
inductive GS where
 |drop|one (k:CK)|agg (ks:List CK)|cells (ks:List (Option CK))
structure JS where
 env:List (Nat×GS)
 aj:List (Nat×List (Option CK))
def OX{α:Type}(n:Nat):List (Nat×α)->Option α
 | []=>none
 | (m,a)::r=>if Nat.beq n m then some a else OX n r
def Rr(ks:List CK):List (Option CK)->List C->List CK×List C
 | some k::os,_::cs=>match Rr (ks++[k]) os cs with
  | (j_,r)=>(j_,.v ks.length false::r)
 | _::os,c::cs=>match Rr ks os cs with
  | (j_,r)=>(j_,c::r)
 | _,cs=>(ks,cs)
def zsB(ks:List CK):GS->SV->List CK×SV
 | .drop,_=>(ks,.KL)
 | .one k,_=>(ks++[k],.val (.one (.v ks.length false)))
 | .agg l,_=>(ks++l,.val (.agg (lits l ks.length)))
 | .cells os,.val (.agg cs)=>match Rr ks os cs with
  | (ks,cs)=>(ks,.val (.agg cs))
 | .cells os,.vp cs=>match Rr ks os cs with
  | (ks,cs)=>(ks,.vp cs)
 | _,x=>(ks,x)
def zom(js:List (Nat×GS)):Nat->List CK->List SV->List CK×List SV
 | _,ks,[]=>(ks,[])
 | i,ks,x::xs=>match (match OX i js with
   | some g=>zsB ks g x
   | none=>(ks,x)) with
  | (ks,x)=>match zom js (i+1) ks xs with
   | (ks,xs)=>(ks,x::xs)
def zlH(js:List (Nat×List (Option CK))):List CK->List (Nat×List C×aq)->List CK×List (Nat×List C×aq)
 | ks,[]=>(ks,[])
 | ks,(a,cs,t)::r=>match (match OX a js with
   | some os=>Rr ks os cs
   | none=>(ks,cs)) with
  | (ks,cs)=>match zlH js ks r with
   | (ks,r)=>(ks,(a,cs,t)::r)
def gen(js:JS)(σ:Sg):Sg :=
 match zom js.env 0 σ.ks σ.env with
 | (ks,env)=>match zlH js.aj ks σ.aj with
  | (ks,aj)=>{ env,aj,na:=σ.na,ks,lk:=[],as:=[],nf:=σ.nf }
def MH(ks:List CK)(ck:CK):C->Bool
 | .k v=>fh ck v
 | .v i _=>match nth ks i with
  | some k=>if k=ck then true else false
  | none=>false
 | .i k _=>match ck with|.int k'=>(if k=k' then true else false)|_=>false
 | .b _=>match ck with|.bool=>true|_=>false
 | .s _=>match ck with|.str=>true|_=>false
 | .sl sz _ o=>match ck with|.sl mc=>Nat.beq mc sz && (match o with|.lock=>false|_=>true)|_=>false
 | _=>false
def Vf(na base gJ:Nat)(kJ ks:List CK)(cJ c:C):Option (List C) :=
 match cJ with
 | .v j false=>match Nat.blt j base with
  | true=>if OL (.v j false) c then some [] else none
  | false=>match nth kJ j with
   | some ck=>if Nat.beq j gJ && MH ks ck c && GC ks c then some [c] else none
   | none=>none
 | .p a off=>if OL (.p a off) c && Nat.blt a na then some [] else none
 | cJ=>if OL cJ c && UZ base cJ then some [] else none
def MI(na base gJ:Nat)(kJ ks:List CK):List C->List C->Option (List C)
 | [],[]=>some []
 | a::as,b::bs=>match Vf na base gJ kJ ks a b with
  | some x=>match MI na base (gJ+x.length) kJ ks as bs with
   | some y=>some (x++y)
   | none=>none
  | none=>none
 | _,_=>none
def Vg(na base gJ:Nat)(kJ ks:List CK):SC->SC->Option (List C)
 | .one a,.one b=>Vf na base gJ kJ ks a b
 | .agg a,.agg b=>MI na base gJ kJ ks a b
 | _,_=>none
def Vh(na base gJ:Nat)(kJ ks:List CK):List SC->List SC->Option (List C)
 | [],[]=>some []
 | a::as,b::bs=>match Vg na base gJ kJ ks a b with
  | some x=>match Vh na base (gJ+x.length) kJ ks as bs with
   | some y=>some (x++y)
   | none=>none
  | none=>none
 | _,_=>none
def OY(na base gJ:Nat)(kJ ks:List CK):SV->SV->Option (List C)
 | .KL,_=>some []
 | .val a,.val b=>Vg na base gJ kJ ks a b
 | .vp a,.vp b=>MI na base gJ kJ ks a b
 | .bz a,.bz b=>Vh na base gJ kJ ks a b
 | .fn f a,.fn g b=>if f=g then MI na base gJ kJ ks a b else none
 | _,_=>none
def Vi(na base gJ:Nat)(kJ ks:List CK):List SV->List SV->Option (List C)
 | [],[]=>some []
 | a::as,b::bs=>match OY na base gJ kJ ks a b with
  | some x=>match Vi na base (gJ+x.length) kJ ks as bs with
   | some y=>some (x++y)
   | none=>none
  | none=>none
 | _,_=>none
def Vj(na base gJ:Nat)(kJ ks:List CK)(dw:List (Nat×List C×aq)):List (Nat×List C×aq)->Option (List C)
 | []=>some []
 | (a,cs,t)::r=>match kN a dw with
  | some (cs',t')=>if Nat.beq t t' && Nat.blt a na then (match MI na base gJ kJ ks cs cs' with
   | some x=>match Vj na base (gJ+x.length) kJ ks dw r with
    | some y=>some (x++y)
    | none=>none
   | none=>none) else none
  | none=>none
def Jp:List CK->List CK->Bool
 | [],_=>true
 | a::as,b::bs=>if a=b then Jp as bs else false
 | _::_,[]=>false
def Rs(σ mN:Sg):Bool:=Jp σ.ks mN.ks && mN.as.isEmpty && mN.lk.isEmpty && Nat.beq σ.na mN.na && Nat.beq σ.nf mN.nf
def fit(base:Nat)(mN dw:Sg):Option (List C) :=
 match Vi mN.na base base mN.ks dw.ks mN.env dw.env with
 | some x=>match Vj mN.na base (base+x.length) mN.ks dw.ks dw.aj mN.aj with
  | some y=>if Nat.beq (base+(x++y).length) mN.ks.length && Nat.ble mN.na dw.na && Nat.beq mN.nf dw.nf then some (x++y) else none
  | none=>none
 | none=>none
inductive XE where
 |normal|exit (id:Nat)|ret
def Rt(v:Option (List C)):Option Tree:=match v with|some v=>some (.out v)|none=>none
def OZ(t:Option Tree):Option Tree:=match t with|some t=>some (.oR t)|none=>none
abbrev KE:=XE->Sg->Option Tree
def Vk(js:JS)(σ:Sg)(body:KE->Option Tree)(pick:XE->Bool)(k:KE)(next:Sg->Option Tree):Option Tree :=
 let mN:=gen js σ
 if !(Rs σ mN) then none else
 match body (λe dw=>match pick e with
  | true=>Rt (fit σ.ks.length mN dw)
  | false=>OZ (k e dw)),next mN with
 | some b,some t=>some (.bM b t)
 | _,_=>none
def wq(P:aM)(hs:List (Nat×JS)):Nat->Code->Sg->KE->Option Tree
 | _,.skip,σ,k=>k .normal σ
 | _,.label _,σ,k=>k .normal σ
 | _,.region _ ops false,σ,k=>Ij P ops (kX ops) (λσ=>k .normal σ) ops.toList { σ with lk:=[] }
 | _,.region _ ops true,σ,k=>Jo P ops (kX ops) (λσ=>k .normal σ) 0 [] ops.toList { σ with lk:=[] }
 | p,.seq a b,σ,k=>match OX p hs with
  | none=>wq P hs (2 * p) a σ λe σ=>match e with
   | .normal=>wq P hs (2 * p+1) b σ k
   | e=>k e σ
  | some js=>Vk js σ (λk=>wq P hs (2 * p) a σ k) (λe=>match e with|.normal=>true|_=>false) k λmN=>wq P hs (2 * p+1) b mN k
 | p,.cond c a b,σ,k=>match Rh σ c with
  | none=>none
  | some t=>match CV σ.as t with
   | some true=>wq P hs (2 * p) a σ k
   | some false=>wq P hs (2 * p+1) b σ k
   | none=>MG t (wq P hs (2 * p) a { σ with as:=xP t σ.as } k) (wq P hs (2 * p+1) b { σ with as:=xP (mkNot t) σ.as } k)
 | p,.block id c,σ,k=>match OX p hs with
  | none=>wq P hs (2 * p) c σ λe σ=>match e with
   | .exit i=>match Nat.beq i id with
    | true=>k .normal σ
    | false=>k (.exit i) σ
   | e=>k e σ
  | some js=>Vk js σ (λk=>wq P hs (2 * p) c σ k) (λe=>match e with|.exit i=>Nat.beq i id|.normal=>true|_=>false) k λmN=>k .normal mN
 | p,.loop c,σ,k=>match OX p hs with
  | none=>none
  | some js =>
   let mN:=gen js σ
   if !(Rs σ mN) then none else
   match fit σ.ks.length mN σ,wq P hs (2 * p) c mN (λe dw=>match e with
    | .normal=>Rt (fit σ.ks.length mN dw)
    | e=>OZ (k e dw)) with
   | some uH,some body=>some (.loop uH body)
   | _,_=>none
 | _,.exit id,σ,k=>k (.exit id) σ
 | _,.ret,σ,k=>k .ret σ
 | p,.scope c,σ,k=>wq P hs (2 * p) c σ k
 | _,_,_,_=>none
def xS(P:aM)(k:Sg->List SV->Option Tree):Sg->List aq->Nat->Nat->List SV->Option Tree
 | σ,[],_,_,acc=>k σ acc
 | σ,t::ts,i,j,acc=>match P.underlying t with
  | some (.pointer _)=>xS P k σ ts (i+1) (j+1) (acc++[.val (.one (.p j 0))])
  | _=>Jl P σ t i λσ x=>xS P k σ ts (i+1) j (acc++[.val x])
def yR(P:aM):List aq->Option (List (aq×List CK))
 | []=>some []
 | t::ts=>match P.underlying t,yR P ts with
  | some (.pointer e),some r=>match ON P 20 e with
   | some ks=>some ((e,ks)::r)
   | none=>none
  | some _,some r=>some r
  | _,_=>none
def fW:List (aq×List CK)->Nat->Nat->List (Nat×List C×aq)
 | [],_,_=>[]
 | (e,ks)::r,j,i=>(j,lits ks i,e)::fW r (j+1) (i+ks.length)
def m9:List (aq×List CK)->List CK
 | []=>[]
 | (_,ks)::r=>ks++m9 r
def Ru(k:Sg->Option Tree):Sg->List CK->Nat->Option Tree
 | σ,[],_=>k σ
 | σ,ck::BN,i=>match Ru k { σ with ks:=σ.ks.set i ck } BN (i+1) with
  | some t=>some (.gv i ck t)
  | none=>none
def Vl(σ:Sg)(t:Tmp):Option SC :=
 match nth σ.env t with
 | some sv=>match U0 σ.as sv with
  | some (.val x)=>some x
  | _=>none
 | none=>none
def O0(P:aM)(σ:Sg):List ResultVar->Option (List SC)
 | []=>some []
 | .tmp t::r=>match Vl σ t,O0 P σ r with
  | some x,some xs=>some (x::xs)
  | _,_=>none
 | .cell a t::r=>match Vl σ a with
  | some (.one (.p a off))=>match kN a σ.aj with
   | some (cs,_)=>match Gz P t cs off,O0 P σ r with
    | some x,some xs=>some (mL x::xs)
    | _,_=>none
   | none=>none
  | _=>none
def AE:List SC->List SC
 | []=>[]
 | x::xs=>mL x::AE xs
def MJ(σ:Sg):Nat->List (aq×List CK)->Option (List C)
 | _,[]=>some []
 | j,(e,ks)::r=>match kN j σ.aj,MJ σ (j+1) r with
  | some (cs,t),some o=>if ye σ.ks cs && Nat.beq t e && Nat.beq cs.length ks.length then some (cs++o) else none
  | _,_=>none
def KO(P:aM)(bu:List (aq×List CK))(rs:List ResultVar)(σ:Sg):Option Tree :=
 if !(Nat.beq σ.nf bu.length) then none else
 match O0 P σ rs,MJ σ 0 bu with
 | some [x],some o=>if MD σ.ks x then some (.dg (.sc x) (.out (.v σ.ks.length false::o))) else none
 | some xs,some o=>if U5 σ.ks xs then some (.dg (.bz (AE xs)) (.out (.v σ.ks.length false::o))) else none
 | _,_=>none
def z_(P:aM)(hs:List (Nat×JS))(f:FuncId):Option Tree :=
 match P.funcs[f]? with
 | none=>none
 | some fn=>match fn.body,yR P fn.params.toList with
  | some body,some bu =>
   Ru (λσ=>xS P (λσ lJ=>wq P hs 1 body { σ with env:=lJ++List.replicate (fn.ntmps - lJ.length) pR } λe σ=>match e with
     | .normal=>KO P bu fn.results.toList σ
     | .ret=>KO P bu fn.results.toList σ
     | .exit _=>none) σ fn.params.toList 0 0 [])
    ⟨[],fW bu 0 fn.params.toList.length,bu.length,List.replicate (fn.params.toList.length+(m9 bu).length) .raw,[],[],bu.length⟩ (m9 bu) fn.params.toList.length
  | _,_=>none
def O1(P:aM):List aq->Option (List (aq×List CK))
 | []=>some []
 | e::es=>match ON P 20 e,O1 P es with
  | some ks,some r=>some ((e,ks)::r)
  | _,_=>none
def AF:Nat->Nat->List SV
 | _,0=>[]
 | j,n+1=>.val (.one (.p j 0))::AF (j+1) n
def Zl(P:aM)(hs:List (Nat×JS))(f:FuncId)(lT:List aq):Option Tree :=
 match P.funcs[f]? with
 | none=>none
 | some fn=>match fn.body,yR P fn.params.toList,O1 P lT with
  | some body,some lp,some lc =>
   Ru (λσ=>xS P (λσ lJ=>wq P hs 1 body { σ with env:=(lJ++AF lp.length lT.length)++List.replicate (fn.ntmps - (lJ++AF lp.length lT.length).length) pR } λe σ=>match e with
     | .normal=>KO P (lp++lc) fn.results.toList σ
     | .ret=>KO P (lp++lc) fn.results.toList σ
     | .exit _=>none) σ fn.params.toList 0 0 [])
    ⟨[],fW (lp++lc) 0 (fn.params.toList.length+lT.length),(lp++lc).length,List.replicate (fn.params.toList.length+lT.length+(m9 (lp++lc)).length) .raw,[],[],(lp++lc).length⟩ (m9 (lp++lc)) (fn.params.toList.length+lT.length)
  | _,_,_=>none
section
def xp(ρ:aA)(i:Nat):at' ρ i=(ρ[i]?).getD .mU:=by
 simp only[at',zV];cases ρ[i]?<;>rfl
def va{ρ x:aA}{i:Nat}(h:i<ρ.length):at' (ρ++x) i=at' ρ i:=by
 simp[xp,mz h]
def kZ{a b:Nat}(h:Nat.beq a b=true):a=b:=gy h
def FB{p:Prop}[Decidable p](h:(if p then true else false)=true):p:=by
 by_cases hp:p
 ·exact hp
 ·simp[hp] at h
def Cy{a b:Nat}(h:Nat.blt a b=true):a<b:=sE h
def Zm{a b:Nat}(h:Nat.ble a b=true):a<=b:=sE h
mutual
def yf(ρ:aA):∀{a b:TI},ug a b=true->bL ρ a=bL ρ b
 | .var i,b,h=>by cases b<;>simp only[ug,dF] at h;rw[kZ h]
 | .lit i,b,h=>by cases b<;>simp only[ug,dF] at h;simp only[bL];exact eq_of_beq h
 | .bin op k x y,b,h=>by
  cases b<;>simp only[ug,dF,cR] at h;obtain⟨⟨⟨h1,h2⟩,h3⟩,h4⟩:=h;simp only[bL,FB h1,FB h2,yf ρ h3,yf ρ h4]
 | .conv k x,b,h=>by
  cases b<;>simp only[ug,dF,cR] at h;simp only[bL,FB h.1,yf ρ h.2]
 | .len x,b,h=>by cases b<;>simp only[ug,dF] at h;simp only[bL,KP ρ h]
 | .tD x,b,h=>by cases b<;>simp only[ug,dF] at h;simp only[bL,Jq ρ h]
 | .byte x y,b,h=>by
  cases b<;>simp only[ug,dF,cR] at h;simp only[bL,Jq ρ h.1,yf ρ h.2]
 | .ite c x y,b,h=>by
  cases b<;>simp only[ug,dF,cR] at h;simp only[bL,vr ρ h.1.1,yf ρ h.1.2,yf ρ h.2]
def vr(ρ:aA):∀{a b:TB},nt a b=true->bt ρ a=bt ρ b
 | .var i,b,h=>by cases b<;>simp only[nt,dF] at h;rw[kZ h]
 | .lit i,b,h=>by cases b<;>simp only[nt,dF] at h;simp only[bt];exact eq_of_beq h
 | .not x,b,h=>by cases b<;>simp only[nt,dF] at h;simp only[bt,vr ρ h]
 | .and x y,b,h=>by
  cases b<;>simp only[nt,dF,cR] at h;simp only[bt,vr ρ h.1,vr ρ h.2]
 | .or x y,b,h=>by
  cases b<;>simp only[nt,dF,cR] at h;simp only[bt,vr ρ h.1,vr ρ h.2]
 | .beq x y,b,h=>by
  cases b<;>simp only[nt,dF,cR] at h;simp only[bt,vr ρ h.1,vr ρ h.2]
 | .ite c x y,b,h=>by
  cases b<;>simp only[nt,dF,cR] at h;simp only[bt,vr ρ h.1.1,vr ρ h.1.2,vr ρ h.2]
 | .cmp op x y,b,h=>by
  cases b<;>simp only[nt,dF,cR] at h;simp only[bt,FB h.1.1,yf ρ h.1.2,yf ρ h.2]
 | .oB op x y,b,h=>by
  cases b<;>simp only[nt,dF,cR] at h;simp only[bt,FB h.1.1,Jq ρ h.1.2,Jq ρ h.2]
 | .cV i,b,h=>by cases b<;>simp only[nt,dF] at h;rw[kZ h]
 | .tE i,b,h=>by cases b<;>simp only[nt,dF] at h;rw[kZ h]
 | .own _ _,b,h=>by cases b<;>simp only[nt,dF] at h
 | .mj _,b,h=>by cases b<;>simp only[nt,dF] at h
 | .room _ _,b,h=>by cases b<;>simp only[nt,dF] at h
 | .oH _ _,b,h=>by cases b<;>simp only[nt,dF] at h
def Jq(ρ:aA):∀{a b:TS},CU a b=true->dH ρ a=dH ρ b
 | .var i,b,h=>by cases b<;>simp only[CU,dF] at h;rw[kZ h]
 | .lit i,b,h=>by cases b<;>simp only[CU,dF] at h;simp only[dH];exact Ay h
 | .cat x y,b,h=>by
  cases b<;>simp only[CU,dF,cR] at h;simp only[dH,Jq ρ h.1,Jq ρ h.2]
 | .sub x y z,b,h=>by
  cases b<;>simp only[CU,dF,cR] at h;simp only[dH,Jq ρ h.1.1,yf ρ h.1.2,yf ρ h.2]
 | .OK x,b,h=>by cases b<;>simp only[CU,dF] at h;simp only[dH,KP ρ h]
def KP(ρ:aA):∀{a b:TL},CT a b=true->cj ρ a=cj ρ b
 | .var i,b,h=>by cases b<;>simp only[CT,dF] at h;rw[kZ h]
 | .nil,b,h=>by cases b<;>simp only[CT,dF] at h;rfl
 | .snoc x i,b,h=>by
  cases b<;>simp only[CT,dF,cR] at h;simp only[cj,KP ρ h.1,kZ h.2]
 | .cat x y,b,h=>by
  cases b<;>simp only[CT,dF,cR] at h;simp only[cj,KP ρ h.1,KP ρ h.2]
 | .sub x y z,b,h=>by
  cases b<;>simp only[CT,dF,cR] at h;simp only[cj,KP ρ h.1.1,yf ρ h.1.2,yf ρ h.2]
 | .KK x,b,h=>by cases b<;>simp only[CT,dF] at h;simp only[cj,Jq ρ h]
end
mutual
def yg{ρ:aA}(x:aA):∀{a:TI},uI ρ.length a=true->bL (ρ++x) a=bL ρ a
 | .var i,h=>by simp only[uI] at h;simp only[bL,va (Cy h)]
 | .lit i,h=>rfl
 | .bin op k a b,h=>by simp only[uI,cR] at h;simp only[bL,yg x h.1,yg x h.2]
 | .conv k a,h=>by simp only[uI] at h;simp only[bL,yg x h]
 | .len a,h=>by simp only[uI] at h;simp only[bL,KQ x h]
 | .tD a,h=>by simp only[uI] at h;simp only[bL,xq x h]
 | .byte a b,h=>by simp only[uI,cR] at h;simp only[bL,xq x h.1,yg x h.2]
 | .ite c a b,h=>by simp only[uI,cR] at h;simp only[bL,yM x h.1.1,yg x h.1.2,yg x h.2]
def yM{ρ:aA}(x:aA):∀{a:TB},rC ρ.length a=true->bt (ρ++x) a=bt ρ a
 | .var i,h=>by simp only[rC] at h;simp only[bt,va (Cy h)]
 | .lit i,h=>rfl
 | .not a,h=>by simp only[rC] at h;simp only[bt,yM x h]
 | .and a b,h=>by simp only[rC,cR] at h;simp only[bt,yM x h.1,yM x h.2]
 | .or a b,h=>by simp only[rC,cR] at h;simp only[bt,yM x h.1,yM x h.2]
 | .beq a b,h=>by simp only[rC,cR] at h;simp only[bt,yM x h.1,yM x h.2]
 | .ite c a b,h=>by simp only[rC,cR] at h;simp only[bt,yM x h.1.1,yM x h.1.2,yM x h.2]
 | .cmp op a b,h=>by simp only[rC,cR] at h;simp only[bt,yg x h.1,yg x h.2]
 | .oB op a b,h=>by simp only[rC,cR] at h;simp only[bt,xq x h.1,xq x h.2]
 | .cV i,h=>by simp only[rC] at h;simp only[bt,va (Cy h)]
 | .tE i,h=>by simp only[rC] at h;simp only[bt,va (Cy h)]
 | .own i e,h=>by simp only[rC] at h;simp only[bt,va (Cy h)]
 | .mj i,h=>by simp only[rC] at h;simp only[bt,va (Cy h)]
 | .room l n,h=>by simp only[rC] at h;simp only[bt,KQ x h]
 | .oH a b,h=>by simp only[rC,cR] at h;simp only[bt,xq x h.1,xq x h.2]
def xq{ρ:aA}(x:aA):∀{a:TS},Cw ρ.length a=true->dH (ρ++x) a=dH ρ a
 | .var i,h=>by simp only[Cw] at h;simp only[dH,va (Cy h)]
 | .lit i,h=>rfl
 | .cat a b,h=>by simp only[Cw,cR] at h;simp only[dH,xq x h.1,xq x h.2]
 | .sub a b c,h=>by simp only[Cw,cR] at h;simp only[dH,xq x h.1.1,yg x h.1.2,yg x h.2]
 | .OK a,h=>by simp only[Cw] at h;simp only[dH,KQ x h]
def KQ{ρ:aA}(x:aA):∀{a:TL},DP ρ.length a=true->cj (ρ++x) a=cj ρ a
 | .var i,h=>by simp only[DP] at h;simp only[cj,va (Cy h)]
 | .nil,h=>rfl
 | .snoc a i,h=>by simp only[DP,cR] at h;simp only[cj,KQ x h.1,va (Cy h.2)]
 | .cat a b,h=>by simp only[DP,cR] at h;simp only[cj,KQ x h.1,KQ x h.2]
 | .sub a b c,h=>by simp only[DP,cR] at h;simp only[cj,KQ x h.1.1,yg x h.1.2,yg x h.2]
 | .KK a,h=>by simp only[DP] at h;simp only[cj,xq x h]
end
def zrU(ρ:aA)(pa:bR){a b:C}(h:OL a b=true):bB ρ pa a=bB ρ pa b:=by
 cases a<;>cases b<;>simp only[OL,dF,cR] at h
 ·simp only[bB];exact V.iH h
 ·obtain⟨h1,h2⟩:=h;have:=kZ h1;have:=eq_of_beq h2;subst_vars;rfl
 ·simp only[bB,FB h.1,yf ρ h.2]
 ·simp only[bB,vr ρ h]
 ·simp only[bB,Jq ρ h]
 ·simp only[bB,kZ h.1.1,KP ρ h.1.2,FB h.2]
 ·simp only[bB,kZ h.1,kZ h.2]
 ·simp only[bB,kZ h]
def O2{α:Type}{l x:List α}{i:Nat}{a:α}(h:nth l i=some a):nth (l++x) i=some a:=by
 rw[zV] at h ⊢;obtain⟨hi,_⟩:=eE.1 h;rw[mz hi,h]
def zop{ρ:aA}(x:aA){pa:bR}{c:C}(h:UZ ρ.length c=true):bB (ρ++x) pa c=bB ρ pa c:=by
 cases c<;>simp only[UZ] at h<;>simp only[bB]
 next i cl=>cases cl<;>simp only[va (Cy h)]
 ·rw[yg x h]
 ·rw[yM x h]
 ·rw[xq x h]
 ·rw[KQ x h]
 ·rw[va (Cy h)]
def Zn{α:Type}{f:α->Bool}:∀{l:List α},xo f l=true->∃x∈l,f x=true
 | x::xs,h=>by
  simp only[xo] at h;split at h
  next hx=>exact⟨x,eS,hx⟩
  ·obtain⟨y,hy,hf⟩:=Zn h;exact⟨y,dB _ hy,hf⟩
def wa(ρ:aA)(a:TB):bt ρ (mkNot a)=!(bt ρ a):=by
 unfold mkNot;split<;>simp[bt]
def xr(ρ:aA)(a b:TB):bt ρ (Gw a b)=(bt ρ a && bt ρ b):=by
 unfold Gw;split<;>(try split)<;>simp[bt]
def zlK(ρ:aA)(a b:TB):bt ρ (Rf a b)=(bt ρ a || bt ρ b):=by
 unfold Rf;split<;>(try split)<;>simp[bt]
def zoq(ρ:aA)(c a b:TB):bt ρ (Zb c a b)=bif bt ρ c then bt ρ a else bt ρ b:=by
 unfold Zb;split
 next h=>rw[zlK,<- vr ρ h];cases bt ρ c<;>rfl
 ·split
  next h=>rw[xr,<- vr ρ h];cases bt ρ c<;>simp
  ·split<;>simp only[zlK,xr,wa,bt]<;>cases bt ρ c<;>simp
def FC(ρ:aA)(as:List TB):Prop:=∀t∈as,bt ρ t=true
def Vn{ρ:aA}:∀{t:TB}{as:List TB},bt ρ t=true->FC ρ as->FC ρ (nS t as)
 | .and a b,as,h,ha=>by
  have h':=h;simp only[bt,cR] at h';intro t ht;simp only[nS,dh] at ht;rcases ht with rfl|ht
  ·exact h
  ·exact Vn h'.1 (Vn h'.2 ha) t ht
 | .not (.or a b),as,h,ha=>by
  have h':=h;simp only[bt,sR,LJ] at h';intro t ht;simp only[nS,dh] at ht;rcases ht with rfl|rfl|rfl|ht
  ·exact h
  ·simp[wa,h'.1]
  ·simp[wa,h'.2]
  ·exact ha t ht
 |.var _,as,h,ha|.lit _,as,h,ha|.or _ _,as,h,ha|.ite _ _ _,as,h,ha|.beq _ _,as,h,ha|.cmp _ _ _,as,h,ha|.oB _ _ _,as,h,ha|.cV _,as,h,ha|.tE _,as,h,ha|.own _ _,as,h,ha|.mj _,as,h,ha|.room _ _,as,h,ha|.oH _ _,as,h,ha
 | .not (.var _),as,h,ha|.not (.lit _),as,h,ha|.not (.not _),as,h,ha|.not (.and _ _),as,h,ha|.not (.ite _ _ _),as,h,ha|.not (.beq _ _),as,h,ha|.not (.cmp _ _ _),as,h,ha|.not (.oB _ _ _),as,h,ha|.not (.cV _),as,h,ha|.not (.tE _),as,h,ha|.not (.own _ _),as,h,ha|.not (.mj _),as,h,ha|.not (.room _ _),as,h,ha|.not (.oH _ _),as,h,ha=>by
  intro t ht;simp only[nS,dh] at ht;rcases ht with rfl|ht
  ·exact h
  ·exact ha t ht
def Zo{ρ:aA}{as:List TB}(ha:FC ρ as){t:TB}(h:xo (nt t) as=true):bt ρ t=true:=by
 obtain⟨x,hx,hs⟩:=Zn h;rw[vr ρ hs];exact ha x hx
def zor{ρ:aA}{as:List TB}(ha:FC ρ as){t:TB}{b:Bool}(h:(if xo (nt t) as then some true else if xo (nt (.not t)) as then some false else none)=some b):bt ρ t=b:=by
 split at h
 next h1=>cases h;exact Zo ha h1
 ·split at h
  next h1=>cases h;have:=Zo ha h1;simpa[bt] using this
  ·cases h
def wj{ρ:aA}{as:List TB}(ha:FC ρ as):∀{t:TB}{b:Bool},CV as t=some b->bt ρ t=b
 | .lit _,b,h=>by simp only[CV,aR] at h;subst h;rfl
 | .not a,b,h=>by
  simp only[CV] at h;split at h
  next c hc=>cases h;simp only[bt,wj ha hc]
  ·split at h
   next h1=>cases h;exact Zo ha h1
   ·cases h
 | .and a c,b,h=>by
  simp only[CV] at h;split at h
  next h1 h2=>cases h;simp only[bt,wj ha h1,wj ha h2];rfl
  next h1=>cases h;simp only[bt,wj ha h1];rfl
  next h2 _=>cases h;simp only[bt,wj ha h2];simp
  ·exact zor ha h
 | .var _,b,h|.or _ _,b,h|.ite _ _ _,b,h|.beq _ _,b,h|.cmp _ _ _,b,h|.oB _ _ _,b,h|.cV _,b,h|.tE _,b,h|.own _ _,b,h|.mj _,b,h|.room _ _,b,h|.oH _ _,b,h=>by
  simp only[CV] at h;exact zor ha h
def Rv{ρ:aA}:∀{l as:List TB},(∀t∈l,bt ρ t=true)->FC ρ as->FC ρ (nT as l)
 | [],as,_,ha=>ha
 | .not (.and a b)::r,as,hl,ha=>by
  have h0:=hl _ eS;simp only[bt,sR,Bool.and_eq_false_iff] at h0;have hr:∀t∈r,bt ρ t=true:=λt ht=>hl t (dB _ ht);have more:∀{t:TB},bt ρ t=true->FC ρ (t::as):=λht x hx=>by
   rcases dh.1 hx with rfl|hx
   ·exact ht
   ·exact ha x hx
  simp only[nT];split
  ·rename_i h1 _;have:=wj ha h1;refine Rv hr (more ?_);rw[wa];rcases h0 with h0|h0
   ·rw[this] at h0;cases h0
   ·rw[h0];rfl
  ·rename_i _ h1;have:=wj ha h1;refine Rv hr (more ?_);rw[wa];rcases h0 with h0|h0
   ·rw[h0];rfl
   ·rw[this] at h0;cases h0
  ·exact Rv hr ha
 |.var _::r,as,hl,ha|.lit _::r,as,hl,ha|.or _ _::r,as,hl,ha|.and _ _::r,as,hl,ha|.ite _ _ _::r,as,hl,ha|.beq _ _::r,as,hl,ha|.cmp _ _ _::r,as,hl,ha|.oB _ _ _::r,as,hl,ha|.cV _::r,as,hl,ha|.tE _::r,as,hl,ha|.own _ _::r,as,hl,ha|.mj _::r,as,hl,ha|.room _ _::r,as,hl,ha|.oH _ _::r,as,hl,ha
 | .not (.var _)::r,as,hl,ha|.not (.lit _)::r,as,hl,ha|.not (.not _)::r,as,hl,ha|.not (.or _ _)::r,as,hl,ha|.not (.ite _ _ _)::r,as,hl,ha|.not (.beq _ _)::r,as,hl,ha|.not (.cmp _ _ _)::r,as,hl,ha|.not (.oB _ _ _)::r,as,hl,ha|.not (.cV _)::r,as,hl,ha|.not (.tE _)::r,as,hl,ha|.not (.own _ _)::r,as,hl,ha|.not (.mj _)::r,as,hl,ha|.not (.room _ _)::r,as,hl,ha|.not (.oH _ _)::r,as,hl,ha=>by
  simp only[nT];exact Rv (λt ht=>hl t (dB _ ht)) ha
def Zp{ρ:aA}{t:TB}{as:List TB}(h:bt ρ t=true)(ha:FC ρ as):FC ρ (xP t as) :=
 Rv (Vn h ha) (Vn h ha)
end
section
structure iC(ρ:aA)(pa:bR)(σ:Sg)(env:aA)(H:Hp):Prop where
 env:∀i sv v,nth σ.env i=some sv->kK ρ pa sv=some v->nth env i=some v
 aj:∀a cs ty,kN a σ.aj=some (cs,ty)->H.get (pd pa a)=some (.cells (qk ρ pa cs) ty)
 ks:∀i k,nth σ.ks i=some k->fh k (at' ρ i)=true
 as:FC ρ σ.as
variable{P:aM}{gl:Nat->Nat->cP}{ρ:aA}{pa:bR}{σ:Sg}{env:aA}{H:Hp}
def pP(v:V):aT (aT v)=aT v:=by cases v<;>rfl
def jE(cs:List C):qk ρ pa cs=cs.map (bB ρ pa):=by
 induction cs with
 | nil=>rfl
 | cons c cs ih=>simp[qk,ih]
def zmX(cs:List SC):q0 ρ pa cs=cs.map (qq ρ pa):=by
 induction cs with
 | nil=>rfl
 | cons c cs ih=>simp[q0,ih]
def GF{a off:Nat}:aT (bB ρ pa (.p a off))=bB ρ pa (.p a off):=rfl
def zmY(v:V):aT (w_ v)=aT v:=by cases v<;>rfl
def zlL(c:C):bB ρ pa (Gx c)=aT (bB ρ pa c):=by
 cases c with
 | k v=>rfl
 | v i cl=>cases cl<;>simp[Gx,bB,pP]
 | i k t=>rfl
 | b t=>rfl
 | s t=>rfl
 | sl sz t o=>rfl
 | p a off=>exact GF.symm
 | BL i=>simp[Gx,bB,zmY]
def wY(x:SC):qq ρ pa (mL x)=aT (qq ρ pa x):=by
 cases x with
 | one c=>exact zlL c
 | agg cs=>rfl
def zos(cs:List C):qk ρ pa (DT cs)=(qk ρ pa cs).map aT:=by
 induction cs with
 | nil=>rfl
 | cons c cs ih=>simp[qk,DT,ih,zlL]
def zsC(v:V):bB ρ pa (cC v)=v:=by cases v<;>rfl
def Vo(vs:aA):qk ρ pa (OM vs)=vs:=by
 induction vs with
 | nil=>rfl
 | cons c cs ih=>simp[qk,OM,ih,zsC]
def zrV(v:V):qq ρ pa (Rg v)=v:=by
 cases v<;>first|rfl|(simp only[Rg,qq,Vo])
def plain:SV->Bool|.gd _ _=>false|.KL=>false|_=>true
def zjn{as:List TB}(ha:FC ρ as){sv KR:SV}(h:U0 as sv=some KR):plain KR=true/\∃v,kK ρ pa sv=some v/\kK ρ pa KR=some v:=by
 cases sv with
 | gd c x =>
  simp only[U0] at h;split at h
  next hk=>cases h;exact⟨rfl,_,rfl,by simp[kK,wj ha hk]⟩
  next hk=>cases h;exact⟨rfl,_,rfl,by simp[kK,wj ha hk,pR,qq,bB]⟩
  ·cases h
 | KL=>cases h
 | val x=>cases h;exact⟨rfl,_,rfl,rfl⟩
 | vp x=>cases h;exact⟨rfl,_,rfl,rfl⟩
 | bz x=>cases h;exact⟨rfl,_,rfl,rfl⟩
 | fn f x=>cases h;exact⟨rfl,_,rfl,rfl⟩
def Rw(hr:iC ρ pa σ env H){t:Tmp}{sv:SV}(h:slot σ t=some sv):plain sv=true/\∃v,nth env t=some v/\kK ρ pa sv=some v:=by
 unfold slot at h;split at h
 next sv0 h0=>obtain⟨hp,v,h1,h2⟩:=zjn (pa:=pa) hr.as h;exact⟨hp,v,hr.env _ _ _ h0 h1,h2⟩
 ·cases h
def zot{sv:SV}{v:V}(hp:plain sv=true)(h:kK ρ pa sv=some v):kK ρ pa (Gy sv)=some (aT v):=by
 cases sv with
 | gd c x=>cases hp
 | KL=>cases hp
 | val x=>cases h;simp only[Gy,kK,wY]
 | vp x=>cases h;rfl
 | bz x=>cases h;rfl
 | fn f x=>cases h;rfl
def vD(hr:iC ρ pa σ env H){x:aO}{sv:SV}(h:pk σ x=some sv):∃v,aB env x=some v/\kK ρ pa sv=some v:=by
 cases x with
 | tmp t =>
  simp only[pk] at h;split at h
  next sv0 h0=>cases h;obtain⟨hp,v,h1,h2⟩:=Rw hr h0;exact⟨aT v,by simp[aB,h1],zot hp h2⟩
  ·cases h
 | const v =>
  simp only[pk] at h;split at h
  next u hu=>cases h;exact⟨u,hu,by simp[kK,zrV]⟩
  ·cases h
 | global g=>cases h
 | func f=>cases h
def wZ(hr:iC ρ pa σ env H){x:aO}{s:SC}(h:pk σ x=some (.val s)):aB env x=some (qq ρ pa s):=by
 obtain⟨v,h1,h2⟩:=vD hr h;cases h2;exact h1
def kn(hr:iC ρ pa σ env H){x:aO}{c:C}(h:Bh σ x=some c):aB env x=some (bB ρ pa c):=by
 unfold Bh at h;split at h
 next h0=>cases h;exact wZ hr h0
 ·cases h
def yN{ks:List CK}(hk:∀i k,nth ks i=some k->fh k (at' ρ i)=true){c:C}{k:IntKind}{t:TI}(h:DQ ks c=some (k,t)):bB ρ pa c=.int k (bL ρ t):=by
 cases c with
 | i k' t'=>cases h;rfl
 | v i cl =>
  simp only[DQ] at h;split at h
  next k' h0=>cases h;have:=hk _ _ h0;cases hv:at' ρ i<;>rw[hv] at this<;>simp only[fh,dF] at this;have CX:=FB this;cases cl<;>simp[bB,hv,bL,vI,aT,CX]
  ·cases h
 | k v =>
  cases v<;>simp only[DQ,aR,bS,reduceCtorEq] at h;obtain⟨rfl,rfl⟩:=h;rfl
 | _=>cases h
def x7{ks:List CK}(hk:∀i k,nth ks i=some k->fh k (at' ρ i)=true){c:C}{t:TB}(h:EK ks c=some t):bB ρ pa c=.bool (bt ρ t):=by
 cases c with
 | b t'=>cases h;rfl
 | v i cl =>
  simp only[EK] at h;split at h
  next h0=>cases h;have:=hk _ _ h0;cases hv:at' ρ i<;>rw[hv] at this<;>simp only[fh,dF] at this;cases cl<;>simp[bB,hv,bt,vB,aT]
  ·cases h
 | k v =>
  cases v<;>simp only[EK,aR,reduceCtorEq] at h;subst h;rfl
 | _=>cases h
def vV{ks:List CK}(hk:∀i k,nth ks i=some k->fh k (at' ρ i)=true){c:C}{t:TS}(h:DS ks c=some t):bB ρ pa c=.str (dH ρ t):=by
 cases c with
 | s t'=>cases h;rfl
 | v i cl =>
  simp only[DS] at h;split at h
  next h0=>cases h;have:=hk _ _ h0;cases hv:at' ρ i<;>rw[hv] at this<;>simp only[fh,dF] at this;cases cl<;>simp[bB,hv,dH,Sx.vS,aT]
  ·cases h
 | k v =>
  cases v<;>simp only[DS,aR,reduceCtorEq] at h;subst h;rfl
 | _=>cases h
def KS{ks:List CK}(hk:∀i k,nth ks i=some k->fh k (at' ρ i)=true){sz:Nat}{c:C}{t:TL}(h:Jk ks sz c=some t):(bB ρ pa c=.aJ/\cj ρ t=[])\/∃o,bB ρ pa c=.sl sz (cj ρ t) o:=by
 cases c with
 | sl mc t' o =>
  simp only[Jk] at h;split at h
  next h0=>cases h;rw[kZ h0];exact .inr ⟨o,rfl⟩
  ·cases h
 | v i cl =>
  simp only[Jk] at h;split at h
  ·rename_i mc h0;split at h
   ·rename_i h1;cases h;have:=hk _ _ h0;cases hv:at' ρ i<;>rw[hv] at this<;>simp only[fh,dF,cR] at this
    ·left;cases cl<;>simp[bB,hv,cj,Sx.vL,aT]
    ·right
     have:=kZ this.1;have:=kZ h1;subst_vars;cases cl<;>simp[bB,hv,cj,Sx.vL,aT]
   ·cases h
  ·cases h
 | k v =>
  cases v<;>simp only[Jk,aR,reduceCtorEq] at h;subst h;exact .inl ⟨rfl,rfl⟩
 | _=>cases h
def kQ(hr:iC ρ pa σ env H){x:aO}{k:IntKind}{t:TI}(h:AD σ x=some (k,t)):aB env x=some (.int k (bL ρ t)):=by
 unfold AD at h;split at h
 next h0=>rw[kn hr h0,yN hr.ks h]
 ·cases h
def Zq(hr:iC ρ pa σ env H){x:aO}{t:TB}(h:Rh σ x=some t):aB env x=some (.bool (bt ρ t)):=by
 unfold Rh at h;split at h
 next h0=>rw[kn hr h0,x7 hr.ks h]
 ·cases h
def O3(hr:iC ρ pa σ env H){x:aO}{t:TS}(h:Ri σ x=some t):aB env x=some (.str (dH ρ t)):=by
 unfold Ri at h;split at h
 next h0=>rw[kn hr h0,vV hr.ks h]
 ·cases h
def eR{α β:Type}(f:α->β)(l:List α)(i:Nat):nth (l.map f) i=(nth l i).map f:=by simp[zV]
def vW{t:aq}{cs:List C}{off:Nat}{x:SC}(h:Gz P t cs off=some x):wk P t (qk ρ pa cs) off=some (qq ρ pa x):=by
 rw[wX];unfold Gz at h;split at h
 ·rename_i ha;split at h
  ·rename_i n hn;split at h
   next hl=>cases h;rw[ha,hn,Rd,jE];simp[hl,qq,jE]
   ·cases h
  ·cases h
 ·rename_i ha;split at h
  next c hc=>cases h;rw[ha,OJ,jE,eR,hc];rfl
  ·cases h
 ·cases h
def zou{op:BinOp}{t:aq}{k:IntKind}{a b:Int}(h:GB op=true):wT P op t (.int k a) (.int k b)=some (.int k (fK op k a b)):=by
 cases op<;>simp only[GB,dF] at h<;>simp[wT,wl,fK]
def Zr{op:BinOp}{t:aq}{k:IntKind}{a b:Int}(h:x_ op=true):wT P op t (.int k a) (.int k b)=some (.bool (BM op a b)):=by
 cases op<;>simp only[x_,dF] at h<;>simp[wT,wl,BM]
def Zs{op:BinOp}{t:aq}{a b:bR}(h:x_ op=true):wT P op t (.str a) (.str b)=some (.bool (fI op a b)):=by
 cases op<;>simp only[x_,dF] at h<;>simp[wT,P4,fI]
def Zt{op:BinOp}{t:aq}{x y:aO}{k k':IntKind}{a b:Int}:kb P op t x y (.int k a) (.int k' b)=true:=by cases op<;>rfl
def zgQ{op:BinOp}{t:aq}{x y:aO}{a b:bR}:kb P op t x y (.str a) (.str b)=true:=by cases op<;>rfl
def zqn{ks:List CK}(hk:∀i k,nth ks i=some k->fh k (at' ρ i)=true){ds:TypeDesc}{x y:C}{b:TB}(h:Zc ks ds x y=some b):Cl ds (bB ρ pa x) (bB ρ pa y)=some (bt ρ b)/\(∀cs,bB ρ pa x≠.agg cs):=by
 unfold Zc at h;cases ds<;>simp only[reduceCtorEq] at h
 ·split at h
  next h1 h2=>cases h;rw[x7 hk h1,x7 hk h2];exact⟨rfl,λ_ e=>by cases e⟩
  ·cases h
 ·split at h
  ·rename_i k a k' b' h1 h2;split at h
   next CX=>subst CX;cases h;rw[yN hk h1,yN hk h2];exact⟨by simp[Cl,bt,BM],λ_ e=>by cases e⟩
   ·cases h
  ·cases h
 ·split at h
  next h1 h2=>cases h;rw[vV hk h1,vV hk h2];exact⟨by simp[Cl,bt,fI],λ_ e=>by cases e⟩
  ·cases h
def zjo{eqs:aq->SC->SC->Option TB}{Rx:aq->V->V->Option Bool}(he:∀t x y b,eqs t x y=some b->Rx t (qq ρ pa x) (qq ρ pa y)=some (bt ρ b)) :
  ∀{fs:List Field}{xs ys:List C}{b:TB},U1 P eqs fs xs ys=some b->LM P Rx fs (qk ρ pa xs) (qk ρ pa ys)=some (bt ρ b)
 | [],xs,ys,b,h=>by cases h;rfl
 | f::fs,xs,ys,b,h=>by
  simp only[U1] at h;split at h
  ·cases h
  ·rename_i hn;split at h
   ·rename_i x y hx hy;split at h
    next t r ht hr=>cases h;simp only[LM,hn,bZ,vW (ρ:=ρ) (pa:=pa) hx,vW (ρ:=ρ) (pa:=pa) hy,he _ _ _ _ ht,zjo he hr,Option.bind_eq_bind,bC,xr];cases bt ρ t<;>rfl
    ·cases h
   ·cases h
def zjp{eqs:aq->SC->SC->Option TB}{Rx:aq->V->V->Option Bool}(he:∀t x y b,eqs t x y=some b->Rx t (qq ρ pa x) (qq ρ pa y)=some (bt ρ b)){e:aq}{n:Nat}{xs ys:List C} :
  ∀{k i:Nat}{b:TB},U2 P eqs e n xs ys i k=some b->LN P Rx e n (qk ρ pa xs) (qk ρ pa ys) i k=some (bt ρ b)
 | 0,i,b,h=>by cases h;rfl
 | k+1,i,b,h=>by
  simp only[U2] at h;split at h
  ·rename_i x y hx hy;split at h
   next t r ht hr=>cases h;simp only[LN,vW (ρ:=ρ) (pa:=pa) hx,vW (ρ:=ρ) (pa:=pa) hy,he _ _ _ _ ht,zjp he hr,Option.bind_eq_bind,bC,xr];cases bt ρ t<;>rfl
   ·cases h
  ·cases h
def Zu{ks:List CK}(hk:∀i k,nth ks i=some k->fh k (at' ρ i)=true):∀{d:Nat}{t:aq}{x y:SC}{b:TB},Rj P ks d t x y=some b->r8 P d t (qq ρ pa x) (qq ρ pa y)=some (bt ρ b)
 | 0,_,_,_,_,h=>by cases h
 | d+1,t,x,y,b,h=>by
  simp only[Rj] at h;split at h
  ·cases h
  ·rename_i ds Qs;split at h
   ·rename_i xs ys;simp only[r8,Qs,qq];split at h
    ·rename_i fs;split at h
     ·cases h
     next hs=>simp only[hs,dF,bZ];exact zjo (λt x y b h=>Zu hk h) h
    ·rename_i len e;split at h
     next n hn=>simp only[hn];exact zjp (λt x y b h=>Zu hk h) h
     ·cases h
    ·cases h
   next a c=>obtain⟨h1,h2⟩:=zqn (pa:=pa) hk h;simp only[r8,Qs,qq];cases hx:bB ρ pa a<;>rw[hx] at h1 h2<;>first|exact h1|exact absurd rfl (h2 _)
   ·cases h
def zov{v:V}(h:fh .fq v=true):aT v=v:=by
 cases v<;>simp only[fh,dF] at h<;>rfl
def zlM{i:Nat}{cl:Bool}(h:fh .fq (at' ρ i)=true):bB ρ pa (.v i cl)=at' ρ i:=by
 cases cl
 ·rfl
 ·simp only[bB];exact zov h
def zlN(hr:iC ρ pa σ env H){t:aq}{x y:aO}{u v:SV}{u' v':V}{b:TB}(hu:kK ρ pa u=some u')(hv:kK ρ pa v=some v')(h:U3 P σ t x y u v=some b) :
  jY P .eql t x y (some u') (some v')=some (.bool (bt ρ b))/\jY P .neq t x y (some u') (some v')=some (.bool !(bt ρ b)):=by
 unfold U3 at h;split at h
 ·rename_i a c;split at h
  ·cases h
  next hg=>cases hu;cases hv;have h1:=Zu (ρ:=ρ) (pa:=pa) hr.ks h;simp only[qq] at h1;simp only[jY,kb,wR,qq,hg,fz,aU,wT,h1,bG,Bool.not_eq_true] at *;simp[]
 ·rename_i a c;cases hu;cases hv;simp only[qq];split at h
  ·rename_i k a' k' b' h1 h2;split at h
   next CX=>subst CX;cases h;rw[yN hr.ks h1,yN hr.ks h2];simp only[jY,Zt,aU];rw[Zr rfl,Zr rfl];exact⟨by simp[bt,BM],by simp[bt,BM,bne]⟩
   ·cases h
  ·split at h
   next h1 h2=>cases h;rw[vV hr.ks h1,vV hr.ks h2];simp only[jY,zgQ,aU];rw[Zs rfl,Zs rfl];exact⟨by simp[bt,fI],by simp[bt,fI]⟩
   ·split at h
    ·rename_i ht;split at h
     next h1 h2=>cases h;rw[x7 hr.ks h1,x7 hr.ks h2];simp[jY,kb,wR,wT,r8,ht,Cl,bt]
     ·cases h
    ·rename_i ms ht;split at h
     ·rename_i i cl _ _;split at h
      ·rename_i h1 h2;cases h;have hk:=hr.ks _ _ h1;rw[zlM hk];cases hv:at' ρ i<;>rw[hv] at hk<;>simp only[fh,dF] at hk <;>
        simp[jY,kb,wR,wT,r8,ht,Cl,bt,bB,hv,tF,h2]
      ·cases h
     ·rename_i i cl _ _;split at h
      ·rename_i h1 h2;cases h;have hk:=hr.ks _ _ h1;rw[zlM hk];cases hv:at' ρ i<;>rw[hv] at hk<;>simp only[fh,dF] at hk <;>
        simp[jY,kb,wR,wT,r8,ht,Cl,bt,bB,hv,tF,h2]
      ·cases h
     ·split at h
      next h1=>cases h;simp only[mT] at h1;simp[jY,kb,wR,wT,r8,ht,Cl,bt,bB,h1]
      ·cases h
     ·cases h
    ·rename_i e ht;split at h
     ·cases h;simp[jY,kb,wR,wT,r8,ht,Cl,bt,bB]
     ·cases h;simp[jY,kb,wR,wT,r8,ht,Cl,bt,bB]
     ·cases h;simp[jY,kb,wR,wT,r8,ht,Cl,bt,bB]
     ·cases h
    ·cases h
 ·cases h
end
section
variable{P:aM}{gl:Nat->Nat->cP}{ρ:aA}{pa:bR}{σ:Sg}{env:aA}{H:Hp}{lk:bk}{df:bH}{takes:bP}
def zqo(hr:iC ρ pa σ env H){op:BinOp}{t:aq}{x y:aO}{sv:SV}(h:Zd P σ op t x y=some sv):∃v,jY P op t x y (aB env x) (aB env y)=some v/\kK ρ pa sv=some v:=by
 unfold Zd at h;split at h
 ·rename_i u v hu hv;obtain⟨u',IW,LW⟩:=vD hr hu;obtain⟨v',FZ,Fj⟩:=vD hr hv;rw[IW,FZ];split at h
  ·split at h
   next b hb=>cases h;exact⟨_,(zlN hr LW Fj hb).1,rfl⟩
   ·cases h
  ·split at h
   next b hb=>cases h;exact⟨_,(zlN hr LW Fj hb).2,by simp[kK,qq,bB,wa]⟩
   ·cases h
  ·split at h
   ·rename_i a c;cases LW;cases Fj;split at h
    ·rename_i k a' k' b' h1 h2;have e1:=yN (pa:=pa) hr.ks h1;have e2:=yN (pa:=pa) hr.ks h2;split at h
     next ht hk=>cases h;have:=FB hk;subst this;exact⟨_,by simp only[qq,e1,e2,jY,Zt,aU];exact zou ht,rfl⟩
     next hc hk _=>cases h;have:=FB hk;subst this;exact⟨_,by simp only[qq,e1,e2,jY,Zt,aU];exact Zr hc,rfl⟩
     ·cases h
    ·split at h
     ·rename_i h1 h2;split at h
      next hc=>cases h;exact⟨_,by simp only[qq,vV (pa:=pa) hr.ks h1,vV (pa:=pa) hr.ks h2,jY,zgQ,aU];exact Zs hc,rfl⟩
      ·cases h
     ·cases h
   ·cases h
 ·cases h
def xU{k:CK}{v:V}(h:fh k v=true)(hk:k≠.raw):oJ v=true/\locked v=false:=by
 cases k<;>cases v<;>simp only[fh,dF,cR,sR] at h<;>first|exact absurd rfl hk|exact⟨rfl,rfl⟩|exact h|exact⟨rfl,h.2⟩
def zow{v:V}(h:oJ v=true):oJ (aT v)=true:=by cases v<;>first|exact h|rfl
def zox{v:V}(h:oJ v=true):fH v=true:=by cases v<;>first|rfl|cases h
def Zv{v:V}(h:oJ v=true):v.cells=[v]/\v.laid=[v]:=by cases v<;>first|exact⟨rfl,rfl⟩|cases h
def zqp(hk:∀i k,nth σ.ks i=some k->fh k (at' ρ i)=true){c:C}(h:Ze σ.ks c=true):oJ (bB ρ pa c)=true:=by
  cases c with
  | k v=>exact h
  | v i cl =>
    simp only[Ze] at h;split at h
    all_goals first
      | (rename_i h0
         have:=(xU (hk _ _ h0) (by intro e;cases e)).1
         cases cl
         · exact this
         · exact zow this)
      | cases h
  | BL i=>cases h
  | _=>rfl
def Vp(hk:∀i k,nth σ.ks i=some k->fh k (at' ρ i)=true){x:SC}(h:OO σ.ks x=true):fH (qq ρ pa x)=true/\(qq ρ pa x).cells=qk ρ pa (h_ x)/\(qq ρ pa x).laid=qk ρ pa (iY x):=by
 cases x with
 | one c =>
  have:=zqp (pa:=pa) hk h;exact⟨zox this,(Zv this).1,(Zv this).2⟩
 | agg cs=>exact⟨rfl,rfl,by simp[qq,V.laid,iY,zos]⟩
def jP(cs:List C):(qk ρ pa cs).length=cs.length:=by simp[jE]
def zbc(f:C->V):∀(vs cs:List C)(off:Nat),(storeCells cs off vs).map f=storeCells (cs.map f) off (vs.map f)
 | [],cs,off=>rfl
 | v::vs,cs,off=>by simp only[storeCells,bW];rw[zbc f vs];simp[List.map_set]
def zb6{vs cs:List C}{off:Nat}:qk ρ pa (storeCells cs off vs)=storeCells (qk ρ pa cs) off (qk ρ pa vs):=by
 simp only[jE];exact zbc _ _ _ _
def Zw(hr:iC ρ pa σ env H){place:Nat->Option (Nat×Nat)}:∀{parts:List (Nat×aO)}{cells cs:List C},Rl σ cells place parts=some cs->xJ (qk ρ pa cells) place env parts=some (qk ρ pa cs)
 | [],cells,cs,h=>by cases h;rfl
 | (i,x)::r,cells,cs,h=>by
  simp only[Rl] at h;split at h
  ·rename_i v off n hv hp;split at h
   next hc=>simp only[cR] at hc;obtain⟨h1,h2,_⟩:=Vp (pa:=pa) hr.ks hc.1.1;have:=Zw hr h;rw[zb6] at this;simp only[xJ,wZ hr hv,hp,Option.bind_eq_bind,bC,h1,h2,jP,hc.1.2,hc.2,fo,aU,this]
   ·cases h
  ·cases h
def zmZ(hr:iC ρ pa σ env H){t:aq}{parts:Array (Nat×aO)}{cs:List C}(h:Zf P σ t parts.toList=some cs):wx P t parts env=some (.agg (qk ρ pa cs)):=by
 unfold Zf at h;split at h
 ·rename_i z hz;unfold wx;simp only[hz,fH,eU,dF,bZ];split at h
  ·rename_i fs hu;simp only[hu];split at h
   next ps hp=>have:=Zw hr h;rw[Vo] at this;simp only[hp,V.cells,this,bG]
   ·cases h
  ·rename_i len e hu;simp only[hu];split at h
   next ie hi=>have:=Zw hr h;rw[Vo] at this;simp only[hi,V.cells,this,bG]
   ·cases h
  ·cases h
 ·cases h
def zoy{dst:fQ}(ht:jV takes dst=false){x:aO}{type:aq}{pos:String}{after:Array Edge}{guard:oq}{cx:Cx} :
  cx.op takes ⟨dst,.move x,type,pos,after,guard⟩ env H lk df=gM env H lk df (aB env x):=by
 cases dst with
 | some d=>exact Y2 ht
 | none=>simp only[Cx.op];exact v7 rfl
def Ry{dst:fQ}(ht:jV takes dst=false){t:aq}{a:aO}{type:aq}{pos:String}{after:Array Edge}{guard:oq}{cx:Cx} :
  cx.op takes ⟨dst,.load t a,type,pos,after,guard⟩ env H lk df=gM env H lk df (((aB env a).bind (qJ cx.P H cx.gl t)).map aT):=by
 cases dst with
 | some d=>exact Rb ht
 | none =>
  simp only[Cx.op];refine v7 ?_;simp only[jA];cases h:aB env a with
  | none=>rfl
  | some v=>simp only[Option.bind_eq_bind,bC];cases qJ cx.P H cx.gl t v<;>rfl
def Vq(hr:iC ρ pa σ env H){o:Oper}{sv:SV}(ht:jV takes o.dst=false)(h:KM P σ o.op=some sv) :
  ∃v,(∀call uq,Cx.op ⟨P,gl,call,uq⟩ takes o env H lk df=some (.val v,⟨env,H,lk,df⟩))/\kK ρ pa sv=some v:=by
 obtain⟨dst,op,type,pos,after,guard⟩:=o;simp only at ht h;cases op<;>simp only[KM,reduceCtorEq] at h
 case move x =>
  obtain⟨v,h1,h2⟩:=vD hr h;exact⟨v,λcall uq=>by rw[zoy ht,h1];rfl,h2⟩
 case pick c a b =>
  split at h
  ·cases h
  ·rename_i t hc;have ec:=Zq hr hc;split at h
   next hk=>obtain⟨v,h1,h2⟩:=vD hr h;exact⟨v,λcall uq=>by rw[zZ,ec,wj hr.as hk,h1];rfl,h2⟩
   next hk=>obtain⟨v,h1,h2⟩:=vD hr h;exact⟨v,λcall uq=>by rw[zZ,ec,wj hr.as hk,h1];rfl,h2⟩
   ·split at h
    ·rename_i xa xb ha hb;have ra:bt ρ t=true->aB env a=some (bB ρ pa xa):=λht=>kn (σ:={ σ with as:=xP t σ.as }) ⟨hr.env,hr.aj,hr.ks,Zp ht hr.as⟩ ha;have rb:bt ρ t=false->aB env b=some (bB ρ pa xb):=λht=>kn (σ:={ σ with as:=xP (mkNot t) σ.as }) ⟨hr.env,hr.aj,hr.ks,Zp (by simp[wa,ht]) hr.as⟩ hb
     have main:∀v,(bt ρ t=true->v=bB ρ pa xa)->(bt ρ t=false->v=bB ρ pa xb)->∀call uq,Cx.op ⟨P,gl,call,uq⟩ takes ⟨dst,.pick c a b,type,pos,after,guard⟩ env H lk df=some (.val v,⟨env,H,lk,df⟩):=by
      intro v h1 h2 call uq;rw[zZ,ec];cases hb:bt ρ t with
      | true=>rw[ra hb,<- h1 hb];rfl
      | false=>rw[rb hb,<- h2 hb];rfl
     split at h
     ·rename_i ta tb h1 h2;cases h;have e1:=x7 (pa:=pa) hr.ks h1;have e2:=x7 (pa:=pa) hr.ks h2;refine⟨.bool (bif bt ρ t then bt ρ ta else bt ρ tb),main _ (λhb=>?_) (λhb=>?_),by simp[kK,qq,bB,zoq]⟩
      ·rw[e1,hb];rfl
      ·rw[e2,hb];rfl
     ·split at h
      ·rename_i k ta k' tb h1 h2;split at h
       ·rename_i CX;subst CX;cases h;have e1:=yN (pa:=pa) hr.ks h1;have e2:=yN (pa:=pa) hr.ks h2;refine⟨.int k (bif bt ρ t then bL ρ ta else bL ρ tb),main _ (λhb=>?_) (λhb=>?_),by simp[kK,qq,bB,bL]⟩
        ·rw[e1,hb];rfl
        ·rw[e2,hb];rfl
       ·cases h
      ·cases h
    ·cases h
 case build t parts =>
  split at h
  next cs hb=>cases h;exact⟨_,λcall uq=>by rw[zO,zmZ hr hb];rfl,rfl⟩
  ·cases h
 case load t a =>
  split at h
  ·rename_i cs ha;obtain⟨v,h1,h2⟩:=vD hr ha;cases h2;split at h
   next x hx=>cases h;exact⟨_,λcall uq=>by rw[Ry ht,h1];simp only[bC,zoc,vW (ρ:=ρ) (pa:=pa) hx,bG];rfl,by simp[kK,wY]⟩
   ·cases h
  ·rename_i a' off ha;have h1:=wZ hr ha;split at h
   ·rename_i cs ty hf;split at h
    next x hx=>cases h;have hb:=hr.aj _ _ _ hf;exact⟨_,λcall uq=>by rw[Ry ht,h1];simp only[bC,qq,bB,Re];rw[hb];simp only[xn,vW (ρ:=ρ) (pa:=pa) hx,bG];rfl,by simp[kK,wY]⟩
    ·cases h
   ·cases h
  ·cases h
 case nilCheck x =>
  split at h
  next cs hx=>cases h;obtain⟨v,h1,h2⟩:=vD hr hx;cases h2;exact⟨_,λcall uq=>by rw[zd,h1];rfl,rfl⟩
  next a off hx=>cases h;exact⟨_,λcall uq=>by rw[zd,wZ hr hx];rfl,rfl⟩
  ·cases h
 case binOp op t x y u =>
  obtain⟨v,h1,h2⟩:=zqo hr h;exact⟨v,λcall uq=>by rw[zA,h1];rfl,h2⟩
 case unOp op t x =>
  split at h
  ·rename_i c hc;split at h
   next k tt hi=>cases h;exact⟨_,λcall uq=>by rw[z4,kn hr hc,yN (pa:=pa) hr.ks hi];rfl,rfl⟩
   ·cases h
  ·rename_i c hc;split at h
   next tt hi=>cases h;exact⟨_,λcall uq=>by rw[z4,kn hr hc,x7 (pa:=pa) hr.ks hi];rfl,by simp[kK,qq,bB,wa]⟩
   ·cases h
  ·cases h
 case convert a b x =>
  split at h
  ·rename_i d k c h1 h2 hc;split at h
   next k' tt hi=>cases h;exact⟨_,λcall uq=>by rw[xl ((kn hr hc).trans (congrArg some (yN (pa:=pa) hr.ks hi))) (by simp) (Y4 ((kn hr hc).trans (congrArg some (yN (pa:=pa) hr.ks hi))) (by simp))];simp only[vw,h1,h2,Option.bind_eq_bind,bC];cases d<;>rfl,rfl⟩
   ·cases h
  ·rename_i c h1 h2 hc;split at h
   next tt hi=>cases h;exact⟨_,λcall uq=>by rw[xl ((kn hr hc).trans (congrArg some (vV (pa:=pa) hr.ks hi))) (by simp) (Y4 ((kn hr hc).trans (congrArg some (vV (pa:=pa) hr.ks hi))) (by simp))];simp only[vw,h1,h2,Option.bind_eq_bind,bC];rfl,rfl⟩
   ·cases h
  ·rename_i e c h1 h2 hc;split at h
   next tt h3 hi=>cases h;exact⟨_,λcall uq=>by rw[xl ((kn hr hc).trans (congrArg some (vV (pa:=pa) hr.ks hi))) (by simp) (Y4 ((kn hr hc).trans (congrArg some (vV (pa:=pa) hr.ks hi))) (by simp))];simp only[vw,h1,h2,h3,Option.bind_eq_bind,bC];rfl,rfl⟩
   ·cases h
  ·cases h
 case fieldAddr t x f =>
  split at h
  next off cs h1 hx=>cases h;obtain⟨v,h3,h4⟩:=vD hr hx;cases h4;exact⟨_,λcall uq=>by rw[za,h3];simp only[h1,ze,bC,qa];rfl,by simp[kK,jE]⟩
  next off a o h1 hx=>cases h;exact⟨_,λcall uq=>by rw[za,wZ hr hx];simp only[h1,ze,bC,qq,bB,qa];rfl,rfl⟩
  ·cases h
 case field t x f =>
  split at h
  ·rename_i ft off cs h1 hx;split at h
   next x' hp=>cases h;exact⟨aT (qq ρ pa x'),λcall uq=>by rw[zmN,wZ hr hx];simp only[h1,zjg,bC,qq,vW (ρ:=ρ) (pa:=pa) hp,bG];cases x'<;>rfl,by simp[kK,wY]⟩
   ·cases h
  ·cases h
 case indexAddr t x ix =>
  split at h
  ·rename_i len e k i hu hi;have ei:=kQ hr hi;split at h
   ·rename_i n cs hn hx;split at h
    next bD=>cases h;obtain⟨v,h3,h4⟩:=vD hr hx;cases h4;exact⟨_,λcall uq=>by rw[zc,h3,ei];simp only[qM,bL];simp[q7,hu,hn,Cy bD];rfl,by simp[kK,jE]⟩
    ·cases h
   ·rename_i n a off hn hx;split at h
    next bD=>cases h;exact⟨_,λcall uq=>by rw[zc,wZ hr hx,ei];simp only[qM,bL];simp[q7,hu,hn,Cy bD,qq,bB];rfl,rfl⟩
    ·cases h
   ·cases h
  ·cases h
 case index t x ix =>
  split at h
  ·rename_i len e k i hu hi;have ei:=kQ hr hi;split at h
   ·rename_i n cs hn hx;split at h
    ·rename_i bD;split at h
     next x' hp=>cases h;have tu:=vW (ρ:=ρ) (pa:=pa) hp;exact⟨aT (qq ρ pa x'),λcall uq=>by rw[Y6,wZ hr hx,ei];simp only[qM,bL];simp[N8,hu,hn,Cy bD,qq,tu];cases x'<;>rfl,by simp[kK,wY]⟩
     ·cases h
    ·cases h
   ·cases h
  ·cases h
 case extract x i =>
  split at h
  ·rename_i xs hx;split at h
   next x' hn=>cases h;obtain⟨v,h3,h4⟩:=vD hr hx;cases h4;exact⟨_,λcall uq=>by rw[Y5,h3];simp only[bC,zmX,eR,hn,bG];rfl,by simp[kK,wY]⟩
   ·cases h
  ·cases h
 case call c =>
  obtain⟨callee,args,AG⟩:=c;obtain⟨args⟩:=args;obtain⟨AG⟩:=AG;simp only at h;split at h
  ·rename_i x t;split at h
   ·rename_i c hu hc;split at h
    next s hs=>cases h;exact⟨_,λcall uq=>by rw[qc,kn hr hc,vV (pa:=pa) hr.ks hs];simp only[bC,kU,hu,bG];rfl,rfl⟩
    ·cases h
   ·rename_i e c hu hc;split at h
    ·rename_i n hn;split at h
     ·rename_i l hl;cases h;refine⟨_,λcall uq=>?_,rfl⟩;rw[qc,kn hr hc];rcases KS (pa:=pa) hr.ks hl with⟨e1,e2⟩|⟨o,e1⟩
      ·rw[e1];simp only[bC,kU,hu,bG,qq,bB,bL,e2];rfl
      ·rw[e1];simp only[bC,kU,hu,bG,qq,bB,bL];rfl
     ·cases h
    ·cases h
   ·cases h
  ·rename_i x y;split at h
   ·rename_i k a k' b hx hy;split at h
    next CX=>subst CX;cases h;refine⟨_,λcall uq=>?_,rfl⟩;simp only[Cx.op,Cx.builtin,kQ hr hx,kQ hr hy,Option.bind_eq_bind,bC,qq,bB,bL,bt,BM,cond_eq_ite,decide_eq_true_eq]
    ·cases h
   ·cases h
  ·rename_i x y;split at h
   ·rename_i k a k' b hx hy;split at h
    next CX=>subst CX;cases h;refine⟨_,λcall uq=>?_,rfl⟩;simp only[Cx.op,Cx.builtin,kQ hr hx,kQ hr hy,Option.bind_eq_bind,bC,qq,bB,bL,bt,BM,cond_eq_ite,decide_eq_true_eq]
    ·cases h
   ·cases h
  ·cases h
end
section
variable{P:aM}{gl:Nat->Nat->cP}{ρ bp:aA}{pa bU:bR}{σ:Sg}{s:St}{n0:Nat}{B:List br}{env:aA}{H:Hp}{lk:bk}{df:bH}
def v9(l:bk)(a off:Nat):Bool:=xo (λp=>Nat.beq p.1 a && Nat.beq p.2 off) l
structure Rel(n0:Nat)(B:List br)(ρ:aA)(pa:bR)(σ:Sg)(s:St):Prop where
 ext:∀bp bU,ρ <+: bp->pa <+: bU->iC bp bU σ s.env s.H
 len:σ.env.length=s.env.length
 na:pa.length=σ.na
 inj:∀a a',a<σ.na->a'<σ.na->pd pa a=pd pa a'->a=a'
 lo:∀a,σ.nf<=a->a<σ.na->n0<=pd pa a
 hi:∀a,a<σ.na->pd pa a<s.H.aj.length
 kl:ρ.length=σ.ks.length
 top:aI ρ=0
 DU:∀e∈s.H.aW,n0<=e.1
 base:∀b,b<n0->(∀a,a<σ.nf->pd pa a≠b)->s.H.aj[b]?=B[b]?
 sH:n0<=s.H.aj.length
 df:s.defers=[]
 lk:∀a off,v9 σ.lk a off=true->∀cs ty c,s.H.get (pd pa a)=some (.cells cs ty)->nth cs off=some c->locked c=true->s.lk.any (λp=>Nat.beq p.1 (pd pa a) && Nat.beq p.2 off)=true
 bn:∀a x,kN a σ.aj=some x->a<σ.na
 ln:∀a off,v9 σ.lk a off=true->a<σ.na
 nf:σ.nf<=σ.na
def Rel.here(h:Rel n0 B ρ pa σ s):iC ρ pa σ s.env s.H:=h.ext ρ pa (dL _) (dL _)
def yr(h:ρ <+: bp){i:Nat}(hi:i<ρ.length):at' bp i=at' ρ i:=by
 obtain⟨x,rfl⟩:=h;exact va hi
def Zx{α:Type}{l:List α}{i:Nat}{a:α}(h:nth l i=some a):i<l.length:=by
 rw[zV] at h;exact(eE.1 h).1
def kc(h:pa <+: bU){a:Nat}(ha:a<pa.length):pd bU a=pd pa a:=by
 obtain⟨x,rfl⟩:=h;simp[pd,zV,mz ha]
def ko(a b:aA):aI (a++b)=max (aI a) (aI b):=by
 induction a with
 | nil=>simp[aI]
 | cons v vs ih=>simp only[cF,aI,ih];omega
def yC{v:V}:∀{l:aA},v∈l->aI l=0->v.top=0
 | x::xs,h,ht=>by
  simp only[aI] at ht;rcases dh.1 h with rfl|h
  ·omega
  ·exact yC h (by omega)
def O4{l:aA}(h:∀v∈l,v.top=0):aI l=0:=by
 induction l with
 | nil=>rfl
 | cons v vs ih =>
  simp only[aI,h v eS,ih λw hw=>h w (dB _ hw)];rfl
def ML(h:aI ρ=0)(i:Nat):(at' ρ i).top=0:=by
 rw[xp];cases hi:ρ[i]? with
 | none=>rfl
 | some v=>exact yC (nF hi) h
def dx(v:V):(aT v).top=v.top:=by cases v<;>rfl
def BO:∀{BN:List CK}{x:aA}{j:Nat}{k:CK},lB BN x=true->BN[j]?=some k->∃v,x[j]?=some v/\fh k v=true
 | [],_,j,k,_,h=>by simp at h
 | c::cs,[],j,k,hk,h=>by simp[lB] at hk
 | c::cs,v::vs,0,k,hk,h=>by
  simp only[lB,cR] at hk;simp at h;subst h;exact⟨v,rfl,hk.1⟩
 | c::cs,v::vs,j+1,k,hk,h=>by
  simp only[lB,cR] at hk;simp at h;obtain⟨w,h1,h2⟩:=BO hk.2 h;exact⟨w,by simpa using h1,h2⟩
def nU:∀{BN:List CK}{x:aA},lB BN x=true->x.length=BN.length
 | [],[],_=>rfl
 | [],_::_,h=>by cases h
 | _::_,[],h=>by cases h
 | c::cs,v::vs,h=>by
  simp only[lB,cR] at h;simp[nU h.2]
def Rel.push{x:aA}{BN:List CK}(h:Rel n0 B ρ pa σ s)(hk:lB BN x=true)(ht:aI x=0):Rel n0 B (ρ++x) pa { σ with ks:=σ.ks++BN } s:=by
 have hl:=nU hk;refine⟨λbp bU h1 h2=>?_,h.len,h.na,h.inj,h.lo,h.hi,by simp[h.kl,hl],by rw[ko,h.top,ht];rfl,h.DU,h.base,h.sH,h.df,h.lk,h.bn,h.ln,h.nf⟩
 have h0:ρ <+: bp:=(tZ _ _).trans h1;obtain⟨e1,e2,e3,e4⟩:=h.ext bp bU h0 h2;refine⟨e1,e2,λi k hi=>?_,e4⟩;simp only[zV] at hi
 by_cases bD:i<σ.ks.length
 ·rw[mz bD] at hi;exact e3 i k (by rw[zV];exact hi)
 ·rw[oe (by omega)] at hi
  obtain⟨v,h3,h4⟩:=BO hk hi;have:at' bp i=v:=by
   rw[yr h1 (by have:=(eE.1 hi).1;have:=h.kl;simp;omega)]
   rw[xp,oe (by rw[h.kl];omega),h.kl,h3];rfl
  rw[this];exact h4
def Rel.oI{v:V}{ck:CK}(h:Rel n0 B ρ pa σ s)(hk:fh ck v=true)(ht:v.top=0):Rel n0 B (ρ++[v]) pa { σ with ks:=σ.ks++[ck] } s :=
 h.push (by simp[lB,hk]) (by simp[aI,ht])
def O5{ρ:aA}{v:V}:at' (ρ++[v]) ρ.length=v:=by simp[xp]
def Rel.kind{i:Nat}{ck:CK}(h:Rel n0 B ρ pa σ s)(hi:i<σ.ks.length)(hk:fh ck (at' ρ i)=true):Rel n0 B ρ pa { σ with ks:=σ.ks.set i ck } s:=by
 refine⟨λbp bU h1 h2=>?_,h.len,h.na,h.inj,h.lo,h.hi,by simp[h.kl],h.top,h.DU,h.base,h.sH,h.df,h.lk,h.bn,h.ln,h.nf⟩
 obtain⟨e1,e2,e3,e4⟩:=h.ext bp bU h1 h2;refine⟨e1,e2,λj k hj=>?_,e4⟩;simp only[zV,s7] at hj;split at hj
 next Fq=>subst Fq;simp[] at hj;subst hj;rw[yr h1 (by rw[h.kl];exact hi)];exact hk
 ·exact e3 j k (by rw[zV];exact hj)
def Rel.put{d:Nat}{sv:SV}{v:V}(h:Rel n0 B ρ pa σ ⟨env,H,lk,df⟩)(hv:∀bp bU,ρ <+: bp->pa <+: bU->∀v',kK bp bU sv=some v'->v'=v):Rel n0 B ρ pa { σ with env:=σ.env.set d sv } ⟨env.set d v,H,lk,df⟩:=by
 refine⟨λbp bU h1 h2=>?_,by simpa using h.len,h.na,h.inj,h.lo,h.hi,h.kl,h.top,h.DU,h.base,h.sH,h.df,h.lk,h.bn,h.ln,h.nf⟩
 obtain⟨e1,e2,e3,e4⟩:=h.ext bp bU h1 h2;refine⟨λi sw w hi hw=>?_,e2,e3,e4⟩;simp only[zV,s7] at hi ⊢;have hl:=h.len;simp only at hl;split at hi
 ·rename_i Fq;subst Fq;split at hi
  next bD=>cases hi;rw[hl] at bD;simp[bD,hv bp bU h1 h2 w hw]
  ·cases hi
 ·rename_i Fq;simp only[Fq,bZ];have:=e1 i sw w (by rw[zV];exact hi) hw
  rwa [zV] at this
def Rel.mM{d:fQ}{sv:SV}{v:V}(h:Rel n0 B ρ pa σ ⟨env,H,lk,df⟩)(hv:∀bp bU,ρ <+: bp->pa <+: bU->∀v',kK bp bU sv=some v'->v'=v):Rel n0 B ρ pa (mM σ d sv) ⟨qb env d v,H,lk,df⟩:=by
 cases d with
 | none=>exact h
 | some d=>exact h.put hv
def Rel.cond{c:TB}(h:Rel n0 B ρ pa σ s)(hc:∀bp bU,ρ <+: bp->pa <+: bU->bt bp c=true):Rel n0 B ρ pa { σ with as:=xP c σ.as } s :=
 ⟨λbp bU h1 h2=>⟨(h.ext bp bU h1 h2).env,(h.ext bp bU h1 h2).aj,(h.ext bp bU h1 h2).ks,Zp (hc bp bU h1 h2) (h.ext bp bU h1 h2).as⟩,h.len,h.na,h.inj,h.lo,h.hi,h.kl,h.top,h.DU,h.base,h.sH,h.df,h.lk,h.bn,h.ln,h.nf⟩
def Rel.Rz(h:Rel n0 B ρ pa σ ⟨env,H,lk,df⟩):Rel n0 B ρ pa { σ with lk:=[] } ⟨env,H,[],df⟩ :=
 ⟨λbp bU h1 h2=>⟨(h.ext bp bU h1 h2).env,(h.ext bp bU h1 h2).aj,(h.ext bp bU h1 h2).ks,(h.ext bp bU h1 h2).as⟩,h.len,h.na,h.inj,h.lo,h.hi,h.kl,h.top,h.DU,h.base,h.sH,h.df,λa off hh=>by simp[v9,xo] at hh,h.bn,λa off hh=>by simp[v9,xo] at hh,h.nf⟩
def vt{a b:Nat}{x:List C×aq}{l:List (Nat×List C×aq)}:kN a ((b,x)::l)=if a=b then some x else kN a l:=by
 simp only[kN]
 by_cases h:a=b
 ·subst h;simp
 ·have:Nat.beq a b=false:=by cases hb:Nat.beq a b with|false=>rfl|true=>exact absurd (kZ hb) h
  simp[h,this]
def fX{H:Hp}{b:Nat}{x y:br}(h:H.get b=some x):(H.push y).get b=some x:=by
 simp only[Hp.get,Hp.push] at h ⊢;exact O2 h
def Rel.block{cs:List C}{vs:aA}{t:aq}(h:Rel n0 B ρ pa σ ⟨env,H,lk,df⟩)(hv:∀bp bU,ρ <+: bp->pa <+: bU->qk bp bU cs=vs):Rel n0 B ρ (pa++[H.aj.length]) (xR σ cs t) ⟨env,H.push (.cells vs t),lk,df⟩:=by
 have KU:∀a,a<σ.na->pd (pa++[H.aj.length]) a=pd pa a:=λa ha=>kc (tZ _ _) (by rw[h.na];exact ha)
 have RA:pd (pa++[H.aj.length]) σ.na=H.aj.length:=by
  simp[pd,zV,<- h.na]
 refine⟨λbp bU h1 h2=>?_,h.len,by simp[xR,h.na],?_,?_,?_,h.kl,h.top,h.DU,?_,?_,h.df,?_,?_,?_,?_⟩
 ·have h0:pa <+: bU:=(tZ _ _).trans h2;obtain⟨e1,e2,e3,e4⟩:=h.ext bp bU h1 h0;refine⟨e1,λa c ty hf=>?_,e3,e4⟩;simp only[xR,vt] at hf;split at hf
  ·rename_i ha;subst ha;cases hf;rw[kc h2 (by simp[h.na]),RA,hv bp bU h1 h0]
   simp[Hp.get,Hp.push,zV]
  ·exact fX (e2 a c ty hf)
 ·intro a a' ha tC he;simp only[xR] at ha tC
  by_cases h1:a<σ.na<;>by_cases h2:a'<σ.na
  ·rw[KU a h1,KU a' h2] at he;exact h.inj a a' h1 h2 he
  ·obtain rfl:a'=σ.na:=by omega
   rw[KU a h1,RA] at he;have:=h.hi a h1;simp only at this;omega
  ·obtain rfl:a=σ.na:=by omega
   rw[KU a' h2,RA] at he;have:=h.hi a' h2;simp only at this;omega
  ·omega
 ·intro a h1 h2;simp only[xR] at h1 h2
  by_cases h3:a<σ.na
  ·rw[KU a h3];exact h.lo a h1 h3
  ·obtain rfl:a=σ.na:=by omega
   rw[RA];exact h.sH
 ·intro a h2;simp only[xR] at h2;simp only[Hp.push,bY,Ds]
  by_cases h3:a<σ.na
  ·rw[KU a h3];have:=h.hi a h3;simp only at this;omega
  ·obtain rfl:a=σ.na:=by omega
   rw[RA];omega
 ·intro b hb hn;have h1:=h.sH;simp only at h1;simp only[Hp.push];rw[mz (by omega)]
  exact h.base b hb λa ha=>by rw[<- KU a (by have:=h.nf;omega)];exact hn a ha
 ·have h1:=h.sH;simp only at h1;simp only[Hp.push,bY];omega
 ·intro a off hl cs' ty c hg hc nk;simp only[xR] at hl hg;have ha:=h.ln a off hl;rw[KU a ha] at hg ⊢;refine h.lk a off hl cs' ty c ?_ hc nk;have:=h.hi a ha;simp only at this;simp only[Hp.get,Hp.push,zV] at hg ⊢
  rwa [mz this] at hg
 ·intro a x hf;simp only[xR,vt] at hf ⊢;split at hf
  ·omega
  ·have:=h.bn a x hf;omega
 ·intro a off hl;have:=h.ln a off hl;simp only[xR];omega
 ·have:=h.nf;simp only[xR];omega
def Vr{a b:Nat}{cs:List C}:∀{l:List (Nat×List C×aq)},kN b (GA a cs l)=if a=b then (kN b l).map (λx=>(cs,x.2)) else kN b l
 | []=>by simp[GA,kN]
 | (c,x,t)::r=>by
  by_cases Zy:a=c
  ·subst Zy;simp only[GA,dW,aU,vt]
   by_cases hb:b=a
   ·subst hb;simp
   ·have:¬a=b:=λe=>hb e.symm;simp[hb,this]
  ·have h0:Nat.beq a c=false:=by cases hb:Nat.beq a c with|false=>rfl|true=>exact absurd (kZ hb) Zy
   simp only[GA,h0,dF,bZ,vt,Vr]
   by_cases hb:b=c
   ·subst hb;simp[Zy]
   ·simp[hb]
def Zz{H:Hp}{b:Nat}{x:br}(h:b<H.aj.length):(H.set b x).get b=some x:=by
 simp[Hp.get,Hp.set,zV,h]
def xu{H:Hp}{b c:Nat}{x:br}(h:b≠c):(H.set b x).get c=H.get c:=by
 simp[Hp.get,Hp.set,zV,h]
def ZA{H:Hp}{b:Nat}{v:V}:(H.bI b v).aj=H.aj:=by
 unfold Hp.bI;split<;>rfl
def Vs{H:Hp}{b c:Nat}{v:V}:(H.bI b v).get c=H.get c:=by
 simp[Hp.get,ZA]
def zkO{H:Hp}{b:Nat}{v:V}{e:Nat×Nat}(h:e∈(H.bI b v).aW):e∈H.aW\/(e=(b,v.top)/\v.top≠0):=by
 unfold Hp.bI at h;split at h
 ·exact .inl h
 ·simp only[dh] at h;rcases h with rfl|h
  ·exact .inr ⟨rfl,by omega⟩
  ·exact .inl h
def Rel.write{a:Nat}{BE cs:List C}{vs:aA}{ty:aq}{v:V}{mG:bk}{oh:bk}(h:Rel n0 B ρ pa σ ⟨env,H,lk,df⟩)(hf:kN a σ.aj=some (BE,ty))
  (hv:∀bp bU,ρ <+: bp->pa <+: bU->qk bp bU cs=vs) (cS:σ.nf<=a\/v.top=0)
  (Cm:∀b off,v9 mG b off=true->b<σ.na)
  (Bz:∀b off,b<σ.na->b≠a->v9 mG b off=true->v9 σ.lk b off=true) (uF:∀x,x∈lk->x∈oh)
  (Jc:∀off c,v9 mG a off=true->nth vs off=some c->locked c=true->oh.any (λp=>Nat.beq p.1 (pd pa a) && Nat.beq p.2 off)=true) :
  Rel n0 B ρ pa { σ with aj:=GA a cs σ.aj,lk:=mG } ⟨env,(H.set (pd pa a) (.cells vs ty)).bI (pd pa a) v,oh,df⟩:=by
 have ha:=h.bn a _ hf;have hlen:((H.set (pd pa a) (.cells vs ty)).bI (pd pa a) v).aj.length=H.aj.length:=by simp[ZA,Hp.set]
 have ZB:=h.hi a ha;simp only at ZB;refine⟨λbp bU h1 h2=>?_,h.len,h.na,h.inj,h.lo,λb hb=>by simp only[hlen];exact h.hi b hb,h.kl,h.top,λe he=>?_,λb hb hn=>?_,by simp only[hlen];exact h.sH,h.df,λb off hl cs' ty' c hg hc nk=>?_,λb x hb=>?_,Cm,h.nf⟩
 ·obtain⟨e1,e2,e3,e4⟩:=h.ext bp bU h1 h2;refine⟨e1,λb c t hb=>?_,e3,e4⟩;have pdb:∀b,b<σ.na->pd bU b=pd pa b:=λb hb=>kc h2 (by rw[h.na];exact hb)
  simp only[Vr] at hb;simp only[Vs];split at hb
  next DE=>subst DE;rw[hf] at hb;simp only[bG,aR,bS] at hb;obtain⟨rfl,rfl⟩:=hb;rw[pdb a ha,Zz ZB,hv bp bU h1 h2]
  ·rename_i DE;have dK:=h.bn b _ hb;rw[xu]
   ·exact e2 b c t hb
   ·rw[pdb b dK];intro e;exact DE (h.inj a b ha dK e)
 ·rcases zkO he with he|⟨rfl,ht⟩
  ·exact h.DU e he
  ·rcases cS with cS|cS
   ·exact h.lo a cS ha
   ·exact absurd cS ht
 ·simp only[ZA,Hp.set];rw[s7];split
  ·rename_i e;subst e;rcases lP a σ.nf with KV|KV
   ·exact absurd rfl (hn a KV)
   ·have:=h.lo a KV ha;omega
  ·exact h.base b hb hn
 ·by_cases DE:b=a
  ·subst DE;simp only[Vs] at hg;rw[Zz ZB] at hg;cases hg;exact Jc off c hl hc nk
  ·have hb:=Cm b off hl;simp only[Vs] at hg;rw[xu (λe=>DE (h.inj a b ha hb e).symm)] at hg;have:=h.lk b off (Bz b off hb DE hl) cs' ty' c hg hc nk;simp only[List.any_eq_true] at this ⊢;obtain⟨x,hx,uG⟩:=this;exact⟨x,uF x hx,uG⟩
 ·simp only[Vr] at hb;split at hb
  next DE=>subst DE;exact ha
  ·exact h.bn b x hb
end
section
abbrev PH:=FuncId->List AV->List (aA×aq)->Option (V×List aA)
variable{P:aM}{gl:Gl}{ph:PH}{N:Nat}{r:Nat×aA}{ρ bp:aA}{pa bU:bR}{σ:Sg}{s:St}{n0:Nat}{B:List br}{env:aA}{H:Hp}{lk:bk}{df:bH}{takes:bP}
def Vt(x:OR)(v:V):Prop:=x=.val v\/(x=.skip/\v=.bz [])
def Step(P:aM)(gl:Gl)(ph:PH)(N:Nat)(r:Nat×aA)(n0:Nat)(B:List br)(k:KT)(takes:bP)(o:Oper)(σ:Sg)(ρ:aA)(pa:bR)(s:St):Prop :=
 ∃dw sv bp bU t' x s' v,k dw sv=some t'/\cw ph gl N t' bp=some r/\ρ <+: bp/\pa <+: bU/\Rel n0 B bp bU dw s' /\
  (∃k0,∀n,k0<=n->Cx.op ⟨P,gl,qt P gl n,gl.uq⟩ takes o s.env s.H s.lk s.defers=some (x,s'))/\Vt x v /\
  (∀aD aE,bp <+: aD->bU <+: aE->∀v',kK aD aE sv=some v'->v'=v)/\∀b,wo takes σ o=some (.wr b)->∀A,A≠pd bU b->s'.H.get A=s.H.get A
def O6{o:Oper}{k:KT}{t:Tree}(h:yQ P σ o.op k=some t)(hr:Rel n0 B ρ pa σ ⟨env,H,lk,df⟩)(hq:cw ph gl N t ρ=some r)(ht:jV takes o.dst=false) :
  Step P gl ph N r n0 B k takes o σ ρ pa ⟨env,H,lk,df⟩:=by
 unfold yQ at h;split at h
 ·rename_i sv Vu;obtain⟨v,h1,h2⟩:=Vq (gl:=gl) (lk:=lk) (df:=df) hr.here ht Vu;refine⟨σ,sv,ρ,pa,t,.val v,_,v,h,hq,dL _,dL _,hr,⟨0,λn _=>h1 _ _⟩,.inl rfl,λaD aE e1 e2 v' dG=>?_,λ_ _ _ _=>rfl⟩;obtain⟨w,h3,h4⟩:=Vq (gl:=gl) (lk:=lk) (df:=df) (hr.ext aD aE e1 e2) ht Vu;have:=(h1 (qt P gl 0) gl.uq).symm.trans (h3 (qt P gl 0) gl.uq);simp only[aR,bS,OR.val.injEq] at this
  rw[this.1];exact ur (dG.symm.trans h4)
 ·cases h
def wI{c:TB}{t:Option Tree}{t0:Tree}(h:yP c t=some t0)(hq:cw ph gl N t0 ρ=some r):∃t1,t=some t1/\cw ph gl N t1 ρ=some r/\bt ρ c=true:=by
 unfold yP at h;split at h
 ·exact⟨t0,h,hq,rfl⟩
 ·split at h
  ·rename_i t1;cases h;simp only[cw,cond_eq_ite] at hq;split at hq
   next hc=>exact⟨t1,rfl,hq,hc⟩
   ·cases hq
  ·cases h
def RB{e:VE}{t:Option Tree}{t0:Tree}(h:OP e t=some t0)(hq:cw ph gl N t0 ρ=some r):∃t1,t=some t1/\cw ph gl N t1 (ρ++[jp ρ e])=some r:=by
 unfold OP at h;split at h
 next t1=>cases h;exact⟨t1,rfl,hq⟩
 ·cases h
def RD{pa:bR}{y:aA}:∀{x z:aA}{ks:List CK}{i:Nat},z.length=ks.length->x.length=i->qk (x++z++y) pa (lits ks i)=z
 | _,[],[],i,_,_=>rfl
 | _,[],_::_,i,h,_=>by simp at h
 | _,_::_,[],i,h,_=>by simp at h
 | x,v::vs,k::ks,i,h,hi=>by
  simp only[lits,qk];have h1:at' (x++v::vs++y) i=v:=by
   rw[xp];subst hi;simp
  have h2:=RD (pa:=pa) (x:=x++[v]) (y:=y) (z:=vs) (ks:=ks) (i:=i+1) (by simpa using h) (by simp[hi])
  simp only[b_,cF,cq] at h1 h2 ⊢;rw[h2];simp only[bB];rw[h1]
def Vv{ty:aq}{i:Nat}{k:Sg->SC->Option Tree}{t:Tree}(h:Jl P σ ty i k=some t)(hr:Rel n0 B ρ pa σ s)(hi:i<σ.ks.length)(hq:cw ph gl N t ρ=some r) :
  ∃j_ sc bp t',k { σ with ks:=j_ } sc=some t'/\cw ph gl N t' bp=some r/\ρ <+: bp/\Rel n0 B bp pa { σ with ks:=j_ } s/\(∀aD aE,bp <+: aD->qq aD aE sc=at' ρ i)/\(∀aD aE,bp <+: aD->qk aD aE (h_ sc)=(at' ρ i).cells):=by
 have FW:i<ρ.length:=by rw[hr.kl];exact hi
 unfold Jl at h;split at h
 ·split at h
  ·rename_i ks hl;split at h
   ·rename_i t' Kz;cases h;simp only[cw] at hq;split at hq
    ·rename_i cs ej;rw[cond_eq_ite] at hq;split at hq
     ·rename_i hk;have cS:aI cs=0:=by have:=ML hr.top i;rw[ej] at this;exact this
      have hlen:=nU hk;have Vw:∀aD aE,ρ++cs <+: aD->qk aD aE (lits ks σ.ks.length)=cs:=by
       rintro aD aE ⟨y,rfl⟩;exact RD hlen hr.kl
      exact⟨_,_,ρ++cs,t',Kz,hq,tZ _ _,hr.push hk cS,λaD aE e=>by rw[ej];simp only[qq];rw[Vw aD aE e],λaD aE e=>by rw[ej];exact Vw aD aE e⟩
     ·cases hq
    ·cases hq
   ·cases h
  ·cases h
 ·split at h
  ·rename_i ck DB;split at h
   ·rename_i t' Kz;cases h;simp only[cw,cond_eq_ite] at hq;split at hq
    ·rename_i hk;refine⟨_,_,ρ,t',Kz,hq,dL _,hr.kind hi hk,λaD aE e=>?_,λaD aE e=>?_⟩
     ·simp only[qq,bB];exact yr e FW
     ·simp only[h_,qk,bB];rw[yr e FW];have cG:ck≠.raw:=by
       unfold U4 at DB
       repeat' split at DB
       all_goals first|(cases DB;intro e;cases e;done)|(cases DB;done)
      exact((Zv (xU hk cG).1).1).symm
    ·cases hq
   ·cases h
  ·cases h
 ·cases h
def zrW{v:V}(h:v.top=0):aI (Sx.vL v)=0:=by
 cases v<;>first|rfl|exact h
def lE{l:aA}(h:aI l=0)(n:Nat):aI (l.take n)=0:=O4 λ_v hv=>yC (CB hv) h
def mB{l:aA}(h:aI l=0)(n:Nat):aI (l.drop n)=0:=O4 λ_v hv=>yC (Cj hv) h
def xV(h:aI ρ=0):∀(l:TL),aI (cj ρ l)=0
 | .var i=>zrW (ML h i)
 | .nil=>rfl
 | .snoc l i=>by simp only[cj,ko,xV h l,aI,ML h i];rfl
 | .cat a b=>by simp only[cj,ko,xV h a,xV h b];rfl
 | .sub l a b=>by simp only[cj];exact mB (lE (xV h l) _) _
 | .KK s=>O4 λv hv=>by
   simp only[cj,ni] at hv;obtain⟨_,_,rfl⟩:=hv;rfl
def RE(hk:∀i k,nth σ.ks i=some k->fh k (at' ρ i)=true)(ht:aI ρ=0){c:C}(h:GC σ.ks c=true):(bB ρ pa c).top=0/\locked (bB ρ pa c)=false/\∀bU,bB ρ bU c=bB ρ pa c:=by
 cases c with
 | k v =>
  simp only[GC,cR,sR] at h;exact⟨kZ h.1,h.2,λ_=>rfl⟩
 | v i cl =>
  simp only[GC] at h;have hl:locked (at' ρ i)=false:=by
   split at h
   all_goals first
    |(rename_i h0;exact(xU (hk _ _ h0) (by intro e;cases e)).2)
    |cases h
  refine⟨?_,?_,λ_=>by cases cl<;>rfl⟩
  ·cases cl
   ·exact ML ht i
   ·simp only[bB,dx];exact ML ht i
  ·cases cl
   ·exact hl
   ·simp only[bB];cases hv:at' ρ i<;>rfl
 | i k t=>exact⟨rfl,rfl,λ_=>rfl⟩
 | b t=>exact⟨rfl,rfl,λ_=>rfl⟩
 | s t=>exact⟨rfl,rfl,λ_=>rfl⟩
 | sl sz t o =>
  refine⟨xV ht t,?_,λ_=>rfl⟩;cases o<;>first|rfl|cases h
 | p a off=>cases h
 | BL i=>cases h
def vF(hk:∀i k,nth σ.ks i=some k->fh k (at' ρ i)=true)(ht:aI ρ=0):∀{cs:List C},ye σ.ks cs=true->aI (qk ρ pa cs)=0/\(∀v∈qk ρ pa cs,locked v=false)/\∀bU,qk ρ bU cs=qk ρ pa cs
 | [],_=>⟨rfl,λv hv=>by simp[qk] at hv,λ_=>rfl⟩
 | c::cs,h=>by
  simp only[ye,cR] at h;obtain⟨a1,a2,a3⟩:=RE (pa:=pa) hk ht h.1;obtain⟨b1,b2,b3⟩:=vF hk ht h.2;refine⟨by simp only[qk,aI,a1,b1];rfl,λv hv=>?_,λbU=>by simp only[qk,a3 bU,b3 bU]⟩
  simp only[qk,dh] at hv;rcases hv with rfl|hv
  ·exact a2
  ·exact b2 v hv
def y6(hk:∀i k,nth σ.ks i=some k->fh k (at' ρ i)=true)(ht:aI ρ=0){x:SC}(h:MD σ.ks x=true):(qq ρ pa x).top=0/\∀bU,qq ρ bU x=qq ρ pa x:=by
 cases x with
 | one c=>obtain⟨a1,_,a3⟩:=RE (pa:=pa) hk ht h;exact⟨a1,a3⟩
 | agg cs=>obtain⟨a1,_,a3⟩:=vF (pa:=pa) hk ht h;exact⟨a1,λbU=>by simp only[qq,a3 bU]⟩
def zm0{t:Nat}{v:V}(h:∀sz xs e,v≠.sl sz xs (.yes e)):vA env t (some v)=some (aT v,env):=by
 cases v<;>first|rfl|(rename_i sz xs o;cases o<;>first|rfl|exact absurd rfl (h _ _ _))
def Vx{x:aO}{k:Sg->SC->Option Tree}{t:Tree}(h:xQ σ x k=some t)(hr:Rel n0 B ρ pa σ ⟨env,H,lk,df⟩) :
  ∃e' sc dy v,k { σ with env:=e' } sc=some t/\take env x=some (v,dy)/\Rel n0 B ρ pa { σ with env:=e' } ⟨dy,H,lk,df⟩/\(∀aD aE,ρ <+: aD->pa <+: aE->qq aD aE sc=v):=by
 have BA:{ σ with env:=σ.env }=σ:=rfl;cases x with
 | tmp tt =>
  simp only[xQ] at h;split at h
  ·rename_i sz l e hs;have hv:∀aD aE,ρ <+: aD->pa <+: aE->nth env tt=some (.sl sz (cj aD l) (.yes e)):=λaD aE h1 h2=>by
    obtain⟨_,v,h3,h4⟩:=Rw (hr.ext aD aE h1 h2) hs;cases h4;exact h3
   have h0:=hv ρ pa (dL _) (dL _);have eM:∀aD aE,ρ <+: aD->pa <+: aE->cj aD l=cj ρ l:=λaD aE h1 h2=>by
    have:=(hv aD aE h1 h2).symm.trans h0;simpa using this
   refine⟨_,_,_,.sl sz (cj ρ l) (.yes e),h,?_,hr.put (v:=.sl sz (cj ρ l) .no) (λaD aE h1 h2 v' dG=>?_),λaD aE h1 h2=>?_⟩
   ·rw[zu,h0];rfl
   ·cases dG;simp only[qq,bB];rw[eM aD aE h1 h2]
   ·simp only[qq,bB];rw[eM aD aE h1 h2]
  ·rename_i i hs;split at h
   ·rename_i hd;have hv:∀aD aE,ρ <+: aD->pa <+: aE->nth env tt=some (at' aD i):=λaD aE h1 h2=>by
     obtain⟨_,v,h3,h4⟩:=Rw (hr.ext aD aE h1 h2) hs;cases h4;exact h3
    have h0:=hv ρ pa (dL _) (dL _);have eM:∀aD aE,ρ <+: aD->pa <+: aE->at' aD i=at' ρ i:=λaD aE h1 h2=>by
     have:=(hv aD aE h1 h2).symm.trans h0;simpa using this
    have hl:locked (at' ρ i)=false:=(RE (pa:=pa) hr.here.ks hr.top hd).2.1;have mZ:=hr.put (d:=tt) (sv:=.val (.one (.v i true))) (v:=aT (at' ρ i)) (λaD aE h1 h2 v' dG=>by cases dG;simp only[qq,bB];rw[eM aD aE h1 h2])
    have fT:∀v,nth env tt=some v->env.set tt v=env:=λv hv=>zjh hv;cases FD:at' ρ i with
    | sl sz xs o =>
     cases o with
     | yes e =>
      refine⟨_,_,_,_,h,by rw[zu,h0,FD];rfl,?_,λaD aE h1 h2=>?_⟩
      ·rw[FD] at mZ;exact mZ
      ·simp only[qq,bB];rw[eM aD aE h1 h2,FD]
     | no =>
      refine⟨_,_,_,_,h,by rw[zu,h0,FD];rfl,?_,λaD aE h1 h2=>?_⟩
      ·rw[FD] at mZ;simp only[aT] at mZ
       rwa [fT _ (by rw[h0,FD])] at mZ
      ·simp only[qq,bB];rw[eM aD aE h1 h2,FD];rfl
     | lock=>rw[FD] at hl;cases hl
    | _ =>
     refine⟨_,_,_,_,h,by rw[zu,h0,FD];rfl,?_,λaD aE h1 h2=>?_⟩
     ·rw[FD] at mZ;simp only[aT] at mZ
      rwa [fT _ (by rw[h0,FD])] at mZ
     ·simp only[qq,bB];rw[eM aD aE h1 h2,FD];rfl
   ·cases h
  ·rename_i x n1 n2 hs;split at h
   ·rename_i hny;have hv:∀aD aE,ρ <+: aD->pa <+: aE->nth env tt=some (qq aD aE x):=λaD aE h1 h2=>by
     obtain⟨_,v,h3,h4⟩:=Rw (hr.ext aD aE h1 h2) hs;cases h4;exact h3
    have h0:=hv ρ pa (dL _) (dL _);have eM:∀aD aE,ρ <+: aD->pa <+: aE->qq aD aE x=qq ρ pa x:=λaD aE h1 h2=>by
     have:=(hv aD aE h1 h2).symm.trans h0;simpa using this
    refine⟨σ.env,mL x,env,aT (qq ρ pa x),h,?_,hr,λaD aE h1 h2=>by rw[wY,eM aD aE h1 h2]⟩
    rw[zu,h0];refine zm0 ?_;intro sz xs e he;cases x with
    | agg cs=>cases he
    | one c =>
     cases c with
     | k v=>simp only[qq,bB] at he;subst he;cases hny
     | v i cl =>
      cases cl with
      | false=>exact n2 i rfl
      | true=>simp only[qq,bB] at he;cases hh:at' ρ i<;>rw[hh] at he<;>cases he
     | sl mc t o=>simp only[qq,bB,V.sl.injEq] at he;obtain⟨_,_,rfl⟩:=he;exact n1 _ _ _ rfl
     | BL i=>simp only[qq,bB] at he;cases hh:at' ρ i<;>rw[hh] at he<;>cases he
     | _=>cases he
   ·cases h
  ·cases h
 | const v =>
  simp only[xQ] at h;split at h
  next x hs=>have h0:=wZ hr.here hs;exact⟨σ.env,x,env,qq ρ pa x,h,by simp only[take,h0,bG],hr,λaD aE h1 h2=>ur ((wZ (hr.ext aD aE h1 h2) hs).symm.trans h0)⟩
  ·cases h
 | global g=>simp[xQ,pk] at h
 | func f=>simp[xQ,pk] at h
end
section
variable{P:aM}{gl:Gl}{ph:PH}{N:Nat}{r:Nat×aA}{ρ bp:aA}{pa bU:bR}{σ:Sg}{s:St}{n0:Nat}{B:List br}{env:aA}{H:Hp}{lk:bk}{df:bH}{takes:bP}{k:KT}{t:Tree}
variable{dst:fQ}{type:aq}{pos:String}{after:Array Edge}{guard:oq}
def yD{v:V}{aD:aA}(h:ρ++[v] <+: aD){j:Nat}(hj:j=ρ.length):at' aD j=v:=by
 subst hj;rw[yr h (by simp),O5]
def O7{x aD:aA}(h:ρ++x <+: aD):ρ <+: aD:=(tZ _ _).trans h
def jF{o:Oper}{dw:Sg}{sv:SV}{bp:aA}{t':Tree}{v:V}{dy:aA}(hk:k dw sv=some t')(hq:cw ph gl N t' bp=some r)(hp:ρ <+: bp)(hr:Rel n0 B bp pa dw ⟨dy,H,lk,df⟩)
  (ho:∀n,Cx.op ⟨P,gl,qt P gl n,gl.uq⟩ takes o env H lk df=some (.val v,⟨dy,H,lk,df⟩)) (hv:∀aD aE,bp <+: aD->pa <+: aE->∀v',kK aD aE sv=some v'->v'=v) :
  Step P gl ph N r n0 B k takes o σ ρ pa ⟨env,H,lk,df⟩ :=
 ⟨dw,sv,bp,pa,t',.val v,_,v,hk,hq,hp,dL _,hr,⟨0,λn _=>ho n⟩,.inl rfl,hv,λ_ _ _ _=>rfl⟩
def gS{o:Oper}{x:aO}(h:xQ σ x (λσ x=>k σ (.val x))=some t)(hr:Rel n0 B ρ pa σ ⟨env,H,lk,df⟩)(hq:cw ph gl N t ρ=some r)(ho:∀cx:Cx,cx.op takes o env H lk df=Ra H lk df (take env x)) :
  Step P gl ph N r n0 B k takes o σ ρ pa ⟨env,H,lk,df⟩:=by
 obtain⟨e',sc,dy,v,h1,h2,h3,h4⟩:=Vx h hr;exact jF h1 hq (dL _) h3 (v:=v) (λn=>by rw[ho,h2];rfl) (λaD aE e1 e2 v' dG=>by cases dG;exact h4 aD aE e1 e2)
def RF{c:TB}{a b:Option Tree}(h:MG c a b=some t)(hq:cw ph gl N t ρ=some r):∃ta tb,a=some ta/\b=some tb/\((bt ρ c=true/\cw ph gl N ta ρ=some r)\/(bt ρ c=false/\cw ph gl N tb ρ=some r)):=by
 unfold MG at h;split at h
 ·rename_i ta tb;cases h;simp only[cw] at hq;refine⟨ta,tb,rfl,rfl,?_⟩;cases hc:bt ρ c<;>rw[hc] at hq
  ·exact .inr ⟨rfl,hq⟩
  ·exact .inl ⟨rfl,hq⟩
 ·cases h
def zqr{c a b:aO}(h:iZ P takes σ ⟨dst,.pick c a b,type,pos,after,guard⟩ k=some t)(hr:Rel n0 B ρ pa σ ⟨env,H,lk,df⟩)(hq:cw ph gl N t ρ=some r)(iu:jV takes dst=false) :
  Step P gl ph N r n0 B k takes ⟨dst,.pick c a b,type,pos,after,guard⟩ σ ρ pa ⟨env,H,lk,df⟩:=by
 simp only[iZ] at h;split at h
 next v hv=>exact O6 (o:=⟨dst,.pick c a b,type,pos,after,guard⟩) (by simp only[yQ,hv];exact h) hr hq iu
 ·split at h
  ·rename_i tt x y hc ha hb;obtain⟨ta,tb,h1,h2,h3⟩:=RF h hq;have ec:=Zq hr.here hc;rcases h3 with⟨h3,h4⟩|⟨h3,h4⟩
   ·obtain⟨v,e1,e2⟩:=vD hr.here ha;refine jF h1 h4 (dL _) hr (v:=v) (λn=>by rw[zZ,ec,h3,e1];rfl) (λaD aE f1 f2 v' dG=>?_)
    obtain⟨w,e3,e4⟩:=vD (hr.ext aD aE f1 f2) ha;have:=e1.symm.trans e3;cases this;exact ur (dG.symm.trans e4)
   ·obtain⟨v,e1,e2⟩:=vD hr.here hb;refine jF h2 h4 (dL _) hr (v:=v) (λn=>by rw[zZ,ec,h3,e1];rfl) (λaD aE f1 f2 v' dG=>?_)
    obtain⟨w,e3,e4⟩:=vD (hr.ext aD aE f1 f2) hb;have:=e1.symm.trans e3;cases this;exact ur (dG.symm.trans e4)
  ·cases h
def iD{a off b o:Nat}{l:bk}:v9 ((a,off)::l) b o=true ↔ (a=b/\off=o)\/v9 l b o=true:=by
 simp only[v9,xo];constructor
 ·intro h;split at h
  next hh=>simp only[cR] at hh;exact .inl ⟨kZ hh.1,kZ hh.2⟩
  ·exact .inr h
 ·rintro(⟨rfl,rfl⟩|h)
  ·simp
  ·split
   ·rfl
   ·exact h
def zjq{cs:List C}{off:Nat}{c:C}:qk ρ pa (cs.set off c)=(qk ρ pa cs).set off (bB ρ pa c):=by
 simp only[jE,List.map_set]
def zoz{H:Hp}{b:Nat}{x:br}(h:H.get b=some x):H.set b x=H:=by
 obtain⟨bs,es⟩:=H;simp only[Hp.get,zV] at h;simp only[Hp.set]
 congr 1
 apply Dt;intro t;rw[List.getElem?_set'];split
 next e=>subst e;rw[h];rfl
 ·rfl
def Vy{d:Tmp}{tt:aq}{a:aO}{b off:Nat}{cs:aA}{ty:aq}{cx:Cx}(hd:takes.any (Nat.beq d)=true)(ha:ka cx.P tt=some false)(hp:aB env a=some (.ptr b off))(hg:H.get b=some (.cells cs ty)) :
  (∀sz xs e,nth cs off=some (.sl sz xs (.yes e))->cx.op takes ⟨some d,.load tt a,type,pos,after,guard⟩ env H lk df=some (.val (.sl sz xs (.yes e)),⟨env,H.set b (.cells (cs.set off (.sl sz xs .lock)) ty),(b,off)::lk,df⟩)) /\
  (nth cs off=some .aJ->cx.op takes ⟨some d,.load tt a,type,pos,after,guard⟩ env H lk df=some (.val .aJ,⟨env,H,lk,df⟩)):=by
 refine⟨λsz xs e hc=>?_,λhc=>?_⟩
 ·simp only[Cx.op,hd,ha,hp,hg,hc,fB,jU];rfl
 ·simp only[Cx.op,hd,ha,hp,hg,hc]
def zoA{d:Tmp}{tt:aq}{a:aO}(h:iZ P takes σ ⟨some d,.load tt a,type,pos,after,guard⟩ k=some t)(hr:Rel n0 B ρ pa σ ⟨env,H,lk,df⟩)(hq:cw ph gl N t ρ=some r)(iu:takes.any (Nat.beq d)=true) :
  Step P gl ph N r n0 B k takes ⟨some d,.load tt a,type,pos,after,guard⟩ σ ρ pa ⟨env,H,lk,df⟩:=by
 simp only[iZ,jV,iu] at h;split at h
 ·rename_i a' off sV mP;have hp:=wZ hr.here mP;simp only[qq,bB] at hp;split at h
  ·rename_i cs ty hf;have AH:=hr.here.aj _ _ _ hf;have hN:=hr.bn _ _ hf;have RG:∀(cs':aA)(b:Nat),wo takes σ ⟨some d,.load tt a,type,pos,after,guard⟩=some (.wr b)->∀A,A≠pd pa b->(H.set (pd pa a') (.cells cs' ty)).get A=H.get A:=λcs' b hb A hA=>by
    have dK:b=a':=by
     cases a with
     | global g=>simp[pk] at mP
     | func f=>simp[pk] at mP
     | tmp x=>simp[wo,jV,iu,mP] at hb;exact hb.symm
     | const v=>simp[wo,jV,iu,mP] at hb;exact hb.symm
    subst dK;exact xu (λe=>hA e.symm)
   have eD:∀aD aE,ρ <+: aD->pa <+: aE->qk aD aE cs=qk ρ pa cs:=λaD aE h1 h2=>by
    have:=(hr.ext aD aE h1 h2).aj _ _ _ hf;rw[kc h2 (by rw[hr.na];exact hN),AH] at this
    simpa using this.symm
   split at h
   ·rename_i hc;have e0:nth (qk ρ pa cs) off=some .aJ:=by rw[jE,eR,hc];rfl
    exact jF h hq (dL _) hr (v:=.aJ) (λn=>(Vy iu sV hp AH).2 e0) (λ_ _ _ _ v' dG=>by cases dG;rfl)
   ·rename_i sz l e hc;have e0:nth (qk ρ pa cs) off=some (.sl sz (cj ρ l) (.yes e)):=by rw[jE,eR,hc];rfl
    have hl:∀aD aE,ρ <+: aD->pa <+: aE->cj aD l=cj ρ l:=λaD aE h1 h2=>by
     have h3:=eD aD aE h1 h2;have h4:nth (qk aD aE cs) off=some (.sl sz (cj aD l) (.yes e)):=by rw[jE,eR,hc];rfl
     rw[h3,e0] at h4;simpa using h4.symm
    refine⟨_,_,ρ,pa,t,.val (.sl sz (cj ρ l) (.yes e)),_,_,h,hq,dL _,dL _,?_,⟨0,λn _=>(Vy iu sV hp AH).1 _ _ _ e0⟩,.inl rfl,λaD aE h1 h2 v' dG=>by cases dG;simp only[qq,bB];rw[hl aD aE h1 h2],RG _⟩
    have hw:=hr.write (v:=.ef) (oh:=(pd pa a',off)::lk) (mG:=(a',off)::σ.lk) (cs:=cs.set off (.sl sz l .lock)) (vs:=(qk ρ pa cs).set off (.sl sz (cj ρ l) .lock)) hf (λaD aE h1 h2=>by rw[zjq,eD aD aE h1 h2];simp only[bB];rw[hl aD aE h1 h2]) (.inr rfl)
     (λb o hb=>by rcases iD.1 hb with⟨rfl,_⟩|hb;exact hN;exact hr.ln b o hb) (λb o _ cG hb=>by rcases iD.1 hb with⟨rfl,_⟩|hb;exact absurd rfl cG;exact hb) (λx hx=>dB _ hx) (λo c hb hc nk=>?_)
    ·simpa[Hp.bI,V.top] using hw
    ·rcases iD.1 hb with⟨_,rfl⟩|hb
     ·simp
     ·simp only[zV,s7] at hc;split at hc
      next KW=>subst KW;simp
      ·have:=hr.lk a' o hb (qk ρ pa cs) ty c AH (by rw[zV];exact hc) nk
       simp only[List.any_cons,this,fP]
   ·rename_i i hc;split at h
    ·rename_i sz hki;obtain⟨t1,h1,h2,h3⟩:=wI h hq;have e0:nth (qk ρ pa cs) off=some (at' ρ i):=by rw[jE,eR,hc];rfl
     have hl:∀aD aE,ρ <+: aD->pa <+: aE->at' aD i=at' ρ i:=λaD aE h1 h2=>by
      have h3:=eD aD aE h1 h2;have h4:nth (qk aD aE cs) off=some (at' aD i):=by rw[jE,eR,hc];rfl
      rw[h3,e0] at h4;simpa using h4.symm
     simp only[bt] at h3;have hw:∀oh,(∀x,x∈lk->x∈oh)->(locked (w_ (at' ρ i))=true->(pd pa a',off)∈oh)->Rel n0 B ρ pa { σ with aj:=GA a' (cs.set off (.BL i)) σ.aj,lk:=(a',off)::σ.lk } ⟨env,H.set (pd pa a') (.cells ((qk ρ pa cs).set off (w_ (at' ρ i))) ty),oh,df⟩:=λoh uF hl5=>by
      have hw:=hr.write (v:=.ef) (oh:=oh) (mG:=(a',off)::σ.lk) (cs:=cs.set off (.BL i)) (vs:=(qk ρ pa cs).set off (w_ (at' ρ i))) hf (λaD aE h1 h2=>by rw[zjq,eD aD aE h1 h2];simp only[bB];rw[hl aD aE h1 h2]) (.inr rfl)
       (λb o hb=>by rcases iD.1 hb with⟨rfl,_⟩|hb;exact hN;exact hr.ln b o hb) (λb o _ cG hb=>by rcases iD.1 hb with⟨rfl,_⟩|hb;exact absurd rfl cG;exact hb) uF (λo c hb hc nk=>?_)
      ·simpa[Hp.bI,V.top] using hw
      ·simp only[zV,s7] at hc;have KX:off=o->oh.any (λp=>Nat.beq p.1 (pd pa a') && Nat.beq p.2 o)=true:=λKW=>by
        subst KW;have bD:off<(qk ρ pa cs).length:=Zx e0;simp[bD] at hc;subst hc;have:=hl5 nk;simp only[List.any_eq_true];exact⟨_,this,by simp⟩
       rcases iD.1 hb with⟨_,KW⟩|hb
       ·exact KX KW
       ·by_cases KW:off=o
        ·exact KX KW
        ·simp only[KW,bZ] at hc;have:=hr.lk a' o hb (qk ρ pa cs) ty c AH (by rw[zV];exact hc) nk
         simp only[List.any_eq_true] at this ⊢;obtain⟨x,hx,uG⟩:=this;exact⟨x,uF x hx,uG⟩
     cases hv:at' ρ i with
     | aJ =>
      refine jF h1 h2 (dL _) ?_ (v:=.aJ) (λn=>(Vy iu sV hp AH).2 (by rw[e0,hv])) (λaD aE e1 e2 v' dG=>by cases dG;simp only[qq,bB];rw[hl aD aE e1 e2,hv])
      have:=hw lk (λ_ h=>h) (by rw[hv];intro h;cases h)
      rw[hv] at this e0;have e1:(qk ρ pa cs).set off (w_ .aJ)=qk ρ pa cs:=zjh e0;rw[e1,zoz AH] at this;exact this
     | sl mc xs o =>
      cases o with
      | yes e =>
       refine⟨_,_,ρ,pa,t1,.val (.sl mc xs (.yes e)),_,_,h1,h2,dL _,dL _,?_,⟨0,λn _=>(Vy iu sV hp AH).1 _ _ _ (by rw[e0,hv])⟩,.inl rfl,λaD aE e1 e2 v' dG=>by cases dG;simp only[qq,bB];rw[hl aD aE e1 e2,hv],RG _⟩
       have:=hw ((pd pa a',off)::lk) (λ_ h=>dB _ h) (λ_=>eS);rw[hv] at this;exact this
      | _=>rw[hv] at h3;cases h3
     | _=>rw[hv] at h3;cases h3
    ·cases h
   ·cases h
  ·cases h
 ·cases h
end
section
variable{P:aM}{gl:Gl}{ph:PH}{N:Nat}{r:Nat×aA}{ρ bp:aA}{pa bU:bR}{σ:Sg}{s:St}{n0:Nat}{B:List br}{env:aA}{H:Hp}{lk:bk}{df:bH}{takes:bP}{k:KT}{t:Tree}
variable{dst:fQ}{type:aq}{pos:String}{after:Array Edge}{guard:oq}
def zej{H:Hp}{A:Nat}{x:br}(h:A≠H.aj.length):(H.push x).get A=H.get A:=by
 simp only[Hp.get,Hp.push,zV,List.getElem?_append];split
 ·rfl
 next hl=>rw[uj (by simp;omega),uj (by omega)]
def tq{tt:aq}(h:iZ P takes σ ⟨dst,.alloc tt,type,pos,after,guard⟩ k=some t)(hr:Rel n0 B ρ pa σ ⟨env,H,lk,df⟩)(hq:cw ph gl N t ρ=some r) :
  Step P gl ph N r n0 B k takes ⟨dst,.alloc tt,type,pos,after,guard⟩ σ ρ pa ⟨env,H,lk,df⟩:=by
 simp only[iZ] at h;split at h
 ·rename_i z hz;split at h
  ·rename_i hk;have hb:=hr.block (cs:=h_ (Rg z)) (vs:=z.cells) (t:=tt) (λaD aE _ _=>by cases z<;>first|rfl|exact Vo _)
   refine⟨_,_,ρ,_,t,.val (.ptr H.aj.length 0),_,_,h,hq,dL _,tZ _ _,hb,⟨0,λn _=>zoa hz hk⟩,.inl rfl,λaD aE h1 h2 v' dG=>?_,λb hb A hA=>?_⟩
   rotate_left
   ·simp only[wo,aR,Bi.wr.injEq] at hb;subst hb;exact zej (by rw[<- hr.na] at hA;simpa[pd,zV] using hA)
   cases dG;simp only[qq,bB];rw[kc h2 (by simp[hr.na])]
   simp[pd,zV,<- hr.na]
  ·cases h
 ·cases h
def Vz{x:SC}{v:V}(hk:OO σ.ks x=true)(h:∀i k,nth σ.ks i=some k->fh k (at' ρ i)=true)(he:qq ρ pa x=v):fH v=true/\v.laid=qk ρ pa (iY x):=by
 obtain⟨h1,_,h3⟩:=Vp (pa:=pa) h hk;rw[<- he];exact⟨h1,h3⟩
def CM{tt:aq}{x:aO}(h:iZ P takes σ ⟨dst,.box tt x,type,pos,after,guard⟩ k=some t)(hr:Rel n0 B ρ pa σ ⟨env,H,lk,df⟩)(hq:cw ph gl N t ρ=some r) :
  Step P gl ph N r n0 B k takes ⟨dst,.box tt x,type,pos,after,guard⟩ σ ρ pa ⟨env,H,lk,df⟩:=by
 simp only[iZ] at h;obtain⟨e',sc,dy,v,h1,h2,h3,h4⟩:=Vx h hr;split at h1
 ·rename_i hk;have hl:=Vz hk h3.here.ks (h4 ρ pa (dL _) (dL _));have hb:=h3.block (cs:=iY sc) (vs:=v.laid) (t:=tt) (λaD aE e1 e2=>(Vz hk (h3.ext aD aE e1 e2).ks (h4 aD aE e1 e2)).2.symm);refine⟨_,_,ρ,_,t,.val (.ptr H.aj.length 0),_,_,h1,hq,dL _,tZ _ _,hb,⟨0,λn _=>by rw[qf,h2,wn hl.1]⟩,.inl rfl,λaD aE e1 e2 v' dG=>?_,λb hb A hA=>?_⟩
  rotate_left
  ·simp only[wo,aR,Bi.wr.injEq] at hb;subst hb;exact zej (by rw[<- hr.na] at hA;simpa[pd,zV] using hA)
  cases dG;simp only[qq,bB];rw[kc e2 (by simp[hr.na])]
  simp[pd,zV,<- hr.na]
 ·cases h1
def zlO(hk:∀i k,nth σ.ks i=some k->fh k (at' ρ i)=true)(ht:aI ρ=0){c:C}(h:U6 σ.ks c=true):locked (bB ρ pa c)=false:=by
 cases c with
 | k v=>simpa[U6,bB] using h
 | v i cl =>
  have:=(RE (pa:=pa) hk ht (c:=.v i false) h).2.1;cases cl
  ·exact this
  ·simp only[bB];cases hv:at' ρ i<;>rfl
 | sl sz tl o=>cases o<;>first|rfl|cases h
 | BL i=>cases h
 | _=>rfl
def zjr(hk:∀i k,nth σ.ks i=some k->fh k (at' ρ i)=true)(ht:aI ρ=0):∀{cs:List C},U7 σ.ks cs=true->∀v∈qk ρ pa cs,locked v=false
 | [],_,v,hv=>by simp[qk] at hv
 | c::cs,h,v,hv=>by
  simp only[U7,cR] at h;simp only[qk,dh] at hv;rcases hv with rfl|hv
  ·exact zlO hk ht h.1
  ·exact zjr hk ht h.2 v hv
def zlP{gR:bk}{a b:Nat}(hk:∀i k,nth σ.ks i=some k->fh k (at' ρ i)=true)(ht:aI ρ=0) :
  ∀{n off:Nat}{cs:List C},Rm gR σ.ks a off n cs=true->(∀i c,nth cs i=some c->v9 gR a (off+i)=true->locked (bB ρ pa c)=true->lk.any (λp=>Nat.beq p.1 b && Nat.beq p.2 (off+i))=true)->wQ lk b off n (qk ρ pa cs)=true
 | 0,_,cs,_,_=>by simp[wQ]
 | n+1,off,[],h,_=>by simp[Rm] at h
 | n+1,off,c::cs,h,hl=>by
  simp only[Rm,cR,mT] at h;simp only[qk,wQ,cR,mT,sR];refine⟨?_,zlP hk ht h.2 λi c' h1 h2 h3=>?_⟩
  ·cases uW:locked (bB ρ pa c) with
   | false=>exact .inl rfl
   | true =>
    right
    rcases h.1 with h1|h1
    ·exact hl 0 c rfl h1 uW
    ·rw[zlO hk ht h1] at uW;cases uW
  ·have:=hl (i+1) c' h1 (by rw[show off+(i+1)=off+1+i by omega];exact h2) h3
   rw[show off+(i+1)=off+1+i by omega] at this
   exact this
def zgR{cs:List C}{n:Nat}:qk ρ pa (cs.drop n)=(qk ρ pa cs).drop n:=by simp only[jE,List.map_drop]
def zbf{α:Type}:∀{vs cs:List α}{off i:Nat}{c:α},(storeCells cs off vs)[i]?=some c->(off<=i/\i<off+vs.length/\c∈vs)\/(cs[i]?=some c)
 | [],cs,off,i,c,h=>.inr h
 | v::vs,cs,off,i,c,h=>by
  simp only[storeCells] at h;rcases zbf h with⟨h1,h2,h3⟩|h1
  ·exact .inl ⟨by omega,by simp;omega,dB _ h3⟩
  ·rw[s7] at h1;split at h1
   ·rename_i e;subst e;split at h1
    ·cases h1;exact .inl ⟨ek _,by simp,eS⟩
    ·cases h1
   ·exact .inr h1
def tc{tt:aq}{a x:aO}(h:iZ P takes σ ⟨dst,.store tt a x,type,pos,after,guard⟩ k=some t)(hr:Rel n0 B ρ pa σ ⟨env,H,lk,df⟩)(hq:cw ph gl N t ρ=some r) :
  Step P gl ph N r n0 B k takes ⟨dst,.store tt a x,type,pos,after,guard⟩ σ ρ pa ⟨env,H,lk,df⟩:=by
 simp only[iZ] at h;split at h
 ·rename_i a' off ha;have hp:=kn hr.here ha;simp only[bB] at hp;obtain⟨e',sc,dy,v,h1,h2,h3,h4⟩:=Vx h hr;split at h1
  ·rename_i n cs ty hn hf;split at h1
   ·rename_i hc;simp only[cR,mT] at hc;obtain⟨⟨⟨⟨⟨c0,c5⟩,c1⟩,c2⟩,c3⟩,c4⟩:=hc;have AH:=h3.here.aj _ _ _ hf;have hN:=h3.bn _ _ hf;have eD:∀aD aE,ρ <+: aD->pa <+: aE->qk aD aE cs=qk ρ pa cs:=λaD aE h1 h2=>by
     have:=(h3.ext aD aE h1 h2).aj _ _ _ hf;rw[kc h2 (by rw[h3.na];exact hN),AH] at this
     simpa using this.symm
    have hl:=Vz c1 h3.here.ks (h4 ρ pa (dL _) (dL _));have lD:∀aD aE,ρ <+: aD->pa <+: aE->qk aD aE (iY sc)=v.laid:=λaD aE e1 e2=>(Vz c1 (h3.ext aD aE e1 e2).ks (h4 aD aE e1 e2)).2.symm;have hlen:v.laid.length=n:=by rw[<- lD ρ pa (dL _) (dL _),jP];exact kZ c2
    have nN:wQ lk (pd pa a') off n ((qk ρ pa cs).drop off)=true:=by
     rw[<- zgR];refine zlP h3.here.ks h3.top c4 λi c hi hlh uW=>?_;refine h3.lk a' (off+i) hlh (qk ρ pa cs) ty (bB ρ pa c) AH ?_ uW;rw[zV,FP] at hi;rw[jE,eR,zV,hi];rfl
    have aF:∀cx:Cx,cx.P=P->cx.op takes ⟨dst,.store tt a x,type,pos,after,guard⟩ env H lk df=some (.skip,⟨dy,(H.set (pd pa a') (.cells (storeCells (qk ρ pa cs) off v.laid) ty)).bI (pd pa a') v,lk,df⟩):=by
     rintro cx rfl;rw[zje hn (by intro b u k e;rw[hp] at e;cases e),hp,h2]
     simp only[OE,AH,hl.1,hlen,dW,jP,c3,nN,fo,aU]
    have cS:σ.nf<=a'\/v.top=0:=by
     rcases c0 with c0|c0
     ·exact .inl (Zm c0)
     ·right
      have hd:=(vF (pa:=pa) h3.here.ks h3.top c0).1;rw[lD ρ pa (dL _) (dL _)] at hd;have Vw:=h4 ρ pa (dL _) (dL _);rw[<- Vw] at hd ⊢;cases sc with
      | one c =>
       obtain⟨_,_,h9⟩:=Vp (pa:=pa) h3.here.ks c1;rw[h9] at hd;simp only[iY,qk,aI] at hd;simp only[qq];omega
      | agg cs' =>
       simp only[qq,V.laid] at hd;simp only[qq,V.top];refine O4 λw hw=>?_;have:=yC (HQ (f:=aT) hw) hd
       rwa [dx] at this
    have hw:=h3.write (oh:=lk) (mG:=σ.lk) (v:=v) (cs:=storeCells cs off (iY sc)) (vs:=storeCells (qk ρ pa cs) off v.laid) hf (λaD aE e1 e2=>by rw[zb6,eD aD aE e1 e2,lD aD aE e1 e2]) cS
     (λb o hb=>h3.ln b o hb) (λb o _ _ hb=>hb) (λx hx=>hx) (λo c hb hc nk=>?_)
    ·exact⟨_,_,ρ,pa,t,.skip,_,.bz [],h1,hq,dL _,dL _,hw,⟨0,λn _=>aF _ rfl⟩,.inr ⟨rfl,rfl⟩,λaD aE e1 e2 v' dG=>by cases dG;rfl,λb hb A hA=>by
      simp only[wo,ha,aR,Bi.wr.injEq] at hb;subst hb;simp only[Vs]
      exact xu (λe=>hA e.symm)⟩
    ·rw[zV] at hc;rcases zbf hc with⟨h5,h6,h7⟩|h5
     ·rw[<- lD ρ pa (dL _) (dL _)] at h7;rw[zjr h3.here.ks h3.top c5 c h7] at nk;cases nk
     ·exact h3.lk a' o hb (qk ρ pa cs) ty c AH (by rw[zV];exact h5) nk
   ·cases h1
  ·cases h1
 ·cases h
end
section
set_option linter.unusedSectionVars false
variable{P:aM}{gl:Gl}{ph:PH}{N:Nat}{r:Nat×aA}{ρ bp:aA}{pa bU:bR}{σ:Sg}{s:St}{n0:Nat}{B:List br}{env:aA}{H:Hp}{lk:bk}{df:bH}{takes:bP}{k:KT}{t:Tree}
variable [mw gl]
variable{dst:fQ}{type:aq}{pos:String}{after:Array Edge}{guard:oq}
def RH{o:Oper}{sv:SV}(hk:k σ sv=some t)(hq:cw ph gl N t ρ=some r)(hr:Rel n0 B ρ pa σ ⟨env,H,lk,df⟩)
  (ho:∀aD aE,ρ <+: aD->pa <+: aE->∃v,kK aD aE sv=some v/\∀n,Cx.op ⟨P,gl,qt P gl n,gl.uq⟩ takes o env H lk df=some (.val v,⟨env,H,lk,df⟩)) :
  Step P gl ph N r n0 B k takes o σ ρ pa ⟨env,H,lk,df⟩:=by
 obtain⟨v,h1,h2⟩:=ho ρ pa (dL _) (dL _);refine jF hk hq (dL _) hr (v:=v) h2 λaD aE e1 e2 v' dG=>?_;obtain⟨w,h3,h4⟩:=ho aD aE e1 e2;have:=(h2 0).symm.trans (h4 0);simp only[aR,bS,OR.val.injEq] at this;rw[this.1];exact ur (dG.symm.trans h3)
def zrX{op:BinOp}{tt u:aq}{x y:aO}(h:iZ P takes σ ⟨dst,.binOp op tt x y u,type,pos,after,guard⟩ k=some t)(hr:Rel n0 B ρ pa σ ⟨env,H,lk,df⟩)(hq:cw ph gl N t ρ=some r)(iu:jV takes dst=false) :
  Step P gl ph N r n0 B k takes ⟨dst,.binOp op tt x y u,type,pos,after,guard⟩ σ ρ pa ⟨env,H,lk,df⟩:=by
 have pure:∀{t:Tree},yQ P σ (.binOp op tt x y u) k=some t->cw ph gl N t ρ=some r->Step P gl ph N r n0 B k takes ⟨dst,.binOp op tt x y u,type,pos,after,guard⟩ σ ρ pa ⟨env,H,lk,df⟩:=λh hq=>O6 (o:=⟨dst,.binOp op tt x y u,type,pos,after,guard⟩) h hr hq iu
 have qr:∀(kd:IntKind)(a b:TI)(c:TB),(op=.quo\/op=.rem)->AD σ x=some (kd,a)->AD σ y=some (kd,b)->(∀ρ:aA,bt ρ c=true->bL ρ b≠0)->yP c (k σ (.val (.one (.i kd (.bin op kd a b)))))=some t->Step P gl ph N r n0 B k takes ⟨dst,.binOp op tt x y u,type,pos,after,guard⟩ σ ρ pa ⟨env,H,lk,df⟩:=by
  intro kd a b c aF h1 h2 hc h;obtain⟨t1,h3,h4,h5⟩:=wI h hq;have e0:=kQ hr.here h2;have nz:=hc ρ h5;refine RH h3 h4 hr λaD aE e1 e2=>⟨_,rfl,λn=>?_⟩;have e4:=kQ (hr.ext aD aE e1 e2) h1;have e5:=kQ (hr.ext aD aE e1 e2) h2;have ZC:bL aD b≠0:=by
   have:=e0.symm.trans e5;simp only[aR,V.int.injEq,cg] at this;rw[<- this];exact nz
  rw[zA,e4,e5];rcases aF with rfl|rfl<;>simp[jY,kb,wT,wl,ZC,qq,bB,bL,fK,gM]
 have sh:∀(kd KN:IntKind)(a b:TI)(c:TB),(op=.shl\/op=.shr)->AD σ x=some (kd,a)->AD σ y=some (KN,b)->(∀ρ:aA,bt ρ c=true->0<=bL ρ b)->yP c (k σ (.val (.one (.i kd (.bin op kd a b)))))=some t->Step P gl ph N r n0 B k takes ⟨dst,.binOp op tt x y u,type,pos,after,guard⟩ σ ρ pa ⟨env,H,lk,df⟩:=by
  intro kd KN a b c aF h1 h2 hc h;obtain⟨t1,h3,h4,h5⟩:=wI h hq;have e0:=kQ hr.here h2;have nz:=hc ρ h5;refine RH h3 h4 hr λaD aE e1 e2=>⟨_,rfl,λn=>?_⟩;have e4:=kQ (hr.ext aD aE e1 e2) h1;have e5:=kQ (hr.ext aD aE e1 e2) h2;have ZC:¬bL aD b<0:=by
   have:=e0.symm.trans e5;simp only[aR,V.int.injEq,cg] at this;rw[<- this];omega
  rw[zA,e4,e5];rcases aF with rfl|rfl<;>simp[jY,kb,wT,N4,ZC,qq,bB,bL,fK,gM]
 cases op<;>simp only[iZ] at h
 case quo =>
  split at h
  ·rename_i kd a KN b h1 h2;split at h
   ·rename_i hk;subst hk;refine qr _ _ _ _ (.inl rfl) h1 h2 (λρ hb=>?_) h;split at hb
    ·simp only[bL];intro h;exact absurd (Int.ofNat.inj h) (Nat.succ_ne_zero _)
    ·simp only[bt,BM,bL,sR,beq_eq_false_iff_ne] at hb;exact hb
   ·cases h
  ·cases h
 case rem =>
  split at h
  ·rename_i kd a KN b h1 h2;split at h
   ·rename_i hk;subst hk;refine qr _ _ _ _ (.inr rfl) h1 h2 (λρ hb=>?_) h;split at hb
    ·simp only[bL];intro h;exact absurd (Int.ofNat.inj h) (Nat.succ_ne_zero _)
    ·simp only[bt,BM,bL,sR,beq_eq_false_iff_ne] at hb;exact hb
   ·cases h
  ·cases h
 case shl =>
  split at h
  ·rename_i kd a KN b h1 h2;refine sh _ _ _ _ _ (.inl rfl) h1 h2 (λρ hb=>?_) h;split at hb
   ·exact Int.natCast_nonneg _
   ·exact of_decide_eq_true hb
  ·cases h
 case shr =>
  split at h
  ·rename_i kd a KN b h1 h2;refine sh _ _ _ _ _ (.inr rfl) h1 h2 (λρ hb=>?_) h;split at hb
   ·exact Int.natCast_nonneg _
   ·exact of_decide_eq_true hb
  ·cases h
 case add =>
  split at h
  ·rename_i a b h1 h2;obtain⟨t1,h3,h4,h5⟩:=wI h hq;have f1:=O3 hr.here h1;have f2:=O3 hr.here h2;simp only[bt] at h5;refine RH h3 h4 hr λaD aE e1 e2=>⟨_,rfl,λn=>?_⟩;have e4:=O3 (hr.ext aD aE e1 e2) h1;have e5:=O3 (hr.ext aD aE e1 e2) h2;have g1:dH aD a=dH ρ a:=by have:=f1.symm.trans e4;simpa using this.symm
   have g2:dH aD b=dH ρ b:=by have:=f2.symm.trans e5;simpa using this.symm
   have:=Zm h5;rw[zA,e4,e5];simp[jY,kb,wT,P4,qq,bB,dH,g1,g2,this,gM]
  ·exact pure h hq
 all_goals exact pure h hq
def zqs{a b:aq}{x:aO}(h:iZ P takes σ ⟨dst,.convert a b x,type,pos,after,guard⟩ k=some t)(hr:Rel n0 B ρ pa σ ⟨env,H,lk,df⟩)(hq:cw ph gl N t ρ=some r)(iu:jV takes dst=false) :
  Step P gl ph N r n0 B k takes ⟨dst,.convert a b x,type,pos,after,guard⟩ σ ρ pa ⟨env,H,lk,df⟩:=by
 simp only[iZ] at h;split at h
 ·rename_i e c h1 h2 hc;split at h
  ·rename_i l h3 hl;have aF:∀(aD:aA)(aE:bR)(s:bR),ρ <+: aD->pa <+: aE->l_ (cj aD l)=some s->∀n,Cx.op ⟨P,gl,qt P gl n,gl.uq⟩ takes ⟨dst,.convert a b x,type,pos,after,guard⟩ env H lk df=some (.val (.str s),⟨env,H,lk,df⟩):=by
    intro aD aE s e1 e2 hb n;have hp:=hr.ext aD aE e1 e2;have Mg:=zqc (P:=P) (env:=env) (x:=x) (a:=a) (b:=b) (by rw[h1,h2];simp)
    rcases KS (pa:=aE) hp.ks hl with⟨e3,e4⟩|⟨o,e3⟩
    ·rw[e4] at hb;cases hb;rw[xl ((kn hp hc).trans (congrArg some e3)) (by simp) Mg]
     simp only[vw,h1,h2,h3,Option.bind_eq_bind,bC];rfl
    ·rw[xl ((kn hp hc).trans (congrArg some e3)) (by simp) Mg]
     simp only[vw,h1,h2,h3,Option.bind_eq_bind,bC,hb,bG];rfl
   split at h
   next hn=>refine RH h hq hr λaD aE e1 e2=>⟨_,rfl,aF aD aE [] e1 e2 ?_⟩;rw[KP aD hn];rfl
   ·split at h
    ·rename_i t1 ht;cases h;simp only[cw] at hq;split at hq
     next s hs=>have mZ:=hr.oI (v:=.str s) (ck:=.str) rfl rfl;refine jF ht hq (tZ _ _) mZ (v:=.str s) (aF ρ pa s (dL _) (dL _) hs) λaD aE e1 e2 v' dG=>?_;cases dG;simp only[qq,bB,dH];rw[yD e1 hr.kl.symm];rfl
     ·cases hq
    ·cases h
  ·cases h
 ·exact O6 (o:=⟨dst,.convert a b x,type,pos,after,guard⟩) h hr hq iu
def zqt{e:aq}{l:TL}{i:TI}{k:Sg->SC->Option Tree}(h:Zi P σ e l i k=some t)(hr:Rel n0 B ρ pa σ s)(hq:cw ph gl N t ρ=some r) :
  ∃j_ sc bp t' v,nth (cj ρ l) (bL ρ i).toNat=some v/\0<=bL ρ i/\k { σ with ks:=j_ } sc=some t'/\cw ph gl N t' bp=some r/\ρ <+: bp/\Rel n0 B bp pa { σ with ks:=j_ } s/\(∀aD aE,bp <+: aD->qq aD aE sc=v)/\(∀aD aE,bp <+: aD->qk aD aE (h_ sc)=v.cells):=by
 unfold Zi at h;split at h
 ·rename_i t1 ht;cases h;simp only[cw] at hq;split at hq
  ·cases hq
  ·rename_i hi;split at hq
   ·rename_i v hv;have cS:v.top=0:=yC (by rw[zV] at hv;exact nF hv) (xV hr.top l)
    have mZ:=hr.oI (v:=v) (ck:=.raw) rfl cS;obtain⟨j_,sc,bp,t',h1,h2,h3,h4,h5,h6⟩:=Vv ht mZ (by simp) hq
    have nP:at' (ρ++[v]) σ.ks.length=v:=by rw[<- hr.kl];exact O5
    exact⟨j_,sc,bp,t',v,hv,by omega,h1,h2,O7 h3,h4,λaD aE e=>by rw[h5 aD aE e,nP],λaD aE e=>by rw[h6 aD aE e,nP]⟩
   ·cases hq
 ·cases h
def zrY{e:aq}{cs:List C}{i:TI}{k:Sg->SC->Option Tree}(h:Zj P σ e cs i k=some t)(hd:ye σ.ks cs=true)(hr:Rel n0 B ρ pa σ s)(hq:cw ph gl N t ρ=some r) :
  ∃j_ sc bp t' v,nth (qk ρ pa cs) (bL ρ i).toNat=some v/\0<=bL ρ i/\k { σ with ks:=j_ } sc=some t'/\cw ph gl N t' bp=some r/\ρ <+: bp/\Rel n0 B bp pa { σ with ks:=j_ } s/\(∀aD aE,bp <+: aD->qq aD aE sc=v)/\(∀aD aE,bp <+: aD->qk aD aE (h_ sc)=v.cells)/\locked v=false:=by
 obtain⟨d1,d2,d3⟩:=vF (pa:=pa) hr.here.ks hr.top hd;unfold Zj at h;split at h
 ·rename_i t1 ht;cases h;simp only[cw] at hq;split at hq
  ·cases hq
  ·rename_i hi;split at hq
   ·rename_i v hv;rw[d3 []] at hv;have hm:v∈qk ρ pa cs:=by rw[zV] at hv;exact nF hv
    have mZ:=hr.oI (v:=v) (ck:=.raw) rfl (yC hm d1);obtain⟨j_,sc,bp,t',h1,h2,h3,h4,h5,h6⟩:=Vv ht mZ (by simp) hq
    have nP:at' (ρ++[v]) σ.ks.length=v:=by rw[<- hr.kl];exact O5
    exact⟨j_,sc,bp,t',v,hv,by omega,h1,h2,O7 h3,h4,λaD aE e=>by rw[h5 aD aE e,nP],λaD aE e=>by rw[h6 aD aE e,nP],d2 v hm⟩
   ·cases hq
 ·cases h
def VB{i:TI}{f:Nat->SV}{m:Int}{k:KT}:∀{c j:Nat}{σ:Sg}{t:Tree},OU i f k σ j c=some t->Rel n0 B ρ pa σ s->cw ph gl N t ρ=some r->(∀aD aE,ρ <+: aD->pa <+: aE->bL aD i=m) ->
  ∃j' I8 t',j<=j'/\j'<j+c/\m=(j':Int)/\k { σ with as:=I8 } (f j')=some t'/\cw ph gl N t' ρ=some r/\Rel n0 B ρ pa { σ with as:=I8 } s
 | 0,j,σ,t,h,hr,hq,hm=>by
  cases h;simp[cw,bt] at hq
 | c+1,j,σ,t,h,hr,hq,hm=>by
  simp only[OU] at h;have eM:∀aD aE,ρ <+: aD->pa <+: aE->bt aD (.cmp .eql i (.lit (.ofNat j)))=(m == (j:Int)):=λaD aE e1 e2=>by
   simp only[bt,BM,hm aD aE e1 e2,bL];rfl
  have h0:=eM ρ pa (dL _) (dL _);split at h
  next hk=>have:=wj hr.here.as hk;rw[h0] at this;exact⟨j,σ.as,t,ek _,by omega,eq_of_beq this,h,hq,hr⟩
  next hk=>obtain⟨j',I8,t',h1,h2,h3⟩:=VB h hr hq hm;exact⟨j',I8,t',by omega,by omega,h3⟩
  ·obtain⟨ta,tb,h1,h2,h3⟩:=RF h hq;rcases h3 with⟨h3,h4⟩|⟨h3,h4⟩
   ·rw[h0] at h3;exact⟨j,_,ta,ek _,by omega,eq_of_beq h3,h1,h4,hr.cond λaD aE e1 e2=>by rw[eM aD aE e1 e2];exact h3⟩
   ·rw[h0] at h3;have mZ:=hr.cond (c:=mkNot (.cmp .eql i (.lit (.ofNat j)))) λaD aE e1 e2=>by rw[wa,eM aD aE e1 e2,h3];rfl
    obtain⟨j',I8,t',g1,g2,g3⟩:=VB h2 mZ h4 hm;exact⟨j',I8,t',by omega,by omega,g3⟩
def zoB{tt:aq}{x ix:aO}(h:iZ P takes σ ⟨dst,.indexAddr tt x ix,type,pos,after,guard⟩ k=some t)(hr:Rel n0 B ρ pa σ ⟨env,H,lk,df⟩)(hq:cw ph gl N t ρ=some r)(iu:jV takes dst=false) :
  Step P gl ph N r n0 B k takes ⟨dst,.indexAddr tt x ix,type,pos,after,guard⟩ σ ρ pa ⟨env,H,lk,df⟩:=by
 simp only[iZ] at h;split at h
 ·rename_i e kd i hu hi;have ei:=kQ hr.here hi;split at h
  ·rename_i n c hn hc;split at h
   ·rename_i l hl;obtain⟨j_,sc,bp,t',v,g1,g2,g3,g4,g5,g6,g7,g8⟩:=zqt h hr hq;refine jF g3 g4 g5 g6 (v:=.vp v.cells) (λnn=>?_) λaD aE e1 e2 v' dG=>by cases dG;rw[g8 aD aE e1]
    rw[zc,kn hr.here hc,ei];simp only[qM];rcases KS (pa:=pa) hr.here.ks hl with⟨_,e4⟩|⟨o,e3⟩
    ·rw[e4] at g1;simp[nth] at g1
    ·have bD:¬bL ρ i<0:=by omega
     rw[e3];simp[q7,hu,hn,g1,bD,gM]
   ·cases h
  ·cases h
 ·rename_i len e kd i hu hi;have ei:=kQ hr.here hi;have hm:∀aD aE,ρ <+: aD->pa <+: aE->bL aD i=bL ρ i:=λaD aE e1 e2=>by
   have:=(kQ (hr.ext aD aE e1 e2) hi).symm.trans ei;simpa using this
  split at h
  next v hv=>exact O6 (o:=⟨dst,.indexAddr tt x ix,type,pos,after,guard⟩) (by simp only[yQ,hv];exact h) hr hq iu
  ·split at h
   ·rename_i n cs hn hx;split at h
    ·obtain⟨j,I8,t',h1,h2,h3,h4,h5,h6⟩:=VB h hr hq hm;have eM:∀aD aE,ρ <+: aD->pa <+: aE->aB env x=some (.vp (qk aD aE cs)):=λaD aE e1 e2=>by
      obtain⟨w,FE,MM⟩:=vD (hr.ext aD aE e1 e2) hx;cases MM;exact FE
     refine jF h4 h5 (dL _) h6 (v:=.vp ((qk ρ pa cs).drop (j * n))) (λnn=>?_) λaD aE e1 e2 v' dG=>?_
     ·rw[zc,eM ρ pa (dL _) (dL _),ei,h3];simp[qM,q7,hu,hn,show j<len by omega,gM]
     ·cases dG;rw[zgR];have:=(eM aD aE e1 e2).symm.trans (eM ρ pa (dL _) (dL _));simp only[aR,V.vp.injEq] at this;rw[this]
    ·cases h
   ·rename_i n a off hn hx;split at h
    ·obtain⟨j,I8,t',h1,h2,h3,h4,h5,h6⟩:=VB h hr hq hm;have eM:∀aD aE,ρ <+: aD->pa <+: aE->aB env x=some (.ptr (pd aE a) off):=λaD aE e1 e2=>wZ (hr.ext aD aE e1 e2) hx;refine jF h4 h5 (dL _) h6 (v:=.ptr (pd pa a) (off+j * n)) (λnn=>?_) λaD aE e1 e2 v' dG=>?_
     ·rw[zc,eM ρ pa (dL _) (dL _),ei,h3];simp[qM,q7,hu,hn,show j<len by omega,gM]
     ·cases dG;simp only[qq,bB];have:=(eM aD aE e1 e2).symm.trans (eM ρ pa (dL _) (dL _));simp only[aR,V.ptr.injEq,Bt] at this;rw[this]
    ·cases h
   ·cases h
 ·cases h
def zoC{tt:aq}{x ix:aO}(h:iZ P takes σ ⟨dst,.index tt x ix,type,pos,after,guard⟩ k=some t)(hr:Rel n0 B ρ pa σ ⟨env,H,lk,df⟩)(hq:cw ph gl N t ρ=some r)(iu:jV takes dst=false) :
  Step P gl ph N r n0 B k takes ⟨dst,.index tt x ix,type,pos,after,guard⟩ σ ρ pa ⟨env,H,lk,df⟩:=by
 simp only[iZ] at h;split at h
 ·rename_i kd i hu hi;split at h
  ·rename_i s' hs;obtain⟨t1,h1,h2,h3⟩:=wI h hq;have ei:=kQ hr.here hi;have es:=O3 hr.here hs;simp only[bt,cR] at h3;have h31:bL ρ i ≥ 0:=of_decide_eq_true h3.1;have h32:bL ρ i<((dH ρ s').length:Int):=of_decide_eq_true h3.2;refine RH h1 h2 hr λaD aE e1 e2=>⟨_,rfl,λnn=>?_⟩;have fi:=kQ (hr.ext aD aE e1 e2) hi;have fs:=O3 (hr.ext aD aE e1 e2) hs
   have gi:bL aD i=bL ρ i:=by have:=fi.symm.trans ei;simpa using this
   have gs:dH aD s'=dH ρ s':=by have:=fs.symm.trans es;simpa using this
   rw[Y6,fs,fi];have bD:¬bL ρ i<0:=by omega
   have pS:(bL ρ i).toNat<(dH ρ s').length:=by omega
   simp only[qM,N8,hu,qq,bB,bL,zoe,gi,gs,bD,bZ];have:nth (dH ρ s') (bL ρ i).toNat=some ((dH ρ s')[(bL ρ i).toNat]'pS):=by rw[zV];simp[pS]
   simp only[this,gM]
  ·cases h
 ·rename_i len e kd i hu hi;have ei:=kQ hr.here hi;split at h
  next v hv=>exact O6 (o:=⟨dst,.index tt x ix,type,pos,after,guard⟩) (by simp only[yQ,hv];exact h) hr hq iu
  ·split at h
   ·rename_i cs hn sV hx;split at h
    ·rename_i hc;simp only[cR] at hc;obtain⟨j_,sc,bp,t',v,g1,g2,g3,g4,g5,g6,g7,g8,g9⟩:=zrY h hc.2 hr hq;rw[jE,eR,zV,um] at g1;split at g1
     ·rename_i bD;refine jF g3 g4 g5 g6 (v:=aT v) (λnn=>?_) λaD aE e1 e2 v' dG=>by cases dG;rw[wY,g7 aD aE e1]
      rw[Y6,wZ hr.here hx,ei];have h0:0<=bL ρ i/\bL ρ i<(len:Int):=⟨g2,by omega⟩
      have h1:wk P e (qk ρ pa cs) ((bL ρ i).toNat * 1)=some v:=by
       rw[wX,sV,OJ,jE,eR,LL,zV,g1]
      simp only[qM,N8,hu,hn,qq,h0,and_self,aU,h1,bG,gM]
     ·simp at g1
    ·cases h
   ·cases h
 ·cases h
def VC{x:Option aO}{d tt:TI}{c:Nat}(hp:iC ρ pa σ env H)(h:Ii σ x d=some tt)(hd:bL ρ d=(c:Int)):∃v,dU env x=some v/\(0<=bL ρ tt->kE v c=some (bL ρ tt).toNat):=by
 cases x with
 | none=>cases h;exact⟨none,rfl,λ_=>by simp[kE,hd]⟩
 | some x =>
  simp only[Ii] at h;split at h
  next k' t' hi=>cases h;exact⟨some (.int k' (bL ρ tt)),by simp only[dU,kQ hp hi],λh0=>by simp[kE,h0]⟩
  ·cases h
def ZD{tt:aq}{x:aO}{lo hi:Option aO}{cx:Cx}(hf:xX takes x lo hi=false)(hu:sS cx.P cx.uq tt=false):cx.op takes ⟨dst,.slice tt x lo hi none,type,pos,after,guard⟩ env H lk df=gM env H lk df ((dU env lo).bind λl=>(dU env hi).bind λh=>(aB env x).bind λv=>yK cx.P tt v l h):=by
 simp only[Cx.op,hf,hu];refine v7 ?_;simp only[jA,Option.bind_eq_bind]
def zoD{tt:aq}{x:aO}{lo hi mx:Option aO}(h:iZ P takes σ ⟨dst,.slice tt x lo hi mx,type,pos,after,guard⟩ k=some t)(hr:Rel n0 B ρ pa σ ⟨env,H,lk,df⟩)(hq:cw ph gl N t ρ=some r) :
  Step P gl ph N r n0 B k takes ⟨dst,.slice tt x lo hi mx,type,pos,after,guard⟩ σ ρ pa ⟨env,H,lk,df⟩:=by
 simp only[iZ] at h;split at h
 ·cases h
 ·rename_i RJ;simp only[mT,not_or,Bool.not_eq_true] at RJ;obtain⟨RJ,CQ⟩:=RJ;obtain rfl:mx=none:=by cases mx<;>simp_all
  split at h
  ·rename_i c hu hc;split at h
   ·rename_i s' hs;split at h
    ·rename_i l hh hl RK;obtain⟨t1,h1,h2,h3⟩:=wI h hq;rw[xr] at h3;simp only[bt,cR] at h3;have a1:bL ρ (.lit 0)<=bL ρ l:=of_decide_eq_true h3.1;have a2:bL ρ l<=bL ρ hh:=of_decide_eq_true h3.2.1;have a3:bL ρ hh<=bL ρ (.tD s'):=of_decide_eq_true h3.2.2;simp only[bL] at a1 a3;obtain⟨vl,l1,l2⟩:=VC (c:=0) hr.here hl rfl;obtain⟨vh,m1,m2⟩:=VC (c:=(dH ρ s').length) hr.here RK rfl
     have e0:aB env x=some (.str (dH ρ s')):=by rw[kn hr.here hc,vV (pa:=pa) hr.here.ks hs]
     have aF:∀n,Cx.op ⟨P,gl,qt P gl n,gl.uq⟩ takes ⟨dst,.slice tt x lo hi none,type,pos,after,guard⟩ env H lk df=some (.val (.str (((dH ρ s').take (bL ρ hh).toNat).drop (bL ρ l).toNat)),⟨env,H,lk,df⟩):=λn=>by
      rw[ZD CQ (KI (mw.out (gl:=gl)) _),l1,m1,e0];have b1:(bL ρ l).toNat<=(bL ρ hh).toNat:=by omega
      have b2:(bL ρ hh).toNat<=(dH ρ s').length:=by omega
      simp only[bC,yK,hu,Option.bind_eq_bind,m2 (by omega),l2 a1,b1,b2,and_self,aU,gM]
     refine jF h1 h2 (dL _) hr aF λaD aE e1 e2 v' dG=>?_;cases dG;have f0:aB env x=some (.str (dH aD s')):=by rw[kn (hr.ext aD aE e1 e2) hc,vV (pa:=aE) (hr.ext aD aE e1 e2).ks hs]
     have gs:dH aD s'=dH ρ s':=by have:=f0.symm.trans e0;simpa using this
     have gb:∀(y:Option aO)(d tt:TI),Ii σ y d=some tt->bL aD d=bL ρ d->bL aD tt=bL ρ tt:=by
      intro y d tt hy hd;cases y with
      | none=>cases hy;exact hd
      | some y =>
       simp only[Ii] at hy;split at hy
       next k' t' hi=>cases hy;have:=(kQ (hr.ext aD aE e1 e2) hi).symm.trans (kQ hr.here hi);simpa using this
       ·cases hy
     simp only[qq,bB,dH,gs,gb _ _ _ hl rfl,gb _ _ _ RK (by simp only[bL,gs])]
    ·cases h
   ·cases h
  ·rename_i e c hu hc;split at h
   ·rename_i n hn;split at h
    ·rename_i xs lu;split at h
     ·rename_i l hh hl RK;obtain⟨t1,h1,h2,h3⟩:=wI h hq;rw[xr] at h3;simp only[bt,cR] at h3;have a1:bL ρ (.lit 0)<=bL ρ l:=of_decide_eq_true h3.1;have a2:bL ρ l<=bL ρ hh:=of_decide_eq_true h3.2.1;have a3:bL ρ hh<=bL ρ (.len xs):=of_decide_eq_true h3.2.2;simp only[bL] at a1 a3;obtain⟨vl,l1,l2⟩:=VC (c:=0) hr.here hl rfl;obtain⟨vh,m1,m2⟩:=VC (c:=(cj ρ xs).length) hr.here RK rfl
      have b1:(bL ρ l).toNat<=(bL ρ hh).toNat:=by omega
      have b2:(bL ρ hh).toNat<=(cj ρ xs).length:=by omega
      have e0:=kn hr.here hc;have RL:bB ρ pa c=.aJ->cj ρ xs=[]->∀n,Cx.op ⟨P,gl,qt P gl n,gl.uq⟩ takes ⟨dst,.slice tt x lo hi none,type,pos,after,guard⟩ env H lk df=some (.val .aJ,⟨env,H,lk,df⟩):=λhv Fp n=>by
       rw[Fp] at b2 m2;rw[ZD CQ (KI (mw.out (gl:=gl)) _),l1,m1,e0,hv];have c1:(bL ρ hh).toNat=0:=by simpa using b2
       have c2:(bL ρ l).toNat=0:=by omega
       have m3:=m2 (by omega)
       simp only[List.length_nil] at m3;simp only[bC,yK,hu,Option.bind_eq_bind,m3,l2 a1,hn,c1,c2,and_self,aU,gM]
      have RM:∀o,bB ρ pa c=.sl n (cj ρ xs) o->∀n',Cx.op ⟨P,gl,qt P gl n',gl.uq⟩ takes ⟨dst,.slice tt x lo hi none,type,pos,after,guard⟩ env H lk df=some (.val (.sl n (((cj ρ xs).take (bL ρ hh).toNat).drop (bL ρ l).toNat) .no),⟨env,H,lk,df⟩):=λo hv n'=>by
       rw[ZD CQ (KI (mw.out (gl:=gl)) _),l1,m1,e0,hv];simp only[bC,yK,hu,Option.bind_eq_bind,m2 (by omega),l2 a1,hn,b1,b2,and_self,aU,gM]
      have gb:∀(aD:aA)(aE:bR),ρ <+: aD->pa <+: aE->∀(y:Option aO)(d tt:TI),Ii σ y d=some tt->bL aD d=bL ρ d->bL aD tt=bL ρ tt:=by
       intro aD aE e1 e2 y d tt hy hd;cases y with
       | none=>cases hy;exact hd
       | some y =>
        simp only[Ii] at hy;split at hy
        next k' t' hi=>cases hy;have:=(kQ (hr.ext aD aE e1 e2) hi).symm.trans (kQ hr.here hi);simpa using this
        ·cases hy
      split at h1
      ·rename_i sz tl o;rcases KS (pa:=pa) hr.here.ks lu with⟨e3,_⟩|⟨o',e3⟩
       ·cases e3
       ·have e3':=e3;simp only[bB,V.sl.injEq] at e3';obtain⟨rfl,e4,rfl⟩:=e3';refine jF h1 h2 (dL _) hr (RM _ e3) λaD aE e1 e2 v' dG=>?_;cases dG;have RN:=hr.ext aD aE e1 e2;have gl':cj aD xs=cj ρ xs:=by
         have f0:=(kn RN hc).symm.trans e0;rcases KS (pa:=aE) RN.ks lu with⟨f3,_⟩|⟨o'',f3⟩
         ·cases f3
         ·rw[f3,e3] at f0;simp only[aR,V.sl.injEq] at f0;exact f0.2.1
        simp only[qq,bB,cj,gl',gb aD aE e1 e2 _ _ _ hl rfl,gb aD aE e1 e2 _ _ _ RK (by simp only[bL,gl'])]
      ·rename_i i cl;obtain⟨t2,g1,g2⟩:=RB h1 h2;have hv:(bB ρ pa (.v i cl)=.aJ/\cj ρ xs=[]/\Za (at' ρ i) (bL ρ l) (bL ρ hh)=.aJ)\/(∃o,bB ρ pa (.v i cl)=.sl n (cj ρ xs) o/\Za (at' ρ i) (bL ρ l) (bL ρ hh)=.sl n (((cj ρ xs).take (bL ρ hh).toNat).drop (bL ρ l).toNat) .no):=by
        have lD:=KS (pa:=pa) hr.here.ks lu;rcases lD with⟨f1,f2⟩|⟨o,f1⟩
        ·refine .inl ⟨f1,f2,?_⟩;cases cl
         ·simp only[bB] at f1;rw[f1];rfl
         ·simp only[bB] at f1;cases nP:at' ρ i<;>rw[nP] at f1<;>simp only[aT,reduceCtorEq] at f1;rfl
        ·refine .inr ⟨o,f1,?_⟩;cases cl
         ·simp only[bB] at f1;rw[f1];rfl
         ·simp only[bB] at f1;cases nP:at' ρ i<;>rw[nP] at f1<;>simp only[aT,reduceCtorEq,V.sl.injEq] at f1;obtain⟨rfl,rfl,rfl⟩:=f1;rfl
       rcases hv with⟨f1,f2,f3⟩|⟨o,f1,f3⟩
       ·simp only[jp,f3] at g2;exact jF g1 g2 (tZ _ _) (hr.oI (v:=.aJ) (ck:=.sl n) rfl rfl) (RL f1 f2) λaD aE e1 e2 v' dG=>by cases dG;simp only[qq,bB];exact yD e1 hr.kl.symm
       ·simp only[jp,f3] at g2;exact jF g1 g2 (tZ _ _) (hr.oI (v:=.sl n (((cj ρ xs).take (bL ρ hh).toNat).drop (bL ρ l).toNat) .no) (ck:=.sl n) (by simp[fh,locked]) (mB (lE (xV hr.top xs) _) _)) (RM o f1) λaD aE e1 e2 v' dG=>by cases dG;simp only[qq,bB];exact yD e1 hr.kl.symm
      ·rcases KS (pa:=pa) hr.here.ks lu with⟨e3,e4⟩|⟨o',e3⟩
       ·exact jF h1 h2 (dL _) hr (RL e3 e4) λaD aE e1 e2 v' dG=>by cases dG;rfl
       ·cases e3
      ·cases h1
     ·cases h
    ·cases h
   ·cases h
  ·cases h
end
section
set_option linter.unusedSectionVars false
variable{P:aM}{gl:Gl}{ph:PH}{N:Nat}{r:Nat×aA}{ρ bp:aA}{pa bU:bR}{σ:Sg}{s:St}{n0:Nat}{B:List br}{env:aA}{H:Hp}{lk:bk}{df:bH}{takes:bP}{k:KT}{t:Tree}
variable [mw gl]
variable{dst:fQ}{type:aq}{pos:String}{after:Array Edge}{guard:oq}
def zqu{tt:aq}{x:aO}(h:iZ P takes σ ⟨dst,.makeInterface tt x,type,pos,after,guard⟩ k=some t)(hr:Rel n0 B ρ pa σ ⟨env,H,lk,df⟩)(hq:cw ph gl N t ρ=some r) :
  Step P gl ph N r n0 B k takes ⟨dst,.makeInterface tt x,type,pos,after,guard⟩ σ ρ pa ⟨env,H,lk,df⟩:=by
 simp only[iZ] at h;split at h
 ·rename_i v hv;split at h
  ·cases h
  ·rename_i hc;simp only[mT,sR,not_or,Bool.not_eq_true,HR] at hc;obtain⟨t1,h1,h2⟩:=RB h hq;obtain⟨d1,d2⟩:=y6 (pa:=pa) hr.here.ks hr.top hc.2;simp only[jp,d2 []] at h2;refine jF h1 h2 (tZ _ _) (hr.oI (v:=.fq tt (qq ρ pa v)) (ck:=.fq) rfl d1) (v:=.fq tt (qq ρ pa v)) (λn=>?_) λaD aE e1 e2 v' dG=>by cases dG;simp only[qq,bB];exact yD e1 hr.kl.symm
   simp only[Cx.op,jA,wZ hr.here hv,hc.1,Option.bind_eq_bind,bC,dF,bZ]
 ·cases h
def zqv{tt:aq}{g:Nat}(ez:∀g off v,gl g off=some v->v.top=0)(h:iZ P takes σ ⟨dst,.load tt (.global g),type,pos,after,guard⟩ k=some t)(hr:Rel n0 B ρ pa σ ⟨env,H,lk,df⟩)(hq:cw ph gl N t ρ=some r)(iu:jV takes dst=false) :
  Step P gl ph N r n0 B k takes ⟨dst,.load tt (.global g),type,pos,after,guard⟩ σ ρ pa ⟨env,H,lk,df⟩:=by
 simp only[iZ,iu] at h;split at h
 ·rename_i ha;split at h
  ·rename_i t1 ht;cases h;simp only[cw] at hq;split at hq
   ·rename_i v hv;have mZ:=hr.oI (v:=v) (ck:=.raw) rfl (ez _ _ _ hv);have nP:at' (ρ++[v]) σ.ks.length=v:=by rw[<- hr.kl];exact O5
    simp only[Jl,ha] at ht;split at ht
    ·rename_i ck DB;split at ht
     ·rename_i t' Kz;cases ht;simp only[cw,cond_eq_ite] at hq;split at hq
      ·rename_i hk;have ZE:=mZ.kind (i:=σ.ks.length) (by simp) hk
       rw[nP] at hk;refine jF Kz hq (tZ _ _) ZE (v:=aT v) (λn=>?_) λaD aE e1 e2 v' dG=>?_
       ·rw[Ry iu];simp only[aB,bC,qJ,ha,hv,Option.bind_eq_bind,bG,dF,bZ,gM]
       ·cases dG;rw[wY];simp only[qq,bB];rw[yD e1 hr.kl.symm]
      ·cases hq
     ·cases ht
    ·cases ht
   ·cases hq
  ·cases h
 ·cases h
def VD{x y:TL}:cj ρ (OQ x y)=cj ρ x++cj ρ y:=by
 unfold OQ;split<;>simp[cj]
def zlQ{l:TL}(h:CW l=true):cj ρ l≠[]:=by
 cases l<;>first|(cases h;done)|(simp only[cj];exact λh=>by simp at h)
def rz{tt:aq}{x y:aO}{ts:Array aq}(X_:ts=#[tt,tt])(h:Zg P σ tt x y k=some t)(hr:Rel n0 B ρ pa σ ⟨env,H,lk,df⟩)(hq:cw ph gl N t ρ=some r) :
  Step P gl ph N r n0 B k takes ⟨dst,.call ⟨.builtin .append,#[x,y],ts⟩,type,pos,after,guard⟩ σ ρ pa ⟨env,H,lk,df⟩:=by
 subst X_;unfold Zg at h;split at h
 ·rename_i e hu;split at h
  ·rename_i n ti yc hn hi hyc;split at h
   ·rename_i z l hz hl;split at h
    ·cases h
    ·rename_i O8;simp only[mT,sR,not_or,HR,Bool.not_eq_true] at O8;have Bf:n≠0:=λe=>by rw[e] at O8;simp at O8
     obtain⟨e',sc,dy,v,h1,h2,h3,h4⟩:=Vx h hr;have ZF:∀aD aE,ρ <+: aD->pa <+: aE->∃yv,aB env y=some yv/\vq P H e yv=some (cj aD l):=λaD aE e1 e2=>by
      have hp:=hr.ext aD aE e1 e2;refine⟨_,kn hp hyc,?_⟩;rcases KS (pa:=aE) hp.ks hl with⟨f1,f2⟩|⟨o,f1⟩
      ·rw[f1,f2];rfl
      ·rw[f1];simp[vq,hn]
     have eM:∀aD aE,ρ <+: aD->pa <+: aE->cj aD l=cj ρ l:=λaD aE e1 e2=>by
      obtain⟨yv,g1,g2⟩:=ZF aD aE e1 e2;obtain⟨yw,g3,g4⟩:=ZF ρ pa (dL _) (dL _);rw[g1] at g3;cases g3;rw[g2] at g4;exact ur g4
     obtain⟨yv,F5,Og⟩:=ZF ρ pa (dL _) (dL _);have Fi:Nat.beq n 0=false:=O8.2;have key:∀u,(∀z',z=z'->kG P H tt v yv=some u)->∀n',Cx.op ⟨P,gl,qt P gl n',gl.uq⟩ takes ⟨dst,.call ⟨.builtin .append,#[x,y],#[tt,tt]⟩,type,pos,after,guard⟩ env H lk df=some (.val u,⟨dy,H,lk,df⟩):=λu og n'=>by
      rw[vC (KI (mw.out (gl:=gl)) _),F5,h2];simp only[Fz,bC,og z rfl]
     have app:∀w,v=.aJ->(match cj ρ l with|[]=>some V.aJ|ys=>if kr ys.length ti.bytes && !Nat.beq n 0 then some (V.sl n ys (.yes e)) else none)=some w->kG P H tt v yv=some w:=λw hv hw=>by
      subst hv;simp only[kG,hu,hn,hi,hz,Option.bind_eq_bind,bC,O8.1,eU,dF,bZ,Og];exact hw
     have MN:∀xs,v=.sl n xs (.yes e)->kr (xs.length+(cj ρ l).length) ti.bytes=true->kG P H tt v yv=some (.sl n (xs++cj ρ l) (.yes e)):=λxs hv hw=>by
      subst hv;simp only[kG,hu,hn,hi,hz,Option.bind_eq_bind,bC,O8.1,eU,dF,bZ,Og,dW,Fi,hw,fz,fo,aU]
     have GG:=xV hr.top l;have Jr:=h4 ρ pa (dL _) (dL _);split at h1
     ·
      simp only[qq,bB] at Jr;split at h1
      ·rename_i hs;obtain⟨t1,g1,g2,g3⟩:=wI h1 hq;simp only[bt] at g3;refine jF g1 g2 (dL _) h3 (v:=.sl n (cj ρ l) (.yes e)) (key _ λ_ _=>app _ Jr.symm ?_) λaD aE e1 e2 v' dG=>by cases dG;simp only[qq,bB];rw[eM aD aE e1 e2]
       split
       next h0=>exact absurd h0 (zlQ hs)
       ·simp[g3,Fi]
      ·obtain⟨t0,g1,g2,g3⟩:=wI h1 hq;obtain⟨t1,g4,g5⟩:=RB g1 g2;simp only[bt] at g3;simp only[jp,bB,Ih] at g5;have hk:fh (.sl n) (match cj ρ l with|[]=>V.aJ|ys=>.sl n ys (.yes e))=true:=by split<;>simp[fh,locked]
       have ht:(match cj ρ l with|[]=>V.aJ|ys=>.sl n ys (.yes e)).top=0:=by split<;>first|rfl|exact GG
       refine jF g4 g5 (tZ _ _) (h3.oI hk ht) (key _ λ_ _=>app _ Jr.symm ?_) λaD aE e1 e2 v' dG=>by cases dG;simp only[qq,bB];exact yD e1 hr.kl.symm
       cases hL:cj ρ l with
       | nil=>rfl
       | cons a b=>rw[hL] at g3;simp only[g3,Fi,fz,fo,aU]
     ·rename_i sz xs e2;split at h1
      ·rename_i hc;simp only[cR] at hc;obtain rfl:=kZ hc.1;obtain rfl:=kZ hc.2;obtain⟨t1,g1,g2,g3⟩:=wI h1 hq;simp only[bt,VD,bY] at g3;simp only[qq,bB] at Jr;refine jF g1 g2 (dL _) h3 (v:=.sl n (cj ρ xs++cj ρ l) (.yes e)) (key _ λ_ _=>MN _ Jr.symm g3) λaD aE e1 e2 v' dG=>?_;cases dG;have:=h4 aD aE e1 e2;rw[<- Jr] at this;simp only[qq,bB,V.sl.injEq,cg,Bt] at this
       simp only[qq,bB,VD,eM aD aE e1 e2,this]
      ·cases h1
     ·rename_i j;split at h1
      ·rename_i sz hkj;split at h1
       ·rename_i hc;have:=kZ hc;subst this;obtain⟨t0,g1,g2,g3⟩:=wI h1 hq;obtain⟨t1,g4,g5,g6⟩:=wI g1 g2;simp only[bt,VD,cj,bY] at g6;simp only[bt] at g3;simp only[qq,bB] at Jr;have CX:=h3.here.ks _ _ hkj;have hv:(v=.aJ/\at' ρ j=.aJ)\/∃xs,v=.sl n xs (.yes e)/\at' ρ j=.sl n xs (.yes e):=by
         rw[Jr] at g3 CX ⊢;cases v<;>simp only[UY,dF] at g3
         ·exact .inl ⟨rfl,rfl⟩
         next s' xs o=>cases o<;>simp only[dF] at g3;have:=kZ g3;subst this;simp only[fh,cR] at CX;have:=kZ CX.1;subst this;exact .inr ⟨xs,rfl,rfl⟩
        have nP:∀aD aE,ρ <+: aD->pa <+: aE->at' aD j=at' ρ j:=λaD aE e1 e2=>by
         have:=h4 aD aE e1 e2;simp only[qq,bB] at this;rw[this,Jr]
        split at g4
        ·rename_i hs;refine jF g4 g5 (dL _) h3 (v:=.sl n (Sx.vL (at' ρ j)++cj ρ l) (.yes e)) (key _ λ_ _=>?_) λaD aE e1 e2 v' dG=>by cases dG;simp only[qq,bB,VD,cj,eM aD aE e1 e2,nP aD aE e1 e2]
         rcases hv with⟨f1,f2⟩|⟨xs,f1,f2⟩
         ·refine app _ f1 ?_;rw[f2] at g6 ⊢;simp only[Sx.vL,List.length_nil,cK,cq] at g6 ⊢;split
          next h0=>exact absurd h0 (zlQ hs)
          ·simp[g6,Fi]
         ·rw[f2] at g6 ⊢;exact MN _ f1 g6
        ·obtain⟨t2,g7,g8⟩:=RB g4 g5;simp only[jp,bB] at g8;have uB:kG P H tt v yv=some (Ih (at' ρ j) n e (cj ρ l)):=by
          rcases hv with⟨f1,f2⟩|⟨xs,f1,f2⟩
          ·refine app _ f1 ?_;rw[f2] at g6 ⊢;simp only[Sx.vL,List.length_nil,cK] at g6;simp only[Ih];cases hL:cj ρ l with
           | nil=>rfl
           | cons a b=>rw[hL] at g6;simp only[g6,Fi,fz,fo,aU]
          ·rw[f2] at g6 ⊢;exact MN _ f1 g6
         have hk:fh (.sl n) (Ih (at' ρ j) n e (cj ρ l))=true:=by
          rcases hv with⟨f1,f2⟩|⟨xs,f1,f2⟩<;>rw[f2]<;>simp only[Ih]
          ·split<;>simp[fh,locked]
          ·simp[fh,locked]
         have ht:(Ih (at' ρ j) n e (cj ρ l)).top=0:=by
          have ha:=ML hr.top j;rcases hv with⟨f1,f2⟩|⟨xs,f1,f2⟩<;>rw[f2] at ha ⊢<;>simp only[Ih]
          ·split<;>first|rfl|exact GG
          ·simp only[V.top] at ha ⊢;rw[ko,ha,GG];rfl
         exact jF g7 g8 (tZ _ _) (h3.oI hk ht) (key _ λ_ _=>uB) λaD aE e1 e2 v' dG=>by cases dG;simp only[qq,bB];exact yD e1 hr.kl.symm
       ·cases h1
      ·cases h1
     ·cases h1
   ·cases h
  ·cases h
 ·cases h
def zoE{n:Nat}{kk:Sg->TL->Option Tree}:∀{parts:List (Nat×aO)}{j:Nat}{l:TL}{σ:Sg}{ρ:aA}{t:Tree}{len:Nat}{rest:aA},U8 σ n kk j l parts=some t->Rel n0 B ρ pa σ ⟨env,H,lk,df⟩->cw ph gl N t ρ=some r->(cj ρ l).length=j->(∀aD,ρ <+: aD->cj aD l=cj ρ l)->rest.length=parts.length->j+parts.length=len ->
  ∃j_ l' bp t',kk { σ with ks:=j_ } l'=some t'/\cw ph gl N t' bp=some r/\ρ <+: bp/\Rel n0 B bp pa { σ with ks:=j_ } ⟨env,H,lk,df⟩/\(∀aD,bp <+: aD->cj aD l'=cj bp l')/\CE n len env (cj ρ l++rest) parts=some (cj bp l')
 | [],j,l,σ,ρ,t,len,rest,h,hr,hq,hj,hl,sn,hlen=>by
  obtain rfl:rest=[]:=N0.1 sn;exact⟨σ.ks,l,ρ,t,h,hq,dL _,hr,hl,by simp[CE]⟩
 | (i,x)::ps,j,l,σ,ρ,t,len,rest,h,hr,hq,hj,hl,sn,hlen=>by
  simp only[U8] at h;split at h
  ·rename_i v hv;split at h
   ·rename_i hc;simp only[cR] at hc;obtain⟨⟨⟨c1,c2⟩,c3⟩,c4⟩:=hc;have:=kZ c1;subst this;obtain⟨t1,h1,h2⟩:=RB h hq;obtain⟨d1,d2⟩:=y6 (pa:=pa) hr.here.ks hr.top c3;obtain⟨k1,k2,_⟩:=Vp (pa:=pa) hr.here.ks c2;simp only[jp,d2 []] at h2;have mZ:=hr.oI (v:=qq ρ pa v) (ck:=.raw) rfl d1;have nP:∀aD,ρ++[qq ρ pa v] <+: aD->cj aD (.snoc l σ.ks.length)=cj ρ l++[qq ρ pa v]:=λaD e=>by
     simp only[cj];rw[hl aD (O7 e),yD e hr.kl.symm]
    match rest,sn with
    | w::rest,sn =>
    simp only[bq] at hlen sn;obtain⟨j_,l',bp,t',g1,g2,g3,g4,g5,g6⟩:=zoE (rest:=rest) (len:=len) h1 mZ h2 (by rw[nP _ (dL _)];simp[hj]) (λaD e=>by rw[nP aD e,nP _ (dL _)]) (by omega) (by omega)
    refine⟨j_,l',bp,t',g1,g2,O7 g3,g4,g5,?_⟩;rw[nP _ (dL _)] at g6;have bD:Nat.blt i len=true:=by simp only[Ep];omega
    have iL:Nat.beq (qq ρ pa v).cells.length n=true:=by rw[k2,jP];exact c4
    simp only[CE,wZ hr.here hv,Option.bind_eq_bind,bC,k1,iL,bD,fo,aU,qd,fB];rw[<- g6]
    congr 1
    rw[List.set_append_right _ _ (by omega),hj]
    simp
   ·cases h
  ·cases h
def zm1{tt:aq}{len:Nat}{parts:Array (Nat×aO)}(h:iZ P takes σ ⟨dst,.buildSlice tt len parts,type,pos,after,guard⟩ k=some t)(hr:Rel n0 B ρ pa σ ⟨env,H,lk,df⟩)(hq:cw ph gl N t ρ=some r) :
  Step P gl ph N r n0 B k takes ⟨dst,.buildSlice tt len parts,type,pos,after,guard⟩ σ ρ pa ⟨env,H,lk,df⟩:=by
 simp only[iZ] at h;split at h
 ·rename_i e hu;split at h
  ·rename_i n z hn hz;split at h
   ·cases h
   ·rename_i hc;simp only[mT,sR,not_or,HR,Bool.not_eq_true] at hc;obtain⟨⟨⟨⟨c1,c2⟩,c3⟩,c4⟩,c5⟩:=hc;obtain⟨j_,l',bp,t',g1,g2,g3,g4,g5,g6⟩:=zoE (len:=len) (rest:=List.replicate len z) h hr hq rfl (λ_ _=>rfl) (by simp[kZ c5]) (by simp only[cK];exact kZ c5)
    refine jF g1 g2 g3 g4 (v:=.sl n (cj bp l') (.yes e)) (λn'=>?_) λaD aE e1 e2 v' dG=>by cases dG;simp only[qq,bB];rw[g5 aD e1]
    simp only[cj,cq] at g6;simp only[Cx.op,jA,hu,hn,hz,Option.bind_eq_bind,bC,c1,c2,c3,c4,eU,Bool.or_self,dF,bZ,g6]
  ·cases h
 ·cases h
end
end Go.Vm.Sx
