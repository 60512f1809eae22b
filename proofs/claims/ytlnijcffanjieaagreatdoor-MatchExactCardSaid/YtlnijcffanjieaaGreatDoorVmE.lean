/- Vm: each operation's equation. Conditions: none but those named. -/
import Derived.Test.YtlnijcffanjieaaGreatDoorVmD
set_option linter.defProp false
namespace Go.Vm
open Go
section
variable{cx:Cx}{takes:bA}{P:aD}{gl:Nat->Nat->bS}{dst:eC}{type:ai}{pos:String}{after:Array Edge}{guard:i_}{env:aj}{H:Hp}{lk:aC}{df:aV}
def fU(env:aj)(H:Hp)(lk:aC)(df:aV):bS->Option (OR×St)
 | some v=>some (.val v,⟨env,H,lk,df⟩)
 | none=>none
def zd{v:V}:fU env H lk df (some v)=some (.val v,⟨env,H,lk,df⟩):=rfl
def wT{x y:bS}:x=y->(match x with|none=>none|some v=>some (OR.val v,(⟨env,H,lk,df⟩:St)))=fU env H lk df y:=by
 rintro rfl;cases x<;>rfl
def jj(env:aj)(t:Nat):bS->Option (V×aj)
 | some (.sl sz xs (.yes e))=>some (.sl sz xs (.yes e),env.set t (.sl sz xs .no))
 | some v=>some (aX v,env)
 | none=>none
def zh{t:Nat}:take env (.tmp t)=jj env t (nth env t):=by
 simp only[take,jj,eV];rfl
def zH{v:aP}:take env (.const v)=(aF v).map (·,env):=rfl
def ZN{t:Nat}{k:IntKind}{n:Int}:jj env t (some (.int k n))=some (.int k n,env):=rfl
def zv{t:Nat}{b:Bool}:jj env t (some (.bool b))=some (.bool b,env):=rfl
def qt{t:Nat}{s:aj}:jj env t (some (.agg s))=some (.agg s,env):=rfl
def V3{t b o:Nat}:jj env t (some (.ptr b o))=some (.ptr b o,env):=rfl
def ZO{t:Nat}:jj env t (some .aU)=some (.aU,env):=rfl
def zh5{t sz:Nat}{xs:aj}:jj env t (some (.sl sz xs .no))=some (.sl sz xs .no,env):=rfl
def zjp{t:Nat}:jj env t (some .bq)=some (.bq,env):=rfl
def qu{t:Nat}{u:ai}{v:V}:jj env t (some (.bf u v))=some (.bf u v,env):=rfl
def ZP{d:Tmp}{x:aH}(h:takes.any (Nat.beq d)=false):cx.op takes ⟨some d,.move x,type,pos,after,guard⟩ env H lk df=fU env H lk df (aq env x):=by
 simp only[Cx.op,h];exact wT rfl
def SK(H:Hp)(lk:aC)(df:aV):Option (V×aj)->Option (OR×St)
 | some (v,env)=>some (.val v,⟨env,H,lk,df⟩)
 | none=>none
def zn{v:V}:SK H lk df (some (v,env))=some (.val v,⟨env,H,lk,df⟩):=rfl
def zh6{d:Tmp}{x:aH}(h:takes.any (Nat.beq d)=true):cx.op takes ⟨some d,.move x,type,pos,after,guard⟩ env H lk df=SK H lk df (take env x):=by
 simp only[Cx.op,h];cases take env x<;>rfl
def zi{x:aH}:cx.op takes ⟨dst,.assign x,type,pos,after,guard⟩ env H lk df=SK H lk df (take env x):=by
 simp only[Cx.op];cases take env x<;>rfl
def ZQ(a b:bS):bS->bS
 | some (.bool true)=>a
 | some (.bool false)=>b
 | _=>none
def qD{c a b:aH}:cx.op takes ⟨dst,.pick c a b,type,pos,after,guard⟩ env H lk df=fU env H lk df (ZQ (aq env a) (aq env b) (aq env c)):=by
 simp only[Cx.op];refine wT ?_;simp only[qi];cases h:aq env c with
 | none=>rfl
 | some v=>cases v<;>first|rfl|(rename_i t;cases t<;>rfl)
def jd{t:ai}{ps:Array (Nat×aH)}:cx.op takes ⟨dst,.build t ps,type,pos,after,guard⟩ env H lk df=fU env H lk df (ki cx.P t ps env):=by
 simp only[Cx.op];exact wT rfl
def SL{d:Tmp}{t:ai}{a:aH}(h:takes.any (Nat.beq d)=false):cx.op takes ⟨some d,.load t a,type,pos,after,guard⟩ env H lk df=fU env H lk df (((aq env a).bind (zA cx.P H cx.gl t)).map aX):=by
 simp only[Cx.op,h];refine wT ?_;simp only[qi];cases aq env a with
 | none=>rfl
 | some v=>cases h:zA cx.P H cx.gl t v<;>simp[h]
def zx{x:aH}:cx.op takes ⟨dst,.nilCheck x,type,pos,after,guard⟩ env H lk df=fU env H lk df ((aq env x).bind bp):=by
 simp only[Cx.op];exact wT rfl
def j6(P:aD)(op:BinOp)(t:ai)(x y:aH):bS->bS->bS
 | some u,some v=>if jK P op t x y u v then vn P op t u v else none
 | _,_=>none
def zE{o:BinOp}{t u:ai}{x y:aH}:cx.op takes ⟨dst,.binOp o t x y u,type,pos,after,guard⟩ env H lk df=fU env H lk df (j6 cx.P o t x y (aq env x) (aq env y)):=by
 simp only[Cx.op];refine wT ?_;simp only[qi];cases aq env x<;>cases aq env y<;>rfl
def SM{o:UnOp}{t:ai}{x:aH}:cx.op takes ⟨dst,.unOp o t x,type,pos,after,guard⟩ env H lk df=fU env H lk df ((aq env x).bind (NG o)):=by
 simp only[Cx.op];exact wT rfl
def ZR{P:aD}{a b:ai}{x:aH}{v:V}(hp:aq env x=some v)(hv:∀sz xs o,v≠.sl sz xs o):vO P a b x env=none:=by
 unfold vO;split<;>try rfl
 split<;>try rfl
 rename_i ht;exfalso;cases x with
 | tmp t =>
  simp only[take,aq] at ht hp;split at ht
  next hn=>rw[hn] at hp;simp only[aX,aO] at hp;exact hv _ _ _ hp.symm
  next u _ hn=>rw[hn] at hp;simp only[aO,bP] at hp ht;exact hv _ _ _ (hp.symm.trans ht.1)
  ·cases ht
 | _ =>
  simp only[take,hp,cA,aO,bP] at ht;exact hv _ _ _ ht.1
def zoP{P:aD}{a b:ai}{x:aH}(h:P.underlying a≠P.underlying b):vO P a b x env=none:=by
 unfold vO;split
 next e0 _=>exact absurd (congrArg P.underlying (eT e0)) h
 ·rfl
def yF{a b:ai}{x:aH}(hm:vO cx.P a b x env=none):cx.op takes ⟨dst,.convert a b x,type,pos,after,guard⟩ env H lk df=fU env H lk df ((aq env x).bind (vM cx.P a b)):=by
 simp only[Cx.op,hm];exact wT rfl
def yG{x:aH}{i:Nat}:cx.op takes ⟨dst,.extract x i,type,pos,after,guard⟩ env H lk df=fU env H lk df ((aq env x).bind λv=>match v with|.bx vs=>(nth vs i).map aX|_=>none):=by
 simp only[Cx.op];refine wT ?_;simp only[qi];cases aq env x with
 | none=>rfl
 | some v=>cases v<;>first|rfl|(rename_i vs;cases h:nth vs i<;>simp[h])
def a_(off:Nat):V->bS
 | .ptr b o=>some (.ptr b (o+off))
 | .gj g o=>some (.gj g (o+off))
 | .ny b u k=>some (.ny b u (k+off))
 | .vp cs=>some (.vp (cs.drop off))
 | _=>none
def zgG{t:ai}{x:aH}{f:Nat}{fs:Array Field}{fd:Field}{sz:Nat}(h1:cx.P.underlying t=some (.struct fs))(h2:fs[f]?=some fd)(h3:z9 cx.P fd.type=some sz)(h4:Nat.beq sz 0=false) :
  cx.op takes ⟨dst,.fieldAddr t x f,type,pos,after,guard⟩ env H lk df=fU env H lk df ((aq env x).bind (a_ fd.offset)):=by
 simp only[Cx.op];refine wT ?_;simp only[qi,h1];have h5:¬sz=0:=Nat.ne_of_beq_eq_false h4;simp[h2,h3,h5];cases aq env x with
 | none=>rfl
 | some v=>cases v<;>rfl
def zmO{t:ai}{x:aH}{f:Nat}{fs:Array Field}{fd:Field}(h1:cx.P.underlying t=some (.struct fs))(h2:fs[f]?=some fd) :
  cx.op takes ⟨dst,.field t x f,type,pos,after,guard⟩ env H lk df=fU env H lk df ((aq env x).bind λv=>match v with|.agg cs=>(jZ cx.P fd.type cs fd.offset).map aX|_=>none):=by
 simp only[Cx.op];refine wT ?_;simp only[qi,h1];simp[h2];cases aq env x with
 | none=>rfl
 | some v=>cases v<;>rfl
def gW(f:V->Int->bS):bS->bS->bS
 | some x,some (.int _ i)=>f x i
 | _,_=>none
def qK{t:ai}{x i:aH}:cx.op takes ⟨dst,.indexAddr t x i,type,pos,after,guard⟩ env H lk df=fU env H lk df (gW (zO cx.P t) (aq env x) (aq env i)):=by
 simp only[Cx.op];refine wT ?_;simp only[qi];cases h:aq env i with
 | none=>cases aq env x<;>rfl
 | some v=>cases v<;>cases aq env x<;>rfl
def ZS{t:ai}{x i:aH}:cx.op takes ⟨dst,.index t x i,type,pos,after,guard⟩ env H lk df=fU env H lk df (gW (P0 cx.P t) (aq env x) (aq env i)):=by
 simp only[Cx.op];refine wT ?_;simp only[qi];cases h:aq env i with
 | none=>cases aq env x<;>rfl
 | some v=>cases v<;>cases aq env x<;>rfl
def V4(t:ai)(H:Hp)(lk:aC)(df:aV):Option (V×aj)->Option (OR×St)
 | some (v,env)=>if !eF v then none else some (.val (.ptr H.af.length 0),⟨env,H.push (.cells v.laid t),lk,df⟩)
 | none=>none
def wb{t:ai}{x:aH}:cx.op takes ⟨dst,.box t x,type,pos,after,guard⟩ env H lk df=V4 t H lk df (take env x):=by
 simp only[Cx.op,V4,zQ,dD,qb];cases take env x<;>rfl
def qQ{t:ai}{v:V}(h:eF v=true):V4 t H lk df (some (v,env))=some (.val (.ptr H.af.length 0),⟨env,H.push (.cells v.laid t),lk,df⟩):=by
 simp[V4,h]
def zmP{t:ai}{z:V}(hz:qO cx.P t=some z)(hk:eF z=true):cx.op takes ⟨dst,.alloc t,type,pos,after,guard⟩ env H lk df=some (.val (.ptr H.af.length 0),⟨env,H.push (.cells z.cells t),lk,df⟩):=by
 simp[Cx.op,hz,hk,zQ,qb]
def Qt(n:Nat)(H:Hp)(lk:aC)(df:aV):bS->Option (V×aj)->Option (OR×St)
 | some (.ptr b off),some (v,env)=>match H.get b with
  | some (.cells cs ty)=>if eF v && Nat.beq v.laid.length n && Nat.ble (off+n) cs.length && wK lk b off n (cs.drop off) then some (.skip,⟨env,(H.set b (.cells (storeCells cs off v.laid) ty)).bQ b v,lk,df⟩) else none
  | _=>none
 | _,_=>none
def zh7{t:ai}{a x:aH}{n:Nat}(hn:z9 cx.P t=some n)(s8:∀b u k,aq env a≠some (.ny b u k)):cx.op takes ⟨dst,.store t a x,type,pos,after,guard⟩ env H lk df=Qt n H lk df (aq env a) (take env x):=by
 simp only[Cx.op,zQ,dD,dN,qx,hn];cases ha:aq env a with
 | none=>rfl
 | some p =>
  cases p<;>try rfl
  case ny b u k=>exact absurd ha (s8 b u k)
  rename_i b off;cases take env x with
  | none=>rfl
  | some q =>
   simp only[Qt];cases H.get b with
   | none=>rfl
   | some y=>cases y<;>rfl
def fH(lk:aC)(df:aV)(env:aj):Option (OR×Hp)->Option (OR×St)
 | some (r,H)=>some (r,⟨env,H,lk,df⟩)
 | none=>none
def zes{r:OR}:fH lk df env (some (r,H))=some (r,⟨env,H,lk,df⟩):=rfl
def ZT(cx:Cx)(f:FuncId)(H:Hp)(lk:aC)(df:aV)(env:aj):Option aj->Option (OR×St)
 | some args=>fH lk df env (cx.cX f (args.map aX) H)
 | none=>none
def qn{f:FuncId}{args:aj}:ZT cx f H lk df env (some args)=fH lk df env (cx.cX f (args.map aX) H):=rfl
def jH{f:FuncId}{args:nO}{ts:Array ai}:cx.op takes ⟨dst,.call ⟨.value (.func f),args,ts⟩,type,pos,after,guard⟩ env H lk df=ZT cx f H lk df env (bt env args.toList):=by
 simp only[Cx.op,aq];cases bt env args.toList with
 | none=>rfl
 | some l=>simp only[Cx.mD,dN,gF,uf,ZT];cases cx.cX f (l.map aX) H<;>rfl
def zR{P:aD}{gl:Nat->Nat->bS}{uq:ai->Bool}{call:FuncId->aj->Hp->Option (Out×Hp)}{f:FuncId}{fn:Func}{body:Code}{args:aj}{v:V}{H':Hp}(hf:P.funcs[f]?=some fn)(hb:fn.body=some body)(hc:call f args H=some (.ret v,H')) :
  Cx.cX ⟨P,gl,call,uq⟩ f args H=some (.val v,H'):=by
 simp only[Cx.cX,hf,hb,hc,KJ]
def ZU(H:Hp)(lk:aC)(df:aV):Option (OR×aj)->Option (OR×St)
 | some (r,env)=>some (r,⟨env,H,lk,df⟩)
 | none=>none
def wU{x:aH}{t:ai}:cx.op takes ⟨dst,.call ⟨.builtin .len,#[x],#[t]⟩,type,pos,after,guard⟩ env H lk df=fU env H lk df (((aq env x).bind (jM cx.P H t)).map (.int .i64)):=by
 simp only[Cx.op,Cx.builtin];cases aq env x with
 | none=>rfl
 | some v=>cases h:jM cx.P H t v<;>simp[h,fU]
def Qu(P:aD)(H:Hp)(t:ai)(lk:aC)(df:aV)(y:bS):Option (V×aj)->Option (OR×St)
 | some (v,env)=>match y.bind (jN P H t v) with
  | some u=>some (.val u,⟨env,H,lk,df⟩)
  | none=>none
 | none=>none
def zfE{x y:aH}{t:ai}(hu:CB cx.P cx.uq t=false):cx.op takes ⟨dst,.call ⟨.builtin .append,#[x,y],#[t,t]⟩,type,pos,after,guard⟩ env H lk df=Qu cx.P H t lk df (aq env y) (take env x):=by
 simp only[Cx.op,Cx.builtin,hu,pP,pI,bH,aZ];cases hy:aq env y with
 | none=>cases hx:take env x<;>simp[Qu]
 | some v =>
  cases hx:take env x with
  | none=>simp[Qu]
  | some p =>
   obtain⟨u,e⟩:=p;cases h:jN cx.P H t u v<;>simp[Qu,h]
end
section
variable{P:aD}{gl:Gl}
def Fin(P:aD)(rs:List ResultVar)(n0:Nat)(es:aC)(out:Out)(H':Hp):Ex->St->Prop
 | .normal,⟨env,H,_,df⟩|.ret,⟨env,H,_,df⟩=>df=[]/\∃vs,zG P H env rs=some vs/\out=.ret (fN vs)/\H'=ql n0 es (fN vs).top H
 | .rQ v,⟨_,H,_,df⟩=>df=[]/\out=.rQ v/\H'=ql n0 es v.top H
 | _,_=>False
def yT{n:Nat}{f:FuncId}{fn:Func}{body:Code}{args:aj}{bs:List aN}{es:aC}{out:Out}{H':Hp}(hk:gl.hk f args=none)(fB:∀H,gl.fB n f args H=none)(hf:P.funcs[f]?=some fn)(hb:fn.body=some body)
  (h:W ⟨P,gl,zl P gl n,gl.uq⟩ n body ⟨args++List.replicate (fn.ntmps - args.length) (.bx []),⟨bs++[],[]⟩,[],[]⟩ (Fin P fn.results.toList bs.length es out H')):zl P gl (n+1) f args ⟨bs,es⟩=some (out,H'):=by
 obtain⟨ex,⟨env,H,lk,df⟩,h1,h2⟩:=h;rw[uf] at h1;simp only[zl,hk,fB,hf,hb,qh,dN,h1];cases ex<;>simp only[Fin] at h2
 ·obtain⟨rfl,vs,h3,h4,h5⟩:=h2;simp[AO,xq,wj,ef,h3,h4,h5,zQ,kI]
 ·obtain⟨rfl,vs,h3,h4,h5⟩:=h2;simp[AO,xq,wj,ef,h3,h4,h5,zQ,kI]
 ·obtain⟨rfl,h4,h5⟩:=h2;simp[AO,xq,wj,ef,h4,h5,kI]
def qG{bs ls:List aN}{es:aC}{t:Nat}(ht:t<=bs.length):ql bs.length es t ⟨bs++ls,[]⟩=⟨bs,es⟩:=by
 have:Nat.ble t bs.length=true:=HK ht;simp[ql,this]
def get_at{bs ls:List aN}{es:aC}{k:Nat}:Hp.get ⟨bs++ls,es⟩ (bs.length+k)=nth ls k:=by
 simp only[Hp.get,zf];rw[nN (by omega)]
 congr 1
 omega
def lq{bs ls:List aN}{es:aC}:Hp.get ⟨bs++ls,es⟩ bs.length=nth ls 0:=get_at (k:=0)
def kV{bs ls:List aN}{es:aC}{k:Nat}(h:k<bs.length):Hp.get ⟨bs++ls,es⟩ k=nth bs k:=by
 simp only[Hp.get,zf];rw[nH h]
def D9{bs ls:List aN}{es:aC}{k:Nat}{x:aN}:Hp.set ⟨bs++ls,es⟩ (bs.length+k) x=⟨bs++ls.set k x,es⟩:=by
 simp only[Hp.set];rw[List.set_append_right _ _ (by omega)]
 congr 3
 omega
def BD{bs ls:List aN}{es:aC}{x:aN}:Hp.set ⟨bs++ls,es⟩ bs.length x=⟨bs++ls.set 0 x,es⟩:=D9 (k:=0)
def qR{H:Hp}{b:Nat}{v:V}(h:v.top=0):Hp.bQ H b v=H:=by
 simp[Hp.bQ,h]
def zb{α:Type}{x:α}{xs:List α}:nth (x::xs) 0=some x:=rfl
def zg{α:Type}{x:α}{xs:List α}{n:Nat}:nth (x::xs) (n+1)=nth xs n:=rfl
end
section
variable{takes:bA}
def vk(takes:bA)(o:Oper):Bool :=
 match o.op with
 | .alloc _|.box ..|.store ..|.makeMap ..|.makeSlice ..|.mapUpdate ..|.insert ..|.range ..|.next ..|.defer _|.panic _=>true
 | .load ..=>match o.dst with
  | some d=>takes.any (Nat.beq d)
  | none=>false
 | .call c=>match c.callee with
  | .builtin .copy=>true
  | .builtin _=>false
  | _=>true
 | _=>false
def SN(o:Oper):Bool :=
 match o.op with
 | .load ..|.lookup ..|.call _=>true
 | _=>false
abbrev ir(gl:Gl):Prop:=Nonempty ((∀e,gl.uq e=false)/\∀n f args H,gl.fB n f args H=none)
def ir.out{gl:Gl}[h:ir gl]:∀e,gl.uq e=false:=h.elim And.left
def ir.Iz{gl:Gl}[h:ir gl]:∀n f args H,gl.fB n f args H=none:=h.elim And.right
def MC{P:aD}{uq:ai->Bool}(hu:∀e,uq e=false)(t:ai):CB P uq t=false:=by
 unfold CB;split
 ·exact hu _
 ·rfl
def xA{P:aD}{uq:ai->Bool}(hu:∀e,uq e=false)(o:Oper):qF P uq takes o=vk takes o:=by
 obtain⟨dst,op,type,pos,after,guard⟩:=o;cases op<;>try rfl
 case slice t x lo hi mx=>cases mx<;>simp[qF,vk,MC hu]
 case call c =>
  cases hc:c.callee<;>simp[qF,vk,hc];rename_i b;cases b<;>simp;split<;>simp[MC hu]
def zh8{P:aD}{uq:ai->Bool}(hu:∀e,uq e=false)(o:Oper):wM P uq o=SN o:=by
 obtain⟨dst,op,type,pos,after,guard⟩:=o;cases op<;>try rfl
 case slice t x lo hi mx=>cases mx<;>simp[wM,SN,MC hu]
def yH{α:Type}{f:α->Bool}:∀{l:List α},(∀x∈l,f x=true)->jW f l=true
 | [],_=>rfl
 | y::l,h=>by simp only[jW,h y (ew ..),yH λx hx=>h x (cZ _ hx)]
end
section
variable{cx:Cx}{n:Nat}{takes:bA}{P:aD}{gl:Nat->Nat->bS}{dst:eC}{type:ai}{pos:String}{after:Array Edge}{guard:i_}{env:aj}{H:Hp}{lk:aC}{df:aV}
def qA(P:aD)(t:ai)(f:Nat):Option Nat :=
 match P.underlying t with
 | some (.struct fs)=>match fs[f]? with
  | some fd=>match z9 P fd.type with
   | some m=>if Nat.beq m 0 then none else some fd.offset
   | none=>none
  | none=>none
 | _=>none
def MD(v:bS):Option Nat->bS
 | some off=>v.bind (a_ off)
 | none=>none
def zq{v:bS}{off:Nat}:MD v (some off)=v.bind (a_ off):=rfl
def zj{t:ai}{x:aH}{f:Nat}:cx.op takes ⟨dst,.fieldAddr t x f,type,pos,after,guard⟩ env H lk df=fU env H lk df (MD (aq env x) (qA cx.P t f)):=by
 unfold qA;cases h1:cx.P.underlying t with
 | none=>simp[Cx.op,qi,h1,MD,fU]
 | some d =>
  cases d<;>try (simp[Cx.op,qi,h1,MD,fU];done)
  rename_i fs;cases h2:fs[f]? with
  | none=>simp[Cx.op,qi,h1,h2,MD,fU]
  | some fd =>
   cases h3:z9 cx.P fd.type with
   | none=>simp[Cx.op,qi,h1,h2,h3,MD,fU]
   | some m =>
    cases m with
    | zero=>simp[Cx.op,qi,h1,h2,h3,MD,fU]
    | succ m=>rw[zgG h1 h2 h3 rfl];simp[MD,h2,h3]
def fieldAt(P:aD)(t:ai)(f:Nat):Option (ai×Nat) :=
 match P.underlying t with
 | some (.struct fs)=>(fs[f]?).map λfd=>(fd.type,fd.offset)
 | _=>none
def Qv(P:aD)(v:bS):Option (ai×Nat)->bS
 | some (t,off)=>v.bind λv=>match v with|.agg cs=>(jZ P t cs off).map aX|_=>none
 | none=>none
def zh9{v:bS}{t off:Nat}:Qv P v (some (t,off))=v.bind λv=>match v with|.agg cs=>(jZ P t cs off).map aX|_=>none:=rfl
def zlz{t:ai}{x:aH}{f:Nat}:cx.op takes ⟨dst,.field t x f,type,pos,after,guard⟩ env H lk df=fU env H lk df (Qv cx.P (aq env x) (fieldAt cx.P t f)):=by
 unfold fieldAt;cases h1:cx.P.underlying t with
 | none=>simp[Cx.op,qi,h1,Qv,fU]
 | some d =>
  cases d<;>try (simp[Cx.op,qi,h1,Qv,fU];done)
  rename_i fs;cases h2:fs[f]? with
  | none=>simp[Cx.op,qi,h1,h2,Qv,fU]
  | some fd =>
   rw[zmO h1 h2];simp only[h2,cA,Qv]
   try rfl
def Kk(cs:aj)(off:Nat):Option Bool->Option Nat->bS
 | some true,some n=>if off+n<=cs.length then some (.agg ((cs.drop off).take n)) else none
 | some false,_=>nth cs off
 | _,_=>none
def kL{t:ai}{cs:aj}{off:Nat}:jZ P t cs off=Kk cs off (jI P t) (z9 P t):=by
 unfold jZ;cases jI P t with
 | none=>rfl
 | some b =>
  cases b with
  | false=>simp[Kk]
  | true=>cases z9 P t<;>simp[Kk]
def V5{cs:aj}{off:Nat}{s:Option Nat}:Kk cs off (some false) s=nth cs off:=by cases s<;>rfl
def ZV{cs:aj}{off n:Nat}:Kk cs off (some true) (some n)=if off+n<=cs.length then some (.agg ((cs.drop off).take n)) else none:=rfl
def V6(P:aD)(t:ai)(off:Nat):Option aN->bS
 | some (.cells cs _)=>jZ P t cs off
 | _=>none
def xV{t u:ai}{off:Nat}{cs:aj}:V6 P t off (some (.cells cs u))=jZ P t cs off:=rfl
def V7{t:ai}{b off:Nat}:zA P H gl t (.ptr b off)=V6 P t off (H.get b):=by
 cases h:H.get b with
 | none=>simp[zA,h,V6]
 | some x=>cases x<;>simp[zA,h,V6]
def zia{t:ai}{cs:aj}:zA P H gl t (.vp cs)=jZ P t cs 0:=rfl
def zqL{c:Code}{s:St}{Q:Ex->St->Prop}(Inv:Nat->St->Prop)(k:Nat)(hk:k<n)(h0:Inv k s)(s9:∀j s,Inv j s->W cx n c s (Ld (λs'=>∃i,i<j/\Inv i s') Q)):W cx n (.loop c) s Q:=by
 unfold W;simp only[Cx.code];have key:∀(m:Nat)(s:St)(j:Nat),j<m->Inv j s->∃ex s',yP (cx.code n c) m s=some (ex,s')/\Q ex s':=by
  intro m
  induction m with
  | zero=>intro s j h;omega
  | succ m ih =>
   intro s j hj hI;obtain⟨ex,s1,h1,h2⟩:=s9 j s hI;simp only[yP,h1];cases ex with
   | normal =>
    obtain⟨i,hi,Oc⟩:=h2;exact ih s1 i (by omega) Oc
   | _=>exact⟨_,_,rfl,h2⟩
 exact key n s k hk h0
end
section
variable{cx:Cx}{n:Nat}{all:Array Oper}{takes:bA}{dst:eC}{op:Op}{type:ai}{pos:String}{after:Array Edge}{os:List Oper}{env bT bE:aj}{H H1:Hp}{lk c7:aC}{df dB:aV}{v:V}{Q:Ex->St->Prop}
def zkd{P:aD}{t:ai}{x y:aH}{k:IntKind}{a b:Int}:j6 P .add t x y (some (.int k a)) (some (.int k b))=some (.int k (k.wrap (a+b))):=by simp[j6,jK,vn,v6]
def qE{P:aD}{t:ai}{x y:aH}{k:IntKind}{a b:Int}:j6 P .eql t x y (some (.int k a)) (some (.int k b))=some (.bool (a == b)):=by simp[j6,jK,kF,vn,v6]
def jr{P:aD}{t:ai}{x y:aH}{k:IntKind}{a b:Int}:j6 P .lss t x y (some (.int k a)) (some (.int k b))=some (.bool (a<b)):=by simp[j6,jK,vn,v6]
def Qw{P:aD}{t:ai}{x y:aH}{k:IntKind}{a b:Int}:j6 P .gtr t x y (some (.int k a)) (some (.int k b))=some (.bool (a > b)):=by simp[j6,jK,vn,v6]
def zw{d:Tmp}{t:ai}{a:aH}{guard:i_}:cx.op [] ⟨some d,.load t a,type,pos,after,guard⟩ env H lk df=fU env H lk df (((aq env a).bind (zA cx.P H cx.gl t)).map aX):=SL rfl
def zr{d:Tmp}{x:aH}{guard:i_}:cx.op [] ⟨some d,.move x,type,pos,after,guard⟩ env H lk df=fU env H lk df (aq env x):=ZP rfl
def zB{k:IntKind}{n:Int}:aX (.int k n)=.int k n:=rfl
def zp{b:Bool}:aX (.bool b)=.bool b:=rfl
def wm{s:aR}:aX (.str s)=.str s:=rfl
def vF{s:aj}:aX (.agg s)=.agg s:=rfl
def On{s:aj}:aX (.vp s)=.vp s:=rfl
def Qx{s:aj}:aX (.bx s)=.bx s:=rfl
def zu{a b:Nat}:aX (.ptr a b)=.ptr a b:=rfl
def nY:aX .aU=.aU:=rfl
def iK:aX .bq=.bq:=rfl
def ME{sz:Nat}{xs:aj}{o:Own}:aX (.sl sz xs o)=.sl sz xs .no:=rfl
def jt{a b c d:Nat}:aX (.sr a b c d)=.sr a b c d:=rfl
def qo{t:ai}{v:V}:aX (.bf t v)=.bf t v:=rfl
def zib{l:aj}{d:Nat}{v:V}(h:nth l d=some v):l.set d v=l:=by
 rw[zf] at h;apply HO;intro t;rw[List.getElem?_set'];split
 next e=>subst e;rw[h];rfl
 ·rfl
end
end Go.Vm
namespace Go.Vm.Sx
open Go Go.Vm
section
mutual
inductive TI where
 |var (i:Nat)|lit (n:Int)|bin (op:BinOp) (k:IntKind) (a b:TI)|conv (k:IntKind) (a:TI)|len (l:TL)|uG (s:TS)|byte (s:TS) (i:TI)|ite (c:TB) (a b:TI)
inductive TB where
 |var (i:Nat)|lit (b:Bool)|not (a:TB)|and (a b:TB)|or (a b:TB)|ite (c a b:TB)|beq (a b:TB)|cmp (op:BinOp) (a b:TI)|nZ (op:BinOp) (a b:TS)|bq (i:Nat)|uH (i:Nat)|own (i:Nat) (e:ai)|lJ (i:Nat)|room (l:TL) (n:Nat)|oT (a b:TS)
inductive TS where
 |var (i:Nat)|lit (l:aR)|cat (a b:TS)|sub (s:TS) (lo hi:TI)|Qy (l:TL)
inductive TL where
 |var (i:Nat)|nil|snoc (l:TL) (i:Nat)|cat (a b:TL)|sub (l:TL) (lo hi:TI)|MF (s:TS)
end
inductive C where
 |k (v:V)|v (i:Nat) (cl:Bool)|i (kd:IntKind) (t:TI)|b (t:TB)|s (t:TS)|sl (sz:Nat) (t:TL) (o:Own)|p (a off:Nat)|CV (i:Nat)
inductive SC where
 |one (c:C)|agg (cs:List C)
inductive SV where
 |val (x:SC)|vp (cs:List C)|bx (xs:List SC)|gd (c:TB) (x:SC)|MG|fn (f:Fn) (cs:List C)
inductive CK where
 |raw|any|int (k:IntKind)|bool|str|sl (sz:Nat)|bf
 deriving DecidableEq
inductive VE where
 |sc (x:SC)|app (c:C) (sz:Nat) (e:ai) (l:TL)|ZW (i:Nat) (lo hi:TI)|bf (t:ai) (x:SC)|bx (xs:List SC)
inductive AS where
 |d (x:SC)|p (j off:Nat)
inductive AV where
 |d (x:V)|p (j off:Nat)
inductive Tree where
 |out (vs:List C)
 |p9 (t:Tree)
 |ite (c:TB) (a b:Tree)
 |iM (c:TB) (t:Tree)
 |bO (e:VE) (t:Tree)
 |elem (l:TL) (i:TI) (t:Tree)
 |ZX (cs:List C) (i:TI) (t:Tree)
 |iN (i:Nat) (ks:List CK) (t:Tree)
 |ZY (i:Nat) (ks:List CK) (t:Tree)
 |gG (i:Nat) (k:CK) (t:Tree)
 |ZZ (l:TL) (t:Tree)
 |Oo (g off:Nat) (t:Tree)
 |call (f:FuncId) (args:List AS) (bD:List (List C×ai)) (ks:List CK) (t:Tree)
 |loop (Ay:List C) (body:Tree)
 |br (body t:Tree)
def at'(ρ:aj)(i:Nat):V:=match nth ρ i with|some v=>v|none=>.mC
def vI:V->Int|.int _ n=>n|_=>0
def vB:V->Bool|.bool b=>b|_=>false
def vS:V->aR|.str s=>s|_=>[]
def vL:V->aj|.sl _ xs _=>xs|_=>[]
def fz(op:BinOp)(k:IntKind)(x y:Int):Int :=
 match op with
 | .add=>k.wrap (x+y)
 | .sub=>k.wrap (x - y)
 | .mul=>k.wrap (x * y)
 | .quo=>k.wrap (x.tdiv y)
 | .rem=>x.tmod y
 | .and=>k.wrap ((BitVec.ofInt k.bits x &&& BitVec.ofInt k.bits y).toNat)
 | .or=>k.wrap ((BitVec.ofInt k.bits x ||| BitVec.ofInt k.bits y).toNat)
 | .xor=>k.wrap ((BitVec.ofInt k.bits x ^^^ BitVec.ofInt k.bits y).toNat)
 | .andNot=>k.wrap ((BitVec.ofInt k.bits x &&& ~~~ (BitVec.ofInt k.bits y)).toNat)
 | .shl=>k.wrap (x * 2 ^ (min y.toNat k.bits))
 | .shr=>x.fdiv (2 ^ (min y.toNat k.bits))
 | _=>0
def CW(op:BinOp)(x y:Int):Bool :=
 match op with
 | .eql=>x == y
 | .neq=>x != y
 | .lss=>x<y
 | .leq=>x<=y
 | .gtr=>x > y
 | .geq=>x ≥ y
 | _=>false
def Az(op:BinOp)(x y:aR):Bool :=
 match op with
 | .eql=>sU x y
 | .neq=>!(sU x y)
 | .lss=>HQ x y
 | .leq=>HQ x y || sU x y
 | .gtr=>!(HQ x y || sU x y)
 | .geq=>!(HQ x y)
 | _=>false
def zmR(s:aR)(i:Int):Int:=match nth s i.toNat with|some b=>(b:Int)|none=>0
def D_:V->Bool|.bq=>true|_=>false
def Oq:V->Bool|.aU=>true|_=>false
def Qz(e:ai):V->Bool|.aU=>true|.sl _ _ (.yes e')=>Nat.beq e e'|_=>false
def BE:V->Bool|.aU=>true|.sl _ _ (.yes _)=>true|_=>false
mutual
def bG(ρ:aj):TI->Int
 | .var i=>vI (at' ρ i)
 | .lit n=>n
 | .bin op k a b=>fz op k (bG ρ a) (bG ρ b)
 | .conv k a=>k.wrap (bG ρ a)
 | .len l=>((cV ρ l).length:Int)
 | .uG s=>((gX ρ s).length:Int)
 | .byte s i=>zmR (gX ρ s) (bG ρ i)
 | .ite c a b=>bif bk ρ c then bG ρ a else bG ρ b
def bk(ρ:aj):TB->Bool
 | .var i=>vB (at' ρ i)
 | .lit b=>b
 | .not a=>!(bk ρ a)
 | .and a b=>bk ρ a && bk ρ b
 | .or a b=>bk ρ a || bk ρ b
 | .ite c a b=>bif bk ρ c then bk ρ a else bk ρ b
 | .beq a b=>bk ρ a == bk ρ b
 | .cmp op a b=>CW op (bG ρ a) (bG ρ b)
 | .nZ op a b=>Az op (gX ρ a) (gX ρ b)
 | .bq i=>D_ (at' ρ i)
 | .uH i=>Oq (at' ρ i)
 | .own i e=>Qz e (at' ρ i)
 | .lJ i=>BE (at' ρ i)
 | .room l n=>jJ (cV ρ l).length n
 | .oT a b=>Nat.ble ((gX ρ a).length+(gX ρ b).length) 140737488355328
def gX(ρ:aj):TS->aR
 | .var i=>vS (at' ρ i)
 | .lit l=>l
 | .cat a b=>gX ρ a++gX ρ b
 | .sub s lo hi=>((gX ρ s).take (bG ρ hi).toNat).drop (bG ρ lo).toNat
 | .Qy l=>match mc (cV ρ l) with|some s=>s|none=>[]
def cV(ρ:aj):TL->aj
 | .var i=>vL (at' ρ i)
 | .nil=>[]
 | .snoc l i=>cV ρ l++[at' ρ i]
 | .cat a b=>cV ρ a++cV ρ b
 | .sub l lo hi=>((cV ρ l).take (bG ρ hi).toNat).drop (bG ρ lo).toNat
 | .MF s=>(gX ρ s).map λ(b:Nat)=>.int .u8 b
end
def pd(pa:aR)(a:Nat):Nat:=match nth pa a with|some b=>b|none=>0
def A1:V->V|.sl sz xs _=>.sl sz xs .lock|v=>v
def bw(ρ:aj)(pa:aR):C->V
 | .k v=>v
 | .v i true=>aX (at' ρ i)
 | .v i false=>at' ρ i
 | .i k t=>.int k (bG ρ t)
 | .b t=>.bool (bk ρ t)
 | .s t=>.str (gX ρ t)
 | .sl sz t o=>.sl sz (cV ρ t) o
 | .p a off=>.ptr (pd pa a) off
 | .CV i=>A1 (at' ρ i)
def aG(ρ:aj)(pa:aR):List C->aj
 | []=>[]
 | c::cs=>bw ρ pa c::aG ρ pa cs
def aQ(ρ:aj)(pa:aR):SC->V
 | .one c=>bw ρ pa c
 | .agg cs=>.agg (aG ρ pa cs)
def fe(ρ:aj)(pa:aR):List SC->aj
 | []=>[]
 | c::cs=>aQ ρ pa c::fe ρ pa cs
def jA(ρ:aj)(pa:aR):SV->bS
 | .val x=>some (aQ ρ pa x)
 | .vp cs=>some (.vp (aG ρ pa cs))
 | .bx xs=>some (.bx (fe ρ pa xs))
 | .gd c x=>some (bif bk ρ c then aQ ρ pa x else .bx [])
 | .MG=>none
 | .fn f cs=>some (.fn f [] (aG ρ pa cs))
def fm:CK->V->Bool
 | .raw,_=>true
 | .any,v=>oJ v && !(locked v)
 | .int k,.int k' _=>if k=k' then true else false
 | .bool,.bool _=>true
 | .str,.str _=>true
 | .sl _,.aU=>true
 | .sl sz,.sl mj xs o=>Nat.beq sz mj && !(locked (.sl mj xs o))
 | .bf,.bq=>true
 | .bf,.bf _ _=>true
 | _,_=>false
def lu:List CK->aj->Bool
 | [],[]=>true
 | k::ks,v::vs=>fm k v && lu ks vs
 | _,_=>false
def MH(v:V)(sz:Nat)(e:ai)(ys:aj):V :=
 match v with
 | .aU=>match ys with
  | []=>.aU
  | ys=>.sl sz ys (.yes e)
 | .sl _ xs _=>.sl sz (xs++ys) (.yes e)
 | _=>.mC
def Ot(v:V)(lo hi:Int):V :=
 match v with
 | .aU=>.aU
 | .sl sz xs _=>.sl sz ((xs.take hi.toNat).drop lo.toNat) .no
 | _=>.mC
def eo(ρ:aj):VE->V
 | .sc x=>aQ ρ [] x
 | .app c sz e l=>MH (bw ρ [] c) sz e (cV ρ l)
 | .ZW i lo hi=>Ot (at' ρ i) (bG ρ lo) (bG ρ hi)
 | .bf t x=>.bf t (aQ ρ [] x)
 | .bx xs=>.bx (fe ρ [] xs)
def Hl{α:Type}(step:α->Option (Nat×α)):Nat->α->Option (Nat×α)
 | 0,_=>none
 | n+1,a=>match step a with
  | none=>none
  | some (0,a)=>Hl step n a
  | some (j+1,a)=>some (j,a)
def BF(ρ:aj):AS->AV
 | .d x=>.d (aQ ρ [] x)
 | .p j off=>.p j off
def lK(ρ:aj):List AS->List AV
 | []=>[]
 | x::xs=>BF ρ x::lK ρ xs
def dY(ρ:aj):List (List C×ai)->List (aj×ai)
 | []=>[]
 | (cs,t)::r=>(aG ρ [] cs,t)::dY ρ r
def cw:List aj->aj
 | []=>[]
 | l::r=>l++cw r
def dI:List (List C×ai)->List aj->Bool
 | [],[]=>true
 | (cs,_)::r,l::ls=>Nat.beq cs.length l.length && dI r ls
 | _,_=>false
def bU(pc:FuncId->List AV->List (aj×ai)->Option (V×List aj))(gl:Nat->Nat->bS)(N:Nat):Tree->aj->Option (Nat×aj)
 | .out vs,ρ=>some (0,aG ρ [] vs)
 | .p9 t,ρ=>match bU pc gl N t ρ with
  | some (j,vs)=>some (j+1,vs)
  | none=>none
 | .ite c a b,ρ=>bif bk ρ c then bU pc gl N a ρ else bU pc gl N b ρ
 | .iM c t,ρ=>bif bk ρ c then bU pc gl N t ρ else none
 | .bO e t,ρ=>bU pc gl N t (ρ++[eo ρ e])
 | .elem l i t,ρ=>if bG ρ i<0 then none else match nth (cV ρ l) (bG ρ i).toNat with
  | some v=>bU pc gl N t (ρ++[v])
  | none=>none
 | .ZX cs i t,ρ=>if bG ρ i<0 then none else match nth (aG ρ [] cs) (bG ρ i).toNat with
  | some v=>bU pc gl N t (ρ++[v])
  | none=>none
 | .iN i ks t,ρ=>match at' ρ i with
  | .agg cs=>bif lu ks cs then bU pc gl N t (ρ++cs) else none
  | _=>none
 | .ZY i ks t,ρ=>match at' ρ i with
  | .bx cs=>bif lu ks cs then bU pc gl N t (ρ++cs) else none
  | _=>none
 | .gG i k t,ρ=>bif fm k (at' ρ i) then bU pc gl N t ρ else none
 | .ZZ l t,ρ=>match mc (cV ρ l) with
  | some s=>bU pc gl N t (ρ++[.str s])
  | none=>none
 | .Oo g off t,ρ=>match gl g off with
  | some v=>bU pc gl N t (ρ++[v])
  | none=>none
 | .call f args bD ks t,ρ=>match pc f (lK ρ args) (dY ρ bD) with
  | some (v,out)=>bif dI bD out && lu ks (cw out) then bU pc gl N t (ρ++(v::cw out)) else none
  | none=>none
 | .loop Ay body,ρ=>Hl (λvs=>bU pc gl N body (ρ++vs)) N (aG ρ [] Ay)
 | .br body t,ρ=>match bU pc gl N body ρ with
  | some (0,vs)=>bU pc gl N t (ρ++vs)
  | some (j+1,vs)=>some (j,vs)
  | none=>none
mutual
def Am:TI->TI->Bool
 | .var i,.var j=>Nat.beq i j
 | .lit a,.lit b=>a == b
 | .bin op k a b,.bin An k' a' b'=>(if op=An then true else false) && (if k=k' then true else false) && Am a a' && Am b b'
 | .conv k a,.conv k' a'=>(if k=k' then true else false) && Am a a'
 | .len a,.len a'=>Ea a a'
 | .uG a,.uG a'=>Dy a a'
 | .byte a b,.byte a' b'=>Dy a a' && Am b b'
 | .ite c a b,.ite c' a' b'=>nv c c' && Am a a' && Am b b'
 | _,_=>false
def nv:TB->TB->Bool
 | .var i,.var j=>Nat.beq i j
 | .lit a,.lit b=>a == b
 | .not a,.not b=>nv a b
 | .and a b,.and a' b'=>nv a a' && nv b b'
 | .or a b,.or a' b'=>nv a a' && nv b b'
 | .beq a b,.beq a' b'=>nv a a' && nv b b'
 | .ite c a b,.ite c' a' b'=>nv c c' && nv a a' && nv b b'
 | .cmp op a b,.cmp An a' b'=>(if op=An then true else false) && Am a a' && Am b b'
 | .nZ op a b,.nZ An a' b'=>(if op=An then true else false) && Dy a a' && Dy b b'
 | .bq i,.bq j=>Nat.beq i j
 | .uH i,.uH j=>Nat.beq i j
 | _,_=>false
def Dy:TS->TS->Bool
 | .var i,.var j=>Nat.beq i j
 | .lit a,.lit b=>sU a b
 | .cat a b,.cat a' b'=>Dy a a' && Dy b b'
 | .sub a b c,.sub a' b' c'=>Dy a a' && Am b b' && Am c c'
 | .Qy a,.Qy b=>Ea a b
 | _,_=>false
def Ea:TL->TL->Bool
 | .var i,.var j=>Nat.beq i j
 | .nil,.nil=>true
 | .snoc a i,.snoc b j=>Ea a b && Nat.beq i j
 | .cat a b,.cat a' b'=>Ea a a' && Ea b b'
 | .sub a b c,.sub a' b' c'=>Ea a a' && Am b b' && Am c c'
 | .MF a,.MF b=>Dy a b
 | _,_=>false
end
def QA:C->C->Bool
 | .k v,.k w=>V.same v w
 | .v i a,.v j b=>Nat.beq i j && (a == b)
 | .i k t,.i k' t'=>(if k=k' then true else false) && Am t t'
 | .b t,.b t'=>nv t t'
 | .s t,.s t'=>Dy t t'
 | .sl a t o,.sl a' t' o'=>Nat.beq a a' && Ea t t' && (if o=o' then true else false)
 | .p a b,.p a' b'=>Nat.beq a a' && Nat.beq b b'
 | .CV i,.CV j=>Nat.beq i j
 | _,_=>false
mutual
def AA(m:Nat):TI->Bool
 | .var i=>Nat.blt i m
 | .lit _=>true
 | .bin _ _ a b=>AA m a && AA m b
 | .conv _ a=>AA m a
 | .len l=>Fl m l
 | .uG s=>Dz m s
 | .byte s i=>Dz m s && AA m i
 | .ite c a b=>sD m c && AA m a && AA m b
def sD(m:Nat):TB->Bool
 | .var i=>Nat.blt i m
 | .lit _=>true
 | .not a=>sD m a
 | .and a b=>sD m a && sD m b
 | .or a b=>sD m a && sD m b
 | .beq a b=>sD m a && sD m b
 | .ite c a b=>sD m c && sD m a && sD m b
 | .cmp _ a b=>AA m a && AA m b
 | .nZ _ a b=>Dz m a && Dz m b
 | .bq i=>Nat.blt i m
 | .uH i=>Nat.blt i m
 | .own i _=>Nat.blt i m
 | .lJ i=>Nat.blt i m
 | .room l _=>Fl m l
 | .oT a b=>Dz m a && Dz m b
def Dz(m:Nat):TS->Bool
 | .var i=>Nat.blt i m
 | .lit _=>true
 | .cat a b=>Dz m a && Dz m b
 | .sub s a b=>Dz m s && AA m a && AA m b
 | .Qy l=>Fl m l
def Fl(m:Nat):TL->Bool
 | .var i=>Nat.blt i m
 | .nil=>true
 | .snoc l i=>Fl m l && Nat.blt i m
 | .cat a b=>Fl m a && Fl m b
 | .sub l a b=>Fl m l && AA m a && AA m b
 | .MF s=>Dz m s
end
def V8(m:Nat):C->Bool
 | .k _=>true
 | .v i _=>Nat.blt i m
 | .i _ t=>AA m t
 | .b t=>sD m t
 | .s t=>Dz m t
 | .sl _ t _=>Fl m t
 | .p _ _=>true
 | .CV i=>Nat.blt i m
end
structure Sg where
 env:List SV
 af:List (Nat×List C×ai)
 na:Nat
 ks:List CK
 lk:aC
 as:List TB
 nf:Nat
def qy(takes:bA):eC->Bool
 | some d=>takes.any (Nat.beq d)
 | none=>false
def xi{α:Type}(f:α->Bool):List α->Bool
 | []=>false
 | x::xs=>match f x with|true=>true|false=>xi f xs
def Eb(as:List TB):TB->Option Bool
 | .lit b=>some b
 | .not a=>match Eb as a with
  | some b=>some (!b)
  | none=>if xi (nv (.not a)) as then some true else none
 | .and a b=>match Eb as a,Eb as b with
  | some true,some true=>some true
  | some false,_=>some false
  | _,some false=>some false
  | _,_=>if xi (nv (.and a b)) as then some true else if xi (nv (.not (.and a b))) as then some false else none
 | t=>if xi (nv t) as then some true else if xi (nv (.not t)) as then some false else none
def mkNot:TB->TB|.lit b=>.lit !b|.not a=>a|t=>.not t
def n4:TB->List TB->List TB
 | .and a b,as=>.and a b::n4 a (n4 b as)
 | .not (.or a b),as=>.not (.or a b)::mkNot a::mkNot b::as
 | t,as=>t::as
def n_:List TB->List TB->List TB
 | as,[]=>as
 | as,.not (.and a b)::r=>match Eb as a,Eb as b with
  | some true,none=>n_ (mkNot b::as) r
  | none,some true=>n_ (mkNot a::as) r
  | _,_=>n_ as r
 | as,_::r=>n_ as r
def yU(t:TB)(as:List TB):List TB:=n_ (n4 t as) (n4 t as)
def IA(a b:TB):TB :=
 match a with
 | .lit true=>b
 | .lit false=>.lit false
 | _=>match b with
  | .lit true=>a
  | .lit false=>.lit false
  | _=>.and a b
def SO(a b:TB):TB :=
 match a with
 | .lit true=>.lit true
 | .lit false=>b
 | _=>match b with
  | .lit true=>.lit true
  | .lit false=>a
  | _=>.or a b
def Z0(c a b:TB):TB :=
 match nv c a with
 | true=>SO c b
 | false=>match nv c b with
  | true=>IA c a
  | false=>match a,b with
   | .lit true,b=>SO c b
   | a,.lit false=>IA c a
   | .lit false,b=>IA (mkNot c) b
   | a,.lit true=>SO (mkNot c) a
   | a,b=>.ite c a b
def tK:SV:=.val (.one (.k (.bx [])))
def IB:C->C
 | .sl sz t _=>.sl sz t .no
 | .v i _=>.v i true
 | .CV i=>.v i true
 | .k v=>.k (aX v)
 | c=>c
def mN:SC->SC|.one c=>.one (IB c)|.agg cs=>.agg cs
def IC:SV->SV|.val x=>.val (mN x)|x=>x
def cC:V->C
 | .int k n=>.i k (.lit n)
 | .bool b=>.b (.lit b)
 | .str s=>.s (.lit s)
 | v=>.k v
def QB:aj->List C
 | []=>[]
 | v::vs=>cC v::QB vs
def SP:V->SC
 | .agg cs=>.agg (QB cs)
 | v=>.one (cC v)
def V9(as:List TB):SV->Option SV
 | .gd c x=>match Eb as c with
  | some true=>some (.val x)
  | some false=>some tK
  | none=>none
 | .MG=>none
 | sv=>some sv
def slot(σ:Sg)(t:Tmp):Option SV :=
 match nth σ.env t with
 | some sv=>V9 σ.as sv
 | none=>none
def pk(σ:Sg):aH->Option SV
 | .tmp t=>match slot σ t with
  | some sv=>some (IC sv)
  | none=>none
 | .const v=>match aF v with
  | some v=>some (.val (SP v))
  | none=>none
 | _=>none
def Cn(σ:Sg)(x:aH):Option C :=
 match pk σ x with
 | some (.val (.one c))=>some c
 | _=>none
def Fm(ks:List CK):C->Option (IntKind×TI)
 | .i k t=>some (k,t)
 | .v i _=>match nth ks i with
  | some (.int k)=>some (k,.var i)
  | _=>none
 | .k (.int k n)=>some (k,.lit n)
 | _=>none
def F9(ks:List CK):C->Option TB
 | .b t=>some t
 | .v i _=>match nth ks i with
  | some .bool=>some (.var i)
  | _=>none
 | .k (.bool b)=>some (.lit b)
 | _=>none
def Fo(ks:List CK):C->Option TS
 | .s t=>some t
 | .v i _=>match nth ks i with
  | some .str=>some (.var i)
  | _=>none
 | .k (.str l)=>some (.lit l)
 | _=>none
def Lf(ks:List CK)(sz:Nat):C->Option TL
 | .sl mj t _=>if Nat.beq sz mj then some t else none
 | .v i _=>match nth ks i with
  | some (.sl mj)=>if Nat.beq sz mj then some (.var i) else none
  | _=>none
 | .k .aU=>some .nil
 | _=>none
def BG(σ:Sg)(x:aH):Option (IntKind×TI):=match Cn σ x with|some c=>Fm σ.ks c|none=>none
def SQ(σ:Sg)(x:aH):Option TB:=match Cn σ x with|some c=>F9 σ.ks c|none=>none
def SS(σ:Sg)(x:aH):Option TS:=match Cn σ x with|some c=>Fo σ.ks c|none=>none
def ID(P:aD)(t:ai)(cs:List C)(off:Nat):Option SC :=
 match jI P t with
 | some true=>match z9 P t with
  | some n=>if off+n<=cs.length then some (.agg ((cs.drop off).take n)) else none
  | none=>none
 | some false=>match nth cs off with
  | some c=>some (.one c)
  | none=>none
 | none=>none
def jC(a:Nat):List (Nat×List C×ai)->Option (List C×ai)
 | []=>none
 | (b,x)::r=>if Nat.beq a b then some x else jC a r
def IE(a:Nat)(cs:List C):List (Nat×List C×ai)->List (Nat×List C×ai)
 | []=>[]
 | (b,x,t)::r=>if Nat.beq a b then (b,cs,t)::r else (b,x,t)::IE a cs r
def A2:BinOp->Bool
 | .eql|.neq|.lss|.leq|.gtr|.geq=>true
 | _=>false
def IF:BinOp->Bool
 | .add|.sub|.mul|.and|.or|.xor|.andNot=>true
 | _=>false
def Z1(ks:List CK)(ds:TypeDesc)(x y:C):Option TB :=
 match ds with
 | .bool=>match F9 ks x,F9 ks y with
  | some a,some b=>some (.beq a b)
  | _,_=>none
 | .int _=>match Fm ks x,Fm ks y with
  | some (k,a),some (k',b)=>if k=k' then some (.cmp .eql a b) else none
  | _,_=>none
 | .string=>match Fo ks x,Fo ks y with
  | some a,some b=>some (.nZ .eql a b)
  | _,_=>none
 | _=>none
def V_(P:aD)(eq:ai->SC->SC->Option TB):List Field->List C->List C->Option TB
 | [],_,_=>some (.lit true)
 | f::fs,xs,ys =>
  if f.name= "_" then none else
  match ID P f.type xs f.offset,ID P f.type ys f.offset with
  | some a,some b=>match eq f.type a b,V_ P eq fs xs ys with
   | some t,some r=>some (IA t r)
   | _,_=>none
  | _,_=>none
def Wc(P:aD)(eq:ai->SC->SC->Option TB)(e:ai)(n:Nat)(xs ys:List C):Nat->Nat->Option TB
 | _,0=>some (.lit true)
 | i,k+1 =>
  match ID P e xs (i * n),ID P e ys (i * n) with
  | some a,some b=>match eq e a b,Wc P eq e n xs ys (i+1) k with
   | some t,some r=>some (IA t r)
   | _,_=>none
  | _,_=>none
def SU(P:aD)(ks:List CK):Nat->ai->SC->SC->Option TB
 | 0,_,_,_=>none
 | d+1,t,x,y=>match P.underlying t with
  | none=>none
  | some ds=>match x,y with
   | .agg xs,.agg ys=>match ds with
    | .struct fs=>if P.stoodInHeld t then none else V_ P (SU P ks d) fs.toList xs ys
    | .array len e=>match z9 P e with
     | some n=>Wc P (SU P ks d) e n xs ys 0 len
     | none=>none
    | _=>none
   | .one x,.one y=>Z1 ks ds x y
   | _,_=>none
def We(P:aD)(σ:Sg)(t:ai)(x y:aH)(u v:SV):Option TB :=
 match u,v with
 | .val (.agg a),.val (.agg b)=>if P.eqGuardType P.depth t then none else SU P σ.ks 100 t (.agg a) (.agg b)
 | .val (.one a),.val (.one b) =>
  match Fm σ.ks a,Fm σ.ks b with
  | some (k,a),some (k',b)=>if k=k' then some (.cmp .eql a b) else none
  | _,_=>match Fo σ.ks a,Fo σ.ks b with
   | some a,some b=>some (.nZ .eql a b)
   | _,_=>match P.underlying t with
    | some .bool=>match F9 σ.ks a,F9 σ.ks b with
     | some a,some b=>some (.beq a b)
     | _,_=>none
    | some (.interface _)=>match a,b with
     | .v i _,.k .bq=>match nth σ.ks i,isConst y with
      | some .bf,true=>some (.bq i)
      | _,_=>none
     | .k .bq,.v i _=>match nth σ.ks i,isConst x with
      | some .bf,true=>some (.bq i)
      | _,_=>none
     | .k .bq,.k .bq=>if isConst x || isConst y then some (.lit true) else none
     | _,_=>none
    | some (.pointer _)=>match a,b with
     | .p _ _,.k .dx=>some (.lit false)
     | .k .dx,.p _ _=>some (.lit false)
     | .k .dx,.k .dx=>some (.lit true)
     | _,_=>none
    | _=>none
 | _,_=>none
def Z2(P:aD)(σ:Sg)(op:BinOp)(t:ai)(x y:aH):Option SV :=
 match pk σ x,pk σ y with
 | some u,some v =>
  match op with
  | .eql=>match We P σ t x y u v with
   | some b=>some (.val (.one (.b b)))
   | none=>none
  | .neq=>match We P σ t x y u v with
   | some b=>some (.val (.one (.b (mkNot b))))
   | none=>none
  | _=>match u,v with
   | .val (.one a),.val (.one b)=>match Fm σ.ks a,Fm σ.ks b with
    | some (k,a),some (k',b)=>match IF op,A2 op,(if k=k' then true else false) with
     | true,_,true=>some (.val (.one (.i k (.bin op k a b))))
     | _,true,true=>some (.val (.one (.b (.cmp op a b))))
     | _,_,_=>none
    | _,_=>match Fo σ.ks a,Fo σ.ks b with
     | some a,some b=>if A2 op then some (.val (.one (.b (.nZ op a b)))) else none
     | _,_=>none
   | _,_=>none
 | _,_=>none
def Wg(P:aD)(t:ai):Option CK :=
 match P.underlying t with
 | some (.int k)=>some (.int k)
 | some .bool=>some .bool
 | some .string=>some .str
 | some (.slice e)=>match z9 P e with
  | some n=>some (.sl n)
  | none=>none
 | some (.interface _)=>some .bf
 | some _=>some .any
 | none=>none
def SW:Nat->List CK->List CK
 | 0,_=>[]
 | n+1,l=>l++SW n l
def zp2(lay:ai->Option (List CK)):List Field->Option (List CK)
 | []=>some []
 | f::fs=>match lay f.type,zp2 lay fs with
  | some a,some b=>some (a++b)
  | _,_=>none
def SX(P:aD):Nat->ai->Option (List CK)
 | 0,_=>none
 | d+1,t=>match P.underlying t with
  | some (.struct fs)=>zp2 (SX P d) fs.toList
  | some (.array n e)=>match SX P d e with
   | some l=>some (SW n l)
   | none=>none
  | _=>match Wg P t with
   | some k=>some [k]
   | none=>none
def lits:List CK->Nat->List C
 | [],_=>[]
 | _::ks,i=>.v i false::lits ks (i+1)
def xW(P:aD)(σ:Sg)(t:ai)(i:Nat)(k:Sg->SC->Option Tree):Option Tree :=
 match jI P t with
 | some true=>match SX P 20 t with
  | some ks=>match k { σ with ks:=σ.ks++ks } (.agg (lits ks σ.ks.length)) with
   | some t=>some (.iN i ks t)
   | none=>none
  | none=>none
 | some false=>match Wg P t with
  | some ck=>match k { σ with ks:=σ.ks.set i ck } (.one (.v i false)) with
   | some t=>some (.gG i ck t)
   | none=>none
  | none=>none
 | none=>none
def gP:SC->List C|.one c=>[c]|.agg cs=>cs
def Fp:List C->List C
 | []=>[]
 | c::cs=>IB c::Fp cs
def iR:SC->List C|.one c=>[c]|.agg cs=>Fp cs
def IG(ks:List CK):C->Bool
 | .k v=>Nat.beq v.top 0 && !(locked v)
 | .v i _=>match nth ks i with|some .any=>true|some (.int _)=>true|some .bool=>true|some .str=>true|some (.sl _)=>true|some .bf=>true|_=>false
 | .i _ _|.b _|.s _=>true
 | .sl _ _ .lock=>false
 | .sl _ _ _=>true
 | _=>false
def vr(ks:List CK):List C->Bool
 | []=>true
 | c::cs=>IG ks c && vr ks cs
def Ou(ks:List CK):SC->Bool
 | .one c=>IG ks c
 | .agg cs=>vr ks cs
def Wh(ks:List CK):List SC->Bool
 | []=>true
 | c::cs=>Ou ks c && Wh ks cs
def Z3(ks:List CK):C->Bool
 | .k v=>oJ v
 | .v i _=>match nth ks i with|some .any=>true|some (.int _)=>true|some .bool=>true|some .str=>true|some (.sl _)=>true|some .bf=>true|_=>false
 | .CV _=>false
 | _=>true
def QC(ks:List CK):SC->Bool
 | .one c=>Z3 ks c
 | .agg _=>true
def SY(σ:Sg)(cells:List C)(place:Nat->Option (Nat×Nat)):List (Nat×aH)->Option (List C)
 | []=>some cells
 | (i,x)::r=>match pk σ x,place i with
  | some (.val v),some (off,n)=>if QC σ.ks v && Nat.beq (gP v).length n && Nat.ble (off+n) cells.length then SY σ (storeCells cells off (gP v)) place r else none
  | _,_=>none
def Z4(P:aD)(σ:Sg)(t:ai)(parts:List (Nat×aH)):Option (List C) :=
 match qO P t with
 | some (.agg z)=>match P.underlying t with
  | some (.struct fs)=>match Ye P fs with
   | some ps=>SY σ (QB z) (nth ps) parts
   | none=>none
  | some (.array _ e)=>match P.info? e with
   | some ie=>SY σ (QB z) (λi=>some (i * ie.size,ie.size)) parts
   | none=>none
  | _=>none
 | _=>none
def MI(P:aD)(σ:Sg)(o:Op):Option SV :=
 match o with
 | .move x=>pk σ x
 | .pick c a b=>match SQ σ c with
  | none=>none
  | some t=>match Eb σ.as t with
   | some true=>pk σ a
   | some false=>pk σ b
   | none=>match Cn { σ with as:=yU t σ.as } a,Cn { σ with as:=yU (mkNot t) σ.as } b with
    | some a,some b=>match F9 σ.ks a,F9 σ.ks b with
     | some a,some b=>some (.val (.one (.b (Z0 t a b))))
     | _,_=>match Fm σ.ks a,Fm σ.ks b with
      | some (k,a),some (k',b)=>if k=k' then some (.val (.one (.i k (.ite t a b)))) else none
      | _,_=>none
    | _,_=>none
 | .build t parts=>match Z4 P σ t parts.toList with
  | some cs=>some (.val (.agg cs))
  | none=>none
 | .load t a=>match pk σ a with
  | some (.vp cs)=>match ID P t cs 0 with
   | some x=>some (.val (mN x))
   | none=>none
  | some (.val (.one (.p a off)))=>match jC a σ.af with
   | some (cs,_)=>match ID P t cs off with
    | some x=>some (.val (mN x))
    | none=>none
   | none=>none
  | _=>none
 | .nilCheck x=>match pk σ x with
  | some (.vp cs)=>some (.vp cs)
  | some (.val (.one (.p a off)))=>some (.val (.one (.p a off)))
  | _=>none
 | .binOp op t x y _=>Z2 P σ op t x y
 | .unOp op _ x=>match op,Cn σ x with
  | .neg,some c=>match Fm σ.ks c with
   | some (k,t)=>some (.val (.one (.i k (.bin .sub k (.lit 0) t))))
   | none=>none
  | .not,some c=>match F9 σ.ks c with
   | some t=>some (.val (.one (.b (mkNot t))))
   | none=>none
  | _,_=>none
 | .convert a b x=>match P.underlying a,P.underlying b,Cn σ x with
  | some _,some (.int k),some c=>match Fm σ.ks c with
   | some (_,t)=>some (.val (.one (.i k (.conv k t))))
   | none=>none
  | some .string,some .string,some c=>match Fo σ.ks c with
   | some t=>some (.val (.one (.s t)))
   | none=>none
  | some .string,some (.slice e),some c=>match P.underlying e,Fo σ.ks c with
   | some (.int .u8),some t=>some (.val (.one (.sl 1 (.MF t) .no)))
   | _,_=>none
  | _,_,_=>none
 | .fieldAddr t x f=>match qA P t f,pk σ x with
  | some off,some (.vp cs)=>some (.vp (cs.drop off))
  | some off,some (.val (.one (.p a o)))=>some (.val (.one (.p a (o+off))))
  | _,_=>none
 | .field t x f=>match fieldAt P t f,pk σ x with
  | some (ft,off),some (.val (.agg cs))=>match ID P ft cs off with
   | some x=>some (.val (mN x))
   | none=>none
  | _,_=>none
 | .indexAddr t x ix=>match P.underlying t,BG σ ix with
  | some (.array len e),some (_,.lit (.ofNat i))=>match z9 P e,pk σ x with
   | some n,some (.vp cs)=>if Nat.blt i len then some (.vp (cs.drop (i * n))) else none
   | some n,some (.val (.one (.p a off)))=>if Nat.blt i len then some (.val (.one (.p a (off+i * n)))) else none
   | _,_=>none
  | _,_=>none
 | .index t x ix=>match P.underlying t,BG σ ix with
  | some (.array len e),some (_,.lit (.ofNat i))=>match z9 P e,pk σ x with
   | some n,some (.val (.agg cs))=>if Nat.blt i len then (match ID P e cs (i * n) with
    | some x=>some (.val (mN x))
    | none=>none) else none
   | _,_=>none
  | _,_=>none
 | .extract x i=>match pk σ x with
  | some (.bx xs)=>match nth xs i with
   | some x=>some (.val (mN x))
   | none=>none
  | _=>none
 | .call c=>match c.callee,c.args.toList,c.argTypes.toList with
  | .builtin .len,[x],[t]=>match P.underlying t,Cn σ x with
   | some .string,some c=>match Fo σ.ks c with
    | some s=>some (.val (.one (.i .i64 (.uG s))))
    | none=>none
   | some (.slice e),some c=>match z9 P e with
    | some n=>match Lf σ.ks n c with
     | some l=>some (.val (.one (.i .i64 (.len l))))
     | none=>none
    | none=>none
   | _,_=>none
  | .builtin .min,[x,y],_=>match BG σ x,BG σ y with
   | some (k,a),some (k',b)=>if k=k' then some (.val (.one (.i k (.ite (.cmp .lss b a) b a)))) else none
   | _,_=>none
  | .builtin .max,[x,y],_=>match BG σ x,BG σ y with
   | some (k,a),some (k',b)=>if k=k' then some (.val (.one (.i k (.ite (.cmp .gtr b a) b a)))) else none
   | _,_=>none
  | _,_,_=>none
 | _=>none
abbrev KT:=Sg->SV->Option Tree
def yb(c:TB)(t:Option Tree):Option Tree :=
 match c with
 | .lit true=>t
 | c=>match t with
  | some t=>some (.iM c t)
  | none=>none
def QD(e:VE)(t:Option Tree):Option Tree:=match t with|some t=>some (.bO e t)|none=>none
def Lg:SC->Bool|.one (.k (.sl _ _ _))=>false|_=>true
def yV(σ:Sg)(x:aH)(k:Sg->SC->Option Tree):Option Tree :=
 match x with
 | .tmp t=>match slot σ t with
  | some (.val (.one (.sl sz l (.yes e))))=>k { σ with env:=σ.env.set t (.val (.one (.sl sz l .no))) } (.one (.sl sz l (.yes e)))
  | some (.val (.one (.v i false)))=>match IG σ.ks (.v i false) with
   | true=>k { σ with env:=σ.env.set t (.val (.one (.v i true))) } (.one (.v i false))
   | false=>none
  | some (.val x)=>match Lg x with
   | true=>k σ (mN x)
   | false=>none
  | _=>none
 | x=>match pk σ x with
  | some (.val x)=>k σ x
  | _=>none
def yW(σ:Sg)(cs:List C)(t:ai):Sg:={ σ with af:=(σ.na,cs,t)::σ.af,na:=σ.na+1 }
def Wi(ks:List CK):C->Bool
 | .k v=>!(locked v)
 | .sl _ _ .lock=>false
 | .CV _=>false
 | .v i _=>IG ks (.v i false)
 | _=>true
def Wj(ks:List CK):List C->Bool
 | []=>true
 | c::cs=>Wi ks c && Wj ks cs
def SZ(lk:aC)(ks:List CK)(b:Nat):Nat->Nat->List C->Bool
 | _,0,_=>true
 | _,_,[]=>false
 | off,n+1,c::cs=>(xi (λp=>Nat.beq p.1 b && Nat.beq p.2 off) lk || Wi ks c) && SZ lk ks b (off+1) n cs
def QE(x y:TL):TL :=
 match y with
 | .nil=>x
 | .snoc .nil i=>.snoc x i
 | y=>.cat x y
def Ec:TL->Bool|.snoc _ _=>true|_=>false
def Z5(P:aD)(σ:Sg)(t:ai)(x y:aH)(k:KT):Option Tree :=
 match P.underlying t with
 | some (.slice e)=>match z9 P e,P.info? e,Cn σ y with
  | some n,some i,some yc=>match i.zero,Lf σ.ks n yc with
   | some z,some l=>if !Nat.beq z.cells.size n || Nat.beq n 0 then none else
    yV σ x λσ x=>match x with
     | .one (.k .aU)=>match Ec l with
      | true=>yb (.room l i.bytes) (k σ (.val (.one (.sl n l (.yes e)))))
      | false=>yb (.room l i.bytes) (QD (.app (.k .aU) n e l) (k { σ with ks:=σ.ks++[.sl n] } (.val (.one (.v σ.ks.length false)))))
     | .one (.sl sz xs (.yes e'))=>if Nat.beq e e' && Nat.beq n sz then yb (.room (QE xs l) i.bytes) (k σ (.val (.one (.sl n (QE xs l) (.yes e))))) else none
     | .one (.v j false)=>match nth σ.ks j with
      | some (.sl sz)=>if Nat.beq n sz then yb (.own j e) (yb (.room (QE (.var j) l) i.bytes) (match Ec l with
        | true=>k σ (.val (.one (.sl n (QE (.var j) l) (.yes e))))
        | false=>QD (.app (.v j false) n e l) (k { σ with ks:=σ.ks++[.sl n] } (.val (.one (.v σ.ks.length false)))))) else none
      | _=>none
     | _=>none
   | _,_=>none
  | _,_,_=>none
 | _=>none
def Wk(σ:Sg)(n:Nat)(k:Sg->TL->Option Tree):Nat->TL->List (Nat×aH)->Option Tree
 | _,l,[]=>k σ l
 | j,l,(i,x)::r=>match pk σ x with
  | some (.val v)=>if Nat.beq i j && QC σ.ks v && Ou σ.ks v && Nat.beq (gP v).length n then
    QD (.sc v) (Wk { σ with ks:=σ.ks++[.raw] } n k (j+1) (.snoc l σ.ks.length) r)
   else none
  | _=>none
def Ov(a:Nat):aR->Option Nat
 | []=>none
 | b::r=>match Nat.beq a b with
  | true=>some 0
  | false=>match Ov a r with
   | some i=>some (i+1)
   | none=>none
def Ow(σ:Sg):aR->List aH->Option (List AS×aR)
 | ns,[]=>some ([],ns)
 | ns,x::xs=>match pk σ x with
  | some (.val (.one (.p a off)))=>match Ov a ns with
   | some j=>match Ow σ ns xs with
    | some (vs,ns)=>some (.p j off::vs,ns)
    | none=>none
   | none=>match Ow σ (ns++[a]) xs with
    | some (vs,tL)=>some (.p ns.length off::vs,tL)
    | none=>none
  | some (.val v)=>match Ou σ.ks v,Ow σ ns xs with
   | true,some (vs,ns)=>some (.d v::vs,ns)
   | _,_=>none
  | _=>none
def S1(ks:List CK):C->CK
 | .k .bq=>.bf|.k .dx=>.any|.k (.sl n _ _)=>.sl n|.k _=>.any
 | .v i _=>match nth ks i with|some k=>k|none=>.raw
 | .i k _=>.int k
 | .b _=>.bool
 | .s _=>.str
 | .sl n _ _=>.sl n
 | _=>.any
def QF(σ:Sg):aR->Option (List (List C×ai))
 | []=>some []
 | a::r=>match jC a σ.af,QF σ r with
  | some (cs,t),some l=>if vr σ.ks cs then some ((cs,t)::l) else none
  | _,_=>none
def QG(σ:Sg):aR->List SV->Option (List AS×aR)
 | ns,[]=>some ([],ns)
 | ns,x::xs=>match x with
  | .val (.one (.p a off))=>match Ov a ns with
   | some j=>match QG σ ns xs with
    | some (vs,ns)=>some (.p j off::vs,ns)
    | none=>none
   | none=>match QG σ (ns++[a]) xs with
    | some (vs,tL)=>some (.p ns.length off::vs,tL)
    | none=>none
  | .val v=>match Ou σ.ks v,QG σ ns xs with
   | true,some (vs,ns)=>some (.d v::vs,ns)
   | _,_=>none
  | _=>none
def Wl(σ:Sg):List aH->Option (List SV)
 | []=>some []
 | x::xs=>match pk σ x,Wl σ xs with
  | some v,some vs=>some (v::vs)
  | _,_=>none
def S2(σ:Sg):List aH->Option (List C)
 | []=>some []
 | x::xs=>match Cn σ x,S2 σ xs with
  | some (.p a off),some cs=>some (.p a off::cs)
  | _,_=>none
def v8(ks:List CK):List (List C×ai)->List CK
 | []=>[]
 | (cs,_)::r=>cs.map (S1 ks)++v8 ks r
def A3:aR->List (List C×ai)->Nat->List (Nat×List C×ai)->List (Nat×List C×ai)
 | a::ns,(cs,_)::r,i,bs=>A3 ns r (i+cs.length) (IE a (lits (cs.map λ_=>.raw) i) bs)
 | _,_,_,bs=>bs
def Wm(P:aD):List ai->Option (List CK)
 | []=>some []
 | t::ts=>match jI P t,Wm P ts with
  | some true,some r=>some (.raw::r)
  | some false,some r=>match Wg P t with
   | some k=>some (k::r)
   | none=>none
  | _,_=>none
def S3(P:aD)(k:Sg->List SC->Option Tree):Sg->List ai->Nat->List SC->Option Tree
 | σ,[],_,acc=>k σ acc
 | σ,t::ts,i,acc=>match jI P t with
  | some true=>match SX P 20 t with
   | some ks=>match S3 P k { σ with ks:=σ.ks++ks } ts (i+1) (acc++[.agg (lits ks σ.ks.length)]) with
    | some t=>some (.iN i ks t)
    | none=>none
   | none=>none
  | some false=>S3 P k σ ts (i+1) (acc++[.one (.v i false)])
  | none=>none
def Wn(P:aD)(σ:Sg)(i:Nat)(k:KT):List ai->Option Tree
 | []=>k σ (.val (.one (.v i false)))
 | [t]=>xW P σ t i λσ x=>k σ (.val x)
 | ts=>match Wm P ts with
  | some ks=>match S3 P (λσ xs=>k σ (.bx xs)) { σ with ks:=σ.ks++ks } ts σ.ks.length [] with
   | some t=>some (.ZY i ks t)
   | none=>none
  | none=>none
def Wp(P:aD)(σ:Sg)(f:FuncId)(args:List aH)(k:KT):Option Tree :=
 match P.funcs[f]?,Ow σ [] args with
 | some fn,some (vs,ns)=>match fn.body,QF σ ns with
  | some _,some bD=>match Wn P { σ with ks:=σ.ks++(CK.raw::v8 σ.ks bD),af:=A3 ns bD (σ.ks.length+1) σ.af } σ.ks.length k fn.resultTypes.toList with
   | some t=>some (.call f vs bD (v8 σ.ks bD) t)
   | none=>none
  | _,_=>none
 | _,_=>none
def Lh:List C->Bool
 | []=>true
 | .p _ _::cs=>Lh cs
 | _=>false
def Z6(P:aD)(σ:Sg)(x:aH)(args:List aH)(k:KT):Option Tree :=
 match pk σ x,Wl σ args with
 | some (.fn (.func f) cs),some sE=>if !(Lh cs) then none else match P.funcs[f]?,QG σ [] (sE++cs.map λc=>.val (.one c)) with
  | some fn,some (vs,ns)=>match fn.body,QF σ ns with
   | some _,some bD=>match Wn P { σ with ks:=σ.ks++(CK.raw::v8 σ.ks bD),af:=A3 ns bD (σ.ks.length+1) σ.af } σ.ks.length k fn.resultTypes.toList with
    | some t=>some (.call f vs bD (v8 σ.ks bD) t)
    | none=>none
   | _,_=>none
  | _,_=>none
 | _,_=>none
def Ox(c:TB)(a b:Option Tree):Option Tree:=match a,b with|some a,some b=>some (.ite c a b)|_,_=>none
def zp3(σ:Sg)(e:VE)(ck:CK)(k:KT):Option Tree:=QD e (k { σ with ks:=σ.ks++[ck] } (.val (.one (.v σ.ks.length false))))
def Z7(P:aD)(σ:Sg)(e:ai)(l:TL)(i:TI)(k:Sg->SC->Option Tree):Option Tree :=
 match xW P { σ with ks:=σ.ks++[.raw] } e σ.ks.length k with
 | some t=>some (.elem l i t)
 | none=>none
def Z8(P:aD)(σ:Sg)(e:ai)(cs:List C)(i:TI)(k:Sg->SC->Option Tree):Option Tree :=
 match xW P { σ with ks:=σ.ks++[.raw] } e σ.ks.length k with
 | some t=>some (.ZX cs i t)
 | none=>none
def QH(i:TI)(f:Nat->SV)(k:KT):Sg->Nat->Nat->Option Tree
 | _,_,0=>some (.iM (.lit false) (.out []))
 | σ,j,n+1=>match Eb σ.as (.cmp .eql i (.lit (.ofNat j))) with
  | some true=>k σ (f j)
  | some false=>QH i f k σ (j+1) n
  | none=>Ox (.cmp .eql i (.lit (.ofNat j))) (k { σ with as:=yU (.cmp .eql i (.lit (.ofNat j))) σ.as } (f j)) (QH i f k { σ with as:=yU (mkNot (.cmp .eql i (.lit (.ofNat j)))) σ.as } (j+1) n)
def Kl(σ:Sg)(x:Option aH)(d:TI):Option TI :=
 match x with
 | none=>some d
 | some x=>match BG σ x with
  | some (_,t)=>some t
  | none=>none
def yd(P:aD)(σ:Sg)(o:Op)(k:KT):Option Tree :=
 match MI P σ o with
 | some v=>k σ v
 | none=>none
def Z9(σ:Sg):aH->Option (Fn×List C)
 | .tmp t=>match slot σ t with
  | some (.fn f cs)=>some (f,cs)
  | _=>none
 | _=>none
def iS(P:aD)(takes:bA)(σ:Sg)(o:Oper)(k:KT):Option Tree :=
 let taken:=qy takes o.dst
 match o.op with
 | .move x=>match taken with
  | true=>yV σ x λσ x=>k σ (.val x)
  | false=>yd P σ o.op k
 | .assign x=>match Z9 σ x with
  | some (f,cs)=>k σ (.fn f cs)
  | none=>yV σ x λσ x=>k σ (.val x)
 | .pick c a b=>match MI P σ o.op with
  | some v=>k σ v
  | none=>match SQ σ c,pk σ a,pk σ b with
   | some t,some a,some b=>Ox t (k σ a) (k σ b)
   | _,_,_=>none
 | .load t a=>match taken with
  | true=>match jI P t,pk σ a with
   | some false,some (.val (.one (.p a off)))=>match jC a σ.af with
    | some (cs,_)=>match nth cs off with
     | some (.k .aU)=>k σ (.val (.one (.k .aU)))
     | some (.sl sz l (.yes e))=>k { σ with af:=IE a (cs.set off (.sl sz l .lock)) σ.af,lk:=(a,off)::σ.lk } (.val (.one (.sl sz l (.yes e))))
     | some (.v i false)=>match nth σ.ks i with
      | some (.sl _)=>yb (.lJ i) (k { σ with af:=IE a (cs.set off (.CV i)) σ.af,lk:=(a,off)::σ.lk } (.val (.one (.v i false))))
      | _=>none
     | _=>none
    | none=>none
   | _,_=>none
  | false=>match a with
   | .global g=>match jI P t with
    | some false=>match xW P { σ with ks:=σ.ks++[.raw] } t σ.ks.length λσ x=>k σ (.val (mN x)) with
     | some t=>some (.Oo g 0 t)
     | none=>none
    | _=>none
   | _=>yd P σ o.op k
 | .alloc t=>match qO P t with
  | some z=>if eF z then k (yW σ (gP (SP z)) t) (.val (.one (.p σ.na 0))) else none
  | none=>none
 | .box t x=>yV σ x λσ x=>if QC σ.ks x then k (yW σ (iR x) t) (.val (.one (.p σ.na 0))) else none
 | .store t a x=>match Cn σ a with
  | some (.p a off)=>yV σ x λσ x=>match z9 P t,jC a σ.af with
   | some n,some (cs,_) =>
    if (Nat.ble σ.nf a || vr σ.ks (iR x)) && Wj σ.ks (iR x) && QC σ.ks x && Nat.beq (iR x).length n && Nat.ble (off+n) cs.length && SZ σ.lk σ.ks a off n (cs.drop off) then
     k { σ with af:=IE a (storeCells cs off (iR x)) σ.af } tK
    else none
   | _,_=>none
  | _=>none
 | .binOp op _t x y _=>match op with
  | .quo|.rem=>match BG σ x,BG σ y with
   | some (kd,a),some (MJ,b)=>if kd=MJ then yb (match b with|.lit (.ofNat (_+1))=>.lit true|b=>.not (.cmp .eql b (.lit 0))) (k σ (.val (.one (.i kd (.bin op kd a b))))) else none
   | _,_=>none
  | .shl|.shr=>match BG σ x,BG σ y with
   | some (kd,a),some (_,b)=>yb (match b with|.lit (.ofNat _)=>.lit true|b=>.cmp .geq b (.lit 0)) (k σ (.val (.one (.i kd (.bin op kd a b)))))
   | _,_=>none
  | .add=>match SS σ x,SS σ y with
   | some a,some b=>yb (.oT a b) (k σ (.val (.one (.s (.cat a b)))))
   | _,_=>yd P σ o.op k
  | _=>yd P σ o.op k
 | .convert a b x=>match P.underlying a,P.underlying b,Cn σ x with
  | some (.slice e),some .string,some c=>match P.underlying e,Lf σ.ks 1 c with
   | some (.int .u8),some l=>match Ea l .nil with
    | true=>k σ (.val (.one (.s (.lit []))))
    | false=>match k { σ with ks:=σ.ks++[.str] } (.val (.one (.s (.var σ.ks.length)))) with
     | some t=>some (.ZZ l t)
     | none=>none
   | _,_=>none
  | _,_,_=>yd P σ o.op k
 | .indexAddr t x ix=>match P.underlying t,BG σ ix with
  | some (.slice e),some (_,i)=>match z9 P e,Cn σ x with
   | some n,some c=>match Lf σ.ks n c with
    | some l=>Z7 P σ e l i λσ x=>k σ (.vp (gP x))
    | none=>none
   | _,_=>none
  | some (.array len e),some (_,i)=>match MI P σ o.op with
   | some v=>k σ v
   | none=>match z9 P e,pk σ x with
    | some n,some (.vp cs)=>if Nat.ble len 16 then QH i (λj=>.vp (cs.drop (j * n))) k σ 0 len else none
    | some n,some (.val (.one (.p a off)))=>if Nat.ble len 16 then QH i (λj=>.val (.one (.p a (off+j * n)))) k σ 0 len else none
    | _,_=>none
  | _,_=>none
 | .index t x ix=>match P.underlying t,BG σ ix with
  | some .string,some (_,i)=>match SS σ x with
   | some s=>yb (.and (.cmp .geq i (.lit 0)) (.cmp .lss i (.uG s))) (k σ (.val (.one (.i .u8 (.byte s i)))))
   | none=>none
  | some (.array len e),some (_,i)=>match MI P σ o.op with
   | some v=>k σ v
   | none=>match z9 P e,jI P e,pk σ x with
    | some 1,some false,some (.val (.agg cs))=>if Nat.ble len cs.length && vr σ.ks (cs.take len) then Z8 P σ e (cs.take len) i λσ x=>k σ (.val (mN x)) else none
    | _,_,_=>none
  | _,_=>none
 | .slice t x lo hi mx=>if mx.isSome then none else match P.underlying t,Cn σ x with
  | some .string,some c=>match Fo σ.ks c with
   | some s=>match Kl σ lo (.lit 0),Kl σ hi (.uG s) with
    | some l,some h=>yb (IA (.cmp .leq (.lit 0) l) (.and (.cmp .leq l h) (.cmp .leq h (.uG s)))) (k σ (.val (.one (.s (.sub s l h)))))
    | _,_=>none
   | none=>none
  | some (.slice e),some c=>match z9 P e with
   | some n=>match Lf σ.ks n c with
    | some xs=>match Kl σ lo (.lit 0),Kl σ hi (.len xs) with
     | some l,some h=>yb (IA (.cmp .leq (.lit 0) l) (.and (.cmp .leq l h) (.cmp .leq h (.len xs)))) (match c with
      | .sl sz _ _=>k σ (.val (.one (.sl sz (.sub xs l h) .no)))
      | .v i _=>zp3 σ (.ZW i l h) (.sl n) k
      | .k .aU=>k σ (.val (.one (.k .aU)))
      | _=>none)
     | _,_=>none
    | none=>none
   | none=>none
  | _,_=>none
 | .buildSlice t len parts=>match P.underlying t with
  | some (.slice e)=>match z9 P e,qO P e with
   | some n,some z=>if Nat.beq n 0 || Nat.blt 16777216 (len * n) || !Nat.beq z.cells.length n || !eF z || !Nat.beq parts.toList.length len then none else
    Wk σ n (λσ l=>k σ (.val (.one (.sl n l (.yes e))))) 0 .nil parts.toList
   | _,_=>none
  | _=>none
 | .makeInterface t x=>match pk σ x with
  | some (.val v)=>if yq P t || !(Ou σ.ks v) then none else zp3 σ (.bf t v) .bf k
  | _=>none
 | .call c=>match c.callee,c.args.toList,c.argTypes.toList with
  | .builtin .append,[x,y],[t,u]=>if Nat.beq t u then Z5 P σ t x y k else none
  | .builtin _,_,_=>yd P σ o.op k
  | .value (.func f),args,_=>Wp P σ f args k
  | .value (.tmp t),args,_=>Z6 P σ (.tmp t) args k
  | _,_,_=>none
 | .makeFunc f first cap=>match first.toList,S2 σ cap.toList with
  | [],some cs=>k σ (.fn f cs)
  | _,_=>none
 | _=>yd P σ o.op k
def mO(σ:Sg)(dst:eC)(v:SV):Sg :=
 match dst with
 | some d=>{ σ with env:=σ.env.set d v }
 | none=>σ
inductive Gd where
 |yes|no|sym (c:TB)
def Wq(as:List TB)(t:TB):Option Gd :=
 match Eb as t with
 | some true=>some .yes
 | some false=>some .no
 | none=>some (.sym t)
def QI(want:Bool)(t:TB):TB:=match want with|true=>t|false=>mkNot t
def Wr(σ:Sg)(all:Array Oper)(o:Oper):Option Gd :=
 match o.guard with
 | none=>some .yes
 | some (j,want)=>match (all[j]?).bind (·.dst) with
  | none=>none
  | some d=>match nth σ.env d with
   | some (.val (.one (.k (.bx _))))=>some .no
   | some (.val (.one c))=>match F9 σ.ks c with
    | some t=>Wq σ.as (QI want t)
    | none=>none
   | some (.gd g (.one c))=>match F9 σ.ks c with
    | some t=>Wq σ.as (IA g (QI want t))
    | none=>none
   | _=>none
def QJ(takes:bA)(o:Oper):Bool:=match qy takes o.dst with
 | false=>true
 | true=>match o.op with
  | .move _|.assign _|.load _ _=>true
  | .call c=>match c.callee,c.args.toList,c.argTypes.toList with
   | .builtin .append,[_,_],[_,_]=>true
   | _,_,_=>false
  | _=>false
def Km(P:aD)(all:Array Oper)(takes:bA)(k:Sg->Option Tree):List Oper->Sg->Option Tree
 | [],σ=>k σ
 | o::os,σ=>if !(QJ takes o) then none else match Wr σ all o with
  | none=>none
  | some .no=>Km P all takes k os (mO σ o.dst tK)
  | some .yes=>iS P takes σ o λσ v=>Km P all takes k os (mO σ o.dst v)
  | some (.sym c) =>
   let rS:={ σ with as:=yU c σ.as }
   match (match o.dst with|some d=>!(qy takes (some d))|none=>false),MI P rS o.op with
   | true,some (.val x)=>Km P all takes k os (mO σ o.dst (.gd c x))
   | _,_=>Ox c (iS P takes rS o λσ v=>Km P all takes k os (mO σ o.dst v)) (Km P all takes k os (mO { σ with as:=yU (mkNot c) σ.as } o.dst tK))
inductive Cp where
 |free|rd (b:Nat)|call|wr (b:Nat)
def Cp.real:Cp->Bool|.wr _=>true|_=>false
def Ws(σ:Sg)(x:aH):Bool :=
 match Cn σ x with
 | some (.s _)=>true
 | some (.sl _ _ _)=>true
 | some (.k .aU)=>true
 | some (.v i _)=>match nth σ.ks i with
  | some .str=>true
  | some (.sl _)=>true
  | _=>false
 | _=>false
def j7(takes:bA)(σ:Sg)(o:Oper):Option Cp :=
 match o.op with
 | .load _ a=>match qy takes o.dst,a with
  | false,.global _=>some .free
  | tk,a=>match pk σ a,tk with
   | some (.val (.one (.p b _))),true=>some (.wr b)
   | some (.val (.one (.p b _))),false=>some (.rd b)
   | some (.vp _),false=>some .free
   | _,_=>none
 | .store _ a _=>match Cn σ a with
  | some (.p b _)=>some (.wr b)
  | _=>none
 | .alloc _=>some (.wr σ.na)
 | .box _ _=>some (.wr σ.na)
 | .call c=>match c.callee,c.args.toList with
  | .value (.func _),l=>match Ow σ [] l with
   | some (_,[])=>some .call
   | _=>none
  | .builtin .len,[x]=>if Ws σ x then some .free else none
  | .builtin .append,[_,y]=>if Ws σ y then some .free else none
  | .builtin .min,_=>some .free
  | .builtin .max,_=>some .free
  | _,_=>none
 | .move _|.assign _|.pick _ _ _|.build _ _|.buildSlice _ _ _|.nilCheck _|.binOp ..|.unOp ..|.convert ..|.makeInterface _ _|.slice ..|.fieldAddr ..|.field ..|.indexAddr ..|.index ..|.typeAssert ..|.extract ..=>some .free
 | _=>none
structure DR where
 lg:Rec
 cls:Cp
def zmZ(b:Nat):Cp->Bool|.wr a=>Nat.beq b a|_=>false
def S4(m:Nat)(c:Cp)(ds:List DR):Bool :=
 match c with
 | .free|.call=>true
 | .rd b=>jW (λd=>bit m d.lg.idx || !(zmZ b d.cls)) ds
 | .wr a=>jW (λd=>bit m d.lg.idx || (match d.cls with
  | .wr _=>false
  | .rd b=>!(Nat.beq b a) || xi (λe=>e.cls.real && bit e.lg.m d.lg.idx) ds
  | _=>true)) ds
def II(takes:bA)(all:Array Oper)(i m:Nat)(o:Oper):Rec:=⟨i,o,m,lT takes o,Nat.lor (lT takes o) (tG all o),vk takes o,false,[],.mC⟩
def Li(P:aD)(all:Array Oper)(takes:bA)(k:Sg->Option Tree):Nat->List DR->List Oper->Sg->Option Tree
 | _,_,[],σ=>k σ
 | i,ds,o::os,σ=>if !(QJ takes o) then none else
  match kG (ds.map (·.lg)) o.after.toList with
  | none=>none
  | some m =>
   let r:=II takes all i m o
   if !(jW (jG r) (ds.map (·.lg))) then none else
   let run (σ:Sg):Option Tree:=match j7 takes σ o with
    | none=>none
    | some c=>if S4 m c ds then (iS P takes σ o λσ v=>Li P all takes k (i+1) (⟨r,c⟩::ds) os (mO σ o.dst v)) else none
   let skip (σ:Sg):Option Tree:=Li P all takes k (i+1) (⟨{ r with hp:=false },.free⟩::ds) os (mO σ o.dst tK)
   match Wr σ all o with
   | none=>none
   | some .no=>skip σ
   | some .yes=>run σ
   | some (.sym c)=>Ox c (run { σ with as:=yU c σ.as }) (skip { σ with as:=yU (mkNot c) σ.as })
inductive GS where
 |drop|one (k:CK)|agg (ks:List CK)|cells (ks:List (Option CK))
structure JS where
 env:List (Nat×GS)
 af:List (Nat×List (Option CK))
def QK{α:Type}(n:Nat):List (Nat×α)->Option α
 | []=>none
 | (m,a)::r=>if Nat.beq n m then some a else QK n r
def S5(ks:List CK):List (Option CK)->List C->List CK×List C
 | some k::os,_::cs=>match S5 (ks++[k]) os cs with
  | (iZ,r)=>(iZ,.v ks.length false::r)
 | _::os,c::cs=>match S5 ks os cs with
  | (iZ,r)=>(iZ,c::r)
 | _,cs=>(ks,cs)
def zrK(ks:List CK):GS->SV->List CK×SV
 | .drop,_=>(ks,.MG)
 | .one k,_=>(ks++[k],.val (.one (.v ks.length false)))
 | .agg l,_=>(ks++l,.val (.agg (lits l ks.length)))
 | .cells os,.val (.agg cs)=>match S5 ks os cs with
  | (ks,cs)=>(ks,.val (.agg cs))
 | .cells os,.vp cs=>match S5 ks os cs with
  | (ks,cs)=>(ks,.vp cs)
 | _,x=>(ks,x)
def zm0(js:List (Nat×GS)):Nat->List CK->List SV->List CK×List SV
 | _,ks,[]=>(ks,[])
 | i,ks,x::xs=>match (match QK i js with
   | some g=>zrK ks g x
   | none=>(ks,x)) with
  | (ks,x)=>match zm0 js (i+1) ks xs with
   | (ks,xs)=>(ks,x::xs)
def zkl(js:List (Nat×List (Option CK))):List CK->List (Nat×List C×ai)->List CK×List (Nat×List C×ai)
 | ks,[]=>(ks,[])
 | ks,(a,cs,t)::r=>match (match QK a js with
   | some os=>S5 ks os cs
   | none=>(ks,cs)) with
  | (ks,cs)=>match zkl js ks r with
   | (ks,r)=>(ks,(a,cs,t)::r)
def gen(js:JS)(σ:Sg):Sg :=
 match zm0 js.env 0 σ.ks σ.env with
 | (ks,env)=>match zkl js.af ks σ.af with
  | (ks,af)=>{ env,af,na:=σ.na,ks,lk:=[],as:=[],nf:=σ.nf }
def Oy(ks:List CK)(ck:CK):C->Bool
 | .k v=>fm ck v
 | .v i _=>match nth ks i with
  | some k=>if k=ck then true else false
  | none=>false
 | .i k _=>match ck with|.int k'=>(if k=k' then true else false)|_=>false
 | .b _=>match ck with|.bool=>true|_=>false
 | .s _=>match ck with|.str=>true|_=>false
 | .sl sz _ o=>match ck with|.sl mj=>Nat.beq mj sz && (match o with|.lock=>false|_=>true)|_=>false
 | _=>false
def Wt(na base ga:Nat)(kJ ks:List CK)(cJ c:C):Option (List C) :=
 match cJ with
 | .v j false=>match Nat.blt j base with
  | true=>if QA (.v j false) c then some [] else none
  | false=>match nth kJ j with
   | some ck=>if Nat.beq j ga && Oy ks ck c && IG ks c then some [c] else none
   | none=>none
 | .p a off=>if QA (.p a off) c && Nat.blt a na then some [] else none
 | cJ=>if QA cJ c && V8 base cJ then some [] else none
def Oz(na base ga:Nat)(kJ ks:List CK):List C->List C->Option (List C)
 | [],[]=>some []
 | a::as,b::bs=>match Wt na base ga kJ ks a b with
  | some x=>match Oz na base (ga+x.length) kJ ks as bs with
   | some y=>some (x++y)
   | none=>none
  | none=>none
 | _,_=>none
def Wu(na base ga:Nat)(kJ ks:List CK):SC->SC->Option (List C)
 | .one a,.one b=>Wt na base ga kJ ks a b
 | .agg a,.agg b=>Oz na base ga kJ ks a b
 | _,_=>none
def Wv(na base ga:Nat)(kJ ks:List CK):List SC->List SC->Option (List C)
 | [],[]=>some []
 | a::as,b::bs=>match Wu na base ga kJ ks a b with
  | some x=>match Wv na base (ga+x.length) kJ ks as bs with
   | some y=>some (x++y)
   | none=>none
  | none=>none
 | _,_=>none
def QL(na base ga:Nat)(kJ ks:List CK):SV->SV->Option (List C)
 | .MG,_=>some []
 | .val a,.val b=>Wu na base ga kJ ks a b
 | .vp a,.vp b=>Oz na base ga kJ ks a b
 | .bx a,.bx b=>Wv na base ga kJ ks a b
 | .fn f a,.fn g b=>if f=g then Oz na base ga kJ ks a b else none
 | _,_=>none
def Ww(na base ga:Nat)(kJ ks:List CK):List SV->List SV->Option (List C)
 | [],[]=>some []
 | a::as,b::bs=>match QL na base ga kJ ks a b with
  | some x=>match Ww na base (ga+x.length) kJ ks as bs with
   | some y=>some (x++y)
   | none=>none
  | none=>none
 | _,_=>none
def Wx(na base ga:Nat)(kJ ks:List CK)(cW:List (Nat×List C×ai)):List (Nat×List C×ai)->Option (List C)
 | []=>some []
 | (a,cs,t)::r=>match jC a cW with
  | some (cs',t')=>if Nat.beq t t' && Nat.blt a na then (match Oz na base ga kJ ks cs cs' with
   | some x=>match Wx na base (ga+x.length) kJ ks cW r with
    | some y=>some (x++y)
    | none=>none
   | none=>none) else none
  | none=>none
def Lj:List CK->List CK->Bool
 | [],_=>true
 | a::as,b::bs=>if a=b then Lj as bs else false
 | _::_,[]=>false
def S6(σ mP:Sg):Bool:=Lj σ.ks mP.ks && mP.as.isEmpty && mP.lk.isEmpty && Nat.beq σ.na mP.na && Nat.beq σ.nf mP.nf
def fit(base:Nat)(mP cW:Sg):Option (List C) :=
 match Ww mP.na base base mP.ks cW.ks mP.env cW.env with
 | some x=>match Wx mP.na base (base+x.length) mP.ks cW.ks cW.af mP.af with
  | some y=>if Nat.beq (base+(x++y).length) mP.ks.length && Nat.ble mP.na cW.na && Nat.beq mP.nf cW.nf then some (x++y) else none
  | none=>none
 | none=>none
inductive XE where
 |normal|exit (id:Nat)|ret
def S7(v:Option (List C)):Option Tree:=match v with|some v=>some (.out v)|none=>none
def QM(t:Option Tree):Option Tree:=match t with|some t=>some (.p9 t)|none=>none
abbrev KE:=XE->Sg->Option Tree
def Wy(js:JS)(σ:Sg)(body:KE->Option Tree)(pick:XE->Bool)(k:KE)(next:Sg->Option Tree):Option Tree :=
 let mP:=gen js σ
 if !(S6 σ mP) then none else
 match body (λe cW=>match pick e with
  | true=>S7 (fit σ.ks.length mP cW)
  | false=>QM (k e cW)),next mP with
 | some b,some t=>some (.br b t)
 | _,_=>none
def kf(P:aD)(hs:List (Nat×JS)):Nat->Code->Sg->KE->Option Tree
 | _,.skip,σ,k=>k .normal σ
 | _,.label _,σ,k=>k .normal σ
 | _,.region _ ops false,σ,k=>Km P ops (wi ops) (λσ=>k .normal σ) ops.toList { σ with lk:=[] }
 | _,.region _ ops true,σ,k=>Li P ops (wi ops) (λσ=>k .normal σ) 0 [] ops.toList { σ with lk:=[] }
 | p,.seq a b,σ,k=>match QK p hs with
  | none=>kf P hs (2 * p) a σ λe σ=>match e with
   | .normal=>kf P hs (2 * p+1) b σ k
   | e=>k e σ
  | some js=>Wy js σ (λk=>kf P hs (2 * p) a σ k) (λe=>match e with|.normal=>true|_=>false) k λmP=>kf P hs (2 * p+1) b mP k
 | p,.cond c a b,σ,k=>match SQ σ c with
  | none=>none
  | some t=>match Eb σ.as t with
   | some true=>kf P hs (2 * p) a σ k
   | some false=>kf P hs (2 * p+1) b σ k
   | none=>Ox t (kf P hs (2 * p) a { σ with as:=yU t σ.as } k) (kf P hs (2 * p+1) b { σ with as:=yU (mkNot t) σ.as } k)
 | p,.block id c,σ,k=>match QK p hs with
  | none=>kf P hs (2 * p) c σ λe σ=>match e with
   | .exit i=>match Nat.beq i id with
    | true=>k .normal σ
    | false=>k (.exit i) σ
   | e=>k e σ
  | some js=>Wy js σ (λk=>kf P hs (2 * p) c σ k) (λe=>match e with|.exit i=>Nat.beq i id|.normal=>true|_=>false) k λmP=>k .normal mP
 | p,.loop c,σ,k=>match QK p hs with
  | none=>none
  | some js =>
   let mP:=gen js σ
   if !(S6 σ mP) then none else
   match fit σ.ks.length mP σ,kf P hs (2 * p) c mP (λe cW=>match e with
    | .normal=>S7 (fit σ.ks.length mP cW)
    | e=>QM (k e cW)) with
   | some Ay,some body=>some (.loop Ay body)
   | _,_=>none
 | _,.exit id,σ,k=>k (.exit id) σ
 | _,.ret,σ,k=>k .ret σ
 | p,.scope c,σ,k=>kf P hs (2 * p) c σ k
 | _,_,_,_=>none
def xX(P:aD)(k:Sg->List SV->Option Tree):Sg->List ai->Nat->Nat->List SV->Option Tree
 | σ,[],_,_,acc=>k σ acc
 | σ,t::ts,i,j,acc=>match P.underlying t with
  | some (.pointer _)=>xX P k σ ts (i+1) (j+1) (acc++[.val (.one (.p j 0))])
  | _=>xW P σ t i λσ x=>xX P k σ ts (i+1) j (acc++[.val x])
def Kn(P:aD):List ai->Option (List (ai×List CK))
 | []=>some []
 | t::ts=>match P.underlying t,Kn P ts with
  | some (.pointer e),some r=>match SX P 20 e with
   | some ks=>some ((e,ks)::r)
   | none=>none
  | some _,some r=>some r
  | _,_=>none
def iO:List (ai×List CK)->Nat->Nat->List (Nat×List C×ai)
 | [],_,_=>[]
 | (e,ks)::r,j,i=>(j,lits ks i,e)::iO r (j+1) (i+ks.length)
def sF:List (ai×List CK)->List CK
 | []=>[]
 | (_,ks)::r=>ks++sF r
def Wz(k:Sg->Option Tree):Sg->List CK->Nat->Option Tree
 | σ,[],_=>k σ
 | σ,ck::CX,i=>match Wz k { σ with ks:=σ.ks.set i ck } CX (i+1) with
  | some t=>some (.gG i ck t)
  | none=>none
def WA(σ:Sg)(t:Tmp):Option SC :=
 match nth σ.env t with
 | some sv=>match V9 σ.as sv with
  | some (.val x)=>some x
  | _=>none
 | none=>none
def QN(P:aD)(σ:Sg):List ResultVar->Option (List SC)
 | []=>some []
 | .tmp t::r=>match WA σ t,QN P σ r with
  | some x,some xs=>some (x::xs)
  | _,_=>none
 | .cell a t::r=>match WA σ a with
  | some (.one (.p a off))=>match jC a σ.af with
   | some (cs,_)=>match ID P t cs off,QN P σ r with
    | some x,some xs=>some (mN x::xs)
    | _,_=>none
   | none=>none
  | _=>none
def BH:List SC->List SC
 | []=>[]
 | x::xs=>mN x::BH xs
def OA(σ:Sg):Nat->List (ai×List CK)->Option (List C)
 | _,[]=>some []
 | j,(e,ks)::r=>match jC j σ.af,OA σ (j+1) r with
  | some (cs,t),some o=>if vr σ.ks cs && Nat.beq t e && Nat.beq cs.length ks.length then some (cs++o) else none
  | _,_=>none
def S8(P:aD)(bD:List (ai×List CK))(rs:List ResultVar)(σ:Sg):Option Tree :=
 if !(Nat.beq σ.nf bD.length) then none else
 match QN P σ rs,OA σ 0 bD with
 | some [x],some o=>if Ou σ.ks x then some (.bO (.sc x) (.out (.v σ.ks.length false::o))) else none
 | some xs,some o=>if Wh σ.ks xs then some (.bO (.bx (BH xs)) (.out (.v σ.ks.length false::o))) else none
 | _,_=>none
def vv(P:aD)(hs:List (Nat×JS))(f:FuncId):Option Tree :=
 match P.funcs[f]? with
 | none=>none
 | some fn=>match fn.body,Kn P fn.params.toList with
  | some body,some bD =>
   Wz (λσ=>xX P (λσ sE=>kf P hs 1 body { σ with env:=sE++List.replicate (fn.ntmps - sE.length) tK } λe σ=>match e with
     | .normal=>S8 P bD fn.results.toList σ
     | .ret=>S8 P bD fn.results.toList σ
     | .exit _=>none) σ fn.params.toList 0 0 [])
    ⟨[],iO bD 0 fn.params.toList.length,bD.length,List.replicate (fn.params.toList.length+(sF bD).length) .raw,[],[],bD.length⟩ (sF bD) fn.params.toList.length
  | _,_=>none
section
def xj(ρ:aj)(i:Nat):at' ρ i=(ρ[i]?).getD .mC:=by
 simp only[at',zf];cases ρ[i]?<;>rfl
def kW{ρ x:aj}{i:Nat}(h:i<ρ.length):at' (ρ++x) i=at' ρ i:=by
 simp[xj,nH h]
def jP{a b:Nat}(h:Nat.beq a b=true):a=b:=eT h
def Ho{p:Prop}[Decidable p](h:(if p then true else false)=true):p:=by
 by_cases hp:p
 ·exact hp
 ·simp[hp] at h
def DA{a b:Nat}(h:Nat.blt a b=true):a<b:=pO h
def Z_{a b:Nat}(h:Nat.ble a b=true):a<=b:=pO h
mutual
def vx(ρ:aj):∀{a b:TI},Am a b=true->bG ρ a=bG ρ b
 | .var i,b,h=>by cases b<;>simp only[Am,bH] at h;rw[jP h]
 | .lit i,b,h=>by cases b<;>simp only[Am,bH] at h;simp only[bG];exact eq_of_beq h
 | .bin op k x y,b,h=>by
  cases b<;>simp only[Am,bH,bN] at h;obtain⟨⟨⟨h1,h2⟩,h3⟩,h4⟩:=h;simp only[bG,Ho h1,Ho h2,vx ρ h3,vx ρ h4]
 | .conv k x,b,h=>by
  cases b<;>simp only[Am,bH,bN] at h;simp only[bG,Ho h.1,vx ρ h.2]
 | .len x,b,h=>by cases b<;>simp only[Am,bH] at h;simp only[bG,MK ρ h]
 | .uG x,b,h=>by cases b<;>simp only[Am,bH] at h;simp only[bG,xY ρ h]
 | .byte x y,b,h=>by
  cases b<;>simp only[Am,bH,bN] at h;simp only[bG,xY ρ h.1,vx ρ h.2]
 | .ite c x y,b,h=>by
  cases b<;>simp only[Am,bH,bN] at h;simp only[bG,wu ρ h.1.1,vx ρ h.1.2,vx ρ h.2]
def wu(ρ:aj):∀{a b:TB},nv a b=true->bk ρ a=bk ρ b
 | .var i,b,h=>by cases b<;>simp only[nv,bH] at h;rw[jP h]
 | .lit i,b,h=>by cases b<;>simp only[nv,bH] at h;simp only[bk];exact eq_of_beq h
 | .not x,b,h=>by cases b<;>simp only[nv,bH] at h;simp only[bk,wu ρ h]
 | .and x y,b,h=>by
  cases b<;>simp only[nv,bH,bN] at h;simp only[bk,wu ρ h.1,wu ρ h.2]
 | .or x y,b,h=>by
  cases b<;>simp only[nv,bH,bN] at h;simp only[bk,wu ρ h.1,wu ρ h.2]
 | .beq x y,b,h=>by
  cases b<;>simp only[nv,bH,bN] at h;simp only[bk,wu ρ h.1,wu ρ h.2]
 | .ite c x y,b,h=>by
  cases b<;>simp only[nv,bH,bN] at h;simp only[bk,wu ρ h.1.1,wu ρ h.1.2,wu ρ h.2]
 | .cmp op x y,b,h=>by
  cases b<;>simp only[nv,bH,bN] at h;simp only[bk,Ho h.1.1,vx ρ h.1.2,vx ρ h.2]
 | .nZ op x y,b,h=>by
  cases b<;>simp only[nv,bH,bN] at h;simp only[bk,Ho h.1.1,xY ρ h.1.2,xY ρ h.2]
 | .bq i,b,h=>by cases b<;>simp only[nv,bH] at h;rw[jP h]
 | .uH i,b,h=>by cases b<;>simp only[nv,bH] at h;rw[jP h]
 | .own _ _,b,h=>by cases b<;>simp only[nv,bH] at h
 | .lJ _,b,h=>by cases b<;>simp only[nv,bH] at h
 | .room _ _,b,h=>by cases b<;>simp only[nv,bH] at h
 | .oT _ _,b,h=>by cases b<;>simp only[nv,bH] at h
def xY(ρ:aj):∀{a b:TS},Dy a b=true->gX ρ a=gX ρ b
 | .var i,b,h=>by cases b<;>simp only[Dy,bH] at h;rw[jP h]
 | .lit i,b,h=>by cases b<;>simp only[Dy,bH] at h;simp only[gX];exact Bz h
 | .cat x y,b,h=>by
  cases b<;>simp only[Dy,bH,bN] at h;simp only[gX,xY ρ h.1,xY ρ h.2]
 | .sub x y z,b,h=>by
  cases b<;>simp only[Dy,bH,bN] at h;simp only[gX,xY ρ h.1.1,vx ρ h.1.2,vx ρ h.2]
 | .Qy x,b,h=>by cases b<;>simp only[Dy,bH] at h;simp only[gX,MK ρ h]
def MK(ρ:aj):∀{a b:TL},Ea a b=true->cV ρ a=cV ρ b
 | .var i,b,h=>by cases b<;>simp only[Ea,bH] at h;rw[jP h]
 | .nil,b,h=>by cases b<;>simp only[Ea,bH] at h;rfl
 | .snoc x i,b,h=>by
  cases b<;>simp only[Ea,bH,bN] at h;simp only[cV,MK ρ h.1,jP h.2]
 | .cat x y,b,h=>by
  cases b<;>simp only[Ea,bH,bN] at h;simp only[cV,MK ρ h.1,MK ρ h.2]
 | .sub x y z,b,h=>by
  cases b<;>simp only[Ea,bH,bN] at h;simp only[cV,MK ρ h.1.1,vx ρ h.1.2,vx ρ h.2]
 | .MF x,b,h=>by cases b<;>simp only[Ea,bH] at h;simp only[cV,xY ρ h]
end
mutual
def vy{ρ:aj}(x:aj):∀{a:TI},AA ρ.length a=true->bG (ρ++x) a=bG ρ a
 | .var i,h=>by simp only[AA] at h;simp only[bG,kW (DA h)]
 | .lit i,h=>rfl
 | .bin op k a b,h=>by simp only[AA,bN] at h;simp only[bG,vy x h.1,vy x h.2]
 | .conv k a,h=>by simp only[AA] at h;simp only[bG,vy x h]
 | .len a,h=>by simp only[AA] at h;simp only[bG,ML x h]
 | .uG a,h=>by simp only[AA] at h;simp only[bG,yI x h]
 | .byte a b,h=>by simp only[AA,bN] at h;simp only[bG,yI x h.1,vy x h.2]
 | .ite c a b,h=>by simp only[AA,bN] at h;simp only[bG,v9 x h.1.1,vy x h.1.2,vy x h.2]
def v9{ρ:aj}(x:aj):∀{a:TB},sD ρ.length a=true->bk (ρ++x) a=bk ρ a
 | .var i,h=>by simp only[sD] at h;simp only[bk,kW (DA h)]
 | .lit i,h=>rfl
 | .not a,h=>by simp only[sD] at h;simp only[bk,v9 x h]
 | .and a b,h=>by simp only[sD,bN] at h;simp only[bk,v9 x h.1,v9 x h.2]
 | .or a b,h=>by simp only[sD,bN] at h;simp only[bk,v9 x h.1,v9 x h.2]
 | .beq a b,h=>by simp only[sD,bN] at h;simp only[bk,v9 x h.1,v9 x h.2]
 | .ite c a b,h=>by simp only[sD,bN] at h;simp only[bk,v9 x h.1.1,v9 x h.1.2,v9 x h.2]
 | .cmp op a b,h=>by simp only[sD,bN] at h;simp only[bk,vy x h.1,vy x h.2]
 | .nZ op a b,h=>by simp only[sD,bN] at h;simp only[bk,yI x h.1,yI x h.2]
 | .bq i,h=>by simp only[sD] at h;simp only[bk,kW (DA h)]
 | .uH i,h=>by simp only[sD] at h;simp only[bk,kW (DA h)]
 | .own i e,h=>by simp only[sD] at h;simp only[bk,kW (DA h)]
 | .lJ i,h=>by simp only[sD] at h;simp only[bk,kW (DA h)]
 | .room l n,h=>by simp only[sD] at h;simp only[bk,ML x h]
 | .oT a b,h=>by simp only[sD,bN] at h;simp only[bk,yI x h.1,yI x h.2]
def yI{ρ:aj}(x:aj):∀{a:TS},Dz ρ.length a=true->gX (ρ++x) a=gX ρ a
 | .var i,h=>by simp only[Dz] at h;simp only[gX,kW (DA h)]
 | .lit i,h=>rfl
 | .cat a b,h=>by simp only[Dz,bN] at h;simp only[gX,yI x h.1,yI x h.2]
 | .sub a b c,h=>by simp only[Dz,bN] at h;simp only[gX,yI x h.1.1,vy x h.1.2,vy x h.2]
 | .Qy a,h=>by simp only[Dz] at h;simp only[gX,ML x h]
def ML{ρ:aj}(x:aj):∀{a:TL},Fl ρ.length a=true->cV (ρ++x) a=cV ρ a
 | .var i,h=>by simp only[Fl] at h;simp only[cV,kW (DA h)]
 | .nil,h=>rfl
 | .snoc a i,h=>by simp only[Fl,bN] at h;simp only[cV,ML x h.1,kW (DA h.2)]
 | .cat a b,h=>by simp only[Fl,bN] at h;simp only[cV,ML x h.1,ML x h.2]
 | .sub a b c,h=>by simp only[Fl,bN] at h;simp only[cV,ML x h.1.1,vy x h.1.2,vy x h.2]
 | .MF a,h=>by simp only[Fl] at h;simp only[cV,yI x h]
end
def zqS(ρ:aj)(pa:aR){a b:C}(h:QA a b=true):bw ρ pa a=bw ρ pa b:=by
 cases a<;>cases b<;>simp only[QA,bH,bN] at h
 ·simp only[bw];exact V.iB h
 ·obtain⟨h1,h2⟩:=h;have:=jP h1;have:=eq_of_beq h2;subst_vars;rfl
 ·simp only[bw,Ho h.1,vx ρ h.2]
 ·simp only[bw,wu ρ h]
 ·simp only[bw,xY ρ h]
 ·simp only[bw,jP h.1.1,MK ρ h.1.2,Ho h.2]
 ·simp only[bw,jP h.1,jP h.2]
 ·simp only[bw,jP h]
def QO{α:Type}{l x:List α}{i:Nat}{a:α}(h:nth l i=some a):nth (l++x) i=some a:=by
 rw[zf] at h ⊢;obtain⟨hi,_⟩:=dW.1 h;rw[nH hi,h]
def zm4{ρ:aj}(x:aj){pa:aR}{c:C}(h:V8 ρ.length c=true):bw (ρ++x) pa c=bw ρ pa c:=by
 cases c<;>simp only[V8] at h<;>simp only[bw]
 next i cl=>cases cl<;>simp only[kW (DA h)]
 ·rw[vy x h]
 ·rw[v9 x h]
 ·rw[yI x h]
 ·rw[ML x h]
 ·rw[kW (DA h)]
def zgN{α:Type}{f:α->Bool}:∀{l:List α},xi f l=true->∃x∈l,f x=true
 | x::xs,h=>by
  simp only[xi] at h;split at h
  next hx=>exact⟨x,ew,hx⟩
  ·obtain⟨y,hy,hf⟩:=zgN h;exact⟨y,cZ _ hy,hf⟩
def jQ(ρ:aj)(a:TB):bk ρ (mkNot a)=!(bk ρ a):=by
 unfold mkNot;split<;>simp[bk]
def yJ(ρ:aj)(a b:TB):bk ρ (IA a b)=(bk ρ a && bk ρ b):=by
 unfold IA;split<;>(try split)<;>simp[bk]
def zkp(ρ:aj)(a b:TB):bk ρ (SO a b)=(bk ρ a || bk ρ b):=by
 unfold SO;split<;>(try split)<;>simp[bk]
def zm5(ρ:aj)(c a b:TB):bk ρ (Z0 c a b)=bif bk ρ c then bk ρ a else bk ρ b:=by
 unfold Z0;split
 next h=>rw[zkp,<- wu ρ h];cases bk ρ c<;>rfl
 ·split
  next h=>rw[yJ,<- wu ρ h];cases bk ρ c<;>simp
  ·split<;>simp only[zkp,yJ,jQ,bk]<;>cases bk ρ c<;>simp
def Hq(ρ:aj)(as:List TB):Prop:=∀t∈as,bk ρ t=true
def WB{ρ:aj}:∀{t:TB}{as:List TB},bk ρ t=true->Hq ρ as->Hq ρ (n4 t as)
 | .and a b,as,h,ha=>by
  have h':=h;simp only[bk,bN] at h';intro t ht;simp only[n4,cS] at ht;rcases ht with rfl|ht
  ·exact h
  ·exact WB h'.1 (WB h'.2 ha) t ht
 | .not (.or a b),as,h,ha=>by
  have h':=h;simp only[bk,ue,KD] at h';intro t ht;simp only[n4,cS] at ht;rcases ht with rfl|rfl|rfl|ht
  ·exact h
  ·simp[jQ,h'.1]
  ·simp[jQ,h'.2]
  ·exact ha t ht
 |.var _,as,h,ha|.lit _,as,h,ha|.or _ _,as,h,ha|.ite _ _ _,as,h,ha|.beq _ _,as,h,ha|.cmp _ _ _,as,h,ha|.nZ _ _ _,as,h,ha|.bq _,as,h,ha|.uH _,as,h,ha|.own _ _,as,h,ha|.lJ _,as,h,ha|.room _ _,as,h,ha|.oT _ _,as,h,ha
 | .not (.var _),as,h,ha|.not (.lit _),as,h,ha|.not (.not _),as,h,ha|.not (.and _ _),as,h,ha|.not (.ite _ _ _),as,h,ha|.not (.beq _ _),as,h,ha|.not (.cmp _ _ _),as,h,ha|.not (.nZ _ _ _),as,h,ha|.not (.bq _),as,h,ha|.not (.uH _),as,h,ha|.not (.own _ _),as,h,ha|.not (.lJ _),as,h,ha|.not (.room _ _),as,h,ha|.not (.oT _ _),as,h,ha=>by
  intro t ht;simp only[n4,cS] at ht;rcases ht with rfl|ht
  ·exact h
  ·exact ha t ht
def zjt{ρ:aj}{as:List TB}(ha:Hq ρ as){t:TB}(h:xi (nv t) as=true):bk ρ t=true:=by
 obtain⟨x,hx,hs⟩:=zgN h;rw[wu ρ hs];exact ha x hx
def zm6{ρ:aj}{as:List TB}(ha:Hq ρ as){t:TB}{b:Bool}(h:(if xi (nv t) as then some true else if xi (nv (.not t)) as then some false else none)=some b):bk ρ t=b:=by
 split at h
 next h1=>cases h;exact zjt ha h1
 ·split at h
  next h1=>cases h;have:=zjt ha h1;simpa[bk] using this
  ·cases h
def jX{ρ:aj}{as:List TB}(ha:Hq ρ as):∀{t:TB}{b:Bool},Eb as t=some b->bk ρ t=b
 | .lit _,b,h=>by simp only[Eb,aO] at h;subst h;rfl
 | .not a,b,h=>by
  simp only[Eb] at h;split at h
  next c hc=>cases h;simp only[bk,jX ha hc]
  ·split at h
   next h1=>cases h;exact zjt ha h1
   ·cases h
 | .and a c,b,h=>by
  simp only[Eb] at h;split at h
  next h1 h2=>cases h;simp only[bk,jX ha h1,jX ha h2];rfl
  next h1=>cases h;simp only[bk,jX ha h1];rfl
  next h2 _=>cases h;simp only[bk,jX ha h2];simp
  ·exact zm6 ha h
 | .var _,b,h|.or _ _,b,h|.ite _ _ _,b,h|.beq _ _,b,h|.cmp _ _ _,b,h|.nZ _ _ _,b,h|.bq _,b,h|.uH _,b,h|.own _ _,b,h|.lJ _,b,h|.room _ _,b,h|.oT _ _,b,h=>by
  simp only[Eb] at h;exact zm6 ha h
def xB{ρ:aj}:∀{l as:List TB},(∀t∈l,bk ρ t=true)->Hq ρ as->Hq ρ (n_ as l)
 | [],as,_,ha=>ha
 | .not (.and a b)::r,as,hl,ha=>by
  have h0:=hl _ ew;simp only[bk,ue,Bool.and_eq_false_iff] at h0;have hr:∀t∈r,bk ρ t=true:=λt ht=>hl t (cZ _ ht);have more:∀{t:TB},bk ρ t=true->Hq ρ (t::as):=λht x hx=>by
   rcases cS.1 hx with rfl|hx
   ·exact ht
   ·exact ha x hx
  simp only[n_];split
  ·rename_i h1 _;have:=jX ha h1;refine xB hr (more ?_);rw[jQ];rcases h0 with h0|h0
   ·rw[this] at h0;cases h0
   ·rw[h0];rfl
  ·rename_i _ h1;have:=jX ha h1;refine xB hr (more ?_);rw[jQ];rcases h0 with h0|h0
   ·rw[h0];rfl
   ·rw[this] at h0;cases h0
  ·exact xB hr ha
 |.var _::r,as,hl,ha|.lit _::r,as,hl,ha|.or _ _::r,as,hl,ha|.and _ _::r,as,hl,ha|.ite _ _ _::r,as,hl,ha|.beq _ _::r,as,hl,ha|.cmp _ _ _::r,as,hl,ha|.nZ _ _ _::r,as,hl,ha|.bq _::r,as,hl,ha|.uH _::r,as,hl,ha|.own _ _::r,as,hl,ha|.lJ _::r,as,hl,ha|.room _ _::r,as,hl,ha|.oT _ _::r,as,hl,ha
 | .not (.var _)::r,as,hl,ha|.not (.lit _)::r,as,hl,ha|.not (.not _)::r,as,hl,ha|.not (.or _ _)::r,as,hl,ha|.not (.ite _ _ _)::r,as,hl,ha|.not (.beq _ _)::r,as,hl,ha|.not (.cmp _ _ _)::r,as,hl,ha|.not (.nZ _ _ _)::r,as,hl,ha|.not (.bq _)::r,as,hl,ha|.not (.uH _)::r,as,hl,ha|.not (.own _ _)::r,as,hl,ha|.not (.lJ _)::r,as,hl,ha|.not (.room _ _)::r,as,hl,ha|.not (.oT _ _)::r,as,hl,ha=>by
  simp only[n_];exact xB (λt ht=>hl t (cZ _ ht)) ha
def zeC{ρ:aj}{t:TB}{as:List TB}(h:bk ρ t=true)(ha:Hq ρ as):Hq ρ (yU t as) :=
 xB (WB h ha) (WB h ha)
end
section
structure iu(ρ:aj)(pa:aR)(σ:Sg)(env:aj)(H:Hp):Prop where
 env:∀i sv v,nth σ.env i=some sv->jA ρ pa sv=some v->nth env i=some v
 af:∀a cs ty,jC a σ.af=some (cs,ty)->H.get (pd pa a)=some (.cells (aG ρ pa cs) ty)
 ks:∀i k,nth σ.ks i=some k->fm k (at' ρ i)=true
 as:Hq ρ σ.as
variable{P:aD}{gl:Nat->Nat->bS}{ρ:aj}{pa:aR}{σ:Sg}{env:aj}{H:Hp}
def p8(v:V):aX (aX v)=aX v:=by cases v<;>rfl
def qj(cs:List C):aG ρ pa cs=cs.map (bw ρ pa):=by
 induction cs with
 | nil=>rfl
 | cons c cs ih=>simp[aG,ih]
def zlJ(cs:List SC):fe ρ pa cs=cs.map (aQ ρ pa):=by
 induction cs with
 | nil=>rfl
 | cons c cs ih=>simp[fe,ih]
def IJ{a off:Nat}:aX (bw ρ pa (.p a off))=bw ρ pa (.p a off):=rfl
def zlK(v:V):aX (A1 v)=aX v:=by cases v<;>rfl
def zkq(c:C):bw ρ pa (IB c)=aX (bw ρ pa c):=by
 cases c with
 | k v=>rfl
 | v i cl=>cases cl<;>simp[IB,bw,p8]
 | i k t=>rfl
 | b t=>rfl
 | s t=>rfl
 | sl sz t o=>rfl
 | p a off=>exact IJ.symm
 | CV i=>simp[IB,bw,zlK]
def kM(x:SC):aQ ρ pa (mN x)=aX (aQ ρ pa x):=by
 cases x with
 | one c=>exact zkq c
 | agg cs=>rfl
def zm7(cs:List C):aG ρ pa (Fp cs)=(aG ρ pa cs).map aX:=by
 induction cs with
 | nil=>rfl
 | cons c cs ih=>simp[aG,Fp,ih,zkq]
def zrL(v:V):bw ρ pa (cC v)=v:=by cases v<;>rfl
def WC(vs:aj):aG ρ pa (QB vs)=vs:=by
 induction vs with
 | nil=>rfl
 | cons c cs ih=>simp[aG,QB,ih,zrL]
def zqT(v:V):aQ ρ pa (SP v)=v:=by
 cases v<;>first|rfl|(simp only[SP,aQ,WC])
def plain:SV->Bool|.gd _ _=>false|.MG=>false|_=>true
def zig{as:List TB}(ha:Hq ρ as){sv MM:SV}(h:V9 as sv=some MM):plain MM=true/\∃v,jA ρ pa sv=some v/\jA ρ pa MM=some v:=by
 cases sv with
 | gd c x =>
  simp only[V9] at h;split at h
  next hk=>cases h;exact⟨rfl,_,rfl,by simp[jA,jX ha hk]⟩
  next hk=>cases h;exact⟨rfl,_,rfl,by simp[jA,jX ha hk,tK,aQ,bw]⟩
  ·cases h
 | MG=>cases h
 | val x=>cases h;exact⟨rfl,_,rfl,rfl⟩
 | vp x=>cases h;exact⟨rfl,_,rfl,rfl⟩
 | bx x=>cases h;exact⟨rfl,_,rfl,rfl⟩
 | fn f x=>cases h;exact⟨rfl,_,rfl,rfl⟩
def S9(hr:iu ρ pa σ env H){t:Tmp}{sv:SV}(h:slot σ t=some sv):plain sv=true/\∃v,nth env t=some v/\jA ρ pa sv=some v:=by
 unfold slot at h;split at h
 next sv0 h0=>obtain⟨hp,v,h1,h2⟩:=zig (pa:=pa) hr.as h;exact⟨hp,v,hr.env _ _ _ h0 h1,h2⟩
 ·cases h
def zm8{sv:SV}{v:V}(hp:plain sv=true)(h:jA ρ pa sv=some v):jA ρ pa (IC sv)=some (aX v):=by
 cases sv with
 | gd c x=>cases hp
 | MG=>cases hp
 | val x=>cases h;simp only[IC,jA,kM]
 | vp x=>cases h;rfl
 | bx x=>cases h;rfl
 | fn f x=>cases h;rfl
def wE(hr:iu ρ pa σ env H){x:aH}{sv:SV}(h:pk σ x=some sv):∃v,aq env x=some v/\jA ρ pa sv=some v:=by
 cases x with
 | tmp t =>
  simp only[pk] at h;split at h
  next sv0 h0=>cases h;obtain⟨hp,v,h1,h2⟩:=S9 hr h0;exact⟨aX v,by simp[aq,h1],zm8 hp h2⟩
  ·cases h
 | const v =>
  simp only[pk] at h;split at h
  next u hu=>cases h;exact⟨u,hu,by simp[jA,zqT]⟩
  ·cases h
 | global g=>cases h
 | func f=>cases h
def kN(hr:iu ρ pa σ env H){x:aH}{s:SC}(h:pk σ x=some (.val s)):aq env x=some (aQ ρ pa s):=by
 obtain⟨v,h1,h2⟩:=wE hr h;cases h2;exact h1
def ja(hr:iu ρ pa σ env H){x:aH}{c:C}(h:Cn σ x=some c):aq env x=some (bw ρ pa c):=by
 unfold Cn at h;split at h
 next h0=>cases h;exact kN hr h0
 ·cases h
def ya{ks:List CK}(hk:∀i k,nth ks i=some k->fm k (at' ρ i)=true){c:C}{k:IntKind}{t:TI}(h:Fm ks c=some (k,t)):bw ρ pa c=.int k (bG ρ t):=by
 cases c with
 | i k' t'=>cases h;rfl
 | v i cl =>
  simp only[Fm] at h;split at h
  next k' h0=>cases h;have:=hk _ _ h0;cases hv:at' ρ i<;>rw[hv] at this<;>simp only[fm,bH] at this;have Ed:=Ho this;cases cl<;>simp[bw,hv,bG,vI,aX,Ed]
  ·cases h
 | k v =>
  cases v<;>simp only[Fm,aO,bP,reduceCtorEq] at h;obtain⟨rfl,rfl⟩:=h;rfl
 | _=>cases h
def xl{ks:List CK}(hk:∀i k,nth ks i=some k->fm k (at' ρ i)=true){c:C}{t:TB}(h:F9 ks c=some t):bw ρ pa c=.bool (bk ρ t):=by
 cases c with
 | b t'=>cases h;rfl
 | v i cl =>
  simp only[F9] at h;split at h
  next h0=>cases h;have:=hk _ _ h0;cases hv:at' ρ i<;>rw[hv] at this<;>simp only[fm,bH] at this;cases cl<;>simp[bw,hv,bk,vB,aX]
  ·cases h
 | k v =>
  cases v<;>simp only[F9,aO,reduceCtorEq] at h;subst h;rfl
 | _=>cases h
def wV{ks:List CK}(hk:∀i k,nth ks i=some k->fm k (at' ρ i)=true){c:C}{t:TS}(h:Fo ks c=some t):bw ρ pa c=.str (gX ρ t):=by
 cases c with
 | s t'=>cases h;rfl
 | v i cl =>
  simp only[Fo] at h;split at h
  next h0=>cases h;have:=hk _ _ h0;cases hv:at' ρ i<;>rw[hv] at this<;>simp only[fm,bH] at this;cases cl<;>simp[bw,hv,gX,Sx.vS,aX]
  ·cases h
 | k v =>
  cases v<;>simp only[Fo,aO,reduceCtorEq] at h;subst h;rfl
 | _=>cases h
def MN{ks:List CK}(hk:∀i k,nth ks i=some k->fm k (at' ρ i)=true){sz:Nat}{c:C}{t:TL}(h:Lf ks sz c=some t):(bw ρ pa c=.aU/\cV ρ t=[])\/∃o,bw ρ pa c=.sl sz (cV ρ t) o:=by
 cases c with
 | sl mj t' o =>
  simp only[Lf] at h;split at h
  next h0=>cases h;rw[jP h0];exact .inr ⟨o,rfl⟩
  ·cases h
 | v i cl =>
  simp only[Lf] at h;split at h
  ·rename_i mj h0;split at h
   ·rename_i h1;cases h;have:=hk _ _ h0;cases hv:at' ρ i<;>rw[hv] at this<;>simp only[fm,bH,bN] at this
    ·left;cases cl<;>simp[bw,hv,cV,Sx.vL,aX]
    ·right
     have:=jP this.1;have:=jP h1;subst_vars;cases cl<;>simp[bw,hv,cV,Sx.vL,aX]
   ·cases h
  ·cases h
 | k v =>
  cases v<;>simp only[Lf,aO,reduceCtorEq] at h;subst h;exact .inl ⟨rfl,rfl⟩
 | _=>cases h
def jD(hr:iu ρ pa σ env H){x:aH}{k:IntKind}{t:TI}(h:BG σ x=some (k,t)):aq env x=some (.int k (bG ρ t)):=by
 unfold BG at h;split at h
 next h0=>rw[ja hr h0,ya hr.ks h]
 ·cases h
def zju(hr:iu ρ pa σ env H){x:aH}{t:TB}(h:SQ σ x=some t):aq env x=some (.bool (bk ρ t)):=by
 unfold SQ at h;split at h
 next h0=>rw[ja hr h0,xl hr.ks h]
 ·cases h
def QS(hr:iu ρ pa σ env H){x:aH}{t:TS}(h:SS σ x=some t):aq env x=some (.str (gX ρ t)):=by
 unfold SS at h;split at h
 next h0=>rw[ja hr h0,wV hr.ks h]
 ·cases h
def wn{α β:Type}(f:α->β)(l:List α)(i:Nat):nth (l.map f) i=(nth l i).map f:=by simp[zf]
def wW{t:ai}{cs:List C}{off:Nat}{x:SC}(h:ID P t cs off=some x):jZ P t (aG ρ pa cs) off=some (aQ ρ pa x):=by
 rw[kL];unfold ID at h;split at h
 ·rename_i ha;split at h
  ·rename_i n hn;split at h
   next hl=>cases h;rw[ha,hn,ZV,qj];simp[hl,aQ,qj]
   ·cases h
  ·cases h
 ·rename_i ha;split at h
  next c hc=>cases h;rw[ha,V5,qj,wn,hc];rfl
  ·cases h
 ·cases h
def zm9{op:BinOp}{t:ai}{k:IntKind}{a b:Int}(h:IF op=true):vn P op t (.int k a) (.int k b)=some (.int k (fz op k a b)):=by
 cases op<;>simp only[IF,bH] at h<;>simp[vn,v6,fz]
def zeD{op:BinOp}{t:ai}{k:IntKind}{a b:Int}(h:A2 op=true):vn P op t (.int k a) (.int k b)=some (.bool (CW op a b)):=by
 cases op<;>simp only[A2,bH] at h<;>simp[vn,v6,CW]
def zc4{op:BinOp}{t:ai}{a b:aR}(h:A2 op=true):vn P op t (.str a) (.str b)=some (.bool (Az op a b)):=by
 cases op<;>simp only[A2,bH] at h<;>simp[vn,Rz,Az]
def zc5{op:BinOp}{t:ai}{x y:aH}{k k':IntKind}{a b:Int}:jK P op t x y (.int k a) (.int k' b)=true:=by cases op<;>rfl
def zfJ{op:BinOp}{t:ai}{x y:aH}{a b:aR}:jK P op t x y (.str a) (.str b)=true:=by cases op<;>rfl
def zoY{ks:List CK}(hk:∀i k,nth ks i=some k->fm k (at' ρ i)=true){ds:TypeDesc}{x y:C}{b:TB}(h:Z1 ks ds x y=some b):Ch ds (bw ρ pa x) (bw ρ pa y)=some (bk ρ b)/\(∀cs,bw ρ pa x≠.agg cs):=by
 unfold Z1 at h;cases ds<;>simp only[reduceCtorEq] at h
 ·split at h
  next h1 h2=>cases h;rw[xl hk h1,xl hk h2];exact⟨rfl,λ_ e=>by cases e⟩
  ·cases h
 ·split at h
  ·rename_i k a k' b' h1 h2;split at h
   next Ed=>subst Ed;cases h;rw[ya hk h1,ya hk h2];exact⟨by simp[Ch,bk,CW],λ_ e=>by cases e⟩
   ·cases h
  ·cases h
 ·split at h
  next h1 h2=>cases h;rw[wV hk h1,wV hk h2];exact⟨by simp[Ch,bk,Az],λ_ e=>by cases e⟩
  ·cases h
def zih{eqs:ai->SC->SC->Option TB}{S_:ai->V->V->Option Bool}(he:∀t x y b,eqs t x y=some b->S_ t (aQ ρ pa x) (aQ ρ pa y)=some (bk ρ b)) :
  ∀{fs:List Field}{xs ys:List C}{b:TB},V_ P eqs fs xs ys=some b->NF P S_ fs (aG ρ pa xs) (aG ρ pa ys)=some (bk ρ b)
 | [],xs,ys,b,h=>by cases h;rfl
 | f::fs,xs,ys,b,h=>by
  simp only[V_] at h;split at h
  ·cases h
  ·rename_i hn;split at h
   ·rename_i x y hx hy;split at h
    next t r ht hr=>cases h;simp only[NF,hn,aZ,wW (ρ:=ρ) (pa:=pa) hx,wW (ρ:=ρ) (pa:=pa) hy,he _ _ _ _ ht,zih he hr,Option.bind_eq_bind,cG,yJ];cases bk ρ t<;>rfl
    ·cases h
   ·cases h
def zii{eqs:ai->SC->SC->Option TB}{S_:ai->V->V->Option Bool}(he:∀t x y b,eqs t x y=some b->S_ t (aQ ρ pa x) (aQ ρ pa y)=some (bk ρ b)){e:ai}{n:Nat}{xs ys:List C} :
  ∀{k i:Nat}{b:TB},Wc P eqs e n xs ys i k=some b->J_ P S_ e n (aG ρ pa xs) (aG ρ pa ys) i k=some (bk ρ b)
 | 0,i,b,h=>by cases h;rfl
 | k+1,i,b,h=>by
  simp only[Wc] at h;split at h
  ·rename_i x y hx hy;split at h
   next t r ht hr=>cases h;simp only[J_,wW (ρ:=ρ) (pa:=pa) hx,wW (ρ:=ρ) (pa:=pa) hy,he _ _ _ _ ht,zii he hr,Option.bind_eq_bind,cG,yJ];cases bk ρ t<;>rfl
   ·cases h
  ·cases h
def zgP{ks:List CK}(hk:∀i k,nth ks i=some k->fm k (at' ρ i)=true):∀{d:Nat}{t:ai}{x y:SC}{b:TB},SU P ks d t x y=some b->ov P d t (aQ ρ pa x) (aQ ρ pa y)=some (bk ρ b)
 | 0,_,_,_,_,h=>by cases h
 | d+1,t,x,y,b,h=>by
  simp only[SU] at h;split at h
  ·cases h
  ·rename_i ds RW;split at h
   ·rename_i xs ys;simp only[ov,RW,aQ];split at h
    ·rename_i fs;split at h
     ·cases h
     next hs=>simp only[hs,bH,aZ];exact zih (λt x y b h=>zgP hk h) h
    ·rename_i len e;split at h
     next n hn=>simp only[hn];exact zii (λt x y b h=>zgP hk h) h
     ·cases h
    ·cases h
   next a c=>obtain⟨h1,h2⟩:=zoY (pa:=pa) hk h;simp only[ov,RW,aQ];cases hx:bw ρ pa a<;>rw[hx] at h1 h2<;>first|exact h1|exact absurd rfl (h2 _)
   ·cases h
def zna{v:V}(h:fm .bf v=true):aX v=v:=by
 cases v<;>simp only[fm,bH] at h<;>rfl
def zkr{i:Nat}{cl:Bool}(h:fm .bf (at' ρ i)=true):bw ρ pa (.v i cl)=at' ρ i:=by
 cases cl
 ·rfl
 ·simp only[bw];exact zna h
def zks(hr:iu ρ pa σ env H){t:ai}{x y:aH}{u v:SV}{u' v':V}{b:TB}(hu:jA ρ pa u=some u')(hv:jA ρ pa v=some v')(h:We P σ t x y u v=some b) :
  j6 P .eql t x y (some u') (some v')=some (.bool (bk ρ b))/\j6 P .neq t x y (some u') (some v')=some (.bool !(bk ρ b)):=by
 unfold We at h;split at h
 ·rename_i a c;split at h
  ·cases h
  next hg=>cases hu;cases hv;have h1:=zgP (ρ:=ρ) (pa:=pa) hr.ks h;simp only[aQ] at h1;simp only[j6,jK,kF,aQ,hg,Dr,aT,vn,h1,cA,Bool.not_eq_true] at *;simp[]
 ·rename_i a c;cases hu;cases hv;simp only[aQ];split at h
  ·rename_i k a' k' b' h1 h2;split at h
   next Ed=>subst Ed;cases h;rw[ya hr.ks h1,ya hr.ks h2];simp only[j6,zc5,aT];rw[zeD rfl,zeD rfl];exact⟨by simp[bk,CW],by simp[bk,CW,bne]⟩
   ·cases h
  ·split at h
   next h1 h2=>cases h;rw[wV hr.ks h1,wV hr.ks h2];simp only[j6,zfJ,aT];rw[zc4 rfl,zc4 rfl];exact⟨by simp[bk,Az],by simp[bk,Az]⟩
   ·split at h
    ·rename_i ht;split at h
     next h1 h2=>cases h;rw[xl hr.ks h1,xl hr.ks h2];simp[j6,jK,kF,vn,ov,ht,Ch,bk]
     ·cases h
    ·rename_i ms ht;split at h
     ·rename_i i cl _ _;split at h
      ·rename_i h1 h2;cases h;have hk:=hr.ks _ _ h1;rw[zkr hk];cases hv:at' ρ i<;>rw[hv] at hk<;>simp only[fm,bH] at hk <;>
        simp[j6,jK,kF,vn,ov,ht,Ch,bk,bw,hv,D_,h2]
      ·cases h
     ·rename_i i cl _ _;split at h
      ·rename_i h1 h2;cases h;have hk:=hr.ks _ _ h1;rw[zkr hk];cases hv:at' ρ i<;>rw[hv] at hk<;>simp only[fm,bH] at hk <;>
        simp[j6,jK,kF,vn,ov,ht,Ch,bk,bw,hv,D_,h2]
      ·cases h
     ·split at h
      next h1=>cases h;simp only[gZ] at h1;simp[j6,jK,kF,vn,ov,ht,Ch,bk,bw,h1]
      ·cases h
     ·cases h
    ·rename_i e ht;split at h
     ·cases h;simp[j6,jK,kF,vn,ov,ht,Ch,bk,bw]
     ·cases h;simp[j6,jK,kF,vn,ov,ht,Ch,bk,bw]
     ·cases h;simp[j6,jK,kF,vn,ov,ht,Ch,bk,bw]
     ·cases h
    ·cases h
 ·cases h
end
section
variable{P:aD}{gl:Nat->Nat->bS}{ρ:aj}{pa:aR}{σ:Sg}{env:aj}{H:Hp}{lk:aC}{df:aV}{takes:bA}
def zoZ(hr:iu ρ pa σ env H){op:BinOp}{t:ai}{x y:aH}{sv:SV}(h:Z2 P σ op t x y=some sv):∃v,j6 P op t x y (aq env x) (aq env y)=some v/\jA ρ pa sv=some v:=by
 unfold Z2 at h;split at h
 ·rename_i u v hu hv;obtain⟨u',KP,Ka⟩:=wE hr hu;obtain⟨v',CE,Ci⟩:=wE hr hv;rw[KP,CE];split at h
  ·split at h
   next b hb=>cases h;exact⟨_,(zks hr Ka Ci hb).1,rfl⟩
   ·cases h
  ·split at h
   next b hb=>cases h;exact⟨_,(zks hr Ka Ci hb).2,by simp[jA,aQ,bw,jQ]⟩
   ·cases h
  ·split at h
   ·rename_i a c;cases Ka;cases Ci;split at h
    ·rename_i k a' k' b' h1 h2;have e1:=ya (pa:=pa) hr.ks h1;have e2:=ya (pa:=pa) hr.ks h2;split at h
     next ht hk=>cases h;have:=Ho hk;subst this;exact⟨_,by simp only[aQ,e1,e2,j6,zc5,aT];exact zm9 ht,rfl⟩
     next hc hk _=>cases h;have:=Ho hk;subst this;exact⟨_,by simp only[aQ,e1,e2,j6,zc5,aT];exact zeD hc,rfl⟩
     ·cases h
    ·split at h
     ·rename_i h1 h2;split at h
      next hc=>cases h;exact⟨_,by simp only[aQ,wV (pa:=pa) hr.ks h1,wV (pa:=pa) hr.ks h2,j6,zfJ,aT];exact zc4 hc,rfl⟩
      ·cases h
     ·cases h
   ·cases h
 ·cases h
def yX{k:CK}{v:V}(h:fm k v=true)(hk:k≠.raw):oJ v=true/\locked v=false:=by
 cases k<;>cases v<;>simp only[fm,bH,bN,ue] at h<;>first|exact absurd rfl hk|exact⟨rfl,rfl⟩|exact h|exact⟨rfl,h.2⟩
def znb{v:V}(h:oJ v=true):oJ (aX v)=true:=by cases v<;>first|exact h|rfl
def znc{v:V}(h:oJ v=true):eF v=true:=by cases v<;>first|rfl|cases h
def zbI{v:V}(h:oJ v=true):v.cells=[v]/\v.laid=[v]:=by cases v<;>first|exact⟨rfl,rfl⟩|cases h
def zo0(hk:∀i k,nth σ.ks i=some k->fm k (at' ρ i)=true){c:C}(h:Z3 σ.ks c=true):oJ (bw ρ pa c)=true:=by
  cases c with
  | k v=>exact h
  | v i cl =>
    simp only[Z3] at h;split at h
    all_goals first
      | (rename_i h0
         have:=(yX (hk _ _ h0) (by intro e;cases e)).1
         cases cl
         · exact this
         · exact znb this)
      | cases h
  | CV i=>cases h
  | _=>rfl
def WD(hk:∀i k,nth σ.ks i=some k->fm k (at' ρ i)=true){x:SC}(h:QC σ.ks x=true):eF (aQ ρ pa x)=true/\(aQ ρ pa x).cells=aG ρ pa (gP x)/\(aQ ρ pa x).laid=aG ρ pa (iR x):=by
 cases x with
 | one c =>
  have:=zo0 (pa:=pa) hk h;exact⟨znc this,(zbI this).1,(zbI this).2⟩
 | agg cs=>exact⟨rfl,rfl,by simp[aQ,V.laid,iR,zm7]⟩
def qm(cs:List C):(aG ρ pa cs).length=cs.length:=by simp[qj]
def zaL(f:C->V):∀(vs cs:List C)(off:Nat),(storeCells cs off vs).map f=storeCells (cs.map f) off (vs.map f)
 | [],cs,off=>rfl
 | v::vs,cs,off=>by simp only[storeCells,iC];rw[zaL f vs];simp[List.map_set]
def zbs{vs cs:List C}{off:Nat}:aG ρ pa (storeCells cs off vs)=storeCells (aG ρ pa cs) off (aG ρ pa vs):=by
 simp only[qj];exact zaL _ _ _ _
def zeE(hr:iu ρ pa σ env H){place:Nat->Option (Nat×Nat)}:∀{parts:List (Nat×aH)}{cells cs:List C},SY σ cells place parts=some cs->vN (aG ρ pa cells) place env parts=some (aG ρ pa cs)
 | [],cells,cs,h=>by cases h;rfl
 | (i,x)::r,cells,cs,h=>by
  simp only[SY] at h;split at h
  ·rename_i v off n hv hp;split at h
   next hc=>simp only[bN] at hc;obtain⟨h1,h2,_⟩:=WD (pa:=pa) hr.ks hc.1.1;have:=zeE hr h;rw[zbs] at this;simp only[vN,kN hr hv,hp,Option.bind_eq_bind,cG,h1,h2,qm,hc.1.2,hc.2,oP,aT,this]
   ·cases h
  ·cases h
def zlL(hr:iu ρ pa σ env H){t:ai}{parts:Array (Nat×aH)}{cs:List C}(h:Z4 P σ t parts.toList=some cs):ki P t parts env=some (.agg (aG ρ pa cs)):=by
 unfold Z4 at h;split at h
 ·rename_i z hz;unfold ki;simp only[hz,eF,pI,bH,aZ];split at h
  ·rename_i fs hu;simp only[hu];split at h
   next ps hp=>have:=zeE hr h;rw[WC] at this;simp only[hp,V.cells,this,cA]
   ·cases h
  ·rename_i len e hu;simp only[hu];split at h
   next ie hi=>have:=zeE hr h;rw[WC] at this;simp only[hi,V.cells,this,cA]
   ·cases h
  ·cases h
 ·cases h
def znd{dst:eC}(ht:qy takes dst=false){x:aH}{type:ai}{pos:String}{after:Array Edge}{guard:i_}{cx:Cx} :
  cx.op takes ⟨dst,.move x,type,pos,after,guard⟩ env H lk df=fU env H lk df (aq env x):=by
 cases dst with
 | some d=>exact ZP ht
 | none=>simp only[Cx.op];exact wT rfl
def Ta{dst:eC}(ht:qy takes dst=false){t:ai}{a:aH}{type:ai}{pos:String}{after:Array Edge}{guard:i_}{cx:Cx} :
  cx.op takes ⟨dst,.load t a,type,pos,after,guard⟩ env H lk df=fU env H lk df (((aq env a).bind (zA cx.P H cx.gl t)).map aX):=by
 cases dst with
 | some d=>exact SL ht
 | none =>
  simp only[Cx.op];refine wT ?_;simp only[qi];cases h:aq env a with
  | none=>rfl
  | some v=>simp only[Option.bind_eq_bind,cG];cases zA cx.P H cx.gl t v<;>rfl
def WE(hr:iu ρ pa σ env H){o:Oper}{sv:SV}(ht:qy takes o.dst=false)(h:MI P σ o.op=some sv) :
  ∃v,(∀call uq,Cx.op ⟨P,gl,call,uq⟩ takes o env H lk df=some (.val v,⟨env,H,lk,df⟩))/\jA ρ pa sv=some v:=by
 obtain⟨dst,op,type,pos,after,guard⟩:=o;simp only at ht h;cases op<;>simp only[MI,reduceCtorEq] at h
 case move x =>
  obtain⟨v,h1,h2⟩:=wE hr h;exact⟨v,λcall uq=>by rw[znd ht,h1];rfl,h2⟩
 case pick c a b =>
  split at h
  ·cases h
  ·rename_i t hc;have ec:=zju hr hc;split at h
   next hk=>obtain⟨v,h1,h2⟩:=wE hr h;exact⟨v,λcall uq=>by rw[qD,ec,jX hr.as hk,h1];rfl,h2⟩
   next hk=>obtain⟨v,h1,h2⟩:=wE hr h;exact⟨v,λcall uq=>by rw[qD,ec,jX hr.as hk,h1];rfl,h2⟩
   ·split at h
    ·rename_i xa xb ha hb;have ra:bk ρ t=true->aq env a=some (bw ρ pa xa):=λht=>ja (σ:={ σ with as:=yU t σ.as }) ⟨hr.env,hr.af,hr.ks,zeC ht hr.as⟩ ha;have rb:bk ρ t=false->aq env b=some (bw ρ pa xb):=λht=>ja (σ:={ σ with as:=yU (mkNot t) σ.as }) ⟨hr.env,hr.af,hr.ks,zeC (by simp[jQ,ht]) hr.as⟩ hb
     have main:∀v,(bk ρ t=true->v=bw ρ pa xa)->(bk ρ t=false->v=bw ρ pa xb)->∀call uq,Cx.op ⟨P,gl,call,uq⟩ takes ⟨dst,.pick c a b,type,pos,after,guard⟩ env H lk df=some (.val v,⟨env,H,lk,df⟩):=by
      intro v h1 h2 call uq;rw[qD,ec];cases hb:bk ρ t with
      | true=>rw[ra hb,<- h1 hb];rfl
      | false=>rw[rb hb,<- h2 hb];rfl
     split at h
     ·rename_i ta tb h1 h2;cases h;have e1:=xl (pa:=pa) hr.ks h1;have e2:=xl (pa:=pa) hr.ks h2;refine⟨.bool (bif bk ρ t then bk ρ ta else bk ρ tb),main _ (λhb=>?_) (λhb=>?_),by simp[jA,aQ,bw,zm5]⟩
      ·rw[e1,hb];rfl
      ·rw[e2,hb];rfl
     ·split at h
      ·rename_i k ta k' tb h1 h2;split at h
       ·rename_i Ed;subst Ed;cases h;have e1:=ya (pa:=pa) hr.ks h1;have e2:=ya (pa:=pa) hr.ks h2;refine⟨.int k (bif bk ρ t then bG ρ ta else bG ρ tb),main _ (λhb=>?_) (λhb=>?_),by simp[jA,aQ,bw,bG]⟩
        ·rw[e1,hb];rfl
        ·rw[e2,hb];rfl
       ·cases h
      ·cases h
    ·cases h
 case build t parts =>
  split at h
  next cs hb=>cases h;exact⟨_,λcall uq=>by rw[jd,zlL hr hb];rfl,rfl⟩
  ·cases h
 case load t a =>
  split at h
  ·rename_i cs ha;obtain⟨v,h1,h2⟩:=wE hr ha;cases h2;split at h
   next x hx=>cases h;exact⟨_,λcall uq=>by rw[Ta ht,h1];simp only[cG,zia,wW (ρ:=ρ) (pa:=pa) hx,cA];rfl,by simp[jA,kM]⟩
   ·cases h
  ·rename_i a' off ha;have h1:=kN hr ha;split at h
   ·rename_i cs ty hf;split at h
    next x hx=>cases h;have hb:=hr.af _ _ _ hf;exact⟨_,λcall uq=>by rw[Ta ht,h1];simp only[cG,aQ,bw,V7];rw[hb];simp only[xV,wW (ρ:=ρ) (pa:=pa) hx,cA];rfl,by simp[jA,kM]⟩
    ·cases h
   ·cases h
  ·cases h
 case nilCheck x =>
  split at h
  next cs hx=>cases h;obtain⟨v,h1,h2⟩:=wE hr hx;cases h2;exact⟨_,λcall uq=>by rw[zx,h1];rfl,rfl⟩
  next a off hx=>cases h;exact⟨_,λcall uq=>by rw[zx,kN hr hx];rfl,rfl⟩
  ·cases h
 case binOp op t x y u =>
  obtain⟨v,h1,h2⟩:=zoZ hr h;exact⟨v,λcall uq=>by rw[zE,h1];rfl,h2⟩
 case unOp op t x =>
  split at h
  ·rename_i c hc;split at h
   next k tt hi=>cases h;exact⟨_,λcall uq=>by rw[SM,ja hr hc,ya (pa:=pa) hr.ks hi];rfl,rfl⟩
   ·cases h
  ·rename_i c hc;split at h
   next tt hi=>cases h;exact⟨_,λcall uq=>by rw[SM,ja hr hc,xl (pa:=pa) hr.ks hi];rfl,by simp[jA,aQ,bw,jQ]⟩
   ·cases h
  ·cases h
 case convert a b x =>
  split at h
  ·rename_i d k c h1 h2 hc;split at h
   next k' tt hi=>cases h;exact⟨_,λcall uq=>by rw[yF (ZR ((ja hr hc).trans (congrArg some (ya (pa:=pa) hr.ks hi))) (by simp)),ja hr hc,ya (pa:=pa) hr.ks hi];simp only[cG,vM,h1,h2,Option.bind_eq_bind];cases d<;>rfl,rfl⟩
   ·cases h
  ·rename_i c h1 h2 hc;split at h
   next tt hi=>cases h;exact⟨_,λcall uq=>by rw[yF (ZR ((ja hr hc).trans (congrArg some (wV (pa:=pa) hr.ks hi))) (by simp)),ja hr hc,wV (pa:=pa) hr.ks hi];simp only[cG,vM,h1,h2,Option.bind_eq_bind];rfl,rfl⟩
   ·cases h
  ·rename_i e c h1 h2 hc;split at h
   next tt h3 hi=>cases h;exact⟨_,λcall uq=>by rw[yF (ZR ((ja hr hc).trans (congrArg some (wV (pa:=pa) hr.ks hi))) (by simp)),ja hr hc,wV (pa:=pa) hr.ks hi];simp only[cG,vM,h1,h2,h3,Option.bind_eq_bind];rfl,rfl⟩
   ·cases h
  ·cases h
 case fieldAddr t x f =>
  split at h
  next off cs h1 hx=>cases h;obtain⟨v,h3,h4⟩:=wE hr hx;cases h4;exact⟨_,λcall uq=>by rw[zj,h3];simp only[h1,zq,cG,a_];rfl,by simp[jA,qj]⟩
  next off a o h1 hx=>cases h;exact⟨_,λcall uq=>by rw[zj,kN hr hx];simp only[h1,zq,cG,aQ,bw,a_];rfl,rfl⟩
  ·cases h
 case field t x f =>
  split at h
  ·rename_i ft off cs h1 hx;split at h
   next x' hp=>cases h;exact⟨aX (aQ ρ pa x'),λcall uq=>by rw[zlz,kN hr hx];simp only[h1,zh9,cG,aQ,wW (ρ:=ρ) (pa:=pa) hp,cA];cases x'<;>rfl,by simp[jA,kM]⟩
   ·cases h
  ·cases h
 case indexAddr t x ix =>
  split at h
  ·rename_i len e k i hu hi;have ei:=jD hr hi;split at h
   ·rename_i n cs hn hx;split at h
    next bu=>cases h;obtain⟨v,h3,h4⟩:=wE hr hx;cases h4;exact⟨_,λcall uq=>by rw[qK,h3,ei];simp only[gW,bG];simp[zO,hu,hn,DA bu];rfl,by simp[jA,qj]⟩
    ·cases h
   ·rename_i n a off hn hx;split at h
    next bu=>cases h;exact⟨_,λcall uq=>by rw[qK,kN hr hx,ei];simp only[gW,bG];simp[zO,hu,hn,DA bu,aQ,bw];rfl,rfl⟩
    ·cases h
   ·cases h
  ·cases h
 case index t x ix =>
  split at h
  ·rename_i len e k i hu hi;have ei:=jD hr hi;split at h
   ·rename_i n cs hn hx;split at h
    ·rename_i bu;split at h
     next x' hp=>cases h;have CG:=wW (ρ:=ρ) (pa:=pa) hp;exact⟨aX (aQ ρ pa x'),λcall uq=>by rw[ZS,kN hr hx,ei];simp only[gW,bG];simp[P0,hu,hn,DA bu,aQ,CG];cases x'<;>rfl,by simp[jA,kM]⟩
     ·cases h
    ·cases h
   ·cases h
  ·cases h
 case extract x i =>
  split at h
  ·rename_i xs hx;split at h
   next x' hn=>cases h;obtain⟨v,h3,h4⟩:=wE hr hx;cases h4;exact⟨_,λcall uq=>by rw[yG,h3];simp only[cG,zlJ,wn,hn,cA];rfl,by simp[jA,kM]⟩
   ·cases h
  ·cases h
 case call c =>
  obtain⟨callee,args,s_⟩:=c;obtain⟨args⟩:=args;obtain⟨s_⟩:=s_;simp only at h;split at h
  ·rename_i x t;split at h
   ·rename_i c hu hc;split at h
    next s hs=>cases h;exact⟨_,λcall uq=>by rw[wU,ja hr hc,wV (pa:=pa) hr.ks hs];simp only[cG,jM,hu,cA];rfl,rfl⟩
    ·cases h
   ·rename_i e c hu hc;split at h
    ·rename_i n hn;split at h
     ·rename_i l hl;cases h;refine⟨_,λcall uq=>?_,rfl⟩;rw[wU,ja hr hc];rcases MN (pa:=pa) hr.ks hl with⟨e1,e2⟩|⟨o,e1⟩
      ·rw[e1];simp only[cG,jM,hu,cA,aQ,bw,bG,e2];rfl
      ·rw[e1];simp only[cG,jM,hu,cA,aQ,bw,bG];rfl
     ·cases h
    ·cases h
   ·cases h
  ·rename_i x y;split at h
   ·rename_i k a k' b hx hy;split at h
    next Ed=>subst Ed;cases h;refine⟨_,λcall uq=>?_,rfl⟩;simp only[Cx.op,Cx.builtin,jD hr hx,jD hr hy,Option.bind_eq_bind,cG,aQ,bw,bG,bk,CW,cond_eq_ite,decide_eq_true_eq]
    ·cases h
   ·cases h
  ·rename_i x y;split at h
   ·rename_i k a k' b hx hy;split at h
    next Ed=>subst Ed;cases h;refine⟨_,λcall uq=>?_,rfl⟩;simp only[Cx.op,Cx.builtin,jD hr hx,jD hr hy,Option.bind_eq_bind,cG,aQ,bw,bG,bk,CW,cond_eq_ite,decide_eq_true_eq]
    ·cases h
   ·cases h
  ·cases h
end
section
variable{P:aD}{gl:Nat->Nat->bS}{ρ aY:aj}{pa bM:aR}{σ:Sg}{s:St}{n0:Nat}{B:List aN}{env:aj}{H:Hp}{lk:aC}{df:aV}
def ye(l:aC)(a off:Nat):Bool:=xi (λp=>Nat.beq p.1 a && Nat.beq p.2 off) l
structure Rel(n0:Nat)(B:List aN)(ρ:aj)(pa:aR)(σ:Sg)(s:St):Prop where
 ext:∀aY bM,ρ <+: aY->pa <+: bM->iu aY bM σ s.env s.H
 len:σ.env.length=s.env.length
 na:pa.length=σ.na
 inj:∀a a',a<σ.na->a'<σ.na->pd pa a=pd pa a'->a=a'
 lo:∀a,σ.nf<=a->a<σ.na->n0<=pd pa a
 hi:∀a,a<σ.na->pd pa a<s.H.af.length
 kl:ρ.length=σ.ks.length
 top:aA ρ=0
 tM:∀e∈s.H.aS,n0<=e.1
 base:∀b,b<n0->(∀a,a<σ.nf->pd pa a≠b)->s.H.af[b]?=B[b]?
 uI:n0<=s.H.af.length
 df:s.defers=[]
 lk:∀a off,ye σ.lk a off=true->∀cs ty c,s.H.get (pd pa a)=some (.cells cs ty)->nth cs off=some c->locked c=true->s.lk.any (λp=>Nat.beq p.1 (pd pa a) && Nat.beq p.2 off)=true
 bn:∀a x,jC a σ.af=some x->a<σ.na
 ln:∀a off,ye σ.lk a off=true->a<σ.na
 nf:σ.nf<=σ.na
def Rel.here(h:Rel n0 B ρ pa σ s):iu ρ pa σ s.env s.H:=h.ext ρ pa (di _) (di _)
def vG(h:ρ <+: aY){i:Nat}(hi:i<ρ.length):at' aY i=at' ρ i:=by
 obtain⟨x,rfl⟩:=h;exact kW hi
def zjv{α:Type}{l:List α}{i:Nat}{a:α}(h:nth l i=some a):i<l.length:=by
 rw[zf] at h;exact(dW.1 h).1
def jo(h:pa <+: bM){a:Nat}(ha:a<pa.length):pd bM a=pd pa a:=by
 obtain⟨x,rfl⟩:=h;simp[pd,zf,nH ha]
def wX(a b:aj):aA (a++b)=max (aA a) (aA b):=by
 induction a with
 | nil=>simp[aA]
 | cons v vs ih=>simp only[iQ,aA,ih];omega
def vT{v:V}:∀{l:aj},v∈l->aA l=0->v.top=0
 | x::xs,h,ht=>by
  simp only[aA] at ht;rcases cS.1 h with rfl|h
  ·omega
  ·exact vT h (by omega)
def Tb{l:aj}(h:∀v∈l,v.top=0):aA l=0:=by
 induction l with
 | nil=>rfl
 | cons v vs ih =>
  simp only[aA,h v ew,ih λw hw=>h w (cZ _ hw)];rfl
def xZ(h:aA ρ=0)(i:Nat):(at' ρ i).top=0:=by
 rw[xj];cases hi:ρ[i]? with
 | none=>rfl
 | some v=>exact vT (oH hi) h
def dw(v:V):(aX v).top=v.top:=by cases v<;>rfl
def CY:∀{CX:List CK}{x:aj}{j:Nat}{k:CK},lu CX x=true->CX[j]?=some k->∃v,x[j]?=some v/\fm k v=true
 | [],_,j,k,_,h=>by simp at h
 | c::cs,[],j,k,hk,h=>by simp[lu] at hk
 | c::cs,v::vs,0,k,hk,h=>by
  simp only[lu,bN] at hk;simp at h;subst h;exact⟨v,rfl,hk.1⟩
 | c::cs,v::vs,j+1,k,hk,h=>by
  simp only[lu,bN] at hk;simp at h;obtain⟨w,h1,h2⟩:=CY hk.2 h;exact⟨w,by simpa using h1,h2⟩
def oc:∀{CX:List CK}{x:aj},lu CX x=true->x.length=CX.length
 | [],[],_=>rfl
 | [],_::_,h=>by cases h
 | _::_,[],h=>by cases h
 | c::cs,v::vs,h=>by
  simp only[lu,bN] at h;simp[oc h.2]
def Rel.push{x:aj}{CX:List CK}(h:Rel n0 B ρ pa σ s)(hk:lu CX x=true)(ht:aA x=0):Rel n0 B (ρ++x) pa { σ with ks:=σ.ks++CX } s:=by
 have hl:=oc hk;refine⟨λaY bM h1 h2=>?_,h.len,h.na,h.inj,h.lo,h.hi,by simp[h.kl,hl],by rw[wX,h.top,ht];rfl,h.tM,h.base,h.uI,h.df,h.lk,h.bn,h.ln,h.nf⟩
 have h0:ρ <+: aY:=(Ag _ _).trans h1;obtain⟨e1,e2,e3,e4⟩:=h.ext aY bM h0 h2;refine⟨e1,e2,λi k hi=>?_,e4⟩;simp only[zf] at hi
 by_cases bu:i<σ.ks.length
 ·rw[nH bu] at hi;exact e3 i k (by rw[zf];exact hi)
 ·rw[nN (by omega)] at hi
  obtain⟨v,h3,h4⟩:=CY hk hi;have:at' aY i=v:=by
   rw[vG h1 (by have:=(dW.1 hi).1;have:=h.kl;simp;omega)]
   rw[xj,nN (by rw[h.kl];omega),h.kl,h3];rfl
  rw[this];exact h4
def Rel.oU{v:V}{ck:CK}(h:Rel n0 B ρ pa σ s)(hk:fm ck v=true)(ht:v.top=0):Rel n0 B (ρ++[v]) pa { σ with ks:=σ.ks++[ck] } s :=
 h.push (by simp[lu,hk]) (by simp[aA,ht])
def xC{ρ:aj}{v:V}:at' (ρ++[v]) ρ.length=v:=by simp[xj]
def Rel.kind{i:Nat}{ck:CK}(h:Rel n0 B ρ pa σ s)(hi:i<σ.ks.length)(hk:fm ck (at' ρ i)=true):Rel n0 B ρ pa { σ with ks:=σ.ks.set i ck } s:=by
 refine⟨λaY bM h1 h2=>?_,h.len,h.na,h.inj,h.lo,h.hi,by simp[h.kl],h.top,h.tM,h.base,h.uI,h.df,h.lk,h.bn,h.ln,h.nf⟩
 obtain⟨e1,e2,e3,e4⟩:=h.ext aY bM h1 h2;refine⟨e1,e2,λj k hj=>?_,e4⟩;simp only[zf,AM] at hj;split at hj
 next Dv=>subst Dv;simp[] at hj;subst hj;rw[vG h1 (by rw[h.kl];exact hi)];exact hk
 ·exact e3 j k (by rw[zf];exact hj)
def Rel.put{d:Nat}{sv:SV}{v:V}(h:Rel n0 B ρ pa σ ⟨env,H,lk,df⟩)(hv:∀aY bM,ρ <+: aY->pa <+: bM->∀v',jA aY bM sv=some v'->v'=v):Rel n0 B ρ pa { σ with env:=σ.env.set d sv } ⟨env.set d v,H,lk,df⟩:=by
 refine⟨λaY bM h1 h2=>?_,by simpa using h.len,h.na,h.inj,h.lo,h.hi,h.kl,h.top,h.tM,h.base,h.uI,h.df,h.lk,h.bn,h.ln,h.nf⟩
 obtain⟨e1,e2,e3,e4⟩:=h.ext aY bM h1 h2;refine⟨λi sw w hi hw=>?_,e2,e3,e4⟩;simp only[zf,AM] at hi ⊢;have hl:=h.len;simp only at hl;split at hi
 ·rename_i Dv;subst Dv;split at hi
  next bu=>cases hi;rw[hl] at bu;simp[bu,hv aY bM h1 h2 w hw]
  ·cases hi
 ·rename_i Dv;simp only[Dv,aZ];have:=e1 i sw w (by rw[zf];exact hi) hw
  rwa [zf] at this
def Rel.mO{d:eC}{sv:SV}{v:V}(h:Rel n0 B ρ pa σ ⟨env,H,lk,df⟩)(hv:∀aY bM,ρ <+: aY->pa <+: bM->∀v',jA aY bM sv=some v'->v'=v):Rel n0 B ρ pa (mO σ d sv) ⟨aI env d v,H,lk,df⟩:=by
 cases d with
 | none=>exact h
 | some d=>exact h.put hv
def Rel.cond{c:TB}(h:Rel n0 B ρ pa σ s)(hc:∀aY bM,ρ <+: aY->pa <+: bM->bk aY c=true):Rel n0 B ρ pa { σ with as:=yU c σ.as } s :=
 ⟨λaY bM h1 h2=>⟨(h.ext aY bM h1 h2).env,(h.ext aY bM h1 h2).af,(h.ext aY bM h1 h2).ks,zeC (hc aY bM h1 h2) (h.ext aY bM h1 h2).as⟩,h.len,h.na,h.inj,h.lo,h.hi,h.kl,h.top,h.tM,h.base,h.uI,h.df,h.lk,h.bn,h.ln,h.nf⟩
def Rel.Tc(h:Rel n0 B ρ pa σ ⟨env,H,lk,df⟩):Rel n0 B ρ pa { σ with lk:=[] } ⟨env,H,[],df⟩ :=
 ⟨λaY bM h1 h2=>⟨(h.ext aY bM h1 h2).env,(h.ext aY bM h1 h2).af,(h.ext aY bM h1 h2).ks,(h.ext aY bM h1 h2).as⟩,h.len,h.na,h.inj,h.lo,h.hi,h.kl,h.top,h.tM,h.base,h.uI,h.df,λa off hh=>by simp[ye,xi] at hh,h.bn,λa off hh=>by simp[ye,xi] at hh,h.nf⟩
def wv{a b:Nat}{x:List C×ai}{l:List (Nat×List C×ai)}:jC a ((b,x)::l)=if a=b then some x else jC a l:=by
 simp only[jC]
 by_cases h:a=b
 ·subst h;simp
 ·have:Nat.beq a b=false:=by cases hb:Nat.beq a b with|false=>rfl|true=>exact absurd (jP hb) h
  simp[h,this]
def uJ{H:Hp}{b:Nat}{x y:aN}(h:H.get b=some x):(H.push y).get b=some x:=by
 simp only[Hp.get,Hp.push] at h ⊢;exact QO h
def Rel.block{cs:List C}{vs:aj}{t:ai}(h:Rel n0 B ρ pa σ ⟨env,H,lk,df⟩)(hv:∀aY bM,ρ <+: aY->pa <+: bM->aG aY bM cs=vs):Rel n0 B ρ (pa++[H.af.length]) (yW σ cs t) ⟨env,H.push (.cells vs t),lk,df⟩:=by
 have MO:∀a,a<σ.na->pd (pa++[H.af.length]) a=pd pa a:=λa ha=>jo (Ag _ _) (by rw[h.na];exact ha)
 have Td:pd (pa++[H.af.length]) σ.na=H.af.length:=by
  simp[pd,zf,<- h.na]
 refine⟨λaY bM h1 h2=>?_,h.len,by simp[yW,h.na],?_,?_,?_,h.kl,h.top,h.tM,?_,?_,h.df,?_,?_,?_,?_⟩
 ·have h0:pa <+: bM:=(Ag _ _).trans h2;obtain⟨e1,e2,e3,e4⟩:=h.ext aY bM h1 h0;refine⟨e1,λa c ty hf=>?_,e3,e4⟩;simp only[yW,wv] at hf;split at hf
  ·rename_i ha;subst ha;cases hf;rw[jo h2 (by simp[h.na]),Td,hv aY bM h1 h0]
   simp[Hp.get,Hp.push,zf]
  ·exact uJ (e2 a c ty hf)
 ·intro a a' ha p6 he;simp only[yW] at ha p6
  by_cases h1:a<σ.na<;>by_cases h2:a'<σ.na
  ·rw[MO a h1,MO a' h2] at he;exact h.inj a a' h1 h2 he
  ·obtain rfl:a'=σ.na:=by omega
   rw[MO a h1,Td] at he;have:=h.hi a h1;simp only at this;omega
  ·obtain rfl:a=σ.na:=by omega
   rw[MO a' h2,Td] at he;have:=h.hi a' h2;simp only at this;omega
  ·omega
 ·intro a h1 h2;simp only[yW] at h1 h2
  by_cases h3:a<σ.na
  ·rw[MO a h3];exact h.lo a h1 h3
  ·obtain rfl:a=σ.na:=by omega
   rw[Td];exact h.uI
 ·intro a h2;simp only[yW] at h2;simp only[Hp.push,oI,List.length_singleton]
  by_cases h3:a<σ.na
  ·rw[MO a h3];have:=h.hi a h3;simp only at this;omega
  ·obtain rfl:a=σ.na:=by omega
   rw[Td];omega
 ·intro b hb hn;have h1:=h.uI;simp only at h1;simp only[Hp.push];rw[nH (by omega)]
  exact h.base b hb λa ha=>by rw[<- MO a (by have:=h.nf;omega)];exact hn a ha
 ·have h1:=h.uI;simp only at h1;simp only[Hp.push,oI];omega
 ·intro a off hl cs' ty c hg hc mW;simp only[yW] at hl hg;have ha:=h.ln a off hl;rw[MO a ha] at hg ⊢;refine h.lk a off hl cs' ty c ?_ hc mW;have:=h.hi a ha;simp only at this;simp only[Hp.get,Hp.push,zf] at hg ⊢
  rwa [nH this] at hg
 ·intro a x hf;simp only[yW,wv] at hf ⊢;split at hf
  ·omega
  ·have:=h.bn a x hf;omega
 ·intro a off hl;have:=h.ln a off hl;simp only[yW];omega
 ·have:=h.nf;simp only[yW];omega
def WG{a b:Nat}{cs:List C}:∀{l:List (Nat×List C×ai)},jC b (IE a cs l)=if a=b then (jC b l).map (λx=>(cs,x.2)) else jC b l
 | []=>by simp[IE,jC]
 | (c,x,t)::r=>by
  by_cases hac:a=c
  ·subst hac;simp only[IE,pP,aT,wv]
   by_cases hb:b=a
   ·subst hb;simp
   ·have:¬a=b:=λe=>hb e.symm;simp[hb,this]
  ·have h0:Nat.beq a c=false:=by cases hb:Nat.beq a c with|false=>rfl|true=>exact absurd (jP hb) hac
   simp only[IE,h0,bH,aZ,wv,WG]
   by_cases hb:b=c
   ·subst hb;simp[hac]
   ·simp[hb]
def zab{H:Hp}{b:Nat}{x:aN}(h:b<H.af.length):(H.set b x).get b=some x:=by
 simp[Hp.get,Hp.set,zf,h]
def yK{H:Hp}{b c:Nat}{x:aN}(h:b≠c):(H.set b x).get c=H.get c:=by
 simp[Hp.get,Hp.set,zf,h]
def zc6{H:Hp}{b:Nat}{v:V}:(H.bQ b v).af=H.af:=by
 unfold Hp.bQ;split<;>rfl
def WH{H:Hp}{b c:Nat}{v:V}:(H.bQ b v).get c=H.get c:=by
 simp[Hp.get,zc6]
def zjw{H:Hp}{b:Nat}{v:V}{e:Nat×Nat}(h:e∈(H.bQ b v).aS):e∈H.aS\/(e=(b,v.top)/\v.top≠0):=by
 unfold Hp.bQ at h;split at h
 ·exact .inl h
 ·simp only[cS] at h;rcases h with rfl|h
  ·exact .inr ⟨rfl,by omega⟩
  ·exact .inl h
def Rel.write{a:Nat}{CN cs:List C}{vs:aj}{ty:ai}{v:V}{lV:aC}{oM:aC}(h:Rel n0 B ρ pa σ ⟨env,H,lk,df⟩)(hf:jC a σ.af=some (CN,ty))
  (hv:∀aY bM,ρ <+: aY->pa <+: bM->aG aY bM cs=vs) (bX:σ.nf<=a\/v.top=0)
  (lH:∀b off,ye lV b off=true->b<σ.na)
  (Aj:∀b off,b<σ.na->b≠a->ye lV b off=true->ye σ.lk b off=true) (sB:∀x,x∈lk->x∈oM)
  (Mv:∀off c,ye lV a off=true->nth vs off=some c->locked c=true->oM.any (λp=>Nat.beq p.1 (pd pa a) && Nat.beq p.2 off)=true) :
  Rel n0 B ρ pa { σ with af:=IE a cs σ.af,lk:=lV } ⟨env,(H.set (pd pa a) (.cells vs ty)).bQ (pd pa a) v,oM,df⟩:=by
 have ha:=h.bn a _ hf;have hlen:((H.set (pd pa a) (.cells vs ty)).bQ (pd pa a) v).af.length=H.af.length:=by simp[zc6,Hp.set]
 have hha:=h.hi a ha;simp only at hha;refine⟨λaY bM h1 h2=>?_,h.len,h.na,h.inj,h.lo,λb hb=>by simp only[hlen];exact h.hi b hb,h.kl,h.top,λe he=>?_,λb hb hn=>?_,by simp only[hlen];exact h.uI,h.df,λb off hl cs' Hh c hg hc mW=>?_,λb x hb=>?_,lH,h.nf⟩
 ·obtain⟨e1,e2,e3,e4⟩:=h.ext aY bM h1 h2;refine⟨e1,λb c t hb=>?_,e3,e4⟩;have pdb:∀b,b<σ.na->pd bM b=pd pa b:=λb hb=>jo h2 (by rw[h.na];exact hb)
  simp only[WG] at hb;simp only[WH];split at hb
  next AT=>subst AT;rw[hf] at hb;simp only[cA,aO,bP] at hb;obtain⟨rfl,rfl⟩:=hb;rw[pdb a ha,zab hha,hv aY bM h1 h2]
  ·rename_i AT;have bY:=h.bn b _ hb;rw[yK]
   ·exact e2 b c t hb
   ·rw[pdb b bY];intro e;exact AT (h.inj a b ha bY e)
 ·rcases zjw he with he|⟨rfl,ht⟩
  ·exact h.tM e he
  ·rcases bX with bX|bX
   ·exact h.lo a bX ha
   ·exact absurd bX ht
 ·simp only[zc6,Hp.set];rw[AM];split
  ·rename_i e;subst e;rcases iT a σ.nf with WI|WI
   ·exact absurd rfl (hn a WI)
   ·have:=h.lo a WI ha;omega
  ·exact h.base b hb hn
 ·by_cases AT:b=a
  ·subst AT;simp only[WH] at hg;rw[zab hha] at hg;cases hg;exact Mv off c hl hc mW
  ·have hb:=lH b off hl;simp only[WH] at hg;rw[yK (λe=>AT (h.inj a b ha hb e).symm)] at hg;have:=h.lk b off (Aj b off hb AT hl) cs' Hh c hg hc mW;simp only[List.any_eq_true] at this ⊢;obtain⟨x,hx,Cm⟩:=this;exact⟨x,sB x hx,Cm⟩
 ·simp only[WG] at hb;split at hb
  next AT=>subst AT;exact ha
  ·exact h.bn b x hb
end
section
abbrev PH:=FuncId->List AV->List (aj×ai)->Option (V×List aj)
variable{P:aD}{gl:Gl}{ph:PH}{N:Nat}{r:Nat×aj}{ρ aY:aj}{pa bM:aR}{σ:Sg}{s:St}{n0:Nat}{B:List aN}{env:aj}{H:Hp}{lk:aC}{df:aV}{takes:bA}
def WJ(x:OR)(v:V):Prop:=x=.val v\/(x=.skip/\v=.bx [])
def Step(P:aD)(gl:Gl)(ph:PH)(N:Nat)(r:Nat×aj)(n0:Nat)(B:List aN)(k:KT)(takes:bA)(o:Oper)(σ:Sg)(ρ:aj)(pa:aR)(s:St):Prop :=
 ∃cW sv aY bM t' x s' v,k cW sv=some t'/\bU ph gl N t' aY=some r/\ρ <+: aY/\pa <+: bM/\Rel n0 B aY bM cW s' /\
  (∃k0,∀n,k0<=n->Cx.op ⟨P,gl,zl P gl n,gl.uq⟩ takes o s.env s.H s.lk s.defers=some (x,s'))/\WJ x v /\
  (∀ak an,aY <+: ak->bM <+: an->∀v',jA ak an sv=some v'->v'=v)/\∀b,j7 takes σ o=some (.wr b)->∀A,A≠pd bM b->s'.H.get A=s.H.get A
def xD{o:Oper}{k:KT}{t:Tree}(h:yd P σ o.op k=some t)(hr:Rel n0 B ρ pa σ ⟨env,H,lk,df⟩)(hq:bU ph gl N t ρ=some r)(ht:qy takes o.dst=false) :
  Step P gl ph N r n0 B k takes o σ ρ pa ⟨env,H,lk,df⟩:=by
 unfold yd at h;split at h
 ·rename_i sv WK;obtain⟨v,h1,h2⟩:=WE (gl:=gl) (lk:=lk) (df:=df) hr.here ht WK;refine⟨σ,sv,ρ,pa,t,.val v,_,v,h,hq,di _,di _,hr,⟨0,λn _=>h1 _ _⟩,.inl rfl,λak an e1 e2 v' cP=>?_,λ_ _ _ _=>rfl⟩;obtain⟨w,h3,h4⟩:=WE (gl:=gl) (lk:=lk) (df:=df) (hr.ext ak an e1 e2) ht WK;have:=(h1 (zl P gl 0) gl.uq).symm.trans (h3 (zl P gl 0) gl.uq);simp only[aO,bP,OR.val.injEq] at this
  rw[this.1];exact tU (cP.symm.trans h4)
 ·cases h
def kr{c:TB}{t:Option Tree}{t0:Tree}(h:yb c t=some t0)(hq:bU ph gl N t0 ρ=some r):∃t1,t=some t1/\bU ph gl N t1 ρ=some r/\bk ρ c=true:=by
 unfold yb at h;split at h
 ·exact⟨t0,h,hq,rfl⟩
 ·split at h
  ·rename_i t1;cases h;simp only[bU,cond_eq_ite] at hq;split at hq
   next hc=>exact⟨t1,rfl,hq,hc⟩
   ·cases hq
  ·cases h
def Te{e:VE}{t:Option Tree}{t0:Tree}(h:QD e t=some t0)(hq:bU ph gl N t0 ρ=some r):∃t1,t=some t1/\bU ph gl N t1 (ρ++[eo ρ e])=some r:=by
 unfold QD at h;split at h
 next t1=>cases h;exact⟨t1,rfl,hq⟩
 ·cases h
def Tf{pa:aR}{y:aj}:∀{x z:aj}{ks:List CK}{i:Nat},z.length=ks.length->x.length=i->aG (x++z++y) pa (lits ks i)=z
 | _,[],[],i,_,_=>rfl
 | _,[],_::_,i,h,_=>by simp at h
 | _,_::_,[],i,h,_=>by simp at h
 | x,v::vs,k::ks,i,h,hi=>by
  simp only[lits,aG];have h1:at' (x++v::vs++y) i=v:=by
   rw[xj];subst hi;simp
  have h2:=Tf (pa:=pa) (x:=x++[v]) (y:=y) (z:=vs) (ks:=ks) (i:=i+1) (by simpa using h) (by simp[hi])
  simp only[nI,iQ,gF] at h1 h2 ⊢;rw[h2];simp only[bw];rw[h1]
def WL{ty:ai}{i:Nat}{k:Sg->SC->Option Tree}{t:Tree}(h:xW P σ ty i k=some t)(hr:Rel n0 B ρ pa σ s)(hi:i<σ.ks.length)(hq:bU ph gl N t ρ=some r) :
  ∃iZ sc aY t',k { σ with ks:=iZ } sc=some t'/\bU ph gl N t' aY=some r/\ρ <+: aY/\Rel n0 B aY pa { σ with ks:=iZ } s/\(∀ak an,aY <+: ak->aQ ak an sc=at' ρ i)/\(∀ak an,aY <+: ak->aG ak an (gP sc)=(at' ρ i).cells):=by
 have tF:i<ρ.length:=by rw[hr.kl];exact hi
 unfold xW at h;split at h
 ·split at h
  ·rename_i ks hl;split at h
   ·rename_i t' Mw;cases h;simp only[bU] at hq;split at hq
    ·rename_i cs dA;rw[cond_eq_ite] at hq;split at hq
     ·rename_i hk;have bX:aA cs=0:=by have:=xZ hr.top i;rw[dA] at this;exact this
      have hlen:=oc hk;have QT:∀ak an,ρ++cs <+: ak->aG ak an (lits ks σ.ks.length)=cs:=by
       rintro ak an ⟨y,rfl⟩;exact Tf hlen hr.kl
      exact⟨_,_,ρ++cs,t',Mw,hq,Ag _ _,hr.push hk bX,λak an e=>by rw[dA];simp only[aQ];rw[QT ak an e],λak an e=>by rw[dA];exact QT ak an e⟩
     ·cases hq
    ·cases hq
   ·cases h
  ·cases h
 ·split at h
  ·rename_i ck E7;split at h
   ·rename_i t' Mw;cases h;simp only[bU,cond_eq_ite] at hq;split at hq
    ·rename_i hk;refine⟨_,_,ρ,t',Mw,hq,di _,hr.kind hi hk,λak an e=>?_,λak an e=>?_⟩
     ·simp only[aQ,bw];exact vG e tF
     ·simp only[gP,aG,bw];rw[vG e tF];have cg:ck≠.raw:=by
       unfold Wg at E7
       repeat' split at E7
       all_goals first|(cases E7;intro e;cases e;done)|(cases E7;done)
      exact((zbI (yX hk cg).1).1).symm
    ·cases hq
   ·cases h
  ·cases h
 ·cases h
def zqU{v:V}(h:v.top=0):aA (Sx.vL v)=0:=by
 cases v<;>first|rfl|exact h
def lD{l:aj}(h:aA l=0)(n:Nat):aA (l.take n)=0:=Tb λ_v hv=>vT (EZ hv) h
def mF{l:aj}(h:aA l=0)(n:Nat):aA (l.drop n)=0:=Tb λ_v hv=>vT (FR hv) h
def yY(h:aA ρ=0):∀(l:TL),aA (cV ρ l)=0
 | .var i=>zqU (xZ h i)
 | .nil=>rfl
 | .snoc l i=>by simp only[cV,wX,yY h l,aA,xZ h i];rfl
 | .cat a b=>by simp only[cV,wX,yY h a,yY h b];rfl
 | .sub l a b=>by simp only[cV];exact mF (lD (yY h l) _) _
 | .MF s=>Tb λv hv=>by
   simp only[cV,r7] at hv;obtain⟨_,_,rfl⟩:=hv;rfl
def Tg(hk:∀i k,nth σ.ks i=some k->fm k (at' ρ i)=true)(ht:aA ρ=0){c:C}(h:IG σ.ks c=true):(bw ρ pa c).top=0/\locked (bw ρ pa c)=false/\∀bM,bw ρ bM c=bw ρ pa c:=by
 cases c with
 | k v =>
  simp only[IG,bN,ue] at h;exact⟨jP h.1,h.2,λ_=>rfl⟩
 | v i cl =>
  simp only[IG] at h;have hl:locked (at' ρ i)=false:=by
   split at h
   all_goals first
    |(rename_i h0;exact(yX (hk _ _ h0) (by intro e;cases e)).2)
    |cases h
  refine⟨?_,?_,λ_=>by cases cl<;>rfl⟩
  ·cases cl
   ·exact xZ ht i
   ·simp only[bw,dw];exact xZ ht i
  ·cases cl
   ·exact hl
   ·simp only[bw];cases hv:at' ρ i<;>rfl
 | i k t=>exact⟨rfl,rfl,λ_=>rfl⟩
 | b t=>exact⟨rfl,rfl,λ_=>rfl⟩
 | s t=>exact⟨rfl,rfl,λ_=>rfl⟩
 | sl sz t o =>
  refine⟨yY ht t,?_,λ_=>rfl⟩;cases o<;>first|rfl|cases h
 | p a off=>cases h
 | CV i=>cases h
def wF(hk:∀i k,nth σ.ks i=some k->fm k (at' ρ i)=true)(ht:aA ρ=0):∀{cs:List C},vr σ.ks cs=true->aA (aG ρ pa cs)=0/\(∀v∈aG ρ pa cs,locked v=false)/\∀bM,aG ρ bM cs=aG ρ pa cs
 | [],_=>⟨rfl,λv hv=>by simp[aG] at hv,λ_=>rfl⟩
 | c::cs,h=>by
  simp only[vr,bN] at h;obtain⟨a1,a2,a3⟩:=Tg (pa:=pa) hk ht h.1;obtain⟨b1,b2,b3⟩:=wF hk ht h.2;refine⟨by simp only[aG,aA,a1,b1];rfl,λv hv=>?_,λbM=>by simp only[aG,a3 bM,b3 bM]⟩
  simp only[aG,cS] at hv;rcases hv with rfl|hv
  ·exact a2
  ·exact b2 v hv
def yn(hk:∀i k,nth σ.ks i=some k->fm k (at' ρ i)=true)(ht:aA ρ=0){x:SC}(h:Ou σ.ks x=true):(aQ ρ pa x).top=0/\∀bM,aQ ρ bM x=aQ ρ pa x:=by
 cases x with
 | one c=>obtain⟨a1,_,a3⟩:=Tg (pa:=pa) hk ht h;exact⟨a1,a3⟩
 | agg cs=>obtain⟨a1,_,a3⟩:=wF (pa:=pa) hk ht h;exact⟨a1,λbM=>by simp only[aQ,a3 bM]⟩
def zlM{t:Nat}{v:V}(h:∀sz xs e,v≠.sl sz xs (.yes e)):jj env t (some v)=some (aX v,env):=by
 cases v<;>first|rfl|(rename_i sz xs o;cases o<;>first|rfl|exact absurd rfl (h _ _ _))
def WM{x:aH}{k:Sg->SC->Option Tree}{t:Tree}(h:yV σ x k=some t)(hr:Rel n0 B ρ pa σ ⟨env,H,lk,df⟩) :
  ∃e' sc bB v,k { σ with env:=e' } sc=some t/\take env x=some (v,bB)/\Rel n0 B ρ pa { σ with env:=e' } ⟨bB,H,lk,df⟩/\(∀ak an,ρ <+: ak->pa <+: an->aQ ak an sc=v):=by
 have uy:{ σ with env:=σ.env }=σ:=rfl;cases x with
 | tmp tt =>
  simp only[yV] at h;split at h
  ·rename_i sz l e hs;have hv:∀ak an,ρ <+: ak->pa <+: an->nth env tt=some (.sl sz (cV ak l) (.yes e)):=λak an h1 h2=>by
    obtain⟨_,v,h3,h4⟩:=S9 (hr.ext ak an h1 h2) hs;cases h4;exact h3
   have h0:=hv ρ pa (di _) (di _);have b8:∀ak an,ρ <+: ak->pa <+: an->cV ak l=cV ρ l:=λak an h1 h2=>by
    have:=(hv ak an h1 h2).symm.trans h0;simpa using this
   refine⟨_,_,_,.sl sz (cV ρ l) (.yes e),h,?_,hr.put (v:=.sl sz (cV ρ l) .no) (λak an h1 h2 v' cP=>?_),λak an h1 h2=>?_⟩
   ·rw[zh,h0];rfl
   ·cases cP;simp only[aQ,bw];rw[b8 ak an h1 h2]
   ·simp only[aQ,bw];rw[b8 ak an h1 h2]
  ·rename_i i hs;split at h
   ·rename_i hd;have hv:∀ak an,ρ <+: ak->pa <+: an->nth env tt=some (at' ak i):=λak an h1 h2=>by
     obtain⟨_,v,h3,h4⟩:=S9 (hr.ext ak an h1 h2) hs;cases h4;exact h3
    have h0:=hv ρ pa (di _) (di _);have b8:∀ak an,ρ <+: ak->pa <+: an->at' ak i=at' ρ i:=λak an h1 h2=>by
     have:=(hv ak an h1 h2).symm.trans h0;simpa using this
    have hl:locked (at' ρ i)=false:=(Tg (pa:=pa) hr.here.ks hr.top hd).2.1;have mX:=hr.put (d:=tt) (sv:=.val (.one (.v i true))) (v:=aX (at' ρ i)) (λak an h1 h2 v' cP=>by cases cP;simp only[aQ,bw];rw[b8 ak an h1 h2])
    have eW:∀v,nth env tt=some v->env.set tt v=env:=λv hv=>zib hv;cases Hr:at' ρ i with
    | sl sz xs o =>
     cases o with
     | yes e =>
      refine⟨_,_,_,_,h,by rw[zh,h0,Hr];rfl,?_,λak an h1 h2=>?_⟩
      ·rw[Hr] at mX;exact mX
      ·simp only[aQ,bw];rw[b8 ak an h1 h2,Hr]
     | no =>
      refine⟨_,_,_,_,h,by rw[zh,h0,Hr];rfl,?_,λak an h1 h2=>?_⟩
      ·rw[Hr] at mX;simp only[aX] at mX
       rwa [eW _ (by rw[h0,Hr])] at mX
      ·simp only[aQ,bw];rw[b8 ak an h1 h2,Hr];rfl
     | lock=>rw[Hr] at hl;cases hl
    | _ =>
     refine⟨_,_,_,_,h,by rw[zh,h0,Hr];rfl,?_,λak an h1 h2=>?_⟩
     ·rw[Hr] at mX;simp only[aX] at mX
      rwa [eW _ (by rw[h0,Hr])] at mX
     ·simp only[aQ,bw];rw[b8 ak an h1 h2,Hr];rfl
   ·cases h
  ·rename_i x n1 n2 hs;split at h
   ·rename_i hny;have hv:∀ak an,ρ <+: ak->pa <+: an->nth env tt=some (aQ ak an x):=λak an h1 h2=>by
     obtain⟨_,v,h3,h4⟩:=S9 (hr.ext ak an h1 h2) hs;cases h4;exact h3
    have h0:=hv ρ pa (di _) (di _);have b8:∀ak an,ρ <+: ak->pa <+: an->aQ ak an x=aQ ρ pa x:=λak an h1 h2=>by
     have:=(hv ak an h1 h2).symm.trans h0;simpa using this
    refine⟨σ.env,mN x,env,aX (aQ ρ pa x),h,?_,hr,λak an h1 h2=>by rw[kM,b8 ak an h1 h2]⟩
    rw[zh,h0];refine zlM ?_;intro sz xs e he;cases x with
    | agg cs=>cases he
    | one c =>
     cases c with
     | k v=>simp only[aQ,bw] at he;subst he;cases hny
     | v i cl =>
      cases cl with
      | false=>exact n2 i rfl
      | true=>simp only[aQ,bw] at he;cases hh:at' ρ i<;>rw[hh] at he<;>cases he
     | sl mj t o=>simp only[aQ,bw,V.sl.injEq] at he;obtain⟨_,_,rfl⟩:=he;exact n1 _ _ _ rfl
     | CV i=>simp only[aQ,bw] at he;cases hh:at' ρ i<;>rw[hh] at he<;>cases he
     | _=>cases he
   ·cases h
  ·cases h
 | const v =>
  simp only[yV] at h;split at h
  next x hs=>have h0:=kN hr.here hs;exact⟨σ.env,x,env,aQ ρ pa x,h,by simp only[take,h0,cA],hr,λak an h1 h2=>tU ((kN (hr.ext ak an h1 h2) hs).symm.trans h0)⟩
  ·cases h
 | global g=>simp[yV,pk] at h
 | func f=>simp[yV,pk] at h
end
section
variable{P:aD}{gl:Gl}{ph:PH}{N:Nat}{r:Nat×aj}{ρ aY:aj}{pa bM:aR}{σ:Sg}{s:St}{n0:Nat}{B:List aN}{env:aj}{H:Hp}{lk:aC}{df:aV}{takes:bA}{k:KT}{t:Tree}
variable{dst:eC}{type:ai}{pos:String}{after:Array Edge}{guard:i_}
def vU{v:V}{ak:aj}(h:ρ++[v] <+: ak){j:Nat}(hj:j=ρ.length):at' ak j=v:=by
 subst hj;rw[vG h (by simp),xC]
def QU{x ak:aj}(h:ρ++x <+: ak):ρ <+: ak:=(Ag _ _).trans h
def qk{o:Oper}{cW:Sg}{sv:SV}{aY:aj}{t':Tree}{v:V}{bB:aj}(hk:k cW sv=some t')(hq:bU ph gl N t' aY=some r)(hp:ρ <+: aY)(hr:Rel n0 B aY pa cW ⟨bB,H,lk,df⟩)
  (ho:∀n,Cx.op ⟨P,gl,zl P gl n,gl.uq⟩ takes o env H lk df=some (.val v,⟨bB,H,lk,df⟩)) (hv:∀ak an,aY <+: ak->pa <+: an->∀v',jA ak an sv=some v'->v'=v) :
  Step P gl ph N r n0 B k takes o σ ρ pa ⟨env,H,lk,df⟩ :=
 ⟨cW,sv,aY,pa,t',.val v,_,v,hk,hq,hp,di _,hr,⟨0,λn _=>ho n⟩,.inl rfl,hv,λ_ _ _ _=>rfl⟩
def gN{o:Oper}{x:aH}(h:yV σ x (λσ x=>k σ (.val x))=some t)(hr:Rel n0 B ρ pa σ ⟨env,H,lk,df⟩)(hq:bU ph gl N t ρ=some r)(ho:∀cx:Cx,cx.op takes o env H lk df=SK H lk df (take env x)) :
  Step P gl ph N r n0 B k takes o σ ρ pa ⟨env,H,lk,df⟩:=by
 obtain⟨e',sc,bB,v,h1,h2,h3,h4⟩:=WM h hr;exact qk h1 hq (di _) h3 (v:=v) (λn=>by rw[ho,h2];rfl) (λak an e1 e2 v' cP=>by cases cP;exact h4 ak an e1 e2)
def Th{c:TB}{a b:Option Tree}(h:Ox c a b=some t)(hq:bU ph gl N t ρ=some r):∃ta tb,a=some ta/\b=some tb/\((bk ρ c=true/\bU ph gl N ta ρ=some r)\/(bk ρ c=false/\bU ph gl N tb ρ=some r)):=by
 unfold Ox at h;split at h
 ·rename_i ta tb;cases h;simp only[bU] at hq;refine⟨ta,tb,rfl,rfl,?_⟩;cases hc:bk ρ c<;>rw[hc] at hq
  ·exact .inr ⟨rfl,hq⟩
  ·exact .inl ⟨rfl,hq⟩
 ·cases h
def zo2{c a b:aH}(h:iS P takes σ ⟨dst,.pick c a b,type,pos,after,guard⟩ k=some t)(hr:Rel n0 B ρ pa σ ⟨env,H,lk,df⟩)(hq:bU ph gl N t ρ=some r)(iX:qy takes dst=false) :
  Step P gl ph N r n0 B k takes ⟨dst,.pick c a b,type,pos,after,guard⟩ σ ρ pa ⟨env,H,lk,df⟩:=by
 simp only[iS] at h;split at h
 next v hv=>exact xD (o:=⟨dst,.pick c a b,type,pos,after,guard⟩) (by simp only[yd,hv];exact h) hr hq iX
 ·split at h
  ·rename_i tt x y hc ha hb;obtain⟨ta,tb,h1,h2,h3⟩:=Th h hq;have ec:=zju hr.here hc;rcases h3 with⟨h3,h4⟩|⟨h3,h4⟩
   ·obtain⟨v,e1,e2⟩:=wE hr.here ha;refine qk h1 h4 (di _) hr (v:=v) (λn=>by rw[qD,ec,h3,e1];rfl) (λak an f1 f2 v' cP=>?_)
    obtain⟨w,e3,e4⟩:=wE (hr.ext ak an f1 f2) ha;have:=e1.symm.trans e3;cases this;exact tU (cP.symm.trans e4)
   ·obtain⟨v,e1,e2⟩:=wE hr.here hb;refine qk h2 h4 (di _) hr (v:=v) (λn=>by rw[qD,ec,h3,e1];rfl) (λak an f1 f2 v' cP=>?_)
    obtain⟨w,e3,e4⟩:=wE (hr.ext ak an f1 f2) hb;have:=e1.symm.trans e3;cases this;exact tU (cP.symm.trans e4)
  ·cases h
def iw{a off b o:Nat}{l:aC}:ye ((a,off)::l) b o=true ↔ (a=b/\off=o)\/ye l b o=true:=by
 simp only[ye,xi];constructor
 ·intro h;split at h
  next hh=>simp only[bN] at hh;exact .inl ⟨jP hh.1,jP hh.2⟩
  ·exact .inr h
 ·rintro(⟨rfl,rfl⟩|h)
  ·simp
  ·split
   ·rfl
   ·exact h
def zij{cs:List C}{off:Nat}{c:C}:aG ρ pa (cs.set off c)=(aG ρ pa cs).set off (bw ρ pa c):=by
 simp only[qj,List.map_set]
def zne{H:Hp}{b:Nat}{x:aN}(h:H.get b=some x):H.set b x=H:=by
 obtain⟨bs,es⟩:=H;simp only[Hp.get,zf] at h;simp only[Hp.set]
 congr 1
 apply HO;intro t;rw[List.getElem?_set'];split
 next e=>subst e;rw[h];rfl
 ·rfl
def WN{d:Tmp}{tt:ai}{a:aH}{b off:Nat}{cs:aj}{ty:ai}{cx:Cx}(hd:takes.any (Nat.beq d)=true)(ha:jI cx.P tt=some false)(hp:aq env a=some (.ptr b off))(hg:H.get b=some (.cells cs ty)) :
  (∀sz xs e,nth cs off=some (.sl sz xs (.yes e))->cx.op takes ⟨some d,.load tt a,type,pos,after,guard⟩ env H lk df=some (.val (.sl sz xs (.yes e)),⟨env,H.set b (.cells (cs.set off (.sl sz xs .lock)) ty),(b,off)::lk,df⟩)) /\
  (nth cs off=some .aU->cx.op takes ⟨some d,.load tt a,type,pos,after,guard⟩ env H lk df=some (.val .aU,⟨env,H,lk,df⟩)):=by
 refine⟨λsz xs e hc=>?_,λhc=>?_⟩
 ·simp only[Cx.op,hd,ha,hp,hg,hc,eV,qx];rfl
 ·simp only[Cx.op,hd,ha,hp,hg,hc]
def znf{d:Tmp}{tt:ai}{a:aH}(h:iS P takes σ ⟨some d,.load tt a,type,pos,after,guard⟩ k=some t)(hr:Rel n0 B ρ pa σ ⟨env,H,lk,df⟩)(hq:bU ph gl N t ρ=some r)(iX:takes.any (Nat.beq d)=true) :
  Step P gl ph N r n0 B k takes ⟨some d,.load tt a,type,pos,after,guard⟩ σ ρ pa ⟨env,H,lk,df⟩:=by
 simp only[iS,qy,iX] at h;split at h
 ·rename_i a' off nD l5;have hp:=kN hr.here l5;simp only[aQ,bw] at hp;split at h
  ·rename_i cs ty hf;have F_:=hr.here.af _ _ _ hf;have hN:=hr.bn _ _ hf;have Ti:∀(cs':aj)(b:Nat),j7 takes σ ⟨some d,.load tt a,type,pos,after,guard⟩=some (.wr b)->∀A,A≠pd pa b->(H.set (pd pa a') (.cells cs' ty)).get A=H.get A:=λcs' b hb A hA=>by
    have bY:b=a':=by
     cases a with
     | global g=>simp[pk] at l5
     | func f=>simp[pk] at l5
     | tmp x=>simp[j7,qy,iX,l5] at hb;exact hb.symm
     | const v=>simp[j7,qy,iX,l5] at hb;exact hb.symm
    subst bY;exact yK (λe=>hA e.symm)
   have dz:∀ak an,ρ <+: ak->pa <+: an->aG ak an cs=aG ρ pa cs:=λak an h1 h2=>by
    have:=(hr.ext ak an h1 h2).af _ _ _ hf;rw[jo h2 (by rw[hr.na];exact hN),F_] at this
    simpa using this.symm
   split at h
   ·rename_i hc;have e0:nth (aG ρ pa cs) off=some .aU:=by rw[qj,wn,hc];rfl
    exact qk h hq (di _) hr (v:=.aU) (λn=>(WN iX nD hp F_).2 e0) (λ_ _ _ _ v' cP=>by cases cP;rfl)
   ·rename_i sz l e hc;have e0:nth (aG ρ pa cs) off=some (.sl sz (cV ρ l) (.yes e)):=by rw[qj,wn,hc];rfl
    have hl:∀ak an,ρ <+: ak->pa <+: an->cV ak l=cV ρ l:=λak an h1 h2=>by
     have h3:=dz ak an h1 h2;have h4:nth (aG ak an cs) off=some (.sl sz (cV ak l) (.yes e)):=by rw[qj,wn,hc];rfl
     rw[h3,e0] at h4;simpa using h4.symm
    refine⟨_,_,ρ,pa,t,.val (.sl sz (cV ρ l) (.yes e)),_,_,h,hq,di _,di _,?_,⟨0,λn _=>(WN iX nD hp F_).1 _ _ _ e0⟩,.inl rfl,λak an h1 h2 v' cP=>by cases cP;simp only[aQ,bw];rw[hl ak an h1 h2],Ti _⟩
    have hw:=hr.write (v:=.dx) (oM:=(pd pa a',off)::lk) (lV:=(a',off)::σ.lk) (cs:=cs.set off (.sl sz l .lock)) (vs:=(aG ρ pa cs).set off (.sl sz (cV ρ l) .lock)) hf (λak an h1 h2=>by rw[zij,dz ak an h1 h2];simp only[bw];rw[hl ak an h1 h2]) (.inr rfl)
     (λb o hb=>by rcases iw.1 hb with⟨rfl,_⟩|hb;exact hN;exact hr.ln b o hb) (λb o _ cg hb=>by rcases iw.1 hb with⟨rfl,_⟩|hb;exact absurd rfl cg;exact hb) (λx hx=>cZ _ hx) (λo c hb hc mW=>?_)
    ·simpa[Hp.bQ,V.top] using hw
    ·rcases iw.1 hb with⟨_,rfl⟩|hb
     ·simp
     ·simp only[zf,AM] at hc;split at hc
      next MP=>subst MP;simp
      ·have:=hr.lk a' o hb (aG ρ pa cs) ty c F_ (by rw[zf];exact hc) mW
       simp only[List.any_cons,this,Bool.or_true]
   ·rename_i i hc;split at h
    ·rename_i sz hki;obtain⟨t1,h1,h2,h3⟩:=kr h hq;have e0:nth (aG ρ pa cs) off=some (at' ρ i):=by rw[qj,wn,hc];rfl
     have hl:∀ak an,ρ <+: ak->pa <+: an->at' ak i=at' ρ i:=λak an h1 h2=>by
      have h3:=dz ak an h1 h2;have h4:nth (aG ak an cs) off=some (at' ak i):=by rw[qj,wn,hc];rfl
      rw[h3,e0] at h4;simpa using h4.symm
     simp only[bk] at h3;have hw:∀oM,(∀x,x∈lk->x∈oM)->(locked (A1 (at' ρ i))=true->(pd pa a',off)∈oM)->Rel n0 B ρ pa { σ with af:=IE a' (cs.set off (.CV i)) σ.af,lk:=(a',off)::σ.lk } ⟨env,H.set (pd pa a') (.cells ((aG ρ pa cs).set off (A1 (at' ρ i))) ty),oM,df⟩:=λoM sB hl5=>by
      have hw:=hr.write (v:=.dx) (oM:=oM) (lV:=(a',off)::σ.lk) (cs:=cs.set off (.CV i)) (vs:=(aG ρ pa cs).set off (A1 (at' ρ i))) hf (λak an h1 h2=>by rw[zij,dz ak an h1 h2];simp only[bw];rw[hl ak an h1 h2]) (.inr rfl)
       (λb o hb=>by rcases iw.1 hb with⟨rfl,_⟩|hb;exact hN;exact hr.ln b o hb) (λb o _ cg hb=>by rcases iw.1 hb with⟨rfl,_⟩|hb;exact absurd rfl cg;exact hb) sB (λo c hb hc mW=>?_)
      ·simpa[Hp.bQ,V.top] using hw
      ·simp only[zf,AM] at hc;have MQ:off=o->oM.any (λp=>Nat.beq p.1 (pd pa a') && Nat.beq p.2 o)=true:=λMP=>by
        subst MP;have bu:off<(aG ρ pa cs).length:=zjv e0;simp[bu] at hc;subst hc;have:=hl5 mW;simp only[List.any_eq_true];exact⟨_,this,by simp⟩
       rcases iw.1 hb with⟨_,MP⟩|hb
       ·exact MQ MP
       ·by_cases MP:off=o
        ·exact MQ MP
        ·simp only[MP,aZ] at hc;have:=hr.lk a' o hb (aG ρ pa cs) ty c F_ (by rw[zf];exact hc) mW
         simp only[List.any_eq_true] at this ⊢;obtain⟨x,hx,Cm⟩:=this;exact⟨x,sB x hx,Cm⟩
     cases hv:at' ρ i with
     | aU =>
      refine qk h1 h2 (di _) ?_ (v:=.aU) (λn=>(WN iX nD hp F_).2 (by rw[e0,hv])) (λak an e1 e2 v' cP=>by cases cP;simp only[aQ,bw];rw[hl ak an e1 e2,hv])
      have:=hw lk (λ_ h=>h) (by rw[hv];intro h;cases h)
      rw[hv] at this e0;have e1:(aG ρ pa cs).set off (A1 .aU)=aG ρ pa cs:=zib e0;rw[e1,zne F_] at this;exact this
     | sl mj xs o =>
      cases o with
      | yes e =>
       refine⟨_,_,ρ,pa,t1,.val (.sl mj xs (.yes e)),_,_,h1,h2,di _,di _,?_,⟨0,λn _=>(WN iX nD hp F_).1 _ _ _ (by rw[e0,hv])⟩,.inl rfl,λak an e1 e2 v' cP=>by cases cP;simp only[aQ,bw];rw[hl ak an e1 e2,hv],Ti _⟩
       have:=hw ((pd pa a',off)::lk) (λ_ h=>cZ _ h) (λ_=>ew);rw[hv] at this;exact this
      | _=>rw[hv] at h3;cases h3
     | _=>rw[hv] at h3;cases h3
    ·cases h
   ·cases h
  ·cases h
 ·cases h
end
section
variable{P:aD}{gl:Gl}{ph:PH}{N:Nat}{r:Nat×aj}{ρ aY:aj}{pa bM:aR}{σ:Sg}{s:St}{n0:Nat}{B:List aN}{env:aj}{H:Hp}{lk:aC}{df:aV}{takes:bA}{k:KT}{t:Tree}
variable{dst:eC}{type:ai}{pos:String}{after:Array Edge}{guard:i_}
def zdx{H:Hp}{A:Nat}{x:aN}(h:A≠H.af.length):(H.push x).get A=H.get A:=by
 simp only[Hp.get,Hp.push,zf,List.getElem?_append];split
 ·rfl
 next hl=>rw[tE (by simp;omega),tE (by omega)]
def ux{tt:ai}(h:iS P takes σ ⟨dst,.alloc tt,type,pos,after,guard⟩ k=some t)(hr:Rel n0 B ρ pa σ ⟨env,H,lk,df⟩)(hq:bU ph gl N t ρ=some r) :
  Step P gl ph N r n0 B k takes ⟨dst,.alloc tt,type,pos,after,guard⟩ σ ρ pa ⟨env,H,lk,df⟩:=by
 simp only[iS] at h;split at h
 ·rename_i z hz;split at h
  ·rename_i hk;have hb:=hr.block (cs:=gP (SP z)) (vs:=z.cells) (t:=tt) (λak an _ _=>by cases z<;>first|rfl|exact WC _)
   refine⟨_,_,ρ,_,t,.val (.ptr H.af.length 0),_,_,h,hq,di _,Ag _ _,hb,⟨0,λn _=>zmP hz hk⟩,.inl rfl,λak an h1 h2 v' cP=>?_,λb hb A hA=>?_⟩
   rotate_left
   ·simp only[j7,aO,Cp.wr.injEq] at hb;subst hb;exact zdx (by rw[<- hr.na] at hA;simpa[pd,zf] using hA)
   cases cP;simp only[aQ,bw];rw[jo h2 (by simp[hr.na])]
   simp[pd,zf,<- hr.na]
  ·cases h
 ·cases h
def WO{x:SC}{v:V}(hk:QC σ.ks x=true)(h:∀i k,nth σ.ks i=some k->fm k (at' ρ i)=true)(he:aQ ρ pa x=v):eF v=true/\v.laid=aG ρ pa (iR x):=by
 obtain⟨h1,_,h3⟩:=WD (pa:=pa) h hk;rw[<- he];exact⟨h1,h3⟩
def D3{tt:ai}{x:aH}(h:iS P takes σ ⟨dst,.box tt x,type,pos,after,guard⟩ k=some t)(hr:Rel n0 B ρ pa σ ⟨env,H,lk,df⟩)(hq:bU ph gl N t ρ=some r) :
  Step P gl ph N r n0 B k takes ⟨dst,.box tt x,type,pos,after,guard⟩ σ ρ pa ⟨env,H,lk,df⟩:=by
 simp only[iS] at h;obtain⟨e',sc,bB,v,h1,h2,h3,h4⟩:=WM h hr;split at h1
 ·rename_i hk;have hl:=WO hk h3.here.ks (h4 ρ pa (di _) (di _));have hb:=h3.block (cs:=iR sc) (vs:=v.laid) (t:=tt) (λak an e1 e2=>(WO hk (h3.ext ak an e1 e2).ks (h4 ak an e1 e2)).2.symm);refine⟨_,_,ρ,_,t,.val (.ptr H.af.length 0),_,_,h1,hq,di _,Ag _ _,hb,⟨0,λn _=>by rw[wb,h2,qQ hl.1]⟩,.inl rfl,λak an e1 e2 v' cP=>?_,λb hb A hA=>?_⟩
  rotate_left
  ·simp only[j7,aO,Cp.wr.injEq] at hb;subst hb;exact zdx (by rw[<- hr.na] at hA;simpa[pd,zf] using hA)
  cases cP;simp only[aQ,bw];rw[jo e2 (by simp[hr.na])]
  simp[pd,zf,<- hr.na]
 ·cases h1
def zkt(hk:∀i k,nth σ.ks i=some k->fm k (at' ρ i)=true)(ht:aA ρ=0){c:C}(h:Wi σ.ks c=true):locked (bw ρ pa c)=false:=by
 cases c with
 | k v=>simpa[Wi,bw] using h
 | v i cl =>
  have:=(Tg (pa:=pa) hk ht (c:=.v i false) h).2.1;cases cl
  ·exact this
  ·simp only[bw];cases hv:at' ρ i<;>rfl
 | sl sz tl o=>cases o<;>first|rfl|cases h
 | CV i=>cases h
 | _=>rfl
def zik(hk:∀i k,nth σ.ks i=some k->fm k (at' ρ i)=true)(ht:aA ρ=0):∀{cs:List C},Wj σ.ks cs=true->∀v∈aG ρ pa cs,locked v=false
 | [],_,v,hv=>by simp[aG] at hv
 | c::cs,h,v,hv=>by
  simp only[Wj,bN] at h;simp only[aG,cS] at hv;rcases hv with rfl|hv
  ·exact zkt hk ht h.1
  ·exact zik hk ht h.2 v hv
def zku{gm:aC}{a b:Nat}(hk:∀i k,nth σ.ks i=some k->fm k (at' ρ i)=true)(ht:aA ρ=0) :
  ∀{n off:Nat}{cs:List C},SZ gm σ.ks a off n cs=true->(∀i c,nth cs i=some c->ye gm a (off+i)=true->locked (bw ρ pa c)=true->lk.any (λp=>Nat.beq p.1 b && Nat.beq p.2 (off+i))=true)->wK lk b off n (aG ρ pa cs)=true
 | 0,_,cs,_,_=>by simp[wK]
 | n+1,off,[],h,_=>by simp[SZ] at h
 | n+1,off,c::cs,h,hl=>by
  simp only[SZ,bN,gZ] at h;simp only[aG,wK,bN,gZ,ue];refine⟨?_,zku hk ht h.2 λi c' h1 h2 h3=>?_⟩
  ·cases Ak:locked (bw ρ pa c) with
   | false=>exact .inl rfl
   | true =>
    right
    rcases h.1 with h1|h1
    ·exact hl 0 c rfl h1 Ak
    ·rw[zkt hk ht h1] at Ak;cases Ak
  ·have:=hl (i+1) c' h1 (by rw[show off+(i+1)=off+1+i by omega];exact h2) h3
   rw[show off+(i+1)=off+1+i by omega] at this
   exact this
def zfK{cs:List C}{n:Nat}:aG ρ pa (cs.drop n)=(aG ρ pa cs).drop n:=by simp only[qj,List.map_drop]
def zaO{α:Type}:∀{vs cs:List α}{off i:Nat}{c:α},(storeCells cs off vs)[i]?=some c->(off<=i/\i<off+vs.length/\c∈vs)\/(cs[i]?=some c)
 | [],cs,off,i,c,h=>.inr h
 | v::vs,cs,off,i,c,h=>by
  simp only[storeCells] at h;rcases zaO h with⟨h1,h2,h3⟩|h1
  ·exact .inl ⟨by omega,by simp;omega,cZ _ h3⟩
  ·rw[AM] at h1;split at h1
   ·rename_i e;subst e;split at h1
    ·cases h1;exact .inl ⟨bV _,by simp,ew⟩
    ·cases h1
   ·exact .inr h1
def uo{tt:ai}{a x:aH}(h:iS P takes σ ⟨dst,.store tt a x,type,pos,after,guard⟩ k=some t)(hr:Rel n0 B ρ pa σ ⟨env,H,lk,df⟩)(hq:bU ph gl N t ρ=some r) :
  Step P gl ph N r n0 B k takes ⟨dst,.store tt a x,type,pos,after,guard⟩ σ ρ pa ⟨env,H,lk,df⟩:=by
 simp only[iS] at h;split at h
 ·rename_i a' off ha;have hp:=ja hr.here ha;simp only[bw] at hp;obtain⟨e',sc,bB,v,h1,h2,h3,h4⟩:=WM h hr;split at h1
  ·rename_i n cs ty hn hf;split at h1
   ·rename_i hc;simp only[bN,gZ] at hc;obtain⟨⟨⟨⟨⟨c0,c5⟩,c1⟩,c2⟩,c3⟩,c4⟩:=hc;have F_:=h3.here.af _ _ _ hf;have hN:=h3.bn _ _ hf;have dz:∀ak an,ρ <+: ak->pa <+: an->aG ak an cs=aG ρ pa cs:=λak an h1 h2=>by
     have:=(h3.ext ak an h1 h2).af _ _ _ hf;rw[jo h2 (by rw[h3.na];exact hN),F_] at this
     simpa using this.symm
    have hl:=WO c1 h3.here.ks (h4 ρ pa (di _) (di _));have lY:∀ak an,ρ <+: ak->pa <+: an->aG ak an (iR sc)=v.laid:=λak an e1 e2=>(WO c1 (h3.ext ak an e1 e2).ks (h4 ak an e1 e2)).2.symm;have hlen:v.laid.length=n:=by rw[<- lY ρ pa (di _) (di _),qm];exact jP c2
    have Av:wK lk (pd pa a') off n ((aG ρ pa cs).drop off)=true:=by
     rw[<- zfK];refine zku h3.here.ks h3.top c4 λi c hi hlh Ak=>?_;refine h3.lk a' (off+i) hlh (aG ρ pa cs) ty (bw ρ pa c) F_ ?_ Ak;rw[zf,HN] at hi;rw[qj,wn,zf,hi];rfl
    have az:∀cx:Cx,cx.P=P->cx.op takes ⟨dst,.store tt a x,type,pos,after,guard⟩ env H lk df=some (.skip,⟨bB,(H.set (pd pa a') (.cells (storeCells (aG ρ pa cs) off v.laid) ty)).bQ (pd pa a') v,lk,df⟩):=by
     rintro cx rfl;rw[zh7 hn (by intro b u k e;rw[hp] at e;cases e),hp,h2]
     simp only[Qt,F_,hl.1,hlen,pP,qm,c3,Av,oP,aT]
    have bX:σ.nf<=a'\/v.top=0:=by
     rcases c0 with c0|c0
     ·exact .inl (Z_ c0)
     ·right
      have hd:=(wF (pa:=pa) h3.here.ks h3.top c0).1;rw[lY ρ pa (di _) (di _)] at hd;have QT:=h4 ρ pa (di _) (di _);rw[<- QT] at hd ⊢;cases sc with
      | one c =>
       obtain⟨_,_,h9⟩:=WD (pa:=pa) h3.here.ks c1;rw[h9] at hd;simp only[iR,aG,aA] at hd;simp only[aQ];omega
      | agg cs' =>
       simp only[aQ,V.laid] at hd;simp only[aQ,V.top];refine Tb λw hw=>?_;have:=vT (G0 (f:=aX) hw) hd
       rwa [dw] at this
    have hw:=h3.write (oM:=lk) (lV:=σ.lk) (v:=v) (cs:=storeCells cs off (iR sc)) (vs:=storeCells (aG ρ pa cs) off v.laid) hf (λak an e1 e2=>by rw[zbs,dz ak an e1 e2,lY ak an e1 e2]) bX
     (λb o hb=>h3.ln b o hb) (λb o _ _ hb=>hb) (λx hx=>hx) (λo c hb hc mW=>?_)
    ·exact⟨_,_,ρ,pa,t,.skip,_,.bx [],h1,hq,di _,di _,hw,⟨0,λn _=>az _ rfl⟩,.inr ⟨rfl,rfl⟩,λak an e1 e2 v' cP=>by cases cP;rfl,λb hb A hA=>by
      simp only[j7,ha,aO,Cp.wr.injEq] at hb;subst hb;simp only[WH]
      exact yK (λe=>hA e.symm)⟩
    ·rw[zf] at hc;rcases zaO hc with⟨h5,h6,h7⟩|h5
     ·rw[<- lY ρ pa (di _) (di _)] at h7;rw[zik h3.here.ks h3.top c5 c h7] at mW;cases mW
     ·exact h3.lk a' o hb (aG ρ pa cs) ty c F_ (by rw[zf];exact h5) mW
   ·cases h1
  ·cases h1
 ·cases h
end
section
set_option linter.unusedSectionVars false
variable{P:aD}{gl:Gl}{ph:PH}{N:Nat}{r:Nat×aj}{ρ aY:aj}{pa bM:aR}{σ:Sg}{s:St}{n0:Nat}{B:List aN}{env:aj}{H:Hp}{lk:aC}{df:aV}{takes:bA}{k:KT}{t:Tree}
variable [ir gl]
variable{dst:eC}{type:ai}{pos:String}{after:Array Edge}{guard:i_}
def Tj{o:Oper}{sv:SV}(hk:k σ sv=some t)(hq:bU ph gl N t ρ=some r)(hr:Rel n0 B ρ pa σ ⟨env,H,lk,df⟩)
  (ho:∀ak an,ρ <+: ak->pa <+: an->∃v,jA ak an sv=some v/\∀n,Cx.op ⟨P,gl,zl P gl n,gl.uq⟩ takes o env H lk df=some (.val v,⟨env,H,lk,df⟩)) :
  Step P gl ph N r n0 B k takes o σ ρ pa ⟨env,H,lk,df⟩:=by
 obtain⟨v,h1,h2⟩:=ho ρ pa (di _) (di _);refine qk hk hq (di _) hr (v:=v) h2 λak an e1 e2 v' cP=>?_;obtain⟨w,h3,h4⟩:=ho ak an e1 e2;have:=(h2 0).symm.trans (h4 0);simp only[aO,bP,OR.val.injEq] at this;rw[this.1];exact tU (cP.symm.trans h3)
def zqV{op:BinOp}{tt u:ai}{x y:aH}(h:iS P takes σ ⟨dst,.binOp op tt x y u,type,pos,after,guard⟩ k=some t)(hr:Rel n0 B ρ pa σ ⟨env,H,lk,df⟩)(hq:bU ph gl N t ρ=some r)(iX:qy takes dst=false) :
  Step P gl ph N r n0 B k takes ⟨dst,.binOp op tt x y u,type,pos,after,guard⟩ σ ρ pa ⟨env,H,lk,df⟩:=by
 have pure:∀{t:Tree},yd P σ (.binOp op tt x y u) k=some t->bU ph gl N t ρ=some r->Step P gl ph N r n0 B k takes ⟨dst,.binOp op tt x y u,type,pos,after,guard⟩ σ ρ pa ⟨env,H,lk,df⟩:=λh hq=>xD (o:=⟨dst,.binOp op tt x y u,type,pos,after,guard⟩) h hr hq iX
 have qr:∀(kd:IntKind)(a b:TI)(c:TB),(op=.quo\/op=.rem)->BG σ x=some (kd,a)->BG σ y=some (kd,b)->(∀ρ:aj,bk ρ c=true->bG ρ b≠0)->yb c (k σ (.val (.one (.i kd (.bin op kd a b)))))=some t->Step P gl ph N r n0 B k takes ⟨dst,.binOp op tt x y u,type,pos,after,guard⟩ σ ρ pa ⟨env,H,lk,df⟩:=by
  intro kd a b c az h1 h2 hc h;obtain⟨t1,h3,h4,h5⟩:=kr h hq;have e0:=jD hr.here h2;have nz:=hc ρ h5;refine Tj h3 h4 hr λak an e1 e2=>⟨_,rfl,λn=>?_⟩;have e4:=jD (hr.ext ak an e1 e2) h1;have e5:=jD (hr.ext ak an e1 e2) h2;have nz':bG ak b≠0:=by
   have:=e0.symm.trans e5;simp only[aO,V.int.injEq,fK] at this;rw[<- this];exact nz
  rw[zE,e4,e5];rcases az with rfl|rfl<;>simp[j6,jK,vn,v6,nz',aQ,bw,bG,fz,fU]
 have sh:∀(kd MJ:IntKind)(a b:TI)(c:TB),(op=.shl\/op=.shr)->BG σ x=some (kd,a)->BG σ y=some (MJ,b)->(∀ρ:aj,bk ρ c=true->0<=bG ρ b)->yb c (k σ (.val (.one (.i kd (.bin op kd a b)))))=some t->Step P gl ph N r n0 B k takes ⟨dst,.binOp op tt x y u,type,pos,after,guard⟩ σ ρ pa ⟨env,H,lk,df⟩:=by
  intro kd MJ a b c az h1 h2 hc h;obtain⟨t1,h3,h4,h5⟩:=kr h hq;have e0:=jD hr.here h2;have nz:=hc ρ h5;refine Tj h3 h4 hr λak an e1 e2=>⟨_,rfl,λn=>?_⟩;have e4:=jD (hr.ext ak an e1 e2) h1;have e5:=jD (hr.ext ak an e1 e2) h2;have nz':¬bG ak b<0:=by
   have:=e0.symm.trans e5;simp only[aO,V.int.injEq,fK] at this;rw[<- this];omega
  rw[zE,e4,e5];rcases az with rfl|rfl<;>simp[j6,jK,vn,Vb,nz',aQ,bw,bG,fz,fU]
 cases op<;>simp only[iS] at h
 case quo =>
  split at h
  ·rename_i kd a MJ b h1 h2;split at h
   ·rename_i hk;subst hk;refine qr _ _ _ _ (.inl rfl) h1 h2 (λρ hb=>?_) h;split at hb
    ·simp only[bG];intro h;exact absurd (Int.ofNat.inj h) (PW _)
    ·simp only[bk,CW,bG,ue,beq_eq_false_iff_ne] at hb;exact hb
   ·cases h
  ·cases h
 case rem =>
  split at h
  ·rename_i kd a MJ b h1 h2;split at h
   ·rename_i hk;subst hk;refine qr _ _ _ _ (.inr rfl) h1 h2 (λρ hb=>?_) h;split at hb
    ·simp only[bG];intro h;exact absurd (Int.ofNat.inj h) (PW _)
    ·simp only[bk,CW,bG,ue,beq_eq_false_iff_ne] at hb;exact hb
   ·cases h
  ·cases h
 case shl =>
  split at h
  ·rename_i kd a MJ b h1 h2;refine sh _ _ _ _ _ (.inl rfl) h1 h2 (λρ hb=>?_) h;split at hb
   ·exact Int.natCast_nonneg _
   ·exact of_decide_eq_true hb
  ·cases h
 case shr =>
  split at h
  ·rename_i kd a MJ b h1 h2;refine sh _ _ _ _ _ (.inr rfl) h1 h2 (λρ hb=>?_) h;split at hb
   ·exact Int.natCast_nonneg _
   ·exact of_decide_eq_true hb
  ·cases h
 case add =>
  split at h
  ·rename_i a b h1 h2;obtain⟨t1,h3,h4,h5⟩:=kr h hq;have f1:=QS hr.here h1;have f2:=QS hr.here h2;simp only[bk] at h5;refine Tj h3 h4 hr λak an e1 e2=>⟨_,rfl,λn=>?_⟩;have e4:=QS (hr.ext ak an e1 e2) h1;have e5:=QS (hr.ext ak an e1 e2) h2;have g1:gX ak a=gX ρ a:=by have:=f1.symm.trans e4;simpa using this.symm
   have g2:gX ak b=gX ρ b:=by have:=f2.symm.trans e5;simpa using this.symm
   have:=Z_ h5;rw[zE,e4,e5];simp[j6,jK,vn,Rz,aQ,bw,gX,g1,g2,this,fU]
  ·exact pure h hq
 all_goals exact pure h hq
def zo3{a b:ai}{x:aH}(h:iS P takes σ ⟨dst,.convert a b x,type,pos,after,guard⟩ k=some t)(hr:Rel n0 B ρ pa σ ⟨env,H,lk,df⟩)(hq:bU ph gl N t ρ=some r)(iX:qy takes dst=false) :
  Step P gl ph N r n0 B k takes ⟨dst,.convert a b x,type,pos,after,guard⟩ σ ρ pa ⟨env,H,lk,df⟩:=by
 simp only[iS] at h;split at h
 ·rename_i e c h1 h2 hc;split at h
  ·rename_i l h3 hl;have az:∀(ak:aj)(an:aR)(s:aR),ρ <+: ak->pa <+: an->mc (cV ak l)=some s->∀n,Cx.op ⟨P,gl,zl P gl n,gl.uq⟩ takes ⟨dst,.convert a b x,type,pos,after,guard⟩ env H lk df=some (.val (.str s),⟨env,H,lk,df⟩):=by
    intro ak an s e1 e2 hb n;have hp:=hr.ext ak an e1 e2;rw[yF (zoP (by rw[h1,h2];simp)),ja hp hc]
    rcases MN (pa:=an) hp.ks hl with⟨e3,e4⟩|⟨o,e3⟩
    ·rw[e4] at hb;cases hb;simp only[e3,cG,vM,h1,h2,h3,Option.bind_eq_bind];rfl
    ·simp only[e3,cG,vM,h1,h2,h3,Option.bind_eq_bind,hb,cA];rfl
   split at h
   next hn=>refine Tj h hq hr λak an e1 e2=>⟨_,rfl,az ak an [] e1 e2 ?_⟩;rw[MK ak hn];rfl
   ·split at h
    ·rename_i t1 ht;cases h;simp only[bU] at hq;split at hq
     next s hs=>have mX:=hr.oU (v:=.str s) (ck:=.str) rfl rfl;refine qk ht hq (Ag _ _) mX (v:=.str s) (az ρ pa s (di _) (di _) hs) λak an e1 e2 v' cP=>?_;cases cP;simp only[aQ,bw,gX];rw[vU e1 hr.kl.symm];rfl
     ·cases hq
    ·cases h
  ·cases h
 ·exact xD (o:=⟨dst,.convert a b x,type,pos,after,guard⟩) h hr hq iX
def zo4{e:ai}{l:TL}{i:TI}{k:Sg->SC->Option Tree}(h:Z7 P σ e l i k=some t)(hr:Rel n0 B ρ pa σ s)(hq:bU ph gl N t ρ=some r) :
  ∃iZ sc aY t' v,nth (cV ρ l) (bG ρ i).toNat=some v/\0<=bG ρ i/\k { σ with ks:=iZ } sc=some t'/\bU ph gl N t' aY=some r/\ρ <+: aY/\Rel n0 B aY pa { σ with ks:=iZ } s/\(∀ak an,aY <+: ak->aQ ak an sc=v)/\(∀ak an,aY <+: ak->aG ak an (gP sc)=v.cells):=by
 unfold Z7 at h;split at h
 ·rename_i t1 ht;cases h;simp only[bU] at hq;split at hq
  ·cases hq
  ·rename_i hi;split at hq
   ·rename_i v hv;have bX:v.top=0:=vT (by rw[zf] at hv;exact oH hv) (yY hr.top l)
    have mX:=hr.oU (v:=v) (ck:=.raw) rfl bX;obtain⟨iZ,sc,aY,t',h1,h2,h3,h4,h5,h6⟩:=WL ht mX (by simp) hq
    have fP:at' (ρ++[v]) σ.ks.length=v:=by rw[<- hr.kl];exact xC
    exact⟨iZ,sc,aY,t',v,hv,by omega,h1,h2,QU h3,h4,λak an e=>by rw[h5 ak an e,fP],λak an e=>by rw[h6 ak an e,fP]⟩
   ·cases hq
 ·cases h
def zqW{e:ai}{cs:List C}{i:TI}{k:Sg->SC->Option Tree}(h:Z8 P σ e cs i k=some t)(hd:vr σ.ks cs=true)(hr:Rel n0 B ρ pa σ s)(hq:bU ph gl N t ρ=some r) :
  ∃iZ sc aY t' v,nth (aG ρ pa cs) (bG ρ i).toNat=some v/\0<=bG ρ i/\k { σ with ks:=iZ } sc=some t'/\bU ph gl N t' aY=some r/\ρ <+: aY/\Rel n0 B aY pa { σ with ks:=iZ } s/\(∀ak an,aY <+: ak->aQ ak an sc=v)/\(∀ak an,aY <+: ak->aG ak an (gP sc)=v.cells)/\locked v=false:=by
 obtain⟨d1,d2,d3⟩:=wF (pa:=pa) hr.here.ks hr.top hd;unfold Z8 at h;split at h
 ·rename_i t1 ht;cases h;simp only[bU] at hq;split at hq
  ·cases hq
  ·rename_i hi;split at hq
   ·rename_i v hv;rw[d3 []] at hv;have hm:v∈aG ρ pa cs:=by rw[zf] at hv;exact oH hv
    have mX:=hr.oU (v:=v) (ck:=.raw) rfl (vT hm d1);obtain⟨iZ,sc,aY,t',h1,h2,h3,h4,h5,h6⟩:=WL ht mX (by simp) hq
    have fP:at' (ρ++[v]) σ.ks.length=v:=by rw[<- hr.kl];exact xC
    exact⟨iZ,sc,aY,t',v,hv,by omega,h1,h2,QU h3,h4,λak an e=>by rw[h5 ak an e,fP],λak an e=>by rw[h6 ak an e,fP],d2 v hm⟩
   ·cases hq
 ·cases h
def WQ{i:TI}{f:Nat->SV}{m:Int}{k:KT}:∀{c j:Nat}{σ:Sg}{t:Tree},QH i f k σ j c=some t->Rel n0 B ρ pa σ s->bU ph gl N t ρ=some r->(∀ak an,ρ <+: ak->pa <+: an->bG ak i=m) ->
  ∃j' K5 t',j<=j'/\j'<j+c/\m=(j':Int)/\k { σ with as:=K5 } (f j')=some t'/\bU ph gl N t' ρ=some r/\Rel n0 B ρ pa { σ with as:=K5 } s
 | 0,j,σ,t,h,hr,hq,hm=>by
  cases h;simp[bU,bk] at hq
 | c+1,j,σ,t,h,hr,hq,hm=>by
  simp only[QH] at h;have b8:∀ak an,ρ <+: ak->pa <+: an->bk ak (.cmp .eql i (.lit (.ofNat j)))=(m == (j:Int)):=λak an e1 e2=>by
   simp only[bk,CW,hm ak an e1 e2,bG];rfl
  have h0:=b8 ρ pa (di _) (di _);split at h
  next hk=>have:=jX hr.here.as hk;rw[h0] at this;exact⟨j,σ.as,t,bV _,by omega,eq_of_beq this,h,hq,hr⟩
  next hk=>obtain⟨j',K5,t',h1,h2,h3⟩:=WQ h hr hq hm;exact⟨j',K5,t',by omega,by omega,h3⟩
  ·obtain⟨ta,tb,h1,h2,h3⟩:=Th h hq;rcases h3 with⟨h3,h4⟩|⟨h3,h4⟩
   ·rw[h0] at h3;exact⟨j,_,ta,bV _,by omega,eq_of_beq h3,h1,h4,hr.cond λak an e1 e2=>by rw[b8 ak an e1 e2];exact h3⟩
   ·rw[h0] at h3;have mX:=hr.cond (c:=mkNot (.cmp .eql i (.lit (.ofNat j)))) λak an e1 e2=>by rw[jQ,b8 ak an e1 e2,h3];rfl
    obtain⟨j',K5,t',g1,g2,g3⟩:=WQ h2 mX h4 hm;exact⟨j',K5,t',by omega,by omega,g3⟩
def zng{tt:ai}{x ix:aH}(h:iS P takes σ ⟨dst,.indexAddr tt x ix,type,pos,after,guard⟩ k=some t)(hr:Rel n0 B ρ pa σ ⟨env,H,lk,df⟩)(hq:bU ph gl N t ρ=some r)(iX:qy takes dst=false) :
  Step P gl ph N r n0 B k takes ⟨dst,.indexAddr tt x ix,type,pos,after,guard⟩ σ ρ pa ⟨env,H,lk,df⟩:=by
 simp only[iS] at h;split at h
 ·rename_i e kd i hu hi;have ei:=jD hr.here hi;split at h
  ·rename_i n c hn hc;split at h
   ·rename_i l hl;obtain⟨iZ,sc,aY,t',v,g1,g2,g3,g4,g5,g6,g7,g8⟩:=zo4 h hr hq;refine qk g3 g4 g5 g6 (v:=.vp v.cells) (λnn=>?_) λak an e1 e2 v' cP=>by cases cP;rw[g8 ak an e1]
    rw[qK,ja hr.here hc,ei];simp only[gW];rcases MN (pa:=pa) hr.here.ks hl with⟨_,e4⟩|⟨o,e3⟩
    ·rw[e4] at g1;simp[nth] at g1
    ·have bu:¬bG ρ i<0:=by omega
     rw[e3];simp[zO,hu,hn,g1,bu,fU]
   ·cases h
  ·cases h
 ·rename_i len e kd i hu hi;have ei:=jD hr.here hi;have hm:∀ak an,ρ <+: ak->pa <+: an->bG ak i=bG ρ i:=λak an e1 e2=>by
   have:=(jD (hr.ext ak an e1 e2) hi).symm.trans ei;simpa using this
  split at h
  next v hv=>exact xD (o:=⟨dst,.indexAddr tt x ix,type,pos,after,guard⟩) (by simp only[yd,hv];exact h) hr hq iX
  ·split at h
   ·rename_i n cs hn hx;split at h
    ·obtain⟨j,K5,t',h1,h2,h3,h4,h5,h6⟩:=WQ h hr hq hm;have b8:∀ak an,ρ <+: ak->pa <+: an->aq env x=some (.vp (aG ak an cs)):=λak an e1 e2=>by
      obtain⟨w,hw1,hw2⟩:=wE (hr.ext ak an e1 e2) hx;cases hw2;exact hw1
     refine qk h4 h5 (di _) h6 (v:=.vp ((aG ρ pa cs).drop (j * n))) (λnn=>?_) λak an e1 e2 v' cP=>?_
     ·rw[qK,b8 ρ pa (di _) (di _),ei,h3];simp[gW,zO,hu,hn,show j<len by omega,fU]
     ·cases cP;rw[zfK];have:=(b8 ak an e1 e2).symm.trans (b8 ρ pa (di _) (di _));simp only[aO,V.vp.injEq] at this;rw[this]
    ·cases h
   ·rename_i n a off hn hx;split at h
    ·obtain⟨j,K5,t',h1,h2,h3,h4,h5,h6⟩:=WQ h hr hq hm;have b8:∀ak an,ρ <+: ak->pa <+: an->aq env x=some (.ptr (pd an a) off):=λak an e1 e2=>kN (hr.ext ak an e1 e2) hx;refine qk h4 h5 (di _) h6 (v:=.ptr (pd pa a) (off+j * n)) (λnn=>?_) λak an e1 e2 v' cP=>?_
     ·rw[qK,b8 ρ pa (di _) (di _),ei,h3];simp[gW,zO,hu,hn,show j<len by omega,fU]
     ·cases cP;simp only[aQ,bw];have:=(b8 ak an e1 e2).symm.trans (b8 ρ pa (di _) (di _));simp only[aO,V.ptr.injEq,r8] at this;rw[this]
    ·cases h
   ·cases h
 ·cases h
def znh{tt:ai}{x ix:aH}(h:iS P takes σ ⟨dst,.index tt x ix,type,pos,after,guard⟩ k=some t)(hr:Rel n0 B ρ pa σ ⟨env,H,lk,df⟩)(hq:bU ph gl N t ρ=some r)(iX:qy takes dst=false) :
  Step P gl ph N r n0 B k takes ⟨dst,.index tt x ix,type,pos,after,guard⟩ σ ρ pa ⟨env,H,lk,df⟩:=by
 simp only[iS] at h;split at h
 ·rename_i kd i hu hi;split at h
  ·rename_i s' hs;obtain⟨t1,h1,h2,h3⟩:=kr h hq;have ei:=jD hr.here hi;have es:=QS hr.here hs;simp only[bk,bN] at h3;have h31:bG ρ i ≥ 0:=of_decide_eq_true h3.1;have h32:bG ρ i<((gX ρ s').length:Int):=of_decide_eq_true h3.2;refine Tj h1 h2 hr λak an e1 e2=>⟨_,rfl,λnn=>?_⟩;have fi:=jD (hr.ext ak an e1 e2) hi;have fs:=QS (hr.ext ak an e1 e2) hs
   have gi:bG ak i=bG ρ i:=by have:=fi.symm.trans ei;simpa using this
   have gs:gX ak s'=gX ρ s':=by have:=fs.symm.trans es;simpa using this
   rw[ZS,fs,fi];have bu:¬bG ρ i<0:=by omega
   have IK:(bG ρ i).toNat<(gX ρ s').length:=by omega
   simp only[gW,P0,hu,aQ,bw,bG,zmR,gi,gs,bu,aZ];have:nth (gX ρ s') (bG ρ i).toNat=some ((gX ρ s')[(bG ρ i).toNat]'IK):=by rw[zf];simp[IK]
   simp only[this,fU]
  ·cases h
 ·rename_i len e kd i hu hi;have ei:=jD hr.here hi;split at h
  next v hv=>exact xD (o:=⟨dst,.index tt x ix,type,pos,after,guard⟩) (by simp only[yd,hv];exact h) hr hq iX
  ·split at h
   ·rename_i cs hn nD hx;split at h
    ·rename_i hc;simp only[bN] at hc;obtain⟨iZ,sc,aY,t',v,g1,g2,g3,g4,g5,g6,g7,g8,g9⟩:=zqW h hc.2 hr hq;rw[qj,wn,zf,Bk] at g1;split at g1
     ·rename_i bu;refine qk g3 g4 g5 g6 (v:=aX v) (λnn=>?_) λak an e1 e2 v' cP=>by cases cP;rw[kM,g7 ak an e1]
      rw[ZS,kN hr.here hx,ei];have h0:0<=bG ρ i/\bG ρ i<(len:Int):=⟨g2,by omega⟩
      have h1:jZ P e (aG ρ pa cs) ((bG ρ i).toNat * 1)=some v:=by
       rw[kL,nD,V5,qj,wn,ND,zf,g1]
      simp only[gW,P0,hu,hn,aQ,h0,and_self,aT,h1,cA,fU]
     ·simp at g1
    ·cases h
   ·cases h
 ·cases h
def WR{x:Option aH}{d tt:TI}{c:Nat}(hp:iu ρ pa σ env H)(h:Kl σ x d=some tt)(hd:bG ρ d=(c:Int)):∃v,d_ env x=some v/\(0<=bG ρ tt->jL v c=some (bG ρ tt).toNat):=by
 cases x with
 | none=>cases h;exact⟨none,rfl,λ_=>by simp[jL,hd]⟩
 | some x =>
  simp only[Kl] at h;split at h
  next k' t' hi=>cases h;exact⟨some (.int k' (bG ρ tt)),by simp only[d_,jD hp hi],λh0=>by simp[jL,h0]⟩
  ·cases h
def zeF{tt:ai}{x:aH}{lo hi:Option aH}{cx:Cx}(hu:CB cx.P cx.uq tt=false):cx.op takes ⟨dst,.slice tt x lo hi none,type,pos,after,guard⟩ env H lk df=fU env H lk df ((d_ env lo).bind λl=>(d_ env hi).bind λh=>(aq env x).bind λv=>yp cx.P tt v l h):=by
 simp only[Cx.op,hu];refine wT ?_;simp only[qi,Option.isSome_none,bH,aZ,Option.bind_eq_bind]
def zni{tt:ai}{x:aH}{lo hi mx:Option aH}(h:iS P takes σ ⟨dst,.slice tt x lo hi mx,type,pos,after,guard⟩ k=some t)(hr:Rel n0 B ρ pa σ ⟨env,H,lk,df⟩)(hq:bU ph gl N t ρ=some r) :
  Step P gl ph N r n0 B k takes ⟨dst,.slice tt x lo hi mx,type,pos,after,guard⟩ σ ρ pa ⟨env,H,lk,df⟩:=by
 simp only[iS] at h;split at h
 ·cases h
 ·rename_i KS;obtain rfl:mx=none:=by cases mx<;>simp_all
  split at h
  ·rename_i c hu hc;split at h
   ·rename_i s' hs;split at h
    ·rename_i l hh hl Tk;obtain⟨t1,h1,h2,h3⟩:=kr h hq;rw[yJ] at h3;simp only[bk,bN] at h3;have a1:bG ρ (.lit 0)<=bG ρ l:=of_decide_eq_true h3.1;have a2:bG ρ l<=bG ρ hh:=of_decide_eq_true h3.2.1;have a3:bG ρ hh<=bG ρ (.uG s'):=of_decide_eq_true h3.2.2;simp only[bG] at a1 a3;obtain⟨vl,l1,l2⟩:=WR (c:=0) hr.here hl rfl;obtain⟨vh,m1,m2⟩:=WR (c:=(gX ρ s').length) hr.here Tk rfl
     have e0:aq env x=some (.str (gX ρ s')):=by rw[ja hr.here hc,wV (pa:=pa) hr.here.ks hs]
     have az:∀n,Cx.op ⟨P,gl,zl P gl n,gl.uq⟩ takes ⟨dst,.slice tt x lo hi none,type,pos,after,guard⟩ env H lk df=some (.val (.str (((gX ρ s').take (bG ρ hh).toNat).drop (bG ρ l).toNat)),⟨env,H,lk,df⟩):=λn=>by
      rw[zeF (MC (ir.out (gl:=gl)) _),l1,m1,e0];have b1:(bG ρ l).toNat<=(bG ρ hh).toNat:=by omega
      have b2:(bG ρ hh).toNat<=(gX ρ s').length:=by omega
      simp only[cG,yp,hu,Option.bind_eq_bind,m2 (by omega),l2 a1,b1,b2,and_self,aT,fU]
     refine qk h1 h2 (di _) hr az λak an e1 e2 v' cP=>?_;cases cP;have f0:aq env x=some (.str (gX ak s')):=by rw[ja (hr.ext ak an e1 e2) hc,wV (pa:=an) (hr.ext ak an e1 e2).ks hs]
     have gs:gX ak s'=gX ρ s':=by have:=f0.symm.trans e0;simpa using this
     have gb:∀(y:Option aH)(d tt:TI),Kl σ y d=some tt->bG ak d=bG ρ d->bG ak tt=bG ρ tt:=by
      intro y d tt hy hd;cases y with
      | none=>cases hy;exact hd
      | some y =>
       simp only[Kl] at hy;split at hy
       next k' t' hi=>cases hy;have:=(jD (hr.ext ak an e1 e2) hi).symm.trans (jD hr.here hi);simpa using this
       ·cases hy
     simp only[aQ,bw,gX,gs,gb _ _ _ hl rfl,gb _ _ _ Tk (by simp only[bG,gs])]
    ·cases h
   ·cases h
  ·rename_i e c hu hc;split at h
   ·rename_i n hn;split at h
    ·rename_i xs s4;split at h
     ·rename_i l hh hl Tk;obtain⟨t1,h1,h2,h3⟩:=kr h hq;rw[yJ] at h3;simp only[bk,bN] at h3;have a1:bG ρ (.lit 0)<=bG ρ l:=of_decide_eq_true h3.1;have a2:bG ρ l<=bG ρ hh:=of_decide_eq_true h3.2.1;have a3:bG ρ hh<=bG ρ (.len xs):=of_decide_eq_true h3.2.2;simp only[bG] at a1 a3;obtain⟨vl,l1,l2⟩:=WR (c:=0) hr.here hl rfl;obtain⟨vh,m1,m2⟩:=WR (c:=(cV ρ xs).length) hr.here Tk rfl
      have b1:(bG ρ l).toNat<=(bG ρ hh).toNat:=by omega
      have b2:(bG ρ hh).toNat<=(cV ρ xs).length:=by omega
      have e0:=ja hr.here hc;have Tl:bw ρ pa c=.aU->cV ρ xs=[]->∀n,Cx.op ⟨P,gl,zl P gl n,gl.uq⟩ takes ⟨dst,.slice tt x lo hi none,type,pos,after,guard⟩ env H lk df=some (.val .aU,⟨env,H,lk,df⟩):=λhv NO n=>by
       rw[NO] at b2 m2;rw[zeF (MC (ir.out (gl:=gl)) _),l1,m1,e0,hv];have c1:(bG ρ hh).toNat=0:=by simpa using b2
       have c2:(bG ρ l).toNat=0:=by omega
       have m3:=m2 (by omega)
       simp only[List.length_nil] at m3;simp only[cG,yp,hu,Option.bind_eq_bind,m3,l2 a1,hn,c1,c2,and_self,aT,fU]
      have Tm:∀o,bw ρ pa c=.sl n (cV ρ xs) o->∀n',Cx.op ⟨P,gl,zl P gl n',gl.uq⟩ takes ⟨dst,.slice tt x lo hi none,type,pos,after,guard⟩ env H lk df=some (.val (.sl n (((cV ρ xs).take (bG ρ hh).toNat).drop (bG ρ l).toNat) .no),⟨env,H,lk,df⟩):=λo hv n'=>by
       rw[zeF (MC (ir.out (gl:=gl)) _),l1,m1,e0,hv];simp only[cG,yp,hu,Option.bind_eq_bind,m2 (by omega),l2 a1,hn,b1,b2,and_self,aT,fU]
      have gb:∀(ak:aj)(an:aR),ρ <+: ak->pa <+: an->∀(y:Option aH)(d tt:TI),Kl σ y d=some tt->bG ak d=bG ρ d->bG ak tt=bG ρ tt:=by
       intro ak an e1 e2 y d tt hy hd;cases y with
       | none=>cases hy;exact hd
       | some y =>
        simp only[Kl] at hy;split at hy
        next k' t' hi=>cases hy;have:=(jD (hr.ext ak an e1 e2) hi).symm.trans (jD hr.here hi);simpa using this
        ·cases hy
      split at h1
      ·rename_i sz tl o;rcases MN (pa:=pa) hr.here.ks s4 with⟨e3,_⟩|⟨o',e3⟩
       ·cases e3
       ·have e3':=e3;simp only[bw,V.sl.injEq] at e3';obtain⟨rfl,e4,rfl⟩:=e3';refine qk h1 h2 (di _) hr (Tm _ e3) λak an e1 e2 v' cP=>?_;cases cP;have Tn:=hr.ext ak an e1 e2;have gl':cV ak xs=cV ρ xs:=by
         have f0:=(ja Tn hc).symm.trans e0;rcases MN (pa:=an) Tn.ks s4 with⟨f3,_⟩|⟨o'',f3⟩
         ·cases f3
         ·rw[f3,e3] at f0;simp only[aO,V.sl.injEq] at f0;exact f0.2.1
        simp only[aQ,bw,cV,gl',gb ak an e1 e2 _ _ _ hl rfl,gb ak an e1 e2 _ _ _ Tk (by simp only[bG,gl'])]
      ·rename_i i cl;obtain⟨t2,g1,g2⟩:=Te h1 h2;have hv:(bw ρ pa (.v i cl)=.aU/\cV ρ xs=[]/\Ot (at' ρ i) (bG ρ l) (bG ρ hh)=.aU)\/(∃o,bw ρ pa (.v i cl)=.sl n (cV ρ xs) o/\Ot (at' ρ i) (bG ρ l) (bG ρ hh)=.sl n (((cV ρ xs).take (bG ρ hh).toNat).drop (bG ρ l).toNat) .no):=by
        have lY:=MN (pa:=pa) hr.here.ks s4;rcases lY with⟨f1,f2⟩|⟨o,f1⟩
        ·refine .inl ⟨f1,f2,?_⟩;cases cl
         ·simp only[bw] at f1;rw[f1];rfl
         ·simp only[bw] at f1;cases fP:at' ρ i<;>rw[fP] at f1<;>simp only[aX,reduceCtorEq] at f1;rfl
        ·refine .inr ⟨o,f1,?_⟩;cases cl
         ·simp only[bw] at f1;rw[f1];rfl
         ·simp only[bw] at f1;cases fP:at' ρ i<;>rw[fP] at f1<;>simp only[aX,reduceCtorEq,V.sl.injEq] at f1;obtain⟨rfl,rfl,rfl⟩:=f1;rfl
       rcases hv with⟨f1,f2,f3⟩|⟨o,f1,f3⟩
       ·simp only[eo,f3] at g2;exact qk g1 g2 (Ag _ _) (hr.oU (v:=.aU) (ck:=.sl n) rfl rfl) (Tl f1 f2) λak an e1 e2 v' cP=>by cases cP;simp only[aQ,bw];exact vU e1 hr.kl.symm
       ·simp only[eo,f3] at g2;exact qk g1 g2 (Ag _ _) (hr.oU (v:=.sl n (((cV ρ xs).take (bG ρ hh).toNat).drop (bG ρ l).toNat) .no) (ck:=.sl n) (by simp[fm,locked]) (mF (lD (yY hr.top xs) _) _)) (Tm o f1) λak an e1 e2 v' cP=>by cases cP;simp only[aQ,bw];exact vU e1 hr.kl.symm
      ·rcases MN (pa:=pa) hr.here.ks s4 with⟨e3,e4⟩|⟨o',e3⟩
       ·exact qk h1 h2 (di _) hr (Tl e3 e4) λak an e1 e2 v' cP=>by cases cP;rfl
       ·cases e3
      ·cases h1
     ·cases h
    ·cases h
   ·cases h
  ·cases h
end
section
set_option linter.unusedSectionVars false
variable{P:aD}{gl:Gl}{ph:PH}{N:Nat}{r:Nat×aj}{ρ aY:aj}{pa bM:aR}{σ:Sg}{s:St}{n0:Nat}{B:List aN}{env:aj}{H:Hp}{lk:aC}{df:aV}{takes:bA}{k:KT}{t:Tree}
variable [ir gl]
variable{dst:eC}{type:ai}{pos:String}{after:Array Edge}{guard:i_}
def zo5{tt:ai}{x:aH}(h:iS P takes σ ⟨dst,.makeInterface tt x,type,pos,after,guard⟩ k=some t)(hr:Rel n0 B ρ pa σ ⟨env,H,lk,df⟩)(hq:bU ph gl N t ρ=some r) :
  Step P gl ph N r n0 B k takes ⟨dst,.makeInterface tt x,type,pos,after,guard⟩ σ ρ pa ⟨env,H,lk,df⟩:=by
 simp only[iS] at h;split at h
 ·rename_i v hv;split at h
  ·cases h
  ·rename_i hc;simp only[gZ,ue,not_or,Bool.not_eq_true,J8] at hc;obtain⟨t1,h1,h2⟩:=Te h hq;obtain⟨d1,d2⟩:=yn (pa:=pa) hr.here.ks hr.top hc.2;simp only[eo,d2 []] at h2;refine qk h1 h2 (Ag _ _) (hr.oU (v:=.bf tt (aQ ρ pa v)) (ck:=.bf) rfl d1) (v:=.bf tt (aQ ρ pa v)) (λn=>?_) λak an e1 e2 v' cP=>by cases cP;simp only[aQ,bw];exact vU e1 hr.kl.symm
   simp only[Cx.op,qi,kN hr.here hv,hc.1,Option.bind_eq_bind,cG,bH,aZ]
 ·cases h
def zo6{tt:ai}{g:Nat}(cU:∀g off v,gl g off=some v->v.top=0)(h:iS P takes σ ⟨dst,.load tt (.global g),type,pos,after,guard⟩ k=some t)(hr:Rel n0 B ρ pa σ ⟨env,H,lk,df⟩)(hq:bU ph gl N t ρ=some r)(iX:qy takes dst=false) :
  Step P gl ph N r n0 B k takes ⟨dst,.load tt (.global g),type,pos,after,guard⟩ σ ρ pa ⟨env,H,lk,df⟩:=by
 simp only[iS,iX] at h;split at h
 ·rename_i ha;split at h
  ·rename_i t1 ht;cases h;simp only[bU] at hq;split at hq
   ·rename_i v hv;have mX:=hr.oU (v:=v) (ck:=.raw) rfl (cU _ _ _ hv);have fP:at' (ρ++[v]) σ.ks.length=v:=by rw[<- hr.kl];exact xC
    simp only[xW,ha] at ht;split at ht
    ·rename_i ck E7;split at ht
     ·rename_i t' Mw;cases ht;simp only[bU,cond_eq_ite] at hq;split at hq
      ·rename_i hk;have hr3:=mX.kind (i:=σ.ks.length) (by simp) hk
       rw[fP] at hk;refine qk Mw hq (Ag _ _) hr3 (v:=aX v) (λn=>?_) λak an e1 e2 v' cP=>?_
       ·rw[Ta iX];simp only[aq,cG,zA,ha,hv,Option.bind_eq_bind,cA,bH,aZ,fU]
       ·cases cP;rw[kM];simp only[aQ,bw];rw[vU e1 hr.kl.symm]
      ·cases hq
     ·cases ht
    ·cases ht
   ·cases hq
  ·cases h
 ·cases h
def WS{x y:TL}:cV ρ (QE x y)=cV ρ x++cV ρ y:=by
 unfold QE;split<;>simp[cV]
def zkv{l:TL}(h:Ec l=true):cV ρ l≠[]:=by
 cases l<;>first|(cases h;done)|(simp only[cV];exact λh=>by simp at h)
def sk{tt:ai}{x y:aH}{ts:Array ai}(YR:ts=#[tt,tt])(h:Z5 P σ tt x y k=some t)(hr:Rel n0 B ρ pa σ ⟨env,H,lk,df⟩)(hq:bU ph gl N t ρ=some r) :
  Step P gl ph N r n0 B k takes ⟨dst,.call ⟨.builtin .append,#[x,y],ts⟩,type,pos,after,guard⟩ σ ρ pa ⟨env,H,lk,df⟩:=by
 subst YR;unfold Z5 at h;split at h
 ·rename_i e hu;split at h
  ·rename_i n ti yc hn hi hyc;split at h
   ·rename_i z l hz hl;split at h
    ·cases h
    ·rename_i QV;simp only[gZ,ue,not_or,J8,Bool.not_eq_true] at QV;have Kf:n≠0:=λe=>by rw[e] at QV;simp at QV
     obtain⟨e',sc,bB,v,h1,h2,h3,h4⟩:=WM h hr;have To:∀ak an,ρ <+: ak->pa <+: an->∃yv,aq env y=some yv/\kE P H e yv=some (cV ak l):=λak an e1 e2=>by
      have hp:=hr.ext ak an e1 e2;refine⟨_,ja hp hyc,?_⟩;rcases MN (pa:=an) hp.ks hl with⟨f1,f2⟩|⟨o,f1⟩
      ·rw[f1,f2];rfl
      ·rw[f1];simp[kE,hn]
     have b8:∀ak an,ρ <+: ak->pa <+: an->cV ak l=cV ρ l:=λak an e1 e2=>by
      obtain⟨yv,g1,g2⟩:=To ak an e1 e2;obtain⟨yw,g3,g4⟩:=To ρ pa (di _) (di _);rw[g1] at g3;cases g3;rw[g2] at g4;exact tU g4
     obtain⟨yv,H7,P9⟩:=To ρ pa (di _) (di _);have Ai:Nat.beq n 0=false:=QV.2;have key:∀u,(∀z',z=z'->jN P H tt v yv=some u)->∀n',Cx.op ⟨P,gl,zl P gl n',gl.uq⟩ takes ⟨dst,.call ⟨.builtin .append,#[x,y],#[tt,tt]⟩,type,pos,after,guard⟩ env H lk df=some (.val u,⟨bB,H,lk,df⟩):=λu Aw n'=>by
      rw[zfE (MC (ir.out (gl:=gl)) _),H7,h2];simp only[Qu,cG,Aw z rfl]
     have app:∀w,v=.aU->(match cV ρ l with|[]=>some V.aU|ys=>if jJ ys.length ti.bytes && !Nat.beq n 0 then some (V.sl n ys (.yes e)) else none)=some w->jN P H tt v yv=some w:=λw hv hw=>by
      subst hv;simp only[jN,hu,hn,hi,hz,Option.bind_eq_bind,cG,QV.1,pI,bH,aZ,P9];exact hw
     have OB:∀xs,v=.sl n xs (.yes e)->jJ (xs.length+(cV ρ l).length) ti.bytes=true->jN P H tt v yv=some (.sl n (xs++cV ρ l) (.yes e)):=λxs hv hw=>by
      subst hv;simp only[jN,hu,hn,hi,hz,Option.bind_eq_bind,cG,QV.1,pI,bH,aZ,P9,pP,Ai,hw,Dr,oP,aT]
     have IL:=yY hr.top l;have Ll:=h4 ρ pa (di _) (di _);split at h1
     ·
      simp only[aQ,bw] at Ll;split at h1
      ·rename_i hs;obtain⟨t1,g1,g2,g3⟩:=kr h1 hq;simp only[bk] at g3;refine qk g1 g2 (di _) h3 (v:=.sl n (cV ρ l) (.yes e)) (key _ λ_ _=>app _ Ll.symm ?_) λak an e1 e2 v' cP=>by cases cP;simp only[aQ,bw];rw[b8 ak an e1 e2]
       split
       next h0=>exact absurd h0 (zkv hs)
       ·simp[g3,Ai]
      ·obtain⟨t0,g1,g2,g3⟩:=kr h1 hq;obtain⟨t1,g4,g5⟩:=Te g1 g2;simp only[bk] at g3;simp only[eo,bw,MH] at g5;have hk:fm (.sl n) (match cV ρ l with|[]=>V.aU|ys=>.sl n ys (.yes e))=true:=by split<;>simp[fm,locked]
       have ht:(match cV ρ l with|[]=>V.aU|ys=>.sl n ys (.yes e)).top=0:=by split<;>first|rfl|exact IL
       refine qk g4 g5 (Ag _ _) (h3.oU hk ht) (key _ λ_ _=>app _ Ll.symm ?_) λak an e1 e2 v' cP=>by cases cP;simp only[aQ,bw];exact vU e1 hr.kl.symm
       cases hL:cV ρ l with
       | nil=>rfl
       | cons a b=>rw[hL] at g3;simp only[g3,Ai,Dr,oP,aT]
     ·rename_i sz xs e2;split at h1
      ·rename_i hc;simp only[bN] at hc;obtain rfl:=jP hc.1;obtain rfl:=jP hc.2;obtain⟨t1,g1,g2,g3⟩:=kr h1 hq;simp only[bk,WS,oI] at g3;simp only[aQ,bw] at Ll;refine qk g1 g2 (di _) h3 (v:=.sl n (cV ρ xs++cV ρ l) (.yes e)) (key _ λ_ _=>OB _ Ll.symm g3) λak an e1 e2 v' cP=>?_;cases cP;have:=h4 ak an e1 e2;rw[<- Ll] at this
       simp only[aQ,bw,V.sl.injEq,fK,r8] at this;simp only[aQ,bw,WS,b8 ak an e1 e2,this]
      ·cases h1
     ·rename_i j;split at h1
      ·rename_i sz hkj;split at h1
       ·rename_i hc;have:=jP hc;subst this;obtain⟨t0,g1,g2,g3⟩:=kr h1 hq;obtain⟨t1,g4,g5,g6⟩:=kr g1 g2;simp only[bk,WS,cV,oI] at g6;simp only[bk] at g3;simp only[aQ,bw] at Ll;have Ed:=h3.here.ks _ _ hkj;have hv:(v=.aU/\at' ρ j=.aU)\/∃xs,v=.sl n xs (.yes e)/\at' ρ j=.sl n xs (.yes e):=by
         rw[Ll] at g3 Ed ⊢;cases v<;>simp only[Qz,bH] at g3
         ·exact .inl ⟨rfl,rfl⟩
         next s' xs o=>cases o<;>simp only[bH] at g3;have:=jP g3;subst this;simp only[fm,bN] at Ed;have:=jP Ed.1;subst this;exact .inr ⟨xs,rfl,rfl⟩
        have fP:∀ak an,ρ <+: ak->pa <+: an->at' ak j=at' ρ j:=λak an e1 e2=>by
         have:=h4 ak an e1 e2;simp only[aQ,bw] at this;rw[this,Ll]
        split at g4
        ·rename_i hs;refine qk g4 g5 (di _) h3 (v:=.sl n (Sx.vL (at' ρ j)++cV ρ l) (.yes e)) (key _ λ_ _=>?_) λak an e1 e2 v' cP=>by cases cP;simp only[aQ,bw,WS,cV,b8 ak an e1 e2,fP ak an e1 e2]
         rcases hv with⟨f1,f2⟩|⟨xs,f1,f2⟩
         ·refine app _ f1 ?_;rw[f2] at g6 ⊢;simp only[Sx.vL,List.length_nil,eM,gF] at g6 ⊢;split
          next h0=>exact absurd h0 (zkv hs)
          ·simp[g6,Ai]
         ·rw[f2] at g6 ⊢;exact OB _ f1 g6
        ·obtain⟨t2,g7,g8⟩:=Te g4 g5;simp only[eo,bw] at g8;have sy:jN P H tt v yv=some (MH (at' ρ j) n e (cV ρ l)):=by
          rcases hv with⟨f1,f2⟩|⟨xs,f1,f2⟩
          ·refine app _ f1 ?_;rw[f2] at g6 ⊢;simp only[Sx.vL,List.length_nil,eM] at g6;simp only[MH];cases hL:cV ρ l with
           | nil=>rfl
           | cons a b=>rw[hL] at g6;simp only[g6,Ai,Dr,oP,aT]
          ·rw[f2] at g6 ⊢;exact OB _ f1 g6
         have hk:fm (.sl n) (MH (at' ρ j) n e (cV ρ l))=true:=by
          rcases hv with⟨f1,f2⟩|⟨xs,f1,f2⟩<;>rw[f2]<;>simp only[MH]
          ·split<;>simp[fm,locked]
          ·simp[fm,locked]
         have ht:(MH (at' ρ j) n e (cV ρ l)).top=0:=by
          have ha:=xZ hr.top j;rcases hv with⟨f1,f2⟩|⟨xs,f1,f2⟩<;>rw[f2] at ha ⊢<;>simp only[MH]
          ·split<;>first|rfl|exact IL
          ·simp only[V.top] at ha ⊢;rw[wX,ha,IL];rfl
         exact qk g7 g8 (Ag _ _) (h3.oU hk ht) (key _ λ_ _=>sy) λak an e1 e2 v' cP=>by cases cP;simp only[aQ,bw];exact vU e1 hr.kl.symm
       ·cases h1
      ·cases h1
     ·cases h1
   ·cases h
  ·cases h
 ·cases h
def znj{n:Nat}{kk:Sg->TL->Option Tree}:∀{parts:List (Nat×aH)}{j:Nat}{l:TL}{σ:Sg}{ρ:aj}{t:Tree}{len:Nat}{rest:aj},Wk σ n kk j l parts=some t->Rel n0 B ρ pa σ ⟨env,H,lk,df⟩->bU ph gl N t ρ=some r->(cV ρ l).length=j->(∀ak,ρ <+: ak->cV ak l=cV ρ l)->rest.length=parts.length->j+parts.length=len ->
  ∃iZ l' aY t',kk { σ with ks:=iZ } l'=some t'/\bU ph gl N t' aY=some r/\ρ <+: aY/\Rel n0 B aY pa { σ with ks:=iZ } ⟨env,H,lk,df⟩/\(∀ak,aY <+: ak->cV ak l'=cV aY l')/\DM n len env (cV ρ l++rest) parts=some (cV aY l')
 | [],j,l,σ,ρ,t,len,rest,h,hr,hq,hj,hl,s6,hlen=>by
  obtain rfl:rest=[]:=Md.1 s6;exact⟨σ.ks,l,ρ,t,h,hq,di _,hr,hl,by simp[DM]⟩
 | (i,x)::ps,j,l,σ,ρ,t,len,rest,h,hr,hq,hj,hl,s6,hlen=>by
  simp only[Wk] at h;split at h
  ·rename_i v hv;split at h
   ·rename_i hc;simp only[bN] at hc;obtain⟨⟨⟨c1,c2⟩,c3⟩,c4⟩:=hc;have:=jP c1;subst this;obtain⟨t1,h1,h2⟩:=Te h hq;obtain⟨d1,d2⟩:=yn (pa:=pa) hr.here.ks hr.top c3;obtain⟨k1,k2,_⟩:=WD (pa:=pa) hr.here.ks c2;simp only[eo,d2 []] at h2;have mX:=hr.oU (v:=aQ ρ pa v) (ck:=.raw) rfl d1
    have fP:∀ak,ρ++[aQ ρ pa v] <+: ak->cV ak (.snoc l σ.ks.length)=cV ρ l++[aQ ρ pa v]:=λak e=>by
     simp only[cV];rw[hl ak (QU e),vU e hr.kl.symm]
    match rest,s6 with
    | w::rest,s6 =>
    simp only[fY] at hlen s6;obtain⟨iZ,l',aY,t',g1,g2,g3,g4,g5,g6⟩:=znj (rest:=rest) (len:=len) h1 mX h2 (by rw[fP _ (di _)];simp[hj]) (λak e=>by rw[fP ak e,fP _ (di _)]) (by omega) (by omega)
    refine⟨iZ,l',aY,t',g1,g2,QU g3,g4,g5,?_⟩;rw[fP _ (di _)] at g6;have bu:Nat.blt i len=true:=by simp only[G6];omega
    have gI:Nat.beq (aQ ρ pa v).cells.length n=true:=by rw[k2,qm];exact c4
    simp only[DM,kN hr.here hv,Option.bind_eq_bind,cG,k1,gI,bu,oP,aT,zQ,eV];rw[<- g6]
    congr 1
    rw[List.set_append_right _ _ (by omega),hj]
    simp
   ·cases h
  ·cases h
def zlN{tt:ai}{len:Nat}{parts:Array (Nat×aH)}(h:iS P takes σ ⟨dst,.buildSlice tt len parts,type,pos,after,guard⟩ k=some t)(hr:Rel n0 B ρ pa σ ⟨env,H,lk,df⟩)(hq:bU ph gl N t ρ=some r) :
  Step P gl ph N r n0 B k takes ⟨dst,.buildSlice tt len parts,type,pos,after,guard⟩ σ ρ pa ⟨env,H,lk,df⟩:=by
 simp only[iS] at h;split at h
 ·rename_i e hu;split at h
  ·rename_i n z hn hz;split at h
   ·cases h
   ·rename_i hc;simp only[gZ,ue,not_or,J8,Bool.not_eq_true] at hc;obtain⟨⟨⟨⟨c1,c2⟩,c3⟩,c4⟩,c5⟩:=hc;obtain⟨iZ,l',aY,t',g1,g2,g3,g4,g5,g6⟩:=znj (len:=len) (rest:=List.replicate len z) h hr hq rfl (λ_ _=>rfl) (by simp[jP c5]) (by simp only[eM];exact jP c5)
    refine qk g1 g2 g3 g4 (v:=.sl n (cV aY l') (.yes e)) (λn'=>?_) λak an e1 e2 v' cP=>by cases cP;simp only[aQ,bw];rw[g5 ak e1]
    simp only[cV,gF] at g6;simp only[Cx.op,qi,hu,hn,hz,Option.bind_eq_bind,cG,c1,c2,c3,c4,pI,Bool.or_self,bH,aZ,g6]
  ·cases h
 ·cases h
end
end Go.Vm.Sx
