/- Seat 8: what a function that changes nothing tells, in whatever heap: walks. Conditions: none but those named. -/
import Derived.Test.YthohlnmcjkjeiaaGreatDoorVmI
namespace Go.Vm
set_option maxRecDepth 100000
open Go
theorem rg{cx:Cx}{n id:Nat}{Q:Ex->St->Prop}{k:List It}{ops:Array Oper}{env:aD}{H:Hp}{lk:aO}{df:bP}(h:go cx n Q (.os ops [] ops.toList::k) .normal ⟨env,H,[],df⟩)(ht:jM ops=[]:=by kernel_rfl):go cx n Q (.c (.region id ops false)::k) .normal ⟨env,H,lk,df⟩:=ww ht h
theorem fz{P:aQ}{t:Tmp}{ur:V->Hp->Prop}{env:aD}{H:Hp}{lk:aO}{v:V}(h:nth env t=some v)(hp:ur v H):Fx P [.tmp t] ur .ret ⟨env,H,lk,[]⟩:=⟨rfl,[v],by simp only[zx,h],hp⟩
theorem Hw{P:aQ}{t u:Tmp}{ur:V->Hp->Prop}{env:aD}{H:Hp}{lk:aO}{v w:V}(h:nth env t=some v)(h':nth env u=some w)(hp:ur (.br [aV v,aV w]) H):Fx P [.tmp t,.tmp u] ur .ret ⟨env,H,lk,[]⟩:=⟨rfl,[v,w],by simp only[zx,h,h'],hp⟩
def mY(k:Nat)(P:aQ)(gl:Gl)(f:FuncId)(xs:aD)(v:V):Prop:=∀n,k<=n->∀H,zj P gl n f xs H=some (.ret v,H)
def Kn(P:aQ)(gl:Gl)(f:FuncId)(xs:aD)(v:V):Prop:=∃k,mY k P gl f xs v
theorem Kn.an5{P:aQ}{gl:Gl}{f:FuncId}{xs:aD}{v:V}(h:gl.hk f xs=some v):Kn P gl f xs v:=⟨1,λn hn H=>by
 obtain⟨n,rfl⟩:∃k,n=k+1:=⟨n - 1,by omega⟩
 obtain⟨bs,es⟩:=H
 simp only[zj,h]⟩
def nU:aB->Bool:=λ_=>false
structure GK(gl:Gl)(ez:bM):Prop where
 no:∀f,ez.any (Nat.beq f)=false->∀args,gl.hk f args=none
 h2:∀f,ez.any (Nat.beq f)=false->∀n args H,gl.fA n f args H=none
 uq:∀t,gl.uq t=false
theorem vz{P:aQ}{gl:Gl}{ez:bM}(hg:GK gl ez){f:FuncId}{fn:Func}{body:Code}{xs:aD}{v:V}(hf:P.funcs[f]?=some fn)(hb:fn.body=some body)(eH:ez.any (Nat.beq f)=false)(ht:v.top=0)(k0:Nat)
  (h:∀n,k0<=n->∀bs,go ⟨P,gl,zj P gl n,nU⟩ n (Fx P fn.results.toList λw H1=>w=v/\∃ls,H1=⟨bs++ls,[]⟩) [.c body] .normal ⟨xs++List.replicate (fn.ntmps - xs.length) (.br []),⟨bs,[]⟩,[],[]⟩):mY (k0+1) P gl f xs v:=by
 intro n hn H;obtain⟨n,rfl⟩:∃k,n=k+1:=⟨n - 1,by omega⟩
 obtain⟨bs,es⟩:=H;obtain⟨w,H1,h0,rfl,ls,rfl⟩:=zQ (bs:=bs) (es:=es) (hg.no f eH xs) (λH=>hg.h2 f eH n xs H) hf hb (by rw[show gl.uq=nU from funext hg.uq];exact h n (by omega) bs)
 rw[h0,ht];exact congrArg (λx=>some (Out.ret _,x)) (z9 (ec _))
theorem jt{P:aQ}{gl:Gl}{f:FuncId}{fn:Func}{body:Code}{xs:aD}{v:V}{n:Nat}{uq:aB->Bool}(hf:P.funcs[f]?=some fn)(hb:fn.body=some body)(h:∀H,zj P gl n f xs H=some (.ret v,H))(H:Hp):Cx.bB ⟨P,gl,zj P gl n,uq⟩ f xs H=some (.val v,H):=zu hf hb (h H)
def sG:List (Nat×V)->Nat->V->V
 | [],_,d=>d
 | (k,v)::r,i,d=>bif k == i then v else sG r i d
def sh(j:Nat->V)(ks:List (Nat×V)):Nat->Nat->aD
 | 0,_=>[]
 | n+1,i=>sG ks i (j i)::sh j ks n (i+1)
def Ks(N:Nat)(ks:List (Nat×V))(env:aD):Prop:=∃j,env=sh j ks N 0
theorem gE{N:Nat}{ks:List (Nat×V)}{l:aD}(h:l=sh (λk=>(nth l k).getD .fT) ks N 0):Ks N ks l:=⟨_,h⟩
theorem MG{cx:Cx}{n:Nat}{Q:Ex->St->Prop}{k:List It}{c:Code}{BH:aD}{Hh:aO}{H:Hp}(N:Nat)(ks:List (Nat×V))(h:go cx n (Qq cx n Q k λs=>∃env,s=⟨env,H,[],[]⟩/\Ks N ks env) [.c c] .normal ⟨BH,H,Hh,[]⟩)(h2:∀env,Ks N ks env->go cx n Q k .normal ⟨env,H,[],[]⟩):go cx n Q (.c c::k) .normal ⟨BH,H,Hh,[]⟩ :=
 zl6 _ h λs' ⟨env,e,hk⟩=>by subst e;exact h2 env hk
theorem zrr{cx:Cx}{n:Nat}{Q:Ex->St->Prop}{k:List It}{a:Code}{s0:St}{t:Bool}{B:Prop}(hB:go cx n Q k .normal s0->B)(H':Hp)(N:Nat)(ks:List (Nat×V))(h1:t=true->go cx n (Qq cx n Q k λs=>∃env,s=⟨env,H',[],[]⟩/\Ks N ks env) [.c a] .normal s0)(h0:t=false->∃env,s0=⟨env,H',[],[]⟩/\Ks N ks env)(h2:∀env,Ks N ks env->go cx n Q k .normal ⟨env,H',[],[]⟩):IL (go cx n Q (.c a::k) .normal s0) B (some (.bool t)):=by
 cases t with
 | true=>exact zl6 _ (h1 rfl) λs' ⟨env,e,hk⟩=>by subst e;exact h2 env hk
 | false =>
  obtain⟨env,e,hk⟩:=h0 rfl;refine hB ?_;subst e;exact h2 env hk
section
variable{cx:Cx}{all:Array Oper}{takes:cg}{i:Nat}{rs:List Rec}{c0:ew}{cs:List ew}{o:Oper}{os:List Oper}{env:aD}{H:Hp}{df:bP}{r:Option (Ex×St)}
theorem oF(m:Nat)(v:V)(aC:cx.op takes o env H [] df=some (.val v,⟨env,H,[],df⟩))(k:cx.eN all takes (i+1) (jr all takes i o m false true env v::rs) (c0::cs) os ⟨aq env o.dst v,H,[],df⟩=r)
  (hm:wB rs o.after.toList=some m:=by kernel_rfl) (hg:zY all o env=some true:=by rfl) (h1:q9 cx.P cx.uq takes o=false:=by kernel_rfl) (h2:kV cx.P cx.uq o=false:=by kernel_rfl) (hs:kB (kw (jr all takes i o m false true env v)) rs=true:=by kernel_rfl):cx.eN all takes i rs (c0::cs) (o::os) ⟨env,H,[],df⟩=r:=qy hm hg aC h1 h2 hs k
theorem oL(m:Nat)(v:V)(aC:cx.op takes o env H [] df=some (.val v,⟨env,H,[],df⟩))(hc:∀c∈cs,c.H=H/\c.lk=[]/\c.df=df)(k:cx.eN all takes (i+1) (jr all takes i o m false false env v::rs) (c0::cs) os ⟨aq env o.dst v,H,[],df⟩=r)
  (hm:wB rs o.after.toList=some m:=by kernel_rfl) (hg:zY all o env=some true:=by rfl) (h1:q9 cx.P cx.uq takes o=false:=by kernel_rfl) (h2:kV cx.P cx.uq o=true:=by kernel_rfl) (hs:kB (kw (jr all takes i o m false false env v)) rs=true:=by kernel_rfl):cx.eN all takes i rs (c0::cs) (o::os) ⟨env,H,[],df⟩=r :=
 kj hm hg aC h1 h2 hs (wc λc h=>by
  obtain⟨D,H1,lk,eA⟩:=c;obtain⟨e1,e2,e3⟩:=hc _ h;simp only at e1 e2 e3;subst e1 e2 e3;split
  ·simp only[Cx.eX,Cx.ee,aC,V.dh]
  ·rfl) k
theorem oH(m D:Nat)(v:V)(aC:cx.op takes o env H [] df=some (.val v,⟨env,H,[],df⟩))(cw:∀c∈cs,vN (Nat.land m (eJ rs)) c.D=false)(dX:cx.fM takes rs (eJ rs) (jr all takes i o m true false env v) (⟨D,H,[],df⟩::c0::cs) ⟨D,H,[],df⟩=true)(k:cx.eN all takes (i+1) (jr all takes i o m true false env v::rs) (⟨D,H,[],df⟩::c0::cs) os ⟨aq env o.dst v,H,[],df⟩=r)
  (hD:Nat.lor c0.D (Nat.pow 2 i)=D:=by kernel_rfl) (hm:wB rs o.after.toList=some m:=by kernel_rfl) (hg:zY all o env=some true:=by rfl) (h1:q9 cx.P cx.uq takes o=true:=by kernel_rfl) (h2:kV cx.P cx.uq o=true:=by kernel_rfl) (hs:kB (kw (jr all takes i o m true false env v)) rs=true:=by kernel_rfl):cx.eN all takes i rs (c0::cs) (o::os) ⟨env,H,[],df⟩=r :=
 yo hm hg aC h1 h2 hs (λK=>j5 (by rw[hD]) rfl cw dX) k
end
section
variable{cx:Cx}{all:Array Oper}{takes:cg}{i m:Nat}{rs:List Rec}{c0:ew}{cs cs':List ew}{o:Oper}{os:List Oper}{env cK:aD}{H H1:Hp}{lk eB:aO}{df eA:bP}{v:V}{r:Option (Ex×St)}
theorem ziE(hm:wB rs o.after.toList=some m)(hg:zY all o env=some true)(aC:cx.op takes o env H lk df=some (.val v,⟨cK,H1,eB,eA⟩))(h1:q9 cx.P cx.uq takes o=true)(h2:kV cx.P cx.uq o=false)
  (hs:kB (kw (jr all takes i o m true true env v)) rs=true) (hc:∀K,cx.fN takes rs (jr all takes i o m true true env v) c0 ⟨Nat.lor c0.D (Nat.pow 2 i),H1,eB,eA⟩ cs K=K cs')
  (k:cx.eN all takes (i+1) (jr all takes i o m true true env v::rs) cs' os ⟨aq cK o.dst v,H1,eB,eA⟩=r):cx.eN all takes i rs (c0::cs) (o::os) ⟨env,H,lk,df⟩=r:=by
 have ei:=λK=>hc K;simp only[jr] at hs k ei;simp only[Cx.eN,hm,qA,hg,aC,qp,jN,h1,h2,oI,hs];rw[ei];exact k
theorem zhQ{Lg:Nat}{R:Rec}{al:List ew}{c:ew}(h:∀q∈rs,q.hp=true/\bit c.D q.idx=true\/q.hp=false/\(q.free=true\/bit R.m q.idx=true\/cx.eX takes q.o q.env q.v c=true)):cx.fM takes rs Lg R al c=true:=by
 unfold Cx.fM;refine wc λq hq=>?_;split
 ·rfl
 ·rcases h q hq with⟨h1,h2⟩|⟨h1,h2|h2|h2⟩<;>simp[h1,h2]
theorem OJ{D:Nat}{s:St}(h:cx.op takes o env H lk df=some (.val v,s)):cx.eX takes o env v ⟨D,H,lk,df⟩=true:=by
 simp only[Cx.eX,Cx.ee,h,V.dh]
end
theorem mY.mono{P:aQ}{gl:Gl}{f:FuncId}{xs:aD}{v:V}{k k':Nat}(h:mY k P gl f xs v)(hk:k<=k'):mY k' P gl f xs v:=λn hn H=>h n (by omega) H
theorem zqT{P:aQ}{gl:Gl}{ez:bM}(hg:GK gl ez){f:FuncId}{fn:Func}{body:Code}{xs:aD}{v:V}{n:Nat}{bs:List aY}{es:aO}(hf:P.funcs[f]?=some fn)(hb:fn.body=some body)(eH:ez.any (Nat.beq f)=false)(ht:v.top=0)
  (h:go ⟨P,gl,zj P gl n,nU⟩ n (Fx P fn.results.toList λw H1=>w=v/\∃ls,H1=⟨bs++ls,[]⟩) [.c body] .normal ⟨xs++List.replicate (fn.ntmps - xs.length) (.br []),⟨bs,[]⟩,[],[]⟩):zj P gl (n+1) f xs ⟨bs,es⟩=some (.ret v,⟨bs,es⟩):=by
 obtain⟨w,H1,h0,rfl,ls,rfl⟩:=zQ (bs:=bs) (es:=es) (hg.no f eH xs) (λH=>hg.h2 f eH n xs H) hf hb (by rw[show gl.uq=nU from funext hg.uq];exact h)
 rw[h0,ht];exact congrArg (λx=>some (Out.ret _,x)) (z9 (ec _))
end Go.Vm
namespace Go.Proofs.YthohlnmcjkjeiaaGreatDoor.A2
open Go Go.Vm Go.Vm.Sx
open Go.Proofs.Tryz
set_option maxRecDepth 100000
abbrev bW:=Bool×List Int
abbrev gJ:=Bool×List bW
abbrev Q4:=Int×Int×Int×Int
structure F where
 s:Bool×List Q4
 r:bW
 f:gJ
 n:gJ
def ie(n:Int):V:=.int .i64 n
def iv(p:bW):V:=lv 1 p.1 (p.2.map ie)
def rv(p:gJ):V:=lv 1 p.1 (p.2.map iv)
def qe(q:Q4):V:=.agg [.int .u64 q.1,.int .u64 q.2.1,.int .u64 q.2.2.1,.int .u64 q.2.2.2]
def qv(p:Bool×List Q4):V:=lv 4 p.1 (p.2.map qe)
def fc(f:F):aD:=[qv f.s,iv f.r,rv f.f,rv f.n]
def fv(f:F):V:=.agg (fc f)
theorem lI{α:Type}{h:α->V}(hh:∀a,(h a).top=0):∀(l:List α),aI (l.map h)=0
 | []=>rfl
 | a::l=>by simp[aI,hh a,lI hh l]
theorem rI(p:bW):(iv p).top=0:=by unfold iv;rw[Kd];exact lI (λ_=>rfl) _
theorem C5(p:gJ):(rv p).top=0:=by unfold rv;rw[Kd];exact lI rI _
theorem zqb(p:Bool×List Q4):(qv p).top=0:=by unfold qv;rw[Kd];exact lI (λ_=>rfl) _
theorem zos(f:F):aI (fc f)=0:=by simp[fc,aI,zqb,rI,C5]
theorem tc(f:F):(fv f).top=0:=zos f
def Hx(z:Int):Prop:=-9223372036854775808<=z/\z<=9223372036854775807
def WI(p:bW):Prop:=p.2.length * 8<=reachBytes/\∀z∈p.2,Hx z
def WR(p:gJ):Prop:=p.2.length * 24<=reachBytes/\∀q∈p.2,WI q
structure WF(f:F):Prop where
 s:f.s.2.length * 32<=reachBytes
 r:WI f.r
 fi:WR f.f
 ne:WR f.n
theorem c3:prog.cellsOf 3=1:=by kernel_rfl
theorem Hy:prog.cellsOf 27=1:=by kernel_rfl
theorem Ri:prog.cellsOf 28=1:=by kernel_rfl
theorem Rj:prog.cellsOf 30=4:=by kernel_rfl
theorem b3:prog.bytesOf 3=8:=by kernel_rfl
theorem b24:prog.bytesOf 27=24:=by kernel_rfl
theorem mk3(cs:aD):v5 prog 3 cs=cs.headD .dW:=by
 have:y7 prog 3=false:=by kernel_rfl
 simp[v5,this]
theorem zrs(cs:aD):v5 prog 27 cs=cs.headD .dW:=by
 have:y7 prog 27=false:=by kernel_rfl
 simp[v5,this]
theorem l9{α:Type}{h:α->V}{Q:α->Prop}:∀(ys:aD),(∀y∈ys,∃a,h a=y/\Q a)->∃l:List α,l.map h=ys/\∀a∈l,Q a
 | [],_=>⟨[],rfl,λ_ h=>by simp at h⟩
 | y::ys,hy=>by
  obtain⟨a,h1,h2⟩:=hy y (eK ..);obtain⟨l,h3,h4⟩:=l9 ys λz hz=>hy z (dU _ hz);refine⟨a::l,by simp[h1,h3],λb hb=>?_⟩
  rcases dG.1 hb with rfl|hb
  ·exact h2
  ·exact h4 b hb
theorem rJ{n:Nat}{xs:aD}(h:ji prog n 3 xs):∃z,xs=[ie z]/\Hx z:=by
 cases n with
 | zero=>exact h.elim
 | succ n =>
  simp only[ji,underlying3] at h;obtain⟨z,h,hw⟩:=h;refine⟨z,h,?_⟩;have sY:IntKind.i64.min<=z/\z<=IntKind.i64.max:=by simpa[Lit.wf] using hw
  have e1:IntKind.i64.min = -9223372036854775808:=by decide
  have e2:IntKind.i64.max=9223372036854775807:=by decide
  rw[e1,e2] at sY;exact sY
theorem zot{n:Nat}{xs:aD}(h:ji prog n 27 xs):∃p,xs=[iv p]/\WI p:=by
 cases n with
 | zero=>exact h.elim
 | succ n =>
  simp only[ji,underlying27,c3,b3] at h;rcases h with h|⟨ys,h,⟨_,hb⟩,hy⟩
  ·exact⟨(true,[]),h,by simp[WI]⟩
  ·obtain⟨l,h1,h2⟩:=l9 (h:=ie) (Q:=Hx) ys λy Gc=>by
    obtain⟨cs,g1,g2⟩:=hy y Gc;obtain⟨z,g3,g4⟩:=rJ g1;rw[mk3,g3] at g2;exact⟨z,g2.symm,g4⟩
   subst h1;exact⟨(false,l),h,by simpa using hb,h2⟩
theorem Jc{n:Nat}{xs:aD}(h:ji prog n 28 xs):∃p,xs=[rv p]/\WR p:=by
 cases n with
 | zero=>exact h.elim
 | succ n =>
  simp only[ji,underlying28,Hy,b24] at h;rcases h with h|⟨ys,h,⟨_,hb⟩,hy⟩
  ·exact⟨(true,[]),h,by simp[WR]⟩
  ·obtain⟨l,h1,h2⟩:=l9 (h:=iv) (Q:=WI) ys λy Gc=>by
    obtain⟨cs,g1,g2⟩:=hy y Gc;obtain⟨z,g3,g4⟩:=zot g1;rw[zrs,g3] at g2;exact⟨z,g2.symm,g4⟩
   subst h1;exact⟨(false,l),h,by simpa using hb,h2⟩
section
set_option linter.unusedSectionVars false
theorem bC(p:bW):aV (iv p)=iv p:=Qv ..
theorem bJ(p:gJ):aV (rv p)=rv p:=Qv ..
theorem eo(p:Bool×List Q4):aV (qv p)=qv p:=Qv ..
theorem eV:reachBytes<=140737488355328:=by decide
variable{gl:Gl}
end
section
set_option linter.unusedSectionVars false
variable{gl:Gl}
def gi(l:List Int)(i:Nat):Int:=l.getD i 0
def gr(l:List (List Int))(i:Nat):List Int:=l.getD i []
def rowsOf(p:gJ):List (List Int):=p.2.map (·.2)
theorem ep(p:gJ):(rowsOf p).length=p.2.length:=by simp[rowsOf]
theorem o8{p:gJ}{i:Nat}{q:bW}(h:p.2[i]?=some q):gr (rowsOf p) i=q.2:=by simp[gr,rowsOf,h]
def nQ(l:List Int):Bool:=kU (λk=>!cJ (gi l (l.length - 1 - k)) (gi l (l.length - 1 - k - 1))) (l.length - 1)
end
section
set_option linter.unusedSectionVars false
variable{gl:Gl}
abbrev D:=gJ×bW
def iL(d:D):V:=.agg [rv d.1,iv d.2]
theorem C6(d:D):(iL d).top=0:=by simp[iL,V.top,aI,C5,rI]
structure WD(d:D):Prop where
 n:WR d.1
 l:WI d.2
def uy(n:Nat)(q:List Int)(c:Nat):Bool:=!cJ (gi q c) 0 && !lO (n:Int) (gi q c)
def Et(rows:List (List Int))(ls:List Int)(n i:Nat):Bool:=((((gr rows i).length:Nat):Int) == 256) && (!cJ (gi ls i) (-1) && (!lO 200 (gi ls i) && kU (uy n (gr rows i)) 256))
def o9(rows:List (List Int))(ls:List Int):Bool :=
 bif ((cJ (rows.length:Int) 1 || cJ 600 (rows.length:Int)) || !((ls.length:Int) == (rows.length:Int))) then false else kU (Et rows ls rows.length) rows.length
end
section
set_option linter.unusedSectionVars false
variable{gl:Gl}
def o_(rows:List (List Int)):Int->List Int->Int
 | s,[]=>s
 | s,b::t=>o_ rows (gi (gr rows s.toNat) b.toNat) t
theorem zfd{rows:List (List Int)}{b:Int}:∀{t:List Int}{s:Int},o_ rows s (t++[b])=gi (gr rows (o_ rows s t).toNat) b.toNat
 | [],_s=>rfl
 | _::t,_s=>zfd (t:=t)
theorem Zj{rows:List (List Int)}{ls:List Int}(h:o9 rows ls=true):(1<=rows.length/\rows.length<=600)/\∀i,i<rows.length->(gr rows i).length=256/\∀c,c<256->0<=gi (gr rows i) c/\gi (gr rows i) c<rows.length:=by
 unfold o9 at h;cases hh:((cJ (rows.length:Int) 1 || cJ 600 (rows.length:Int)) || !((ls.length:Int) == (rows.length:Int))) with
 | true=>rw[hh] at h;cases h
 | false =>
  rw[hh] at h;simp only[oJ] at h;simp only[JJ,cJ,decide_eq_false_iff_not] at hh;refine⟨by omega,λi hi=>?_⟩
  have sx:=bX.1 h i hi;simp only[Et,d_] at sx;obtain⟨h1,_,_,h2⟩:=sx;refine⟨by have:=eq_of_beq h1;omega,λc hc=>?_⟩
  have hk:=bX.1 h2 c hc;simp only[uy,d_,Dd,cJ,lO,decide_eq_false_iff_not] at hk;omega
theorem zjP{rows:List (List Int)}{ls:List Int}(h:o9 rows ls=true):∀{t:List Int}{s:Int},(∀b∈t,0<=b/\b<256)->0<=s->s<rows.length->0<=o_ rows s t/\o_ rows s t<rows.length
 | [],s,_,h0,h1=>⟨h0,h1⟩
 | b::t,s,hb,h0,h1=>by
  have uu:=hb b (eK ..);have:=((Zj h).2 s.toNat (by omega)).2 b.toNat (by omega)
  exact zjP h (t:=t) (λc hc=>hb c (dU _ hc)) this.1 this.2
def be(b:Int):V:=.int .u8 b
def mZ(p:bW):V:=lv 1 p.1 (p.2.map be)
theorem MH(p:bW):aV (mZ p)=mZ p:=Qv ..
theorem MI(p:bW):(mZ p).top=0:=by
 rw[mZ,Kd];exact lI (λ_=>rfl) _
def tf:V:=.dF 396 (.obj 0)
def Eu(d:D)(t:List Int):V:=bif o9 (rowsOf d.1) d.2.2 then .br [.int .i64 (o_ (rowsOf d.1) 0 t),.bN] else .br [.int .i64 0,tf]
end
section
set_option linter.unusedSectionVars false
variable{gl:Gl}
end
section
set_option linter.unusedSectionVars false
variable{gl:Gl}
end
section
set_option linter.unusedSectionVars false
variable{gl:Gl}
def uY(n:Nat)(l:List Int)(i:Nat):Bool:=!cJ (gi l i) 0 && (!lO (n:Int) (gi l i) && (i == 0 || !lO (gi l i) (gi l (i - 1))))
end
section
variable{gl:Gl}{ez:bM}
theorem MJ:prog.underlying 27=some (.slice 3):=by kernel_rfl
theorem fG:qz prog 3=some false:=by kernel_rfl
theorem Jd:z4 prog 3=some 1:=by kernel_rfl
theorem kP{H:Hp}{p:bW}:qX prog H 27 (iv p)=some (p.2.length:Int):=by
 unfold iv;rcases bZ 1 p.1 (p.2.map ie) with h|⟨h0,h⟩<;>rw[h]
 ·simp[qX]
 ·simp only[HS] at h0;simp[qX,h0]
theorem UP{p:bW}{i:Nat}(h:i<p.2.length):zp prog 27 (iv p) (i:Int)=some (.vp [ie p.2[i]]):=by
 have hk:¬((i:Int)<0):=by omega
 have hn:nth (p.2.map ie) i=some (ie p.2[i]):=by rw[zg,iX,gj h];rfl
 have cH:iv p=.sl 1 (p.2.map ie) .no:=by
  unfold iv;rcases bZ 1 p.1 (p.2.map ie) with h'|⟨h0,_⟩
  ·exact h'
  ·simp only[HS] at h0;rw[h0] at h;simp at h
 rw[cH];simp[zp,Jd,hk,hn,V.cells,ie]
theorem xc{H:Hp}{g:Nat->Nat->b_}{z:Int}:zk prog H g 3 (.vp [.int .i64 z])=some (.int .i64 z):=by
 simp[zk,qu,fG,nth,wT]
theorem zqU(hg:GK gl ez)(eH:ez.any (Nat.beq 42)=false)(a:bW)(ha:a.2.length<2 ^ 60)(x:Int):mY (a.2.length+2) prog gl 42 [iv a,ie x] (.bool (!kU (λi=>!(gi a.2 i == x)) a.2.length)):=by
 refine vz hg func42 rfl eH rfl (a.2.length+1) λn hn bs=>?_;simp only[f42,zh];refine rg ?_;simp only[BW,Nat.reduceAdd];refine rg ?_;simp only[BW]
 refine qj (λm s=>∃i env,m+i=a.2.length/\s=⟨env,⟨bs,[]⟩,[],[]⟩/\env.length=18/\nth env 0=some (iv a)/\nth env 1=some (ie x)/\nth env 5=some (.int .i64 (i:Nat))/\∀j,j<i->gi a.2 j≠x) a.2.length (by omega) ⟨0,_,rfl,rfl,rfl,rfl,rfl,rfl,λj hj=>by omega⟩ ?_
 rintro m s ⟨i,env,tX,rfl,hlen,h0,h1,h5,di⟩;simp only[zh];refine rg ?_;simp only[BW,Nat.reduceEqDiff,Nat.reduceLT,qi,h0,h5,hlen,kP,bC]
 by_cases hi:i<a.2.length
 ·refine .inl ⟨by simp;omega,?_⟩
  have e:a.2[i]=gi a.2 i:=by simp[gi,hi]
  have Ce:=UP hi;rw[e] at Ce;refine rg ?_;simp only[BW,Nat.reduceEqDiff,Nat.reduceLT,qi,h0,h1,h5,hlen,bC,Ce,xc,ie]
  by_cases hx:gi a.2 i=x
  ·refine .inl ⟨by simp[hx],?_⟩
   refine rg ?_;simp only[BW];have hb:kU (λi=>!(gi a.2 i == x)) a.2.length=false:=by
    rw[<- GR,bX];intro h;have:=h i hi;simp[hx] at this
   exact fz (v:=.bool true) (by simp[za,hlen]) ⟨by rw[hb];rfl,[],by simp⟩
  ·refine .inr ⟨by simp[hx],?_⟩
   refine rg ?_;simp only[BW,Nat.reduceEqDiff,Nat.reduceLT,h5,hlen,z6 (show i<2 ^ 60 by omega)]
   exact⟨m - 1,by omega,i+1,_,by omega,rfl,by simp[hlen],by simp[za,h0],by simp[za,h1,ie],by simp[za,hlen],λj hj=>by
    rcases eM j i with h|h
    ·exact di j h
    ·obtain rfl:j=i:=by omega
     exact hx⟩
 ·obtain rfl:i=a.2.length:=by omega
  refine .inr ⟨by simp,?_⟩
  refine rg ?_;simp only[BW];have hb:kU (λi=>!(gi a.2 i == x)) a.2.length=true:=bX.2 λj hj=>by simpa using di j hj
  exact fz (v:=.bool false) (by simp[za,hlen]) ⟨by rw[hb];rfl,[],by simp⟩
end
section
set_option maxHeartbeats 1000000
variable{gl:Gl}{ez:bM}
theorem ML:prog.underlying 28=some (.slice 27):=by kernel_rfl
theorem lJ:qz prog 28=some false:=by kernel_rfl
theorem iM:zB prog 30 0=some 0/\zB prog 30 1=some 1/\zB prog 30 2=some 2/\zB prog 30 3=some 3:=⟨by kernel_rfl,by kernel_rfl,by kernel_rfl,by kernel_rfl⟩
theorem jX{H:Hp}{p:gJ}:qX prog H 28 (rv p)=some (p.2.length:Int):=by
 unfold rv;rcases bZ 1 p.1 (p.2.map iv) with h|⟨h0,h⟩<;>rw[h]
 ·simp[qX]
 ·simp only[HS] at h0;simp[qX,h0]
theorem OK{bs:List aY}{x:aY}{es:aO}:(⟨bs++[x],es⟩:Hp).get bs.length=some x:=by
 show nth _ _=_;rw[zg,fI (dA _)];simp
theorem Zk{bs:List aY}{es:aO}{cs:aD}{ty t:aB}{g:Nat->Nat->b_}{off:Nat}{v:V}(ha:qz prog t=some false)(hn:nth cs off=some v):zk prog ⟨bs++[.cells cs ty],es⟩ g t (.ptr bs.length off)=some v:=zt ha OK hn
theorem Zl(f:F):dz (fv f)=true:=rfl
theorem UQ(f:F):(fv f).laid=fc f:=by simp[fv,V.laid,fc,eo,bC,bJ]
theorem OL(f:F)(env:aD)(t:Nat):qF env t (some (fv f))=some (fv f,env):=rfl
theorem Zm(hg:GK gl ez)(eH:ez.any (Nat.beq 72)=false)(f:F)(a:bW)(ha:a.2.length<2 ^ 60):mY (a.2.length+2) prog gl 72 [fv f,iv a] (.bool (kU (uY f.f.2.length a.2) a.2.length)):=by
 refine vz hg func72 rfl eH rfl (a.2.length+1) λn hn bs=>?_;have gx:zk prog ⟨bs++[.cells (fc f) 30],[]⟩ gl.g 28 (.ptr bs.length 2)=some (rv f.f):=Zk lJ rfl;simp only[f72,zh];refine rg ?_;simp only[BW,Nat.reduceAdd,List.replicate,OL,z8 (Zl f),UQ];refine rg ?_;simp only[BW,kP,bC]
 refine qj (λm s=>∃i env,m+i=a.2.length/\s=⟨env,⟨bs++[.cells (fc f) 30],[]⟩,[],[]⟩/\Ks 37 [(1,iv a),(2,.ptr bs.length 0),(7,iv a),(8,.int .i64 (a.2.length:Nat)),(9,.int .i64 (i:Nat))] env/\∀j,j<i->uY f.f.2.length a.2 j=true) a.2.length (by omega) ⟨0,_,rfl,rfl,gE rfl,λj hj=>by omega⟩ ?_
 rintro m s ⟨i,env,tX,rfl,⟨j,rfl⟩,di⟩;simp only[sh,sG,Nat.reduceBEq,Nat.reduceAdd,mS,oJ];simp only[zh];refine rg ?_;simp only[BW,qi]
 by_cases hi:i<a.2.length
 ·refine .inl ⟨by simp;omega,?_⟩
  have e:a.2[i]=gi a.2 i:=by simp[gi,hi]
  have Ce:=UP hi;rw[e] at Ce;refine rg ?_;simp only[BW,bC,Ce,xc,ie];refine MG 37 [(1,iv a),(2,.ptr bs.length 0),(7,iv a),(8,.int .i64 (a.2.length:Nat)),(9,.int .i64 (i:Nat)),(35,.bool (!uY f.f.2.length a.2 i))] ?_ λenv ⟨j,e⟩=>?_
  ·refine rg ?_
   by_cases c1:gi a.2 i<0
   ·simp only[BW,c1];exact⟨_,rfl,(show(!uY f.f.2.length a.2 i)=true by simp[uY,cJ,c1]) ▸ gE rfl⟩
   by_cases c2:(f.f.2.length:Int)<=gi a.2 i
   ·simp only[BW,c1,iM,gx,bJ,jX,ge_iff_le,c2];exact⟨_,rfl,(show(!uY f.f.2.length a.2 i)=true by simp[uY,lO,c2]) ▸ gE rfl⟩
   rcases HU i with rfl|c3
   ·simp only[BW,c1,iM,gx,bJ,jX,ge_iff_le,c2,gt_iff_lt,show ¬((0:Int)<((0:Nat):Int)) by omega]
    exact⟨_,rfl,(show(!uY f.f.2.length a.2 0)=false by simp[uY,cJ,lO,c1,c2]) ▸ gE rfl⟩
   have c4:(0:Int)<(i:Int):=by omega
   have lR:IntKind.i64.wrap ((i:Int) - 1)=((i - 1:Nat):Int):=by rw[Ke (by omega) (by omega)];omega
   have Rk:=UP (p:=a) (i:=i - 1) (by omega)
   have e2:a.2[i - 1]=gi a.2 (i - 1):=by simp[gi,show i - 1<a.2.length by omega]
   rw[e2] at Rk;have c5:(i == 0)=false:=by simp;omega
   simp only[BW,c1,iM,gx,bJ,jX,ge_iff_le,c2,gt_iff_lt,c4,kD,lR,bC,Rk,xc,ie];exact⟨_,rfl,(show(!uY f.f.2.length a.2 i)=decide (gi a.2 i<=gi a.2 (i - 1)) by simp[uY,cJ,lO,c1,c2,c5]) ▸ gE rfl⟩
  ·subst e;simp only[sh,sG,Nat.reduceBEq,Nat.reduceAdd,mS,oJ]
   by_cases ho:uY f.f.2.length a.2 i=true
   ·simp only[BW,ho];refine rg ?_;simp only[BW,z6 (show i<2 ^ 60 by omega)]
    exact⟨m - 1,by omega,i+1,_,by omega,rfl,gE rfl,λj hj=>by
     rcases eM j i with h|h
     ·exact di j h
     ·obtain rfl:j=i:=by omega
      exact ho⟩
   ·have ho:uY f.f.2.length a.2 i=false:=by simpa using ho
    simp only[BW,ho];refine rg ?_;simp only[BW];have hb:kU (uY f.f.2.length a.2) a.2.length=false:=by
     rw[<- GR,bX];exact λh=>by rw[h i hi] at ho;cases ho
    exact fz (v:=.bool false) rfl ⟨by rw[hb],_,rfl⟩
 ·obtain rfl:i=a.2.length:=by omega
  refine .inr ⟨by simp,?_⟩
  refine rg ?_;simp only[BW];have hb:kU (uY f.f.2.length a.2) a.2.length=true:=bX.2 di;exact fz (v:=.bool true) rfl ⟨by rw[hb],_,rfl⟩
end
section
variable{gl:Gl}{ez:bM}
theorem oo:qz prog 9=some false:=by kernel_rfl
theorem dQ:qz prog 51=some false:=by kernel_rfl
theorem Rm:qz prog 50=some true:=by kernel_rfl
theorem BJ:qz prog 53=some true:=by kernel_rfl
theorem Rn:z4 prog 50=some 4:=by kernel_rfl
theorem uZ:z4 prog 53=some 10:=by kernel_rfl
theorem Ro:prog.underlying 51=some (.slice 53):=by kernel_rfl
theorem dK:zB prog 53 0=some 0/\zB prog 53 1=some 1/\zB prog 53 2=some 2/\zB prog 53 3=some 6/\zB prog 53 4=some 7/\zB prog 53 5=some 8/\zB prog 53 6=some 9:=⟨by kernel_rfl,by kernel_rfl,by kernel_rfl,by kernel_rfl,by kernel_rfl,by kernel_rfl,by kernel_rfl⟩
theorem eW{bs:List aY}{es:aO}{cs:aD}{ty t:aB}{g:Nat->Nat->b_}{off:Nat}(ha:qz prog t=some false):zk prog ⟨bs++[.cells cs ty],es⟩ g t (.ptr bs.length off)=nth cs off:=by
 cases h:nth cs off with
 | some v=>exact Zk ha h
 | none=>simp[zk,qu,ha,OK,h,wT]
theorem Cg{bs:List aY}{es:aO}{a0 a1 a2 a3 a4 a5 a6 a7 a8 a9:V}{g:Nat->Nat->b_}:zk prog ⟨bs++[.cells [a0,a1,a2,a3,a4,a5,a6,a7,a8,a9] 53],es⟩ g 50 (.ptr bs.length 2)=some (.agg [a2,a3,a4,a5]):=jc Rm Rn OK (by simp)
theorem Ch{env:aD}:ky prog 50 #[] env=some (.agg [.int .u64 0,.int .u64 0,.int .u64 0,.int .u64 0]):=by kernel_rfl
theorem v8{x y:aW}{a b c d:Int}:qL prog .eql 50 x y (some (.agg [.int .u64 a,.int .u64 b,.int .u64 c,.int .u64 d])) (some (.agg [.int .u64 0,.int .u64 0,.int .u64 0,.int .u64 0]))=some (.bool (a == 0 && (b == 0 && (c == 0 && d == 0)))):=by
 have h1:prog.underlying 50=some (.array 4 48):=by kernel_rfl
 have h2:prog.underlying 48=some (.int .u64):=by kernel_rfl
 have h3:z4 prog 48=some 1:=by kernel_rfl
 have h4:prog.eqGuardType prog.depth 50=false:=by kernel_rfl
 have h5:qz prog 48=some false:=by kernel_rfl
 by_cases ha:a=0<;>by_cases hb:b=0<;>by_cases hc:c=0<;>by_cases hd:d=0<;>simp[qL,ju,v4,w9,A_,h1,h2,h3,h4,h5,NP,K_,qu,nth,wT,ha,hb,hc,hd]
theorem Kw(e:E):dz (enc e)=true:=by rw[qB];rfl
theorem yg(e:E):(enc e).laid=aK e:=by rw[qB];simp only[V.laid,qk]
theorem MN(e:E)(env:aD)(t:Nat):qF env t (some (enc e))=some (enc e,env):=by rw[qB];rfl
theorem qo{H:Hp}{nl:Bool}{l:List E}:qX prog H 51 (ye nl (fe l))=some (l.length:Int):=by
 rcases vF nl (fe l) with h|⟨h0,h⟩<;>rw[h]
 ·simp[qX,fE]
 ·have:l.length=0:=by rw[<- fE,h0];rfl
  simp[qX,this]
theorem Ci{P:aQ}{t:aB}{x y:aW}{a b:bM}:qL P .eql t x y (some (.str a)) (some (.str b))=some (.bool (n6 a b)):=by
 simp[qL,ju,v4,w9,Pf]
theorem zrt(hg:GK gl ez)(eH:ez.any (Nat.beq 86)=false)(e:E):mY 2 prog gl 86 [enc e] (.bool (mM e)):=by
 refine vz hg func86 rfl eH rfl 1 λn hn bs=>?_;simp only[f86,zh];refine rg ?_;simp only[BW,List.replicate,MN,z8 (Kw e),yg];refine rg ?_;obtain⟨op,pl,s0,s1,s2,s3,text,mn,mx,nl,args⟩:=e;cases h1:op == 0 with
 | false =>
  simp only[BW,dK,eW fG,aK,h1];exact fz rfl ⟨by simp only[mM,h1];rfl,_,rfl⟩
 | true =>
 cases h2:pl == 0 with
 | false =>
  simp only[BW,dK,eW fG,aK,h1,h2];exact fz rfl ⟨by simp only[mM,h1,h2];rfl,_,rfl⟩
 | true =>
 cases h3:s0 == 0 && (s1 == 0 && (s2 == 0 && s3 == 0)) with
 | false =>
  simp only[BW,dK,eW fG,Cg,Ch,v8,aK,h1,h2,h3];exact fz rfl ⟨by simp only[mM,h1,h2,h3];rfl,_,rfl⟩
 | true =>
 cases h4:n6 text [] with
 | false =>
  simp only[BW,dK,eW fG,eW oo,Cg,Ch,v8,Ci,aK,h1,h2,h3,h4];exact fz rfl ⟨by simp only[mM,h1,h2,h3,h4];rfl,_,rfl⟩
 | true =>
 cases h5:mn == 0 with
 | false =>
  simp only[BW,dK,eW fG,eW oo,Cg,Ch,v8,Ci,aK,h1,h2,h3,h4,h5];exact fz rfl ⟨by simp only[mM,h1,h2,h3,h4,h5];rfl,_,rfl⟩
 | true =>
 cases h6:mx == 0 with
 | false =>
  simp only[BW,dK,eW fG,eW oo,Cg,Ch,v8,Ci,aK,h1,h2,h3,h4,h5,h6];exact fz rfl ⟨by simp only[mM,h1,h2,h3,h4,h5,h6];rfl,_,rfl⟩
 | true =>
  simp only[BW,dK,eW fG,eW oo,eW dQ,Cg,Ch,v8,Ci,aK,zZ,qo,h1,h2,h3,h4,h5,h6];exact fz rfl ⟨by simp only[mM,h1,h2,h3,h4,h5,h6,tP],_,rfl⟩
theorem zqV(hg:GK gl ez)(eH:ez.any (Nat.beq 153)=false)(e:E):mY 2 prog gl 153 [enc e] (.bool (lz e)):=by
 refine vz hg func153 rfl eH rfl 1 λn hn bs=>?_;simp only[f153,zh];refine rg ?_;simp only[BW,List.replicate,MN,z8 (Kw e),yg];refine rg ?_;obtain⟨op,pl,s0,s1,s2,s3,text,mn,mx,nl,args⟩:=e;cases h1:pl == 0 with
 | false =>
  simp only[BW,dK,eW fG,aK,h1];exact fz rfl ⟨by simp only[lz,h1];rfl,_,rfl⟩
 | true =>
 cases h2:n6 text [] with
 | false =>
  simp only[BW,dK,eW fG,eW oo,Ci,aK,h1,h2];exact fz rfl ⟨by simp only[lz,h1,h2];rfl,_,rfl⟩
 | true =>
 have key:∀b:Bool,((op == 2) || (s0 == 0 && (s1 == 0 && (s2 == 0 && s3 == 0))))=b->lz (.mk op pl s0 s1 s2 s3 text mn mx nl args)=(b && (op == 7 || (mn == 0 && mx == 0))):=λb hb=>by simp only[lz,h1,h2,hb,tP]
 cases h3:op == 2 with
 | true =>
  have k1:=key true (by rw[h3];rfl)
  cases h4:op == 7 with
  | true =>
   simp only[BW,dK,eW fG,eW oo,Ci,aK,h1,h2,h3,h4];exact fz rfl ⟨by rw[k1,h4];rfl,_,rfl⟩
  | false =>
  cases h5:mn == 0 with
  | false =>
   simp only[BW,dK,eW fG,eW oo,Ci,aK,h1,h2,h3,h4,h5];exact fz rfl ⟨by rw[k1,h4,h5];rfl,_,rfl⟩
  | true =>
   simp only[BW,dK,eW fG,eW oo,Ci,aK,h1,h2,h3,h4,h5];exact fz rfl ⟨by rw[k1,h4,h5];rfl,_,rfl⟩
 | false =>
 cases h6:s0 == 0 && (s1 == 0 && (s2 == 0 && s3 == 0)) with
 | false =>
  have k1:=key false (by rw[h3,h6];rfl)
  simp only[BW,dK,eW fG,eW oo,Cg,Ch,v8,Ci,aK,h1,h2,h3,h6];exact fz rfl ⟨by rw[k1];rfl,_,rfl⟩
 | true =>
  have k1:=key true (by rw[h3,h6];rfl)
  cases h4:op == 7 with
  | true =>
   simp only[BW,dK,eW fG,eW oo,Cg,Ch,v8,Ci,aK,h1,h2,h3,h4,h6];exact fz rfl ⟨by rw[k1,h4];rfl,_,rfl⟩
  | false =>
  cases h5:mn == 0 with
  | false =>
   simp only[BW,dK,eW fG,eW oo,Cg,Ch,v8,Ci,aK,h1,h2,h3,h4,h5,h6];exact fz rfl ⟨by rw[k1,h4,h5];rfl,_,rfl⟩
  | true =>
   simp only[BW,dK,eW fG,eW oo,Cg,Ch,v8,Ci,aK,h1,h2,h3,h4,h5,h6];exact fz rfl ⟨by rw[k1,h4,h5];rfl,_,rfl⟩
theorem zqW(hg:GK gl ez)(eH:ez.any (Nat.beq 154)=false)(e:E):mY 2 prog gl 154 [enc e] (.bool (fX e)):=by
 refine vz hg func154 rfl eH rfl 1 λn hn bs=>?_;simp only[f154,zh];refine rg ?_;simp only[BW,List.replicate,MN,z8 (Kw e),yg];refine rg ?_;obtain⟨op,pl,s0,s1,s2,s3,text,mn,mx,nl,args⟩:=e;simp only[BW,dK,eW fG,aK];refine rg ?_;cases h1:op == 1 with
 | true =>
  simp only[BW,h1];refine rg ?_;simp only[BW,dK,eW dQ,zZ,qo];exact fz rfl ⟨by simp only[fX,h1];rfl,_,rfl⟩
 | false =>
 simp only[BW,h1];refine rg ?_;cases h2:op == 2 with
 | true =>
  simp only[BW,h2];refine rg ?_;simp only[BW,dK,eW dQ,zZ,qo];exact fz rfl ⟨by simp only[fX,h1,h2];rfl,_,rfl⟩
 | false =>
 simp only[BW,h2];refine rg ?_;cases h5:op == 5 with
 | true =>
  simp only[BW,h5];refine rg ?_;simp only[BW,dK,eW dQ,zZ,qo];exact fz rfl ⟨by simp only[fX,h1,h2,h5];rfl,_,rfl⟩
 | false =>
 simp only[BW,h5];refine rg ?_;cases h6:op == 6 with
 | true =>
  simp only[BW,h6];refine rg ?_;simp only[BW,dK,eW dQ,zZ,qo];exact fz rfl ⟨by simp only[fX,h1,h2,h5,h6];rfl,_,rfl⟩
 | false =>
 simp only[BW,h6];refine rg ?_;cases h7:op == 7 with
 | false =>
  simp only[BW,h7];refine rg ?_;simp only[BW];exact fz rfl ⟨by simp only[fX,h1,h2,h5,h6,h7];rfl,_,rfl⟩
 | true =>
 simp only[BW,h7];refine rg ?_;have hk:fX (.mk op pl s0 s1 s2 s3 text mn mx nl args)=((args.length:Int) == 1 && ((mn == 0 && mx == -1 || mn == 1 && mx == -1) || mn == 0 && mx == 1)):=by simp only[fX,h1,h2,h5,h6,h7];rfl
 rw[hk];cases a1:(args.length:Int) == 1 with
 | false =>
  simp only[BW,dK,eW dQ,zZ,qo,a1];exact fz rfl ⟨rfl,_,rfl⟩
 | true =>
 cases a2:mn == 0 with
 | true =>
  have a4:(mn == 1)=false:=by rw[eq_of_beq a2];rfl
  cases a3:mx == -1 with
  | true =>
   simp only[BW,dK,eW fG,eW dQ,zZ,qo,a1,a2,a3];exact fz rfl ⟨rfl,_,rfl⟩
  | false =>
   simp only[BW,dK,eW fG,eW dQ,zZ,qo,a1,a2,a3,a4];exact fz rfl ⟨rfl,_,rfl⟩
 | false =>
 cases a4:mn == 1 with
 | true =>
  cases a3:mx == -1 with
  | true =>
   simp only[BW,dK,eW fG,eW dQ,zZ,qo,a1,a2,a3,a4];exact fz rfl ⟨rfl,_,rfl⟩
  | false =>
   simp only[BW,dK,eW fG,eW dQ,zZ,qo,a1,a2,a3,a4];exact fz rfl ⟨rfl,_,rfl⟩
 | false =>
  simp only[BW,dK,eW fG,eW dQ,zZ,qo,a1,a2,a4];exact fz rfl ⟨rfl,_,rfl⟩
end
section
variable{gl:Gl}{ez:bM}
def ci(z:Int):aY:=.cells [.int .i64 z] 3
def two(bs:List aY)(b1 b2:Nat)(n s:Int):List aY:=(bs.set b1 (ci n)).set b2 (ci s)
section
variable{bs ls:List aY}{b1 b2:Nat}{n s z:Int}{es:aO}{g:Nat->Nat->b_}{env:aD}{df:bP}{cs:aD}{ty t:aB}{off:Nat}{e:E}
theorem kQ:(two bs b1 b2 n s).length=bs.length:=by simp[two]
theorem zjQ(h1:b1<bs.length)(h2:b2<bs.length):two (bs++ls) b1 b2 n s=two bs b1 b2 n s++ls:=by
 unfold two;rw[GP _ _ h1,GP _ _ (by simpa using h2)]
theorem OM(h1:b1<bs.length)(h:b1≠b2):zk prog ⟨two bs b1 b2 n s++ls,es⟩ g 3 (.ptr b1 0)=some (.int .i64 n) :=
 zt (cs:=[.int .i64 n]) (ty:=3) fG (by show nth _ _=_;rw[zg,gb (by rw[kQ];exact h1),two,su (Ne.symm h),Cn h1];rfl) rfl
theorem zjR(h2:b2<bs.length):zk prog ⟨two bs b1 b2 n s++ls,es⟩ g 3 (.ptr b2 0)=some (.int .i64 s) :=
 zt (cs:=[.int .i64 s]) (ty:=3) fG (by show nth _ _=_;rw[zg,gb (by rw[kQ];exact h2),two,Cn (by simpa using h2)];rfl) rfl
theorem zjS(h1:b1<bs.length)(h:b1≠b2):qr prog 3 ⟨two bs b1 b2 n s++ls,es⟩ [] df (some (.int .i64 z,env)) (some (.ptr b1 0))=some (.skip,⟨env,⟨two bs b1 b2 z s++ls,es⟩,[],df⟩):=by
 rw[zy (cs:=[.int .i64 n]) (ty:=3) Jd (by show nth _ _=_;rw[zg,gb (by rw[kQ];exact h1),two,su (Ne.symm h),Cn h1];rfl) rfl rfl (by simp) (wj rfl (by simp)),jR (ec _)]
 simp only[Hp.set];rw[GP _ _ (by rw[kQ];exact h1)]
 simp only[two];rw[List.set_comm _ _ (Ne.symm h),List.set_set];rfl
theorem zjT(h2:b2<bs.length):qr prog 3 ⟨two bs b1 b2 n s++ls,es⟩ [] df (some (.int .i64 z,env)) (some (.ptr b2 0))=some (.skip,⟨env,⟨two bs b1 b2 n z++ls,es⟩,[],df⟩):=by
 rw[zy (cs:=[.int .i64 s]) (ty:=3) Jd (by show nth _ _=_;rw[zg,gb (by rw[kQ];exact h2),two,Cn (by simpa using h2)];rfl) rfl rfl (by simp) (wj rfl (by simp)),jR (ec _)]
 simp only[Hp.set];rw[GP _ _ (by rw[kQ];exact h2)]
 simp only[two,List.set_set];rfl
theorem zjU(ha:qz prog t=some false):zk prog ⟨two bs b1 b2 n s++(.cells cs ty::ls),es⟩ g t (.ptr bs.length off)=nth cs off:=by
 have hg:(⟨two bs b1 b2 n s++(.cells cs ty::ls),es⟩:Hp).get bs.length=some (.cells cs ty):=by
  show nth _ _=_;rw[zg,fI (by rw[kQ];exact dA _),kQ];simp
 cases h:nth cs off with
 | some v=>exact zt ha hg h
 | none=>simp[zk,qu,ha,hg,h,wT]
theorem Au:zk prog ⟨two bs b1 b2 n s++(.cells (aK e) 53::ls),es⟩ g 53 (.ptr bs.length 0)=some (enc e):=by
 rw[jc BJ uZ (cs:=aK e) (ty:=53) (by
  show nth _ _=_
  rw[zg,fI (by rw[kQ];exact dA _),kQ];simp) (by rw[z0];omega),qB,mu,r9 (by rw[z0];omega)]
theorem zou{l:aD}(hl:l.length=10)(hu:l.all (λc=>!(locked c))=true):qr prog 53 ⟨two bs b1 b2 n s++(ls++[.cells l 53]),es⟩ [] df (some (.agg (aK e),env)) (some (.ptr (bs.length+ls.length) 0))=some (.skip,⟨env,⟨two bs b1 b2 n s++(ls++[.cells (aK e) 53]),es⟩,[],df⟩):=by
 have h:=Kg (P:=prog) (t:=53) (n:=10) (B:=two bs b1 b2 n s) (ls:=ls++[.cells l 53]) (k:=ls.length) (off:=0) (cs:=l) (ty:=53) (v:=enc e) (env:=env) (lk:=[]) (df:=df) (es:=es) uZ (by rw[zg];simp) (Kw e) (by rw[yg,z0]) (by omega) hu (Ao e)
 rw[kQ] at h;rw[<- qB,h,yg,wQ (by rw[z0,hl])]
 simp
theorem DG:zk prog ⟨two bs b1 b2 n s++(ls++[.cells (aK e) 53]),es⟩ g 53 (.ptr (bs.length+ls.length) 0)=some (.agg (aK e)):=by
 have h:=YB (P:=prog) (t:=53) (n:=10) (B:=two bs b1 b2 n s) (ls:=ls++[.cells (aK e) 53]) (k:=ls.length) (off:=0) (cs:=aK e) (ty:=53) (es:=es) (g:=g) BJ uZ (by rw[zg];simp) (by rw[z0];omega)
 rw[kQ] at h;rw[h,mu,r9 (by rw[z0];omega)]
end
def zE:aD:=[.int .i64 0,.int .i64 0,.int .u64 0,.int .u64 0,.int .u64 0,.int .u64 0,.str [],.int .i64 0,.int .i64 0,.aG]
theorem Zn:qP prog 53=some (.agg zE):=by kernel_rfl
theorem zpp(hG:GK gl ez)(eH:[122,153,154].all (λf=>!ez.any (Nat.beq f))=true):∀(e:E),Wf e->∀(d n s:Int)(N:Nat),hg e+3<=N->∀(bs:List aY)(es:aO)(b1 b2:Nat),b1<bs.length->b2<bs.length->b1≠b2 ->
  zj prog gl N 122 [enc e,.int .i64 d,.ptr b1 0,.ptr b2 0] ⟨two bs b1 b2 n s,es⟩=some (.ret (.bool (cM e d n s).1),⟨two bs b1 b2 (cM e d n s).2.1 (cM e d n s).2.2,es⟩)
 | .mk op pl s0 s1 s2 s3 text mn mx nl args,hw=>by
  intro d n s N hN bs es b1 b2 h1 h2 Kx;have B_:=rF;have hlen:=hw.2.1;simp only[List.all_cons,List.all_nil,Bool.and_true,d_,Dd] at eH;obtain⟨Zo,no2,no3⟩:=eH;simp only[hg] at hN;obtain⟨N,rfl⟩:∃k,N=k+1:=⟨N - 1,by omega⟩
  have fD:∀a,a∈args->∀(d n s:Int)(bs:List aY)(es:aO),b1<bs.length->b2<bs.length ->
    zj prog gl N 122 [enc a,.int .i64 d,.ptr b1 0,.ptr b2 0] ⟨two bs b1 b2 n s,es⟩=some (.ret (.bool (cM a d n s).1),⟨two bs b1 b2 (cM a d n s).2.1 (cM a d n s).2.2,es⟩):=λa ha d n s bs es k1 k2 =>
   zpp hG (by simp[Zo,no2,no3]) a (hw.2.2.mem ha) d n s N (by have:=Qz ha;omega) bs es b1 b2 k1 k2 Kx
  generalize he:E.mk op pl s0 s1 s2 s3 text mn mx nl args=e at hw ⊢
  suffices bL:(go ⟨prog,gl,zj prog gl N,nU⟩ N (Fx prog f122.results.toList λw H1=>w=.bool (cM e d n s).1/\∃ls,H1=⟨two bs b1 b2 (cM e d n s).2.1 (cM e d n s).2.2++ls,[]⟩) [.c (f122.body.getD .skip)] .normal ⟨[enc e,.int .i64 d,.ptr b1 0,.ptr b2 0]++List.replicate 53 (.br []),⟨two bs b1 b2 n s,[]⟩,[],[]⟩) by
   obtain⟨w,H1,h0,rfl,ls,rfl⟩:=zQ (es:=es) (hG.no 122 Zo _) (λH=>hG.h2 122 Zo _ _ H) func122 rfl (by rw[show gl.uq=nU from funext hG.uq];exact bL)
   rw[h0];have:=z9 (bs:=two bs b1 b2 (cM e d n s).2.1 (cM e d n s).2.2) (ls:=ls) (es:=es) (t:=0) (ec _);rw[kQ] at this;rw[kQ];exact congrArg (λx=>some (Out.ret _,x)) this
  have Gd:∀H,Cx.bB ⟨prog,gl.g,zj prog gl N,nU⟩ 153 [enc e] H=some (.val (.bool (lz e)),H):=jt func153 rfl (zqV hG no2 e N (by omega))
  have Je:∀H,Cx.bB ⟨prog,gl.g,zj prog gl N,nU⟩ 154 [enc e] H=some (.val (.bool (fX e)),H):=jt func154 rfl (zqW hG no3 e N (by omega))
  simp only[f122,fS,zh];refine rg ?_;simp only[BW,List.replicate,MN,z8 (Kw e),yg,kQ];refine rg ?_;simp only[BW,OM h1 Kx,zjS h1 Kx,kg];generalize Hq:IntKind.i64.wrap (n+1)=n1;refine rg ?_
  have Zp:∀b,((cJ 65536 n1 || cJ 4096 d) || (!lz e || !fX e))=b->(b=true->cM e d n s=(false,n1,s))/\(b=false->cM e d n s=iF (IntKind.i64.wrap (d+1)) args n1 (if op == 2 then IntKind.i64.wrap (s+1) else s)):=by
   intro b hb;subst he;simp only[cM,Hq];cases k1:(cJ 65536 n1 || cJ 4096 d) with
   | true=>rw[k1] at hb;subst hb;simp
   | false =>
   rw[k1] at hb;cases k2:lz (.mk op pl s0 s1 s2 s3 text mn mx nl args) with
   | false=>rw[k2] at hb;subst hb;simp
   | true =>
   rw[k2] at hb;cases k3:fX (.mk op pl s0 s1 s2 s3 text mn mx nl args) with
   | false=>rw[k3] at hb;subst hb;simp
   | true=>rw[k3] at hb;subst hb;simp
  have iG:((cJ 65536 n1 || cJ 4096 d) || (!lz e || !fX e))=true->cM e d n s=(false,n1,s):=λh=>(Zp true h).1 rfl
  by_cases c1:65536<n1
  ·rw[iG (by simp[cJ,c1])]
   simp only[BW,OM h1 Kx,gt_iff_lt,c1];refine rg ?_;simp only[BW];exact fz rfl ⟨rfl,_,rfl⟩
  by_cases c2:4096<d
  ·rw[iG (by simp[cJ,c2])]
   simp only[BW,OM h1 Kx,gt_iff_lt,c1,c2];refine rg ?_;simp only[BW];exact fz rfl ⟨rfl,_,rfl⟩
  cases c3:lz e with
  | false =>
   rw[iG (by simp[c3])]
   rw[c3] at Gd;simp only[BW,OM h1 Kx,gt_iff_lt,c1,c2,Au,Oo,Gd,iH];refine rg ?_;simp only[BW];exact fz rfl ⟨rfl,_,rfl⟩
  | true =>
  rw[c3] at Gd;cases c4:fX e with
  | false =>
   rw[iG (by simp[c4])]
   rw[c4] at Je;simp only[BW,OM h1 Kx,gt_iff_lt,c1,c2,Au,Oo,Gd,Je,iH];refine rg ?_;simp only[BW];exact fz rfl ⟨rfl,_,rfl⟩
  | true =>
  rw[c4] at Je;rw[(Zp false (by simp[cJ,c1,c2,c3,c4])).2 rfl]
  clear iG Zp;have e0:nth (aK e) 0=some (.int .i64 op):=by rw[<- he];rfl
  have e9:nth (aK e) 9=some (ye nl (fe args)):=by rw[<- he];rfl
  simp only[BW,OM h1 Kx,gt_iff_lt,c1,c2,Au,Oo,Gd,Je,iH];refine rg ?_;simp only[BW,dK,zjU fG,e0];generalize Bi:(if op == 2 then IntKind.i64.wrap (s+1) else s)=s1
  refine zrr (λh=>by simpa only[zh] using h) ⟨two bs b1 b2 n1 s1++[.cells (aK e) 53],[]⟩ 57 [(1,.int .i64 d),(2,.ptr b1 0),(3,.ptr b2 0),(4,.ptr bs.length 0)] (λaC=>?_) (λaC=>?_) λenv ⟨j,e⟩=>?_
  ·rw[aC] at Bi;subst Bi;refine rg ?_;simp only[BW,zjR h2,zjT h2,kg];exact⟨_,rfl,gE rfl⟩
  ·rw[aC] at Bi;subst Bi;exact⟨_,rfl,gE rfl⟩
  subst e;simp only[sh,sG,Nat.reduceBEq,Nat.reduceAdd,mS,oJ];simp only[zh];refine rg ?_;simp only[BW,dK,zjU dQ,e9,zZ,qo];generalize hR:iF (IntKind.i64.wrap (d+1)) args n1 s1=R
  refine qj (λm st=>∃i env n' s' ls,m+i=args.length/\st=⟨env,⟨two bs b1 b2 n' s'++ls,[]⟩,[],[]⟩/\Ks 57 [(1,.int .i64 d),(2,.ptr b1 0),(3,.ptr b2 0),(43,ye nl (fe args)),(44,.int .i64 (args.length:Nat)),(45,.int .i64 (i:Nat))] env/\iF (IntKind.i64.wrap (d+1)) (args.drop i) n' s'=R) args.length (by omega) ⟨0,_,_,_,_,rfl,rfl,gE rfl,hR⟩ ?_
  rintro m st ⟨i,env,n',s',ls,tX,rfl,⟨j,rfl⟩,o4⟩;simp only[sh,sG,Nat.reduceBEq,Nat.reduceAdd,mS,oJ];simp only[zh];refine rg ?_;simp only[BW,qi]
  by_cases hi:i<args.length
  ·refine .inl ⟨by simp;omega,?_⟩
   obtain⟨a,ha⟩:∃a,args[i]?=some a:=⟨args[i],by simp[hi]⟩
   have eY:args.drop i=a::args.drop (i+1):=by
    rw[GO hi];rw[gj hi] at ha;cases ha;rfl
   refine rg ?_;simp only[BW,zZ,Y0 ha,UH,Zn,zJ (show dz (.agg zE)=true from rfl),V.cells,kQ,zou (l:=zE) rfl rfl];refine rg ?_;have dj:=fD a (nB ha) (IntKind.i64.wrap (d+1)) n' s' (bs++(ls++[.cells (aK a) 53])) [] (by simp;omega) (by simp;omega)
   rw[zjQ h1 h2,zjQ h1 h2,qB] at dj;rw[eY] at o4;simp only[iF] at o4;generalize cM a (IntKind.i64.wrap (d+1)) n' s'=r at dj o4;obtain⟨r1,r2,r3⟩:=r
   have hc:Cx.bB ⟨prog,gl.g,zj prog gl N,nU⟩ 122 [.agg (aK a),.int .i64 (IntKind.i64.wrap (d+1)),.ptr b1 0,.ptr b2 0] ⟨two bs b1 b2 n' s'++(ls++[.cells (aK a) 53]),[]⟩=some (.val (.bool r1),⟨two bs b1 b2 r2 r3++(ls++[.cells (aK a) 53]),[]⟩):=zu func122 rfl dj;cases r1 with
   | false =>
    simp only[BW,DG,kg,hc,iH];refine rg ?_;simp only[BW];simp only[fR,bw] at o4;subst o4;exact fz rfl ⟨rfl,_,rfl⟩
   | true =>
    simp only[BW,DG,kg,hc,iH];refine rg ?_;simp only[aF] at o4;have h4:=X_ (i:=i) (by omega)
    simp only[BW,kg,h4];exact⟨m - 1,by omega,i+1,_,_,_,_,by omega,rfl,gE rfl,o4⟩
  ·obtain rfl:i=args.length:=by omega
   refine .inr ⟨by simp,?_⟩
   rw[List.drop_length] at o4;simp only[iF] at o4;subst o4;refine rg ?_;simp only[BW];exact fz rfl ⟨rfl,_,rfl⟩
termination_by e=>hg e
decreasing_by simp only[hg];have:=Qz ha;omega
end
section
variable{gl:Gl}{ez:bM}
section
variable{bs:List aY}{x:aY}{n s z:Int}{es:aO}{g:Nat->Nat->b_}{env:aD}{df:bP}
theorem MO{y w:aY}:two (bs++[x,y,w]) (bs.length+1) (bs.length+2) n s=bs++[x,ci n,ci s]:=by
 unfold two;rw[Aa _ _ (by omega),Aa _ _ (by omega),show bs.length+1 - bs.length=1 by omega,show bs.length+2 - bs.length=2 by omega]
 rfl
theorem Rp:qr prog 3 ⟨bs++[x,ci n,ci s],es⟩ [] df (some (.int .i64 z,env)) (some (.ptr (bs.length+1) 0))=some (.skip,⟨env,⟨bs++[x,ci z,ci s],es⟩,[],df⟩):=by
 have:=zjS (bs:=bs++[x,ci n,ci s]) (ls:=[]) (b1:=bs.length+1) (b2:=bs.length+2) (n:=n) (s:=s) (z:=z) (es:=es) (env:=env) (df:=df) (by simp) (by omega)
 rwa [MO,MO,m7,m7] at this
theorem Rq:qr prog 3 ⟨bs++[x,ci n,ci s],es⟩ [] df (some (.int .i64 z,env)) (some (.ptr (bs.length+2) 0))=some (.skip,⟨env,⟨bs++[x,ci n,ci z],es⟩,[],df⟩):=by
 have:=zjT (bs:=bs++[x,ci n,ci s]) (ls:=[]) (b1:=bs.length+1) (b2:=bs.length+2) (n:=n) (s:=s) (z:=z) (es:=es) (env:=env) (df:=df) (by simp)
 rwa [MO,MO,m7,m7] at this
theorem Rr:zk prog ⟨bs++[x,ci n,ci s],es⟩ g 3 (.ptr (bs.length+2) 0)=some (.int .i64 s):=by
 have:=zjR (bs:=bs++[x,ci n,ci s]) (ls:=[]) (b1:=bs.length+1) (b2:=bs.length+2) (n:=n) (s:=s) (es:=es) (g:=g) (by simp)
 rwa [MO,m7] at this
theorem Zq{e:E}{ls:List aY}:zk prog ⟨bs++(.cells (aK e) 53::ls),es⟩ g 53 (.ptr bs.length 0)=some (enc e):=by
 rw[jc BJ uZ (cs:=aK e) (ty:=53) (by
  show nth _ _=_
  rw[zg,fI (dA _)];simp) (by rw[z0];omega),qB,mu,r9 (by rw[z0];omega)]
end
theorem Zr:qP prog 3=some (.int .i64 0):=by kernel_rfl
theorem zpq{z:Int}:aY.cells [.int .i64 z] 3=ci z:=rfl
def C7:b_->b_->b_
 | some (.int k a),some (.int _ b)=>some (.int k (if b<a then b else a))
 | _,_=>none
theorem Zs{cx:Cx}{takes:cg}{dst:fJ}{type:aB}{pos:String}{after:Array Edge}{guard:pI}{env:aD}{H:Hp}{lk:aO}{df:bP}{x y:aW}{ts:Array aB} :
  cx.op takes ⟨dst,.call ⟨.builtin .min,#[x,y],ts⟩,type,pos,after,guard⟩ env H lk df=iz env H lk df (C7 (ak env x) (ak env y)):=by
 simp only[Cx.op,Cx.builtin];cases hx:ak env x with
 | none=>cases ak env y<;>simp[C7,iz]
 | some a=>cases hy:ak env y with
  | none=>cases a<;>simp[C7,iz]
  | some b=>cases a<;>cases b<;>simp[C7,iz]
def UR(ez:bM):Bool:=[122,153,154].all (λf=>!ez.any (Nat.beq f))
theorem zjV(hG:GK gl ez)(eH:UR ez=true){e:E}(hw:Wf e){N:Nat}(hN:hg e+3<=N){bs:List aY}{x:aY}:Cx.bB ⟨prog,gl.g,zj prog gl N,nU⟩ 122 [enc e,.int .i64 1,.ptr (bs.length+1) 0,.ptr (bs.length+2) 0] ⟨bs++[x,ci 0,ci 0],[]⟩=some (.val (.bool (cM e 1 0 0).1),⟨bs++[x,ci (cM e 1 0 0).2.1,ci (cM e 1 0 0).2.2],[]⟩):=by
 have:=zpp hG eH e hw 1 0 0 N hN (bs++[x,ci 0,ci 0]) [] (bs.length+1) (bs.length+2) (by simp) (by simp) (by omega)
 rw[MO,MO] at this;exact zu func122 rfl this
theorem zru(hG:GK gl ez)(h0:ez.any (Nat.beq 85)=false)(eH:UR ez=true)(e:E)(hw:Wf e):mY (hg e+4) prog gl 85 [enc e] (.bool (Kt e)):=by
 refine vz hG func85 rfl h0 rfl (hg e+3) λn hn bs=>?_;simp only[f85,zh];refine rg ?_;simp only[BW,List.replicate,MN,z8 (Kw e),yg];refine rg ?_;have hz:(V.int .i64 0).cells=[.int .i64 0]:=rfl;simp only[BW,Nat.reduceAdd,Zr,zJ (show dz (.int .i64 0)=true from rfl),hz,zpq,Rp,Rq];refine rg ?_
 simp only[BW,Zq,Oo,zjV hG eH hw hn];exact fz rfl ⟨rfl,_,rfl⟩
theorem zrv(hG:GK gl ez)(h0:ez.any (Nat.beq 87)=false)(eH:UR ez=true)(e:E)(hw:Wf e):mY (hg e+4) prog gl 87 [enc e] (.int .i64 (vw e)):=by
 refine vz hG func87 rfl h0 rfl (hg e+3) λn hn bs=>?_;simp only[f87,zh];refine rg ?_;simp only[BW,List.replicate,MN,z8 (Kw e),yg];refine rg ?_;have hz:(V.int .i64 0).cells=[.int .i64 0]:=rfl;have hc:=zjV hG eH hw hn (bs:=bs) (x:=.cells (aK e) 53);unfold vw;generalize cM e 1 0 0=r at hc ⊢;obtain⟨r1,r2,r3⟩:=r
 simp only[BW,Nat.reduceAdd,Zr,zJ (show dz (.int .i64 0)=true from rfl),hz,zpq,Rp,Rq];refine rg ?_;cases r1 with
 | false =>
  simp only[BW,Zq,Oo,hc,iH];refine rg ?_;simp only[BW];exact fz rfl ⟨rfl,_,rfl⟩
 | true =>
  simp only[BW,Zq,Oo,hc,iH];refine rg ?_
  by_cases h:1001<r3
  ·simp only[BW,Rr,Zs,C7,h];exact fz rfl ⟨by simp[cJ,h],_,rfl⟩
  ·simp only[BW,Rr,Zs,C7,h];exact fz rfl ⟨by simp[cJ,h],_,rfl⟩
end
section
set_option maxHeartbeats 1000000
variable{gl:Gl}{ez:bM}
def zC:aD:=iR (.mk 0 0 0 0 0 0 [] 0 0 true [],false,.mk 0 0 0 0 0 0 [] 0 0 true [])
section
variable{bs ls:List aY}{es:aO}{g:Nat->Nat->b_}{env:aD}{df:bP}{c:Cr}
theorem Zt{x:aY}:(⟨bs++(ls++[x]),es⟩:Hp).get (bs.length+ls.length)=some x:=by
 show nth _ _=_;rw[zg,fI (by omega),show bs.length+ls.length - bs.length=ls.length by omega,fI (dA _)];simp
theorem Rs:qr prog 55 ⟨bs++(ls++[.cells zC 55]),es⟩ [] df (some (.agg (iR c),env)) (some (.ptr (bs.length+ls.length) 0))=some (.skip,⟨env,⟨bs++(ls++[.cells (iR c) 55]),es⟩,[],df⟩):=by
 have h:=Kg (P:=prog) (t:=55) (n:=21) (B:=bs) (ls:=ls++[.cells zC 55]) (k:=ls.length) (off:=0) (cs:=zC) (ty:=55) (v:=.agg (iR c)) (env:=env) (lk:=[]) (df:=df) (es:=es) Ja (by rw[zg];simp) rfl (by simp only[V.laid,yf,w7]) (by simp[zC,w7]) (zjM _) (by simp[V.top,Zb])
 rw[h];simp only[V.laid,yf];rw[wQ (by simp[zC,w7])]
 simp
theorem pT:zB prog 55 0=some 0/\zB prog 55 1=some 10/\zB prog 55 2=some 11:=⟨by kernel_rfl,by kernel_rfl,by kernel_rfl⟩
theorem Ky:zk prog ⟨bs++(ls++[.cells (iR c) 55]),es⟩ g 53 (.ptr (bs.length+ls.length) 0)=some (.agg (aK c.1))/\zk prog ⟨bs++(ls++[.cells (iR c) 55]),es⟩ g 53 (.ptr (bs.length+ls.length) 11)=some (.agg (aK c.2.2))/\zk prog ⟨bs++(ls++[.cells (iR c) 55]),es⟩ g 4 (.ptr (bs.length+ls.length) 10)=some (.bool c.2.1):=by
 have h1:=z0 c.1;have h2:=z0 c.2.2;refine⟨?_,?_,?_⟩
 ·rw[jc BJ uZ Zt (by rw[w7];omega)]
  simp only[iR,mu,a_];rw[List.take_left' h1]
 ·rw[jc BJ uZ Zt (by rw[w7];omega)]
  simp only[iR];rw[List.drop_left' (by simp[h1]),r9 (by omega)]
 ·refine zt (by kernel_rfl) Zt ?_
  simp only[iR,a_];rw[zg,fI (by omega),h1];rfl
end
theorem Zu:qP prog 55=some (.agg zC):=z47
def zpr(ez:bM):Bool:=UR ez && [85,86,87].all (λf=>!ez.any (Nat.beq f))
theorem Zv(hG:GK gl ez)(h0:ez.any (Nat.beq 54)=false)(eH:zpr ez=true)(nl:Bool)(l:List Cr)(_hl:l.length<=maxLen)(hw:∀c∈l,MF c):Kn prog gl 54 [zX nl l] (.br [.int .i64 (yP l).1,.bool (yP l).2]):=by
 have B_:=rF;obtain⟨K,hK⟩:∃K,∀c∈l,hg c.1<=K/\hg c.2.2<=K:=by
  clear _hl hw
  induction l with
  | nil=>exact⟨0,λc h=>by cases h⟩
  | cons a l ih =>
   obtain⟨K,hK⟩:=ih;refine⟨max K (max (hg a.1) (hg a.2.2)),λc h=>?_⟩;rcases dG.1 h with rfl|h
   ·omega
   ·have:=hK c h;omega
 simp only[zpr,d_,List.all_cons,List.all_nil,Bool.and_true,Dd] at eH;obtain⟨Rt,n85,n86,n87⟩:=eH;refine⟨_,vz hG func54 rfl h0 rfl (l.length+K+5) λn hn bs=>?_⟩;simp only[f54,zh];refine rg ?_;simp only[BW,List.replicate];refine rg ?_
 by_cases c0:(200:Int)<l.length
 ·simp only[BW,qZ,yu,gt_iff_lt,c0];refine rg ?_;simp only[BW];have hm:yP l=(0,false):=by simp[yP,cJ,c0]
  rw[hm];exact Hw rfl rfl ⟨rfl,[],by simp⟩
 simp only[BW,qZ,yu,gt_iff_lt,c0];have hm:yP l=nt 0 l:=by simp[yP,cJ,c0]
 rw[hm];generalize hR:nt 0 l=R;refine rg ?_;simp only[BW,qZ,yu];refine qj (λm st=>∃i env p ls,m+i=l.length/\st=⟨env,⟨bs++ls,[]⟩,[],[]⟩/\Ks 52 [(2,.int .i64 p),(3,.bool false),(9,zX nl l),(10,.int .i64 (l.length:Nat)),(11,.int .i64 (i:Nat))] env/\nt p (l.drop i)=R) l.length (by omega) ⟨0,_,_,[],rfl,by rw[m7],gE rfl,hR⟩ ?_
 rintro m st ⟨i,env,p,ls,tX,rfl,⟨j,rfl⟩,o4⟩;simp only[sh,sG,Nat.reduceBEq,Nat.reduceAdd,mS,oJ];simp only[zh];refine rg ?_;simp only[BW,qi]
 by_cases hi:i<l.length
 ·refine .inl ⟨by simp;omega,?_⟩
  obtain⟨c,hc⟩:∃c,l[i]?=some c:=⟨l[i],by simp[hi]⟩
  have eY:l.drop i=c::l.drop (i+1):=by
   rw[GO hi];rw[gj hi] at hc;cases hc;rfl
  have rq:=nB hc;obtain⟨w1,w2⟩:=hw c rq;obtain⟨k1,k2⟩:=hK c rq;rw[eY] at o4;have c85:∀e,Wf e->hg e<=K->∀H,Cx.bB ⟨prog,gl.g,zj prog gl n,nU⟩ 85 [.agg (aK e)] H=some (.val (.bool (Kt e)),H):=λe w k=>by
   rw[<- qB];exact jt func85 rfl (zru hG n85 Rt e w n (by omega))
  have c87:∀e,Wf e->hg e<=K->∀H,Cx.bB ⟨prog,gl.g,zj prog gl n,nU⟩ 87 [.agg (aK e)] H=some (.val (.int .i64 (vw e)),H):=λe w k=>by
   rw[<- qB];exact jt func87 rfl (zrv hG n87 Rt e w n (by omega))
  have c86:∀e H,Cx.bB ⟨prog,gl.g,zj prog gl n,nU⟩ 86 [.agg (aK e)] H=some (.val (.bool (mM e)),H):=λe=>by
   rw[<- qB];exact jt func86 rfl (zrt hG n86 e n (by omega))
  refine rg ?_;simp only[BW,qZ,Ze hc,zjN,Zu,zJ (show dz (.agg zC)=true from rfl),V.cells,Rs];have ej:∀b,C4 c=b->b=true/\nt p (c::l.drop (i+1))=nt (Ga p c) (l.drop (i+1))\/b=false/\nt p (c::l.drop (i+1))=(0,false):=λb hb=>by
   simp only[nt];cases b with
   | true=>exact .inl ⟨rfl,by rw[hb];rfl⟩
   | false=>exact .inr ⟨rfl,by rw[hb];rfl⟩
  obtain⟨ls',aon⟩:∃ls',ls'=ls++[.cells (iR c) 55]:=⟨_,rfl⟩;refine MG 52 [(2,.int .i64 p),(3,.bool false),(5,.ptr (bs.length+ls.length) 0),(9,zX nl l),(10,.int .i64 (l.length:Nat)),(11,.int .i64 (i:Nat)),(39,.bool (!C4 c))] ?_ λenv ⟨j,e⟩=>?_
  ·refine rg ?_;have MP:=c85 c.1 w1 k1;obtain⟨q1,q2,q3⟩:=(Ky (bs:=bs) (ls:=ls) (es:=[]) (g:=gl.g) (c:=c));cases a1:Kt c.1 with
   | false =>
    rw[a1] at MP;simp only[BW,pT,q1,MP,iH];exact⟨_,rfl,(show(!C4 c)=true by simp[C4,a1]) ▸ gE rfl⟩
   | true =>
   rw[a1] at MP;have Jf:=c85 c.2.2 w2 k2;have US:=c86 c.2.2;cases a2:c.2.1 with
   | true =>
    rw[a2] at q3;cases a3:Kt c.2.2 with
    | false =>
     rw[a3] at Jf;simp only[BW,pT,q1,q2,q3,MP,Jf,iH];exact⟨_,rfl,(show(!C4 c)=true by simp[C4,a1,a2,a3]) ▸ gE rfl⟩
    | true =>
     rw[a3] at Jf;simp only[BW,pT,q1,q2,q3,MP,Jf,iH];exact⟨_,rfl,(show(!C4 c)=false by simp[C4,a1,a2,a3]) ▸ gE rfl⟩
   | false =>
    rw[a2] at q3;cases a3:mM c.2.2 with
    | false =>
     rw[a3] at US;simp only[BW,pT,q1,q2,q3,MP,US,iH];exact⟨_,rfl,(show(!C4 c)=true by simp[C4,a1,a2,a3]) ▸ gE rfl⟩
    | true =>
     rw[a3] at US;simp only[BW,pT,q1,q2,q3,MP,US,iH];exact⟨_,rfl,(show(!C4 c)=false by simp[C4,a1,a2,a3]) ▸ gE rfl⟩
  subst e;simp only[sh,sG,Nat.reduceBEq,Nat.reduceAdd,mS,oJ];rcases ej _ rfl with⟨ho,hF⟩|⟨ho,hF⟩
  ·rw[hF] at o4;simp only[BW,ho];obtain⟨q1,q2,q3⟩:=(Ky (bs:=bs) (ls:=ls) (es:=[]) (g:=gl.g) (c:=c));have v1:=c87 c.1 w1 k1;have v2:=c87 c.2.2 w2 k2;generalize hq:vw c.1=z1 at v1;generalize CO:vw c.2.2=z2 at v2;refine wY (tk:=[]) (by kernel_rfl) ?_
   apply Exists.intro;apply And.intro;refine oF 0 (.int .i64 p) (by simp only[BW]) ?_
   dsimp only[aq]
   refine oF 0 (.ptr (bs.length+ls.length) 0) (by simp only[BW,pT]) ?_
   dsimp only[aq]
   refine oL 2 (.agg (aK c.1)) (by simp only[BW,q1]) (λc h=>by cases h) ?_
   dsimp only[aq]
   refine oH 6 8 (.int .i64 z1) (by simp only[BW,v1]) (λc h=>by cases h) (by kernel_rfl) ?_
   dsimp only[aq]
   refine oF 15 (.int .i64 (IntKind.i64.wrap (p+z1))) (by simp only[BW,kg]) ?_
   dsimp only[aq]
   refine oF 0 (.ptr (bs.length+ls.length) 11) (by simp only[BW,pT]) ?_
   dsimp only[aq]
   refine oL 32 (.agg (aK c.2.2)) (by simp only[BW,q2]) (λc h=>by rw[oG.1 h];exact⟨rfl,rfl,rfl⟩) ?_
   dsimp only[aq]
   refine oH 110 136 (.int .i64 z2) (by simp only[BW,v2]) (λc h=>by rw[oG.1 h];kernel_rfl) (by kernel_rfl) ?_
   dsimp only[aq]
   refine oF 255 (.int .i64 (IntKind.i64.wrap (IntKind.i64.wrap (p+z1)+z2))) (by simp only[BW,kg]) ?_
   dsimp only[aq]
   refine oL 511 (.int .i64 (Ga p c)) (by
    simp only[BW,Zs,C7];simp only[Ga,hq,CO,cJ]
    by_cases h:1001<IntKind.i64.wrap (IntKind.i64.wrap (p+z1)+z2)<;>simp[h]) (λc h=>by simp only[dG,A8,AM] at h;rcases h with rfl|rfl<;>exact⟨rfl,rfl,rfl⟩) ?_
   dsimp only[aq]
   refine oF 1023 (.int .i64 (Ga p c)) (by simp only[BW]) wZ
   simp only[aq];refine rg ?_;have h4:=X_ (i:=i) (by omega)
   simp only[BW,kg,h4];exact⟨m - 1,by omega,i+1,_,_,ls++[.cells (iR c) 55],by omega,rfl,gE rfl,o4⟩
  ·rw[hF] at o4;subst o4;simp only[BW,ho];refine rg ?_;simp only[BW];exact Hw rfl rfl ⟨rfl,_,rfl⟩
 ·obtain rfl:i=l.length:=by omega
  refine .inr ⟨by simp,?_⟩
  rw[List.drop_length] at o4;simp only[nt] at o4;subst o4;refine rg ?_;simp only[BW];exact Hw rfl rfl ⟨rfl,_,rfl⟩
end
end Go.Proofs.YthohlnmcjkjeiaaGreatDoor.A2
namespace Go.Proofs.YthohlnmcjkjeiaaGreatDoor
open Go Go.Vm
open Go.Proofs.Tryz
set_option maxRecDepth 100000
section
variable{gl:Gl}
def fC(F N:aD):aD:=[.aG,.aG,zl 1 27 F,zl 1 27 N]
structure BI(H:Hp)(F N:aD)(m:Mk):Prop where
 r:H.get 0=some (.cells zF 30)
 f:H.get 2=some (.cells (fC F N) 30)
 A1:∃i,MK 0 H 1 m i
 len:3<=H.az.length
def Kc(H H':Hp):Prop:=∀d cs ty,d≠1->H.get d=some (.cells cs ty)->H'.get d=some (.cells cs ty)
theorem zmF{H H':Hp}{c:V}{i:Option Nat}{xs:List aD}(hu:UL H 19 115 c i xs)(hf:s5 H H' (λd=>d=1\/i=some d)):Kc H H':=λd cs ty hd hg=>hf.some hg λhc=>by
 rcases hc with rfl|hc
 ·exact hd rfl
 ·exact Mw hu hg hc
variable{H:Hp}{F N:aD}{m:Mk}
theorem BI.made(h:BI H F N m){H':Hp}{m':Mk}{i':Option Nat}(hk:Kc H H')(hl:H.az.length<=H'.az.length)(hm:MK 0 H' 1 m' i'):BI H' F N m' :=
 ⟨hk _ _ _ (by decide) h.r,hk _ _ _ (by decide) h.f,⟨i',hm⟩,cN h.len hl⟩
theorem BI.push(h:BI H F N m)(x:aY):BI (H.push x) F N m:=by
 have hl:=h.len;obtain⟨i,c,k1,k2,k3⟩:=h.A1;refine⟨(jG (by omega)).trans h.r,(jG (by omega)).trans h.f,⟨i,c,(jG (by omega)).trans k1,k2.frame λj hj=>jG (by subst hj;exact k2.lt),k3⟩,by rw[jk];omega⟩
theorem zov(x:aY):Kc H (H.push x):=λ_d _cs _ty _ hg=>(jG (kJ hg)).trans hg
theorem BI.C2(h:BI H F N m){b:Nat}{cs cs':aD}{ty ty':aB}(hb:H.get b=some (.cells cs ty))(h3:3<=b):BI (H.set b (.cells cs' ty')) F N m:=by
 obtain⟨i,c,k1,k2,k3⟩:=h.A1;refine⟨(qC (by omega)).trans h.r,(qC (by omega)).trans h.f,⟨i,c,(qC (by omega)).trans k1,k2.frame λj hj=>qC λe=>?_,k3⟩,by rw[wv];exact h.len⟩
 subst e;exact Mw k2 hb hj
theorem BI.Ru{F' N':aD}(h:BI H F N m):BI (H.set 2 (.cells (fC F' N') 30)) F' N' m:=by
 obtain⟨i,c,k1,k2,k3⟩:=h.A1;refine⟨(qC (by decide)).trans h.r,wI h.f,⟨i,c,(qC (by decide)).trans k1,k2.frame λj hj=>qC λe=>?_,k3⟩,by rw[wv];exact h.len⟩
 subst e;exact Mw k2 h.f hj
theorem zmG{H:Hp}{b:Nat}{v:V}{e:Nat×Nat}(h:e∈H.bG):e∈(H.bQ b v).bG:=by
 unfold Hp.bQ;split
 ·exact h
 ·exact dU _ h
theorem BI.bQ(h:BI H F N m)(b:Nat)(v:V):BI (H.bQ b v) F N m:=by
 obtain⟨i,c,k1,k2,k3⟩:=h.A1;exact⟨bU.trans h.r,bU.trans h.f,⟨i,c,bU.trans k1,k2.frame λj hj=>bU,λj hj hn=>⟨(k3 j hj hn).1,zmG (k3 j hj hn).2⟩⟩,by rw[xm];exact h.len⟩
theorem Zw{H:Hp}{b:Nat}{x y:aY}:(H.set b x).set b y=H.set b y:=by simp[Hp.set,List.set_set]
theorem Zx{t n:aB}{H:Hp}{b:Nat}{v cs:aD}{ty:aB}{env:aD}{lk:aO}{df:bP}(hs:z4 prog t=some n)(hg:H.get b=some (.cells cs ty))(hv:v.length=n)(hc:v.map aV=v)(ht:aI v=0)(hl:cs.length=n)(hu:cs.all (λc=>!(locked c))=true) :
  qr prog t H lk df (some (.agg v,env)) (some (.ptr b 0))=some (.skip,⟨env,H.set b (.cells v ty),lk,df⟩):=by
 rw[zy (v:=.agg v) hs hg rfl (by simp[V.laid,hv]) (by omega) (wj hu (by omega)),jR (by simp[V.top,ht])]
 simp only[V.laid,hc];rw[wQ (by rw[hl,hv])]
theorem Zy{t n:aB}{H:Hp}{b:Nat}{cs:aD}{ty:aB}{g:Nat->Nat->b_}(ha:qz prog t=some true)(hs:z4 prog t=some n)(hg:H.get b=some (.cells cs ty))(hl:cs.length=n):zk prog H g t (.ptr b 0)=some (.agg cs):=by
 rw[jc ha hs hg (by omega),mu,r9 (by omega)]
theorem ON:mW prog 28 27 1 24:=⟨by kernel_rfl,by kernel_rfl,by kernel_rfl,by decide,by kernel_rfl,by kernel_rfl,by kernel_rfl⟩
theorem Rw:qz prog 28=some false:=by kernel_rfl
theorem Ge:zB prog 55 0=some 0:=by kernel_rfl
theorem MR:zB prog 55 1=some 10:=by kernel_rfl
theorem MS:zB prog 55 2=some 11:=by kernel_rfl
theorem MU:zB prog 30 0=some 0:=by kernel_rfl
theorem MV:zB prog 30 1=some 1:=by kernel_rfl
theorem Gf:zB prog 30 2=some 2:=by kernel_rfl
theorem MW:zB prog 30 3=some 3:=by kernel_rfl
theorem ldC{b:Nat}{c:Cr}{g:Nat->Nat->b_}(hg:H.get b=some (.cells (iR c) 55)) :
  zk prog H g 53 (.ptr b 0)=some (.agg (aK c.1))/\zk prog H g 4 (.ptr b 10)=some (.bool c.2.1)/\zk prog H g 53 (.ptr b 11)=some (.agg (aK c.2.2)):=by
 obtain⟨h,t,tr⟩:=c;have CR:=z0 h;have t10:=z0 tr;have e1:(iR (h,t,tr)).take 10=aK h:=by
  rw[iR,a_,<- CR,List.take_left]
 have e2:(iR (h,t,tr)).drop 11=aK tr:=by
  have:(aK h++[V.bool t]).length=11:=by simp[CR]
  rw[iR,<- this,List.drop_left]
 have e3:(iR (h,t,tr))[10]?=some (.bool t):=by
  rw[iR,a_,fI (by simp only;omega),CR];rfl
 refine⟨?_,zt Ox hg (by rw[zg,e3]),?_⟩
 ·rw[jc BB s6 hg (by rw[w7];decide),mu,e1]
 ·rw[jc BB s6 hg (by rw[w7];decide),e2,r9 (by omega)]
theorem zqX{x:aW}{env:aD}{h t:E}(hx:ak env x=some (.sl 10 [.agg (aK h),.agg (aK t)] .no)):ky prog 53 #[(0,.const (.int .i64 5)),(6,x)] env=some (.agg (aK (.mk 5 0 0 0 0 0 [] 0 0 false [h,t]))):=by
 have hp:(match prog.underlying 53 with|some (.struct fs)=>Tf prog fs|_=>none)=some [(0,1),(1,1),(2,4),(6,1),(7,1),(8,1),(9,1)]:=by kernel_rfl
 have h5:ak env (.const (.int .i64 5))=some (.int .i64 5):=rfl;unfold ky;rw[Zg];cases hu:prog.underlying 53 with
 | none=>rw[hu] at hp;cases hp
 | some d =>
  rw[hu] at hp;cases d<;>simp only at hp<;>try (cases hp;done)
  simp only[hp];simp[dz,xN,h5,hx,nth,aK,V.cells,Vm.storeCells,ye,fe,qB]
theorem UT(hb:BI H F N m)(cz v:aD)(ty ty':aB):BI ((H.push (.cells cz ty)).set H.az.length (.cells v ty')) F N m/\Kc H ((H.push (.cells cz ty)).set H.az.length (.cells v ty'))/\((H.push (.cells cz ty)).set H.az.length (.cells v ty')).get H.az.length=some (.cells v ty')/\((H.push (.cells cz ty)).set H.az.length (.cells v ty')).az.length=H.az.length+1:=by
 have hg:(H.push (.cells cz ty)).get H.az.length=some (.cells cz ty):=we;refine⟨(hb.push _).C2 hg hb.len,λd cs t hd AR=>?_,wI hg,by rw[wv,jk]⟩
 have:=kJ AR;rw[qC (by omega),jG this,AR]
theorem Zz(hb:BI H F N m){b:Nat}{cs v:aD}{ty:aB}(hg:H.get b=some (.cells cs ty))(h3:3<=b):BI (H.set b (.cells v ty)) F N m/\(∀d x,d≠b->H.get d=some x->(H.set b (.cells v ty)).get d=some x)/\(H.set b (.cells v ty)).get b=some (.cells v ty)/\(H.set b (.cells v ty)).az.length=H.az.length :=
 ⟨hb.C2 hg h3,λ_d _x hd hx=>(qC hd).trans hx,wI hg,wv⟩
end
section
variable{gl:Gl}
theorem zmJ(hg:GW gl){n:Nat}(hn:70<=n){H:Hp}{b off eI:Nat}{pre post:aD}{p:Nat->Bool}(hb:H.get b=some (.ul eI 19 (pre++pv 19 p++post) 115))(ho:pre.length=off) :
  zj prog gl (n+1) 59 [.gh b eI off] H=some (.ret (aV (zl 1 3 (xo p 19))),H):=by
 obtain⟨bs,es⟩:=H;have uu:Hp.get ⟨bs,[]⟩ b=some (.ul eI 19 (pre++pv 19 p++post) 115):=hb;have iD:zW bs.length es 0 ⟨bs,[]⟩=⟨bs,es⟩:=by
  have:=z9 (bs:=bs) (ls:=[]) (es:=es) (t:=0) (ec _)
  rwa [m7] at this
 generalize hL:xo p 19=L
 suffices bL:(go ⟨prog,gl,zj prog gl n,fu⟩ n (Fx prog f59.results.toList λw H1=>w=aV (zl 1 3 L)/\H1=⟨bs,[]⟩) [.c (f59.body.getD .skip)] .normal ⟨[.gh b eI off]++List.replicate 28 (.br []),⟨bs,[]⟩,[],[]⟩) by
  obtain⟨w,H1,h0,h1,h2⟩:=zQ (gl:=gl) (f:=59) (bs:=bs) (es:=es) (args:=[.gh b eI off]) (n:=n) (hg.hk _ _ (by decide)) (λH=>hg.fA _ _ _ _) func59 rfl (by rw[hg.uq];exact bL)
  rw[h0,h1,h2];have:(aV (zl 1 3 L)).top=0:=by
   rw[<- hL];exact zcW 19
  rw[this];exact congrArg (λx=>some (Out.ret _,x)) iD
 simp only[f59,fS,zh];refine zi ?_;simp only[qx,aH,zh,z7,qG,aj,aS,qd,aM,aq,bS,bT,List.replicate,bh,aZ]
 refine zi ?_;simp only[qx,aH,zh,z7,qG,aj,aS,qd,aM,aq,bS,bT]
 refine zi ?_;simp only[qx,aH,zw,zK,ak,aj,zd,zr,aM,aq,bS,bT,jQ]
 refine qj (λm s=>∃i env,m+i=19/\s=⟨env,⟨bs,[]⟩,[],[]⟩/\env.length=29/\nth env 3=some (zl 1 3 (xo p i))/\nth env 6=some (.gh b eI off)/\nth env 7=some (.int .i64 (i:Nat))) 19 (by omega) ⟨0,_,rfl,rfl,rfl,rfl,rfl,rfl⟩ ?_
 rintro m s ⟨i,env,tX,rfl,hlen,h3,h6,h7⟩;simp only[zh];refine zi ?_;simp only[qx,aH,zh,qR,zV,ak,aj,h7,zr,aM,aq,za,hlen,Nat.reduceLT,aF,zR,qQ,qT,qi]
 by_cases hi:i<19
 ·refine .inl ⟨by simp;omega,?_⟩
  simp only[bz,zh,zw]
  refine ja (tk:=[]) (by kernel_rfl) (by kernel_rfl) ?_
  have cU:nth (pre++pv 19 p++post) (off+i)=some (.int .u64 (kL p i:Nat)):=by
   rw[zg,<- ho,xG jE hi,yI hi]
  have gx:zk prog ⟨bs,[]⟩ gl.g 48 (.gh b eI (off+i))=some (.int .u64 (kL p i:Nat)):=ze8 ng uu cU;simp only[jV,bk,zw,au,ng,lM,zK,zG,zT,qw,z7,zL,ak,h6,h7,zr,aM,aq,za,bD,hlen,Nat.reduceEqDiff,Nat.reduceLT,aF,bw,jQ,zR,qq,qd,aS,aT,aa,aE,zhB hi,gx]
  refine qj (λm s=>∃w acc env,(wi w).length=m/\w<2 ^ 64/\acc++((wi w).map λj=>.int .i64 ((64 * i+j:Nat):Int))=xo p (i+1)/\s=⟨env,⟨bs,[]⟩,[],[]⟩/\env.length=29/\nth env 3=some (zl 1 3 acc)/\nth env 4=some (.int .i64 (i:Nat))/\nth env 5=some (.int .u64 (w:Nat))/\nth env 6=some (.gh b eI off)/\nth env 7=some (.int .i64 (i:Nat))) (wi (kL p i)).length (by have:=XU (w:=kL p i);omega) ⟨kL p i,xo p i,_,rfl,wd,rfl,rfl,?_,?_,?_,?_,?_,?_⟩ ?_
  ·simp[hlen]
  ·simp[za,h3]
  ·simp[za,hlen]
  ·simp[za,hlen]
  ·simp[za,h6]
  ·simp[za,h7]
  clear h3 h6 h7 hlen;rintro m s ⟨w,acc,env,hm,hw,Ap,rfl,hlen,h3,h4,h5,h6,h7⟩;simp only[zh];refine zi ?_;simp only[qx,aH,qR,zK,zV,ak,aj,h5,zr,aM,aq,za,bD,hlen,Nat.reduceEqDiff,Nat.reduceLT,aF,bw,zR,qQ,Qj,qi]
  by_cases AS:w=0
  ·subst AS;rw[s4,bp,m7] at Ap;subst Ap;refine .inr ⟨by decide,?_⟩
   simp only[qm,zN,zq,bI,zD,lK,aF,qD];refine zi ?_;simp only[qx,aH,zK,zV,ak,aj,h7,zr,aM,aq,za,bD,hlen,Nat.reduceEqDiff,Nat.reduceLT,aF,bw,zR,z6 (show i<2 ^ 60 by omega),zq,aN]
   refine⟨18 - i,by omega,i+1,_,by omega,rfl,?_,?_,?_,?_⟩
   ·simp[hlen]
   ·simp[za,h3]
   ·simp[za,h6]
   ·simp[za,hlen]
  ·refine .inl ⟨by simp;omega,?_⟩
   obtain⟨k,mm,CS⟩:=Bs w AS;have G1:=λ(H:Hp)=>zml hg (n:=n - 1) (H:=H) (k:=k) (m:=mm) (by rw[<- CS];exact hw)
   rw[<- CS,show n - 1+1=n by omega] at G1
   simp only[bz,zh,zw]
   refine ww (tk:=[19]) (by kernel_rfl) ?_
   have dj:Cx.bB ⟨prog,gl.g,zj prog gl n,fu⟩ 96 [.int .u64 (w:Nat)] ⟨bs,[]⟩=some (.val (.int .i64 (k:Nat)),⟨bs,[]⟩):=zu func96 rfl (G1 _);have hk:k<64:=Qr (by rw[<- CS];exact hw)
   have QA:acc.length+1<=64 * (i+1):=by
    have h1:=congrArg List.length Ap;have h2:=xp (p:=p) (i+1);have h3:(wi w).length≠0:=by
     rw[CS,Uk (by rw[<- CS];exact hw)];simp
    simp only[aU,gk] at h1;omega
   have fy:=jD DA (H:=⟨bs,[]⟩) (xs:=acc) (ys:=[V.int .i64 ((64 * i+k:Nat):Int)]) (o:=.no) (by simp) (dD (by simp;omega) (by simp;omega))
   have FL:=DA.Cc (v:=.int .i64 ((64 * i+k:Nat):Int)) rfl rfl;have hmul:∀(u v:aW),qL prog .mul 3 u v (some (.int .i64 64)) (some (.int .i64 (i:Nat)))=some (.int .i64 ((64 * i:Nat):Int)):=λu v=>XY (a:=64) (by omega)
   have Mf:nth (((env.set 13 (V.int .u64 (w:Nat))).set 14 (V.bool ((w:Int) != 0)))) 3=some (zl 1 3 acc):=by simp[za,h3]
   simp only[qx,jz,jq,vW Mf,zV,kf,av,qp,ne_eq,uK,jO,jT (cx:=⟨prog,gl.g,zj prog gl n,fu⟩) (show p_ prog fu 27=false by kernel_rfl),ak,aj,h4,h5,zr,qd,aM,aq,za,bD,hlen,Nat.reduceEqDiff,Nat.reduceLT,aF,bw,zR,kZ,qM,bg,bp,aA,dj,hmul,xr (show 64 * i+k<2 ^ 60 by omega),FL]
   rw[vW (n:=1) (e:=3) (xs:=acc) (by simp[za,hlen])]
   simp only[xR,aT,fy,aM,aq,qx,aH,qD,z7]
   rw[vW (n:=1) (e:=3) (xs:=acc++[V.int .i64 ((64 * i+k:Nat):Int)]) (by simp[za,hlen])]
   simp only[qd,aM,aq]
   refine zi ?_;have Hr:w - 1<2 ^ 64:=by omega
   simp only[qx,aH,zK,zV,z7,zL,ak,aj,h5,zr,qd,aM,aq,za,bD,hlen,Nat.reduceEqDiff,Nat.reduceLT,aF,bw,zR,qq,ze6 AS hw,Ul hw Hr,zq,aN]
   have iU:wi w=k::wi (w &&& (w - 1)):=by
    rw[CS];exact Uk (by rw[<- CS];exact hw)
   refine⟨(wi (w &&& (w - 1))).length,by rw[<- hm,iU];simp,w &&& (w - 1),acc++[V.int .i64 ((64 * i+k:Nat):Int)],_,rfl,K7 Nat.and_le_left hw,?_,rfl,?_,?_,?_,?_,?_,?_⟩
   ·rw[<- Ap,iU];simp
   ·simp[hlen]
   ·simp[za,hlen]
   ·simp[za,h4]
   ·simp[za,hlen]
   ·simp[za,h6]
   ·simp[za,h7]
 ·obtain rfl:i=19:=by omega
  refine .inr ⟨by decide,?_⟩
  rw[hL] at h3;simp only[qm,zN,zq,bI,zD,lK,aF,zh];refine zi ?_;have rM:aV (aV (zl 1 3 L))=aV (zl 1 3 L):=by cases L<;>rfl
  have mq:∀e:aD,nth e 28=some (aV (zl 1 3 L))->take e (.tmp 28)=some (aV (zl 1 3 L),e):=λe he=>by
   rw[zL,he];cases L<;>rfl
  simp only[qx,aH,zK,z7,ak,h3,zr,aM,aq,za,hlen,Nat.reduceEqDiff,Nat.reduceLT,aF,bw]
  rw[mq _ (by simp[za,hlen])]
  simp only[qd,aM,aq,go_ret,zq,Fx]
  refine⟨trivial,[aV (zl 1 3 L)],?_,rfl,trivial⟩;simp[zx,za,hlen]
end
section
variable{gl:Gl}
theorem z3:qP prog 3=some (.int .i64 0):=by kernel_rfl
theorem sz3:z4 prog 3=some 1:=by kernel_rfl
theorem Rx:∃i,prog.info? 3=some i/\i.bytes=8:=by
 have h:=DA.i;cases hi:prog.info? 3 with
 | none=>rw[hi] at h;cases h
 | some i =>
  rw[hi] at h;simp only[aT] at h;cases hz:i.zero with
  | none=>rw[hz] at h;cases h
  | some z =>
   rw[hz] at h;simp only[aS,bq,cq] at h;exact⟨i,rfl,h.2⟩
theorem u0:∀(l:bM),(bY (l.map F9)).map aV=l.map F9
 | []=>rfl
 | a::l=>by
  simp only[bg,bY,List.map_append,u0 l];rfl
theorem BK:∀(k:Nat)(z:V),(List.replicate k [z]).flatten=List.replicate k z
 | 0,_=>rfl
 | k+1,z=>by simp[HR,BK k z]
def Gg:Nat->Code->Code
 | 0,c=>c
 | n+1,.seq _ b=>Gg n b
 | _+1,c=>c
structure EB(nl:Bool)(l:List Cr)(k:Nat)(env:aD):Prop where
 len:env.length=110
 e2:nth env 2=some (.ptr 0 0)
 e3:nth env 3=some .bN
 e4:nth env 4=some (.int .i64 (k:Int))
 e6:nth env 6=some (.ptr 1 0)
 e7:nth env 7=some (.ptr 2 0)
 A3:nth env 31=some (zX nl l)
 Av:nth env 32=some (.int .i64 (l.length:Int))
def UU(H:Hp)(ns:List (Nat->Bool))(N:aD):Prop:=N.length=ns.length/\∀(j:Nat)(p:Nat->Bool),ns[j]?=some p->∃b,N[j]?=some (.sr b 0 (jg p 19).length (jg p 19).length)/\H.get b=some (.cells ((jg p 19).map F9) 3)
theorem zow(hg:GW gl){n:Nat}(hn:4000<=n){nl:Bool}{l:List Cr}{k:Nat}{env:aD}{H:Hp}{m:Mk}{F:List bM}(he:EB nl l k env)(hb:BI H (F.map jH) [] m)(ej:m.Ok)(hM:m.sets.length<=1200)(cH:∀p∈m.next,jg p 19≠[]) :
  go ⟨prog,gl,zj prog gl n,fu⟩ n (Fx prog f14.results.toList λw H1=>∃N,w=.br [.agg [aV (zl 4 50 m.lE),aV (zl 1 3 m.fY),aV (zl 1 27 (F.map jH)),aV (zl 1 27 N)],.bN]/\UU H1 m.next N) [.c (Gg 7 (f14.body.getD .skip))] .normal ⟨env,H,[],[]⟩:=by
 have hlen:=he.len;obtain⟨im,cu,u1,u2,u3⟩:=hb.A1;have CG:aV cu=cu/\qX prog H 111 cu=some (m.next.length:Int):=by
  cases im with
  | none =>
   obtain⟨rfl,h⟩:=u2;have:m.next=[]:=by simpa using h
   exact⟨rfl,by rw[ze7 Hs.u,this];rfl⟩
  | some j=>obtain⟨v,rfl,_⟩:=u2;exact⟨rfl,by rw[xq Hs.u,gk]⟩
 have gx:zk prog H gl.g 111 (.ptr 1 2)=some cu:=zt FR u1 rfl;simp only[f14,fS,Gg,zh];refine zi ?_;simp only[BA,Nat.reduceEqDiff,ak,aj,aq,aa,ah,za,bD,Nat.reduceLT,bw,he.e6,hlen,rG,gx,CG.1,CG.2];have lf:m.next.length<=1200:=by rw[ej.n];exact hM
 refine y9 (λenv=>EB nl l k env/\nth env 75=some (.int .i64 (m.next.length:Int))/\nth env 76=some (.int .i64 ((0:Nat):Int))) ⟨⟨by simp[hlen],by simp[za,he.e2],by simp[za,he.e3],by simp[za,he.e4],by simp[za,he.e6],by simp[za,he.e7],by simp[za,he.A3],by simp[za,he.Av]⟩,by simp[za,hlen],by simp[za,hlen]⟩ λenv AV=>?_
 clear u1 u2 u3 gx CG cu im he hlen;refine qj (λj s=>∃q env H N,j+q=m.next.length/\s=⟨env,H,[],[]⟩/\EB nl l k env/\nth env 75=some (.int .i64 (m.next.length:Int))/\nth env 76=some (.int .i64 ((q:Nat):Int))/\BI H (F.map jH) N m/\UU H (m.next.take q) N) m.next.length (by omega) ⟨0,env,H,[],rfl,rfl,AV.1,AV.2.1,AV.2.2,hb,rfl,λj p hp=>by simp at hp⟩ ?_
 clear AV hb env H;rintro j s ⟨q,env,H,N,hjq,rfl,he,OO,MX,hb,hN⟩;have hlen:=he.len;simp only[zh];refine zi ?_;simp only[BA,ak,aq,za,Nat.reduceLT,OO,MX,hlen,qT]
 by_cases hq:q<m.next.length
 ·refine .inl ⟨by simpa using hq,?_⟩
  obtain⟨p,hp⟩:∃p,m.next[q]?=some p:=⟨_,gj hq⟩
  have hpg:m.next.getD q (λ_=>false)=p:=by rw[K1,hp];rfl
  have hpm:p∈m.next:=nB hp
  obtain⟨im,cu,u1,u2,u3⟩:=hb.A1;obtain⟨jj,rfl⟩:∃jj,im=some jj:=by
   cases im with
   | none =>
    have h:m.next=[]:=by simpa using u2.2
    rw[h] at hq;simp at hq
   | some jj=>exact⟨jj,rfl⟩
  obtain⟨v,rfl,hj⟩:=u2;obtain⟨pr,po,w1,w2,w3⟩:=zhq hq;rw[w2,hpg] at hj;have AX:Cx.bB ⟨prog,gl.g,zj prog gl n,fu⟩ 59 [.gh jj v (q * 19)] H=some (.val (jH (jg p 19)),H):=by
   have h:=zmJ hg (n:=n - 1) (by omega) (H:=H) hj w1
   rw[show n - 1+1=n by omega,xH] at h
   exact zu func59 rfl h
  obtain⟨xs,pz⟩:∃xs,xs=(jg p 19).map F9:=⟨_,rfl⟩;have Ry:xs≠[]:=by
   intro e;rw[pz] at e;exact cH p hpm (by simpa using e)
  have J7:xs.length=(jg p 19).length:=by rw[pz,gk]
  have aov:xs.length<=1216:=by
   rw[J7];have:=xp (p:=p) 19;rw[xH,gk] at this;omega
  obtain⟨row,cj⟩:∃row,row=V.sl 1 xs .no:=⟨_,rfl⟩;have V8:jH (jg p 19)=row:=by
   rw[cj,pz];have:(jg p 19).map F9≠[]:=by rw[<- pz];exact Ry
   unfold jH;cases h:(jg p 19).map F9 with
   | nil=>exact absurd h this
   | cons a b=>rfl
  rw[V8] at AX;have mq:∀env t,qF env t (some row)=some (row,env):=λ_ _=>by rw[cj];rfl
  have Jg:aV row=row:=by rw[cj];rfl
  have EO:∀H,qX prog H 27 row=some (xs.length:Int):=λH=>by rw[cj];simp[qX,DA.u]
  have gx:zk prog H gl.g 111 (.ptr 1 2)=some (.dB jj v (m.next.map (pv 19)).length):=zt FR u1 rfl
  have IW:zp prog 111 (.dB jj v (m.next.map (pv 19)).length) (q:Int)=some (.gh jj v (q * 19)):=by
   rw[Uo Hs.u Hs.s (by rw[gk];omega),Ac]
  refine zi ?_;simp only[BA,Nat.reduceEqDiff,ak,aq,za,bD,Nat.reduceLT,bw,MX,hlen];refine zi ?_
  simp only[BA,Nat.reduceEqDiff,av,ak,aq,aa,ah,aE,aA,za,bD,Nat.reduceLT,bw,he.e6,hlen,rG,gx,IW,AX,mq]
  refine y9 (λenv=>EB nl l k env/\nth env 75=some (.int .i64 (m.next.length:Int))/\nth env 76=some (.int .i64 ((q:Nat):Int))/\nth env 14=some row) ⟨⟨by simp[hlen],by simp[za,he.e2],by simp[za,he.e3],by simp[za,he.e4],by simp[za,he.e6],by simp[za,he.e7],by simp[za,he.A3],by simp[za,he.Av]⟩,by simp[za,OO],by simp[za,MX],by simp[za,hlen]⟩ λenv AV=>?_
  obtain⟨he,OO,MX,th⟩:=AV;have hlen:=he.len;refine zi ?_;simp only[BA,ak,aq,za,Nat.reduceLT,th,hlen,Jg,EO];obtain⟨inf,MY,MZ⟩:=Rx;have LZ:xs.length≠0:=λe=>Ry (HO e)
  rw[XM (k:=xs.length) DA.u sz3 z3 rfl MY (by decide) rfl rfl (by simp[ak,za,hlen,aV]) (by simp[ak,za,hlen,aV]) (by rw[MZ];exact dD (by omega) (by omega)) LZ]
  have D8:aI xs=0:=by rw[pz];exact wy (λ_=>rfl) _
  obtain⟨cz,B7⟩:∃cz,cz=(List.replicate xs.length (V.int .i64 0).cells).flatten:=⟨_,rfl⟩;have Rz:cz=List.replicate xs.length (.int .i64 0):=by rw[B7];exact BK _ _
  have ZA:cz.length=xs.length:=by rw[Rz,List.length_replicate]
  have ZB:cz.all (λc=>!(locked c))=true:=by rw[Rz];simp[locked]
  rw[<- B7];obtain⟨b1,k1,g1,n1⟩:=UT hb cz xs 3 3;obtain⟨K,hK⟩:∃K,K=H.az.length:=⟨_,rfl⟩;have hK3:3<=K:=by rw[hK];exact hb.len
  have hgK:(H.push (.cells cz 3)).get K=some (.cells cz 3):=by rw[hK];exact we
  rw[<- hK] at b1 k1 g1 n1 ⊢;have ZC:∀env t,qF env t (some (.sr K 0 xs.length xs.length))=some (.sr K 0 xs.length xs.length,env):=λ_ _=>rfl;have RA:aV (.sr K 0 xs.length xs.length)=.sr K 0 xs.length xs.length:=rfl
  simp only[BA,Nat.reduceEqDiff,aq,za,bD,Nat.reduceLT,bw,hlen,ZC]
  refine y9 (λenv=>EB nl l k env/\nth env 75=some (.int .i64 (m.next.length:Int))/\nth env 76=some (.int .i64 ((q:Nat):Int))/\nth env 14=some row/\nth env 15=some (.sr K 0 xs.length xs.length)) ⟨⟨by simp[hlen],by simp[za,he.e2],by simp[za,he.e3],by simp[za,he.e4],by simp[za,he.e6],by simp[za,he.e7],by simp[za,he.A3],by simp[za,he.Av]⟩,by simp[za,OO],by simp[za,MX],by simp[za,th],by simp[za,hlen]⟩ λenv AV=>?_
  obtain⟨he,OO,MX,th,uz⟩:=AV;have hlen:=he.len;refine zi ?_;simp only[BA,Nat.reduceEqDiff,ak,aq,za,Nat.reduceLT,bw,th,uz,hlen,Jg,RA]
  rw[ziv (ys:=xs) (o:=.no) (b:=K) (off:=0) (len:=xs.length) (cap:=xs.length) (cs:=cz) (ty:=3) DA.u sz3 (by simp[ak,za,hlen,aV]) (by simp[ak,za,hlen,cj,aV]) hgK rfl (by rw[pz];exact u0 _) (by omega) (wj ZB (by omega))]
  rw[wQ ZA,jR (by simp[V.top,D8])]
  generalize RB:(H.push (aY.cells cz 3)).set K (aY.cells xs 3)=H1 at b1 k1 g1 n1 ⊢;simp only[aM,aq]
  obtain⟨bF,UW⟩:∃bF,bF=fC (F.map jH) N:=⟨_,rfl⟩;have f1:=b1.f;rw[<- UW] at f1;have mX:∀env,vU prog 28 env H1 [] [] (some (.ptr 2 3))=some (.val (zl 1 27 N),⟨env,H1.set 2 (.cells (bF.set 3 (oC 1 N)) 30),kE 2 3 N,[]⟩):=λenv=>Ur Rw f1 (by rw[UW];rfl)
  obtain⟨HL,Kz⟩:∃HL,HL=H1.set 2 (.cells (bF.set 3 (oC 1 N)) 30):=⟨_,rfl⟩;rw[<- Kz] at mX;have ZD:HL.get 2=some (.cells (bF.set 3 (oC 1 N)) 30):=by rw[Kz,wI f1]
  have iU:3<bF.length:=by rw[UW];simp[fC]
  have RD:N.length=q:=by rw[hN.1,uL];omega
  have lU:=ON.Cc (v:=.sr K 0 xs.length xs.length) rfl rfl;have fy:∀H,j9 prog H 28 (zl 1 27 N) (.sl 1 [.sr K 0 xs.length xs.length] .no)=some (zl 1 27 (N++[.sr K 0 xs.length xs.length])):=λH=>jD ON (by simp) (dD (by simp;omega) (by simp;omega))
  have eZ:∀env,qr prog 28 HL (kE 2 3 N) [] (some (zl 1 27 (N++[.sr K 0 xs.length xs.length]),env)) (some (.ptr 2 3))=some (.skip,⟨env,(HL.set 2 (.cells (bF.set 3 (zl 1 27 (N++[.sr K 0 xs.length xs.length]))) 30)).bQ 2 (zl 1 27 (N++[.sr K 0 xs.length xs.length])),kE 2 3 N,[]⟩):=λenv=>by
   rw[zy ON.st ZD Qu (by rw[vu];rfl) (by rw[bD];omega) (Qt iU)]
   simp only[vu,Vm.storeCells,List.set_set]
  refine ww (tk:=[93]) (by kernel_rfl) ?_
  simp only[BA,Nat.reduceEqDiff,ak,aq,ah,za,bD,Nat.reduceLT,bw,he.e7,uz,hlen,MW,mX,RA,lU,xR,fy,eZ,jT (cx:=⟨prog,gl.g,zj prog gl n,fu⟩) (show p_ prog fu 28=false by kernel_rfl)]
  refine zi ?_;simp only[BA,Nat.reduceEqDiff,ak,aj,aq,za,bD,Nat.reduceLT,bw,MX,hlen,z6 (show q<2 ^ 60 by omega)]
  simp only[zq,aN]
  have Aw:bF.set 3 (zl 1 27 (N++[.sr K 0 xs.length xs.length]))=fC (F.map jH) (N++[.sr K 0 xs.length xs.length]):=by rw[UW];rfl
  have oe:=(b1.Ru (F':=F.map jH) (N':=N++[.sr K 0 xs.length xs.length])).bQ 2 (zl 1 27 (N++[.sr K 0 xs.length xs.length]));rw[Kz,Zw,Aw]
  refine⟨j - 1,by omega,q+1,_,_,N++[.sr K 0 xs.length xs.length],by omega,rfl,⟨by simp[hlen],by simp[za,he.e2],by simp[za,he.e3],by simp[za,he.e4],by simp[za,he.e6],by simp[za,he.e7],by simp[za,he.A3],by simp[za,he.Av]⟩,by simp[za,OO],by simp[za,hlen],oe,by simp[RD];omega,λi p' G7=>?_⟩
  have hiq:i<q+1:=by
   have:=(cZ.1 G7).1;rw[uL] at this;omega
  rw[AK,if_pos hiq] at G7;have uP:∀d x,d≠2->H1.get d=some x->((H1.set 2 (.cells (fC (F.map jH) (N++[.sr K 0 xs.length xs.length])) 30)).bQ 2 (zl 1 27 (N++[.sr K 0 xs.length xs.length]))).get d=some x:=λd x hd hx=>(ki hd).trans hx
  by_cases hi:i<q
  ·obtain⟨b,e1,e2⟩:=hN.2 i p' (by rw[AK,if_pos hi];exact G7)
   have ZE:b≠2:=by
    intro e;subst e;have DH:=hb.f;rw[e2] at DH;injection DH with h1;injection h1 with h2 h3;cases h3
   have ZF:b≠1:=by
    intro e;subst e;obtain⟨_,_,y1,_⟩:=hb.A1;rw[e2] at y1;injection y1 with h1;injection h1 with h2 h3;cases h3
   exact⟨b,by rw[gb (by omega)];exact e1,uP b _ ZE (k1 _ _ _ ZF e2)⟩
  ·obtain rfl:i=q:=by omega
   rw[hp] at G7;cases G7;refine⟨K,?_,uP K _ (by omega) (by rw[<- pz];exact g1)⟩
   rw[fI (by omega),RD,Cu,<- J7]
   rfl
 ·obtain rfl:q=m.next.length:=by omega
  refine .inr ⟨by simp,?_⟩
  rw[D1] at hN;obtain⟨im,cu,u1,u2,u3⟩:=hb.A1;have ZG:∀H',(∀x,H.get 1=some x->H'.get 1=some x)->zk prog H' gl.g 26 (.ptr 1 0)=some (zl 4 50 m.lE):=λH' h=>zt FW (h _ u1) rfl;have M0:∀H',(∀x,H.get 1=some x->H'.get 1=some x)->zk prog H' gl.g 27 (.ptr 1 1)=some (zl 1 3 m.fY):=λH' h=>zt I1 (h _ u1) rfl;obtain⟨X1,hX1⟩:∃X1,X1=aV (zl 4 50 m.lE):=⟨_,rfl⟩
  obtain⟨X2,UX⟩:∃X2,X2=aV (zl 1 3 m.fY):=⟨_,rfl⟩;have KA:∀n e (xs:aD),aI xs=0->aV (aV (zl n e xs))=aV (zl n e xs)/\(∀env t,qF env t (some (aV (zl n e xs)))=some (aV (zl n e xs),env))/\(aV (zl n e xs)).laid=[aV (zl n e xs)]/\dz (aV (zl n e xs))=true/\(aV (zl n e xs)).top=0/\locked (aV (zl n e xs))=false:=λn e xs ht=>by
   refine⟨qS,λ_ _=>jh,?_,?_,by rw[jl];exact QJ ht,?_⟩<;>cases xs<;>rfl
  obtain⟨ZH,x1b,ZI,x1d,x1e,x1f⟩:=KA 4 50 m.lE (wy (λ_=>rfl) _);obtain⟨ZJ,x2b,ZK,x2d,x2e,x2f⟩:=KA 1 3 m.fY (wy (λ_=>rfl) _);rw[<- hX1] at ZH x1b ZI x1d x1e x1f;rw[<- UX] at ZJ x2b ZK x2d x2e x2f;have f2:=hb.f
  have M3:∀env,qr prog 26 H [] [] (some (X1,env)) (some (.ptr 2 0))=some (.skip,⟨env,H.set 2 (.cells [X1,.aG,zl 1 27 (F.map jH),zl 1 27 N] 30),[],[]⟩):=λenv=>by
   rw[zy QL f2 x1d (by rw[ZI];rfl) (by simp[fC]) rfl,jR (by rw[x1e];omega)]
   simp only[ZI,Vm.storeCells,fC,bS]
  have CZ:∀env,qr prog 27 (H.set 2 (.cells [X1,.aG,zl 1 27 (F.map jH),zl 1 27 N] 30)) [] [] (some (X2,env)) (some (.ptr 2 1))=some (.skip,⟨env,H.set 2 (.cells [X1,X2,zl 1 27 (F.map jH),zl 1 27 N] 30),[],[]⟩):=λenv=>by
   rw[zy QK (wI f2) x2d (by rw[ZK];rfl) (by simp) rfl,jR (by rw[x2e];omega),Zw]
   simp only[ZK,Vm.storeCells,bS,bT]
  simp only[qm,zN,zD,zq,bI,zh,lK,aF]
  refine Ub [7] [(false,false),(false,false),(false,false),(false,false),(false,false),(false,false),(false,false),(true,false),(false,false),(false,true),(false,false),(false,true)] (tk:=[]) (by kernel_rfl) (by kernel_rfl) ?_
  simp only[BA,Nat.reduceEqDiff,ak,aq,aa,ah,au,za,bD,Nat.reduceLT,bw,sD,An,Uc,XK,Ue,Uf,FW,I1,he.e6,he.e7,hlen,Ar,FV,MU,MV,ZG H (λ_ h=>h),M0 H (λ_ h=>h),<- hX1,<- UX,x1b,x2b,M3,CZ]
  refine⟨λ_=>vC (p:=.ptr 1 1) (by simp[ak,za,hlen,aV]) (M0 _ λ_ h=>(qC (by decide)).trans h) UX.symm,λ_=>vC (p:=.ptr 1 1) (by simp[ak,za,hlen,aV]) (M0 _ λ_ h=>(qC (by decide)).trans h) UX.symm,?_⟩
  obtain⟨H2,F7⟩:∃H2,H2=H.set 2 (.cells [X1,X2,zl 1 27 (F.map jH),zl 1 27 N] 30):=⟨_,rfl⟩;have g2:H2.get 2=some (.cells [X1,X2,zl 1 27 (F.map jH),zl 1 27 N] 30):=by rw[F7,wI f2]
  have g0:H2.get 0=some (.cells zF 30):=by rw[F7,qC (by decide)];exact hb.r
  rw[<- F7];obtain⟨VA,RE⟩:∃VA,VA=V.agg [X1,X2,zl 1 27 (F.map jH),zl 1 27 N]:=⟨_,rfl⟩;have ZL:zk prog H2 gl.g 30 (.ptr 2 0)=some VA:=by rw[RE];exact Zy ME F_ g2 rfl
  have hcA:aV VA=VA:=by rw[RE];rfl
  have htA:∀env t,qF env t (some VA)=some (VA,env):=λ_ _=>by rw[RE];rfl
  have hlA:VA.laid=[X1,X2,aV (zl 1 27 (F.map jH)),aV (zl 1 27 N)]:=by
   rw[RE];simp only[V.laid,bg,bp,ZH,ZJ]
  have FY:∀env,qr prog 30 H2 [] [] (some (VA,env)) (some (.ptr 0 0))=some (.skip,⟨env,(H2.set 0 (.cells [X1,X2,aV (zl 1 27 (F.map jH)),aV (zl 1 27 N)] 30)).bQ 0 VA,[],[]⟩):=λenv=>by
   rw[zy F_ g0 (by rw[RE];rfl) (by rw[hlA];rfl) (by simp[zF]) rfl,hlA]
   rfl
  refine zi ?_;simp only[BA,Nat.reduceEqDiff,ak,aj,aq,za,bD,Nat.reduceLT,bw,he.e7,he.e2,hlen,ZL,hcA,htA,FY];simp only[go_ret,zq,Fx]
  refine⟨trivial,[.agg [X1,X2,aV (zl 1 27 (F.map jH)),aV (zl 1 27 N)],.bN],?_,N,?_,hN.1,λi p hp=>?_⟩
  ·have hr:zk prog ((H2.set 0 (.cells [X1,X2,aV (zl 1 27 (F.map jH)),aV (zl 1 27 N)] 30)).bQ 0 VA) (λ_ _=>none) 30 (.ptr 0 0)=some (.agg [X1,X2,aV (zl 1 27 (F.map jH)),aV (zl 1 27 N)]):=Zy ME F_ (by rw[bU,wI g0]) rfl
   simp only[zx,za,bD,hlen,Nat.reduceEqDiff,Nat.reduceLT,aF,bw,he.e2];rw[hr];rfl
  ·rfl
  ·obtain⟨b,e1,e2⟩:=hN.2 i p hp;have h0:b≠0:=λe=>by
    subst e;have:=hb.r;rw[e2] at this;injection this with h1;injection h1 with h2 h3;cases h3
   have h2:b≠2:=λe=>by
    subst e;have:=hb.f;rw[e2] at this;injection this with h1;injection h1 with h2 h3;cases h3
   exact⟨b,e1,by rw[bU,qC h0,F7,qC h2];exact e2⟩
end
section
variable{gl:Gl}
theorem zkV(hg:GW gl){n:Nat}{nl:Bool}{l:List Cr}{k:Nat}(hm:gl.hk 54 [zX nl l]=some (.br [.int .i64 (k:Int),.bool true]))(hk:k<=1000)(hl:l.length<=200)
  (hM:(qt k 0 (l.map ff) m0).2.sets.length<=1200) (cH:∀p∈(qt k 0 (l.map ff) m0).2.next,jg p 19≠[]) (hw:∀c∈l,wE (ff c)+4000<=n/\wE (ff c)+2<=2 ^ 31) (hn:4000<=n) :
  ∃H' N,zj prog gl (n+1) 14 [zX nl l] ⟨[],[]⟩=some (.ret (.br [.agg [aV (zl 4 50 (qt k 0 (l.map ff) m0).2.lE),aV (zl 1 3 (qt k 0 (l.map ff) m0).2.fY),aV (zl 1 27 ((qt k 0 (l.map ff) m0).1.map jH)),aV (zl 1 27 N)],.bN]),H')/\UU H' (qt k 0 (l.map ff) m0).2.next N:=by
 obtain⟨FT,MT,hT⟩:∃FT MT,qt k 0 (l.map ff) m0=(FT,MT):=⟨_,_,rfl⟩;rw[hT] at hM cH ⊢;simp only at hM cH ⊢
 suffices bL:(go ⟨prog,gl,zj prog gl n,fu⟩ n (Fx prog f14.results.toList λw H1=>∃N,w=.br [.agg [aV (zl 4 50 MT.lE),aV (zl 1 3 MT.fY),aV (zl 1 27 (FT.map jH)),aV (zl 1 27 N)],.bN]/\UU H1 MT.next N) [.c (f14.body.getD .skip)] .normal ⟨[zX nl l]++List.replicate 109 (.br []),⟨[],[]⟩,[],[]⟩) by
  obtain⟨w,H1,h0,N,rfl,hN⟩:=zQ (gl:=gl) (f:=14) (bs:=[]) (es:=[]) (args:=[zX nl l]) (n:=n) (hg.hk _ _ (by decide)) (λH=>hg.fA _ _ _ _) func14 rfl (by rw[hg.uq];exact bL)
  refine⟨_,N,h0,hN.1,λj p hp=>?_⟩;obtain⟨b,h1,h2⟩:=hN.2 j p hp;refine⟨b,h1,?_⟩;have hb:b+1<=(V.br [.agg [aV (zl 4 50 MT.lE),aV (zl 1 3 MT.fY),aV (zl 1 27 (FT.map jH)),aV (zl 1 27 N)],.bN]).top:=by
   have hNt:b+1<=aI N:=zn (x:=.sr b 0 (jg p 19).length (jg p 19).length) (nB h1);have hN2:(aV (zl 1 27 N)).top=aI N:=by
    rw[jl];cases N<;>rfl
   simp only[V.top,aI,hN2];omega
  unfold zW;have iU:Nat.ble (V.br [.agg [aV (zl 4 50 MT.lE),aV (zl 1 3 MT.fY),aV (zl 1 27 (FT.map jH)),aV (zl 1 27 N)],.bN]).top ([]:List aY).length=false:=by
   cases hx:Nat.ble (V.br [.agg [aV (zl 4 50 MT.lE),aV (zl 1 3 MT.fY),aV (zl 1 27 (FT.map jH)),aV (zl 1 27 N)],.bN]).top ([]:List aY).length with
   | false=>rfl
   | true=>have:=r_ hx;simp only[List.length_nil] at this;omega
  rw[iU];exact h2
 have dj:Cx.bB ⟨prog,gl.g,zj prog gl n,fu⟩ 54 [zX nl l] ⟨[.cells zF 30],[]⟩=some (.val (.br [.int .i64 (k:Int),.bool true]),⟨[.cells zF 30],[]⟩):=by
  have:=xu (P:=prog) (n:=n - 1) (H:=⟨[.cells zF 30],[]⟩) hm;rw[show n - 1+1=n by omega] at this
  exact zu func54 rfl this
 have hz:dz (V.agg zF)=true:=rfl;have CW:dz (V.agg [.aG,.aG,.aG])=true:=rfl;simp only[f14,fS,zh];refine zi ?_;simp only[BA,aj,aq,zc,bS,bT,Zf,zJ hz,V.cells,List.replicate];refine zi ?_
 simp only[BA,av,ak,aq,aA,zd,ze,bS,bT,qZ,dj,kY,dZ];refine zi ?_;simp only[BA,ak,aq,zd,ze,bS,bT,iH]
 refine .inr ⟨rfl,?_⟩;refine zi ?_;simp only[BA,ak,aj,aq,zd,ze,bS,bT,w6];refine .inr ⟨by simpa using by omega,?_⟩
 refine zi ?_;simp only[BA,aq,zc,zd,ze,bS,bT,zqS,z8 CW,V.laid];refine zi ?_
 simp only[BA,aq,zc,Nat.reduceAdd,bS,bT,Zf,zJ hz,V.cells];refine zi ?_;simp only[BA,ak,aj,aq,zd,ze,bS,bT,qZ,yu]
 generalize F6:Hp.mk [aY.cells zF 30,aY.cells [V.aG,V.aG,V.aG] 113,aY.cells zF 30] []=H0;have uu:BI H0 [] [] m0:=by
  subst F6;exact⟨rfl,rfl,⟨none,.aG,rfl,⟨rfl,rfl⟩,λj hj=>by cases hj⟩,by simp⟩
 refine y9 (λenv=>EB nl l k env/\nth env 33=some (.int .i64 ((0:Nat):Int))) ⟨⟨rfl,rfl,rfl,rfl,rfl,rfl,rfl,rfl⟩,rfl⟩ λenv he=>?_
 refine qj (λj s=>∃r env H m F,j+r=l.length/\s=⟨env,H,[],[]⟩/\EB nl l k env/\nth env 33=some (.int .i64 ((r:Nat):Int))/\BI H (F.map jH) [] m/\m.Ok/\F.length=r/\∃F',qt k r ((l.drop r).map ff) m=(F',MT)/\F++F'=FT) l.length (by omega) ⟨0,env,H0,m0,[],rfl,rfl,he.1,he.2,uu,⟨rfl,rfl⟩,rfl,FT,hT,rfl⟩ ?_
 clear he uu F6 env H0;rintro j s ⟨r,env,H,m,F,hjr,rfl,he,DI,hb,ej,hFr,F',hR,hF⟩;have hlen:=he.len;simp only[zh];refine zi ?_;simp only[BA,ak,aq,za,Nat.reduceLT,he.Av,DI,hlen,qT]
 by_cases hr:r<l.length
 ·refine .inl ⟨by simpa using hr,?_⟩
  obtain⟨c,hc⟩:∃c,l[r]?=some c:=⟨_,gj hr⟩;have gG:c∈l:=nB hc;have eY:l.drop r=c::l.drop (r+1):=by
   obtain⟨h1,h2⟩:=cZ.1 hc;rw[GO h1,h2]
  rw[eY] at hR;simp only[bg,qt,cq] at hR;obtain⟨hF',hR⟩:=hR;have ZM:dz (V.agg (iR (.mk 0 0 0 0 0 0 [] 0 0 true [],false,.mk 0 0 0 0 0 0 [] 0 0 true [])))=true:=rfl;refine zi ?_
  simp only[BA,Nat.reduceEqDiff,ak,aq,aE,za,bD,Nat.reduceLT,bw,he.A3,DI,hlen,qZ,Ze hc,zjN,z47,zJ ZM,V.cells];rw[Zx (t:=55) Ja we (w7 c) (yf c) (Zb c) (w7 _) (zjM _)]
  obtain⟨b1,k1,g1,n1⟩:=UT hb (iR (.mk 0 0 0 0 0 0 [] 0 0 true [],false,.mk 0 0 0 0 0 0 [] 0 0 true [])) (iR c) 55 55;obtain⟨K,hK⟩:∃K,K=H.az.length:=⟨_,rfl⟩;have hK3:3<=K:=by rw[hK];exact hb.len
  rw[<- hK] at b1 k1 g1 n1 ⊢;generalize RB:(H.push (aY.cells (iR (.mk 0 0 0 0 0 0 [] 0 0 true [],false,.mk 0 0 0 0 0 0 [] 0 0 true [])) 55)).set K (aY.cells (iR c) 55)=H1 at b1 k1 g1 n1 ⊢;simp only[bu,aq]
  refine y9 (λenv=>EB nl l k env/\nth env 33=some (.int .i64 ((r:Nat):Int))/\nth env 8=some (.int .i64 ((r:Nat):Int))/\nth env 9=some (.ptr K 0)) ⟨⟨by simp[hlen],by simp[za,he.e2],by simp[za,he.e3],by simp[za,he.e4],by simp[za,he.e6],by simp[za,he.e7],by simp[za,he.A3],by simp[za,he.Av]⟩,by simp[za,DI],by simp[za,hlen],by simp[za,hlen]⟩ λenv AV=>?_
  clear he DI hlen;obtain⟨he,DI,e8,e9⟩:=AV;have hlen:=he.len;obtain⟨l1,l2,l3⟩:=ldC (g:=gl.g) g1;have RF:dz (V.agg (aK (.mk 0 0 0 0 0 0 [] 0 0 true [])))=true:=rfl;refine zi ?_
  simp only[BA,Nat.reduceEqDiff,ak,aq,ah,za,bD,Nat.reduceLT,bw,e9,hlen,Ge,l1,Zg,zJ RF,V.cells];rw[Zx (t:=53) s6 we (z0 _) (qk _) (vX _) (z0 _) (YO _)];obtain⟨b2,k2,g2,n2⟩:=UT b1 (aK (.mk 0 0 0 0 0 0 [] 0 0 true [])) (aK c.1) 53 53
  generalize F7:(H1.push (aY.cells (aK (.mk 0 0 0 0 0 0 [] 0 0 true [])) 53)).set H1.az.length (aY.cells (aK c.1) 53)=H2 at b2 k2 g2 n2 ⊢;have g12:=k2 _ _ _ (by omega) g1
  rw[n1] at g2 n2 ⊢;simp only[bu,aq]
  obtain⟨l1,l2,l3⟩:=ldC (g:=gl.g) g12;refine zi ?_;simp only[BA,Nat.reduceEqDiff,ak,aq,ah,za,bD,Nat.reduceLT,bw,e9,hlen,MR,l2];have RG:(V.agg (aK (.mk 0 0 0 0 0 0 [] 0 0 true []))).cells.length=10:=rfl;rcases Ot:c.2.1 with _|_
  refine .inr ⟨rfl,?_⟩;have Ah:ff c=c.1:=by simp[ff,Ot]
  rw[<- Ah] at g2
  refine mj (λs=>∃env H3,s=⟨env,H3,[],[]⟩/\EB nl l k env/\nth env 33=some (.int .i64 ((r:Nat):Int))/\nth env 8=some (.int .i64 ((r:Nat):Int))/\nth env 10=some (.ptr (K+1) 0)/\BI H3 (F.map jH) [] m/\H3.get (K+1)=some (.cells (aK (ff c)) 53)) ⟨_,_,rfl,⟨by simp[hlen],by simp[za,he.e2],by simp[za,he.e3],by simp[za,he.e4],by simp[za,he.e6],by simp[za,he.e7],by simp[za,he.A3],by simp[za,he.Av]⟩,by simp[za,DI],by simp[za,e8],by simp[za,hlen],b2,g2⟩ ?_
  rotate_left
  refine .inl ⟨rfl,?_⟩;have Ah:ff c=.mk 5 0 0 0 0 0 [] 0 0 false [c.1,c.2.2]:=by simp[ff,Ot]
  refine zi ?_;simp only[BA,Nat.reduceEqDiff,ak,aq,ah,za,bD,Nat.reduceLT,bw,e9,hlen,Ge,MS,l1,l3]
  rw[zn2 (v:=.agg (aK c.1)) (u:=.agg (aK c.2.2)) UF s6 Zg (by decide) RG RF (by simp[ak,za,hlen,aV]) (by simp[ak,za,hlen,aV]) rfl rfl (z0 _) (z0 _)]
  simp only[BA,aq];rw[zqX (h:=c.1) (t:=c.2.2) (by simp[ak,za,hlen,aV])]
  simp only[BA,Nat.reduceEqDiff,ak,aq,za,bD,Nat.reduceLT,bw,hlen];rw[Zx (t:=53) s6 g2 (z0 _) (qk _) (vX _) (z0 _) (YO _)];obtain⟨b3,k3,g3,n3⟩:=Zz b2 (v:=aK (.mk 5 0 0 0 0 0 [] 0 0 false [c.1,c.2.2])) g2 (by omega)
  simp only[bu,aq]
  rw[<- Ah] at g3 b3 ⊢
  refine mj (λs=>∃env H3,s=⟨env,H3,[],[]⟩/\EB nl l k env/\nth env 33=some (.int .i64 ((r:Nat):Int))/\nth env 8=some (.int .i64 ((r:Nat):Int))/\nth env 10=some (.ptr (K+1) 0)/\BI H3 (F.map jH) [] m/\H3.get (K+1)=some (.cells (aK (ff c)) 53)) ⟨_,_,rfl,⟨by simp[hlen],by simp[za,he.e2],by simp[za,he.e3],by simp[za,he.e4],by simp[za,he.e6],by simp[za,he.e7],by simp[za,he.A3],by simp[za,he.Av]⟩,by simp[za,DI],by simp[za,e8],by simp[za,hlen],b3,g3⟩ ?_
  all_goals
   rintro s ⟨env,H3,rfl,he,DI,e8,sH,b3,g3⟩;have hlen:=he.len;obtain⟨i3,k3⟩:=b3.A1;obtain⟨P,M1,hP⟩:∃P M1,iQ (r:Int) (ff c) m=(P,M1):=⟨_,_,rfl⟩;have hMs:M1.sets.length<=1200:=by
    have h1:=zcY (n:=k) (r:=r+1) (es:=(l.drop (r+1)).map ff) (m:=(jS k r (ff c) m).2);rw[hR,Za,hP] at h1;exact cN h1 hM
   obtain⟨aoJ,ZN⟩:=hw c gG;obtain⟨H4,i4,c4,k4,n4,f4,ok4,p4⟩:=zmy hg (n:=n - 1) k3 (ec _) hP ej hMs (by omega) ZN
   rw[show n - 1+1=n by omega,qB] at c4
   have Q_:Cx.bB ⟨prog,gl.g,zj prog gl n,fu⟩ 55 _ H3=_:=zu func55 rfl c4;have kc4:Kc H3 H4:=by obtain⟨_,_,u,_⟩:=k3;exact zmF u f4
   have b4:=b3.made kc4 f4.len k4;refine zi ?_;simp only[BA,Nat.reduceEqDiff,av,ak,aq,aA,za,bD,Nat.reduceLT,bw,he.e6,sH,e8,hlen,Zy BB s6 g3 (z0 _),Q_,Mq,zJ (show dz (V.agg (zo ⟨false,cO,cO⟩))=true from rfl),V.cells];rw[UG we]
   obtain⟨b5,k5,g5,n5⟩:=UT b4 (zo ⟨false,cO,cO⟩) (zo P) 117 117;obtain⟨K4,hK4⟩:∃K4,K4=H4.az.length:=⟨_,rfl⟩;have aoL:3<=K4:=by rw[hK4];exact b4.len
   rw[<- hK4] at b5 k5 g5 n5 ⊢;generalize OH:(H4.push (aY.cells (zo ⟨false,cO,cO⟩) 117)).set K4 (aY.cells (zo P) 117)=H5 at b5 k5 g5 n5 ⊢;simp only[bu,aq]
   refine zi ?_;simp only[BA,aq,z60,zJ (show dz (V.agg (pv 19 cO))=true from rfl),V.cells,n5]
   refine y9 (λenv=>EB nl l k env/\nth env 33=some (.int .i64 ((r:Nat):Int))/\nth env 8=some (.int .i64 ((r:Nat):Int))/\nth env 11=some (.ptr K4 0)/\nth env 12=some (.ptr (K4+1) 0)) ⟨⟨by simp[hlen],by simp[za,he.e2],by simp[za,he.e3],by simp[za,he.e4],by simp[za,he.e6],by simp[za,he.e7],by simp[za,he.A3],by simp[za,he.Av]⟩,by simp[za,DI],by simp[za,e8],by simp[za,hlen],by simp[za,hlen]⟩ λenv AV=>?_
   obtain⟨he,DI,e8,iW,oq⟩:=AV;have hlen:=he.len;have b6:=b5.push (.cells (pv 19 cO) 115);have g6:=(zov (H:=H5) (.cells (pv 19 cO) 115)) K4 _ _ (by omega) g5
   have ZO:(H5.push (.cells (pv 19 cO) 115)).get (K4+1)=some (.cells (pv 19 cO) 115):=by rw[<- n5];exact we
   generalize hH6:H5.push (aY.cells (pv 19 cO) 115)=H6 at b6 g6 ZO ⊢;obtain⟨ZP,Ew⟩:=H6;have Bj:k+r<1216:=by omega
   have c7:=zjF hg (n:=n - 1) (bs:=ZP) (es:=Ew) (b:=K4+1) (off:=0) (pre:=[]) (post:=[]) (p:=cO) (ty:=115) (k:=k+r) (by rw[aZ,m7];exact ZO) rfl Bj
   rw[show n - 1+1=n by omega,aZ,m7] at c7
   have Kr:Cx.bB ⟨prog,gl.g,zj prog gl n,fu⟩ 56 _ ⟨ZP,Ew⟩=_:=zu func56 rfl c7;obtain⟨b7,k7,UY,n7⟩:=Zz b6 (v:=pv 19 (jP cO (k+r))) ZO (by omega)
   have g7:=k7 _ _ (by omega) g6
   simp only[Hp.set] at b7 k7 UY n7 g7;have om:∀u w,qL prog .add 3 u w (some (.int .i64 (k:Int))) (some (.int .i64 (r:Int)))=some (.int .i64 ((k+r:Nat):Int)):=λu w=>xr (by omega)
   refine zi ?_;simp only[BA,Nat.reduceEqDiff,av,ak,aq,aA,za,bD,Nat.reduceLT,bw,oq,he.e4,e8,hlen,om,Kr];generalize aoM:ZP.set (K4+1) (aY.cells (pv 19 (jP cO (k+r))) 115)=OP at b7 k7 UY n7 g7 ⊢;obtain⟨i7,cu,u1,u2,u3⟩:=b7.A1
   have c8:=Yx hg (n:=n - 1) (by omega) (es:=Ew) (bm:=1) (bl:=K4) (ol:=20) (bf:=K4+1) (ob:=0) (ns:=M1.next) (p:=P.last) (q:=jP cO (k+r)) (pre:=.bool P.null::pv 19 P.first) (post:=[]) (pre':=[]) (post':=[]) (ty:=117) (ty':=115) u1 u2 (by rw[<- Q3];exact g7) (by simp[jE]) (by rw[aZ,m7];exact UY) rfl p4.2
   rw[show n - 1+1=n by omega] at c8
   have Y_:Cx.bB ⟨prog,gl.g,zj prog gl n,fu⟩ 57 _ ⟨OP,Ew⟩=_:=zu func57 rfl c8;have Dt:(jS k r (ff c) m).2={ M1 with next:=mL (jP cO (k+r)) (jg P.last 19) M1.next }:=by simp only[jS,hP]
   have OF:(jS k r (ff c) m).1=jg (if P.null then jC P.first (jP cO (k+r)) else P.first) 19:=by simp only[jS,hP]
   have ZQ:Kc ⟨OP,Ew⟩ ⟨eg OP i7 (mL (jP cO (k+r)) (jg P.last 19) M1.next),Ew⟩:=zmF u2 YS
   have b8:=b7.made ZQ (by show OP.length<=(eg OP i7 _).length;rw[yJ];exact dA _) (MK.eg (es:=Ew) ⟨cu,u1,u2,u3⟩ wx)
   rw[<- Dt] at b8;have g8:=ZQ _ _ _ (by omega) g7
   have g8b:=ZQ _ _ _ (by omega) UY
   have ok8:(jS k r (ff c) m).2.Ok:=by rw[Dt];exact⟨ok4.r,by simp only[wx];exact ok4.n⟩
   refine zi ?_;simp only[BA,Nat.reduceEqDiff,av,ak,aq,ah,aA,za,bD,Nat.reduceLT,bw,he.e6,iW,oq,hlen,oZ,Y_];generalize aoO:eg OP i7 (mL (jP cO (k+r)) (jg P.last 19) M1.next)=ZR at b8 g8 g8b ⊢
   have hl8:zk prog ⟨ZR,Ew⟩ gl.g 4 (.ptr K4 0)=some (.bool P.null):=zt Ox g8 rfl;refine zi ?_;simp only[BA,Nat.reduceEqDiff,ak,aq,ah,za,bD,Nat.reduceLT,bw,iW,hlen,ia,hl8];rcases hpn:P.null with _|_
   refine .inr ⟨rfl,?_⟩
   refine mj (λs=>∃env H9,s=⟨env,H9,[],[]⟩/\EB nl l k env/\nth env 33=some (.int .i64 ((r:Nat):Int))/\nth env 11=some (.ptr K4 0)/\BI H9 (F.map jH) [] (jS k r (ff c) m).2/\∃fp,(jS k r (ff c) m).1=jg fp 19/\H9.get K4=some (.cells (zo ⟨P.null,fp,P.last⟩) 117)) ⟨_,_,rfl,⟨by simp[hlen],by simp[za,he.e2],by simp[za,he.e3],by simp[za,he.e4],by simp[za,he.e6],by simp[za,he.e7],by simp[za,he.A3],by simp[za,he.Av]⟩,by simp[za,DI],by simp[za,iW],b8,P.first,by rw[OF,hpn];rfl,g8⟩ ?_
   rotate_left
   refine .inl ⟨rfl,?_⟩;have c9:=Yf hg (n:=n - 1) (by omega) (bs:=ZR) (es:=Ew) (b:=K4) (off:=1) (b':=K4+1) (off':=0) (pre:=[.bool P.null]) (post:=pv 19 P.last) (pre':=[]) (post':=[]) (p:=P.first) (q:=jP cO (k+r)) (ty:=117) (ty':=115) (by rw[<- Oz];exact g8) rfl (by rw[aZ,m7];exact g8b) rfl (by omega)
   rw[show n - 1+1=n by omega] at c9
   have hc9:Cx.bB ⟨prog,gl.g,zj prog gl n,fu⟩ 58 _ ⟨ZR,Ew⟩=_:=zu func58 rfl c9;obtain⟨b9,k9,g9,n9⟩:=Zz b8 (v:=zo ⟨P.null,jC P.first (jP cO (k+r)),P.last⟩) g8 (by omega)
   simp only[Hp.set] at b9 g9;refine zi ?_;simp only[BA,Nat.reduceEqDiff,av,ak,aq,ah,aA,za,bD,Nat.reduceLT,bw,iW,oq,hlen,oY,hc9]
   refine mj (λs=>∃env H9,s=⟨env,H9,[],[]⟩/\EB nl l k env/\nth env 33=some (.int .i64 ((r:Nat):Int))/\nth env 11=some (.ptr K4 0)/\BI H9 (F.map jH) [] (jS k r (ff c) m).2/\∃fp,(jS k r (ff c) m).1=jg fp 19/\H9.get K4=some (.cells (zo ⟨P.null,fp,P.last⟩) 117)) ⟨_,_,rfl,⟨by simp[hlen],by simp[za,he.e2],by simp[za,he.e3],by simp[za,he.e4],by simp[za,he.e6],by simp[za,he.e7],by simp[za,he.A3],by simp[za,he.Av]⟩,by simp[za,DI],by simp[za,iW],b9,jC P.first (jP cO (k+r)),by rw[OF,hpn];rfl,g9⟩ ?_
   all_goals
    rintro s ⟨env,H9,rfl,he,DI,iW,b9,fp,hfp,g9⟩;have hlen:=he.len;obtain⟨bF,UZ⟩:∃bF,bF=fC (F.map jH) []:=⟨_,rfl⟩;have f9:=b9.f;rw[<- UZ] at f9;have mX:∀env,vU prog 28 env H9 [] [] (some (.ptr 2 2))=some (.val (zl 1 27 (F.map jH)),⟨env,H9.set 2 (.cells (bF.set 2 (oC 1 (F.map jH))) 30),kE 2 2 (F.map jH),[]⟩):=λenv=>Ur Rw f9 (by rw[UZ];rfl)
    obtain⟨HL,Kz⟩:∃HL,HL=H9.set 2 (.cells (bF.set 2 (oC 1 (F.map jH))) 30):=⟨_,rfl⟩;rw[<- Kz] at mX;obtain⟨LK,hLK⟩:∃LK,LK=kE 2 2 (F.map jH):=⟨_,rfl⟩;rw[<- hLK] at mX;have gL:HL.get K4=some (.cells (zo ⟨P.null,fp,P.last⟩) 117):=by rw[Kz,qC (by omega)];exact g9
    have ZD:HL.get 2=some (.cells (bF.set 2 (oC 1 (F.map jH))) 30):=by rw[Kz,wI f9]
    have cj:aV (zl 1 3 (xo fp 19))=jH (jS k r (ff c) m).1:=by rw[hfp,xH];rfl
    have AX:∀H,H.get K4=some (.cells (zo ⟨P.null,fp,P.last⟩) 117)->Cx.bB ⟨prog,gl.g,zj prog gl n,fu⟩ 59 [.ptr K4 1] H=some (.val (jH (jS k r (ff c) m).1),H):=λH hH=>by
     have h:=zhA hg (n:=n - 1) (by omega) (H:=H) (b:=K4) (off:=1) (pre:=[.bool P.null]) (post:=pv 19 P.last) (p:=fp) (ty:=117) (by rw[<- Oz ⟨P.null,fp,P.last⟩];exact hH) rfl
     rw[show n - 1+1=n by omega,cj] at h
     exact zu func59 rfl h
    obtain⟨row,M4⟩:∃row,row=jH (jS k r (ff c) m).1:=⟨_,rfl⟩;rw[<- M4] at AX;have Jg:aV row=row:=by rw[M4];exact qS
    have KB:dz row=true/\row.cells.length=1/\row.top=0:=by
     rw[M4];have:aI ((jS k r (ff c) m).1.map F9)=0:=wy (λ_=>rfl) _;unfold jH;cases h:(jS k r (ff c) m).1.map F9 with
     | nil=>exact⟨rfl,rfl,rfl⟩
     | cons x xs =>
      rw[h] at this;exact⟨rfl,rfl,this⟩
    have lU:=ON.Cc (v:=row) KB.1 KB.2.1;have fy:∀H,j9 prog H 28 (zl 1 27 (F.map jH)) (.sl 1 [row] .no)=some (zl 1 27 (F.map jH++[row])):=λH=>jD ON (by simp) (dD (by rw[gk];simp;omega) (by rw[gk];simp;omega))
    have eZ:∀env,qr prog 28 HL LK [] (some (zl 1 27 (F.map jH++[row]),env)) (some (.ptr 2 2))=some (.skip,⟨env,HL.set 2 (.cells (bF.set 2 (zl 1 27 (F.map jH++[row]))) 30),LK,[]⟩):=λenv=>by
     have iU:2<bF.length:=by rw[UZ];simp[fC]
     have N1:(zl 1 27 (F.map jH++[row])).top=0:=QJ (gC (wy (λx=>by
      unfold jH;rw[jl]
      exact QJ (wy (λ_=>rfl) _)) _) (by simp[aI,KB.2.2]))
     rw[zy ON.st ZD Qu (by rw[vu];rfl) (by rw[bD];omega) (by rw[hLK];exact Qt iU),jR (by rw[N1];omega)]
     simp only[vu,Vm.storeCells,List.set_set]
    refine wY (tk:=[64]) (by kernel_rfl) ?_
    apply Exists.intro;apply And.intro;refine qy (m:=0) (v:=.ptr 2 2) (by kernel_rfl) rfl (by simp only[BA,ak,ah,he.e7,Gf];rfl) (by kernel_rfl) (by kernel_rfl) (by kernel_rfl) ?_
    dsimp only[aq]
    refine yo (m:=1) (v:=zl 1 27 (F.map jH)) (cs':=[⟨2,HL,LK,[]⟩,⟨0,H9,[],[]⟩]) (by kernel_rfl) rfl (by simp only[BA,ak,za,Nat.reduceLT,hlen,mX];rfl) (by kernel_rfl) (by kernel_rfl) (by kernel_rfl) (λK=>?_) ?_
    rotate_left
    dsimp only[aq]
    refine qy (m:=0) (v:=.ptr K4 1) (by kernel_rfl) rfl (by simp only[BA,Nat.reduceEqDiff,ak,ah,za,bD,Nat.reduceLT,bw,iW,hlen,oY];rfl) (by kernel_rfl) (by kernel_rfl) (by kernel_rfl) ?_
    dsimp only[aq]
    refine yo (m:=4) (v:=row) (cs':=[⟨10,HL,LK,[]⟩,⟨8,H9,[],[]⟩,⟨2,HL,LK,[]⟩,⟨0,H9,[],[]⟩]) (by kernel_rfl) rfl (by simp only[BA,Nat.reduceEqDiff,av,ak,aA,za,bD,Nat.reduceLT,bw,hlen,AX HL gL];rfl) (by kernel_rfl) (by kernel_rfl) (by kernel_rfl) (λK=>?_) ?_
    rotate_left
    dsimp only[aq]
    refine qy (m:=12) (v:=.sl 1 [row] (.yes 27)) (by kernel_rfl) rfl (by simp only[BA,Nat.reduceEqDiff,ak,za,bD,Nat.reduceLT,bw,hlen,Jg,lU];rfl) (by kernel_rfl) (by kernel_rfl) (by kernel_rfl) ?_
    dsimp only[aq]
    refine kj (m:=31) (v:=zl 1 27 (F.map jH++[row])) (by kernel_rfl) rfl (by simp only[BA,Nat.reduceEqDiff,ak,za,bD,Nat.reduceLT,bw,hlen,xR,fy,jT (cx:=⟨prog,gl.g,zj prog gl n,fu⟩) (show p_ prog fu 28=false by kernel_rfl)];rfl) (by kernel_rfl) (by kernel_rfl) (by kernel_rfl) (by kernel_rfl) ?_
    dsimp only[aq]
    refine qy (m:=63) (v:=.ptr 2 2) (by kernel_rfl) rfl (by simp only[BA,Nat.reduceEqDiff,ak,ah,za,bD,Nat.reduceLT,bw,he.e7,hlen,Gf];rfl) (by kernel_rfl) (by kernel_rfl) (by kernel_rfl) ?_
    dsimp only[aq]
    refine vg (m:=127) (cs':=[⟨138,HL.set 2 (.cells (bF.set 2 (zl 1 27 (F.map jH++[row]))) 30),LK,[]⟩,⟨10,HL,LK,[]⟩,⟨8,H9,[],[]⟩,⟨2,HL,LK,[]⟩,⟨0,H9,[],[]⟩]) (by kernel_rfl) rfl (by simp only[BA,Nat.reduceEqDiff,ak,za,bD,Nat.reduceLT,bw,hlen,eZ];rfl) (by kernel_rfl) (by kernel_rfl) (λK=>?_) wZ
    ·refine j5 ?_ ?_ ?_ ?_
     ·kernel_rfl
     ·rfl
     ·intro c hc;simp only[dG,A8,AM] at hc;rcases hc with rfl|rfl|rfl<;>kernel_rfl
     ·kernel_rfl
    rotate_left
    ·refine j5 ?_ ?_ ?_ ?_
     ·kernel_rfl
     ·rfl
     ·intro c hc;simp at hc
     ·kernel_rfl
    ·refine ziw (e:=⟨0,HL,LK,[]⟩) ?_ ?_ ?_ ?_ ?_ ?_ ?_ ?_ ?_ ?_ ?_ ?_ ?_ ?_
     ·kernel_rfl
     ·rfl
     ·rfl
     ·rfl
     ·rfl
     ·rfl
     ·rfl
     ·kernel_rfl
     rotate_left
     ·kernel_rfl
     ·kernel_rfl
     rotate_left
     ·kernel_rfl
     ·exact zdQ
     ·simp only[Cx.ee,jr];simp only[BA,Nat.reduceEqDiff,av,ak,aA,Nat.reduceAdd,za,bD,Nat.reduceLT,bw,hlen,AX H9 g9];rfl
     ·simp only[Cx.ee,jr];simp only[BA,ak,za,Nat.reduceLT,hlen,mX]
    simp only[aq];simp only[qD]
    refine zi ?_;simp only[BA,Nat.reduceEqDiff,ak,aj,aq,za,bD,Nat.reduceLT,bw,DI,hlen,z6 (show r<2 ^ 60 by omega)]
    simp only[zq,aN]
    refine⟨j - 1,by omega,r+1,_,_,(jS k r (ff c) m).2,F++[(jS k r (ff c) m).1],by omega,rfl,⟨by simp[hlen],by simp[za,he.e2],by simp[za,he.e3],by simp[za,he.e4],by simp[za,he.e6],by simp[za,he.e7],by simp[za,he.A3],by simp[za,he.Av]⟩,by simp[za,hlen],?_,ok8,by simp[hFr],_,Prod.ext rfl hR,?_⟩
    ·rw[Kz,Zw];have:=b9.Ru (F':=(F++[(jS k r (ff c) m).1]).map jH) (N':=[]);rw[UZ,M4];simpa[fC] using this
    ·rw[<- hF,<- hF',a_];rfl
 ·obtain rfl:r=l.length:=by omega
  refine .inr ⟨by simp,?_⟩
  rw[List.drop_length] at hR;simp only[bp,qt,cq] at hR;obtain⟨rfl,rfl⟩:=hR;rw[m7] at hF;subst hF;simp only[qm,zN];exact zow hg hn (nl:=nl) (l:=l) (k:=k) (F:=F) (m:=m) ⟨by simp[hlen],by simp[za,he.e2],by simp[za,he.e3],by simp[za,he.e4],by simp[za,he.e6],by simp[za,he.e7],by simp[za,he.A3],by simp[za,he.Av]⟩ hb ej hM cH
end
end Go.Proofs.YthohlnmcjkjeiaaGreatDoor
