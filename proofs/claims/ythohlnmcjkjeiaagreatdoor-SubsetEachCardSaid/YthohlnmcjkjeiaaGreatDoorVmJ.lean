/- Seat 8: what a function that changes nothing tells, in whatever heap: walks. Conditions: none but those named. -/
import Derived.Test.YthohlnmcjkjeiaaGreatDoorVmI
namespace Go.Vm
set_option maxRecDepth 100000
open Go
theorem rg{cx:Cx}{n id:Nat}{Q:Ex->St->Prop}{k:List It}{ops:Array Oper}{env:aD}{H:Hp}{lk:aN}{df:bO}(h:go cx n Q (.os ops [] ops.toList::k) .normal ⟨env,H,[],df⟩)(ht:jN ops=[]:=by kernel_rfl):go cx n Q (.c (.region id ops false)::k) .normal ⟨env,H,lk,df⟩:=wo ht h
theorem fI{P:aQ}{t:Tmp}{tL:V->Hp->Prop}{env:aD}{H:Hp}{lk:aN}{v:V}(h:nth env t=some v)(hp:tL v H):Fx P [.tmp t] tL .ret ⟨env,H,lk,[]⟩:=⟨rfl,[v],by simp only[zx,h],hp⟩
theorem GY{P:aQ}{t u:Tmp}{tL:V->Hp->Prop}{env:aD}{H:Hp}{lk:aN}{v w:V}(h:nth env t=some v)(h':nth env u=some w)(hp:tL (.bq [aW v,aW w]) H):Fx P [.tmp t,.tmp u] tL .ret ⟨env,H,lk,[]⟩:=⟨rfl,[v,w],by simp only[zx,h,h'],hp⟩
def m8(k:Nat)(P:aQ)(gl:Gl)(f:FuncId)(xs:aD)(v:V):Prop:=∀n,k<=n->∀H,zj P gl n f xs H=some (.ret v,H)
def Kn(P:aQ)(gl:Gl)(f:FuncId)(xs:aD)(v:V):Prop:=∃k,m8 k P gl f xs v
theorem Kn.am6{P:aQ}{gl:Gl}{f:FuncId}{xs:aD}{v:V}(h:gl.hk f xs=some v):Kn P gl f xs v:=⟨1,λn hn H=>by
 obtain⟨n,rfl⟩:∃k,n=k+1:=⟨n - 1,by omega⟩
 obtain⟨bs,es⟩:=H
 simp only[zj,h]⟩
def nU:aB->Bool:=λ_=>false
structure GK(gl:Gl)(ef:bN):Prop where
 no:∀f,ef.any (Nat.beq f)=false->∀args,gl.hk f args=none
 h2:∀f,ef.any (Nat.beq f)=false->∀n args H,gl.fG n f args H=none
 uq:∀t,gl.uq t=false
theorem vw{P:aQ}{gl:Gl}{ef:bN}(hg:GK gl ef){f:FuncId}{fn:Func}{body:Code}{xs:aD}{v:V}(hf:P.funcs[f]?=some fn)(hb:fn.body=some body)(eT:ef.any (Nat.beq f)=false)(ht:v.top=0)(k0:Nat)
  (h:∀n,k0<=n->∀bs,go ⟨P,gl,zj P gl n,nU⟩ n (Fx P fn.results.toList λw H1=>w=v/\∃ls,H1=⟨bs++ls,[]⟩) [.c body] .normal ⟨xs++List.replicate (fn.ntmps - xs.length) (.bq []),⟨bs,[]⟩,[],[]⟩):m8 (k0+1) P gl f xs v:=by
 intro n hn H;obtain⟨n,rfl⟩:∃k,n=k+1:=⟨n - 1,by omega⟩
 obtain⟨bs,es⟩:=H;obtain⟨w,H1,h0,rfl,ls,rfl⟩:=zQ (bs:=bs) (es:=es) (hg.no f eT xs) (λH=>hg.h2 f eT n xs H) hf hb (by rw[show gl.uq=nU from funext hg.uq];exact h n (by omega) bs)
 rw[h0,ht];exact congrArg (λx=>some (Out.ret _,x)) (z8 (eg _))
theorem jD{P:aQ}{gl:Gl}{f:FuncId}{fn:Func}{body:Code}{xs:aD}{v:V}{n:Nat}{uq:aB->Bool}(hf:P.funcs[f]?=some fn)(hb:fn.body=some body)(h:∀H,zj P gl n f xs H=some (.ret v,H))(H:Hp):Cx.bC ⟨P,gl,zj P gl n,uq⟩ f xs H=some (.val v,H):=zu hf hb (h H)
def rT:List (Nat×V)->Nat->V->V
 | [],_,d=>d
 | (k,v)::r,i,d=>bif k == i then v else rT r i d
def sh(j:Nat->V)(ks:List (Nat×V)):Nat->Nat->aD
 | 0,_=>[]
 | n+1,i=>rT ks i (j i)::sh j ks n (i+1)
def Ks(N:Nat)(ks:List (Nat×V))(env:aD):Prop:=∃j,env=sh j ks N 0
theorem gF{N:Nat}{ks:List (Nat×V)}{l:aD}(h:l=sh (λk=>(nth l k).getD .fR) ks N 0):Ks N ks l:=⟨_,h⟩
theorem Oa{cx:Cx}{n:Nat}{Q:Ex->St->Prop}{k:List It}{c:Code}{Bo:aD}{GL:aN}{H:Hp}(N:Nat)(ks:List (Nat×V))(h:go cx n (PS cx n Q k λs=>∃env,s=⟨env,H,[],[]⟩/\Ks N ks env) [.c c] .normal ⟨Bo,H,GL,[]⟩)(h2:∀env,Ks N ks env->go cx n Q k .normal ⟨env,H,[],[]⟩):go cx n Q (.c c::k) .normal ⟨Bo,H,GL,[]⟩ :=
 zlL _ h λs' ⟨env,e,hk⟩=>by subst e;exact h2 env hk
theorem zqM{cx:Cx}{n:Nat}{Q:Ex->St->Prop}{k:List It}{a:Code}{s0:St}{t:Bool}{B:Prop}(hB:go cx n Q k .normal s0->B)(H':Hp)(N:Nat)(ks:List (Nat×V))(h1:t=true->go cx n (PS cx n Q k λs=>∃env,s=⟨env,H',[],[]⟩/\Ks N ks env) [.c a] .normal s0)(h0:t=false->∃env,s0=⟨env,H',[],[]⟩/\Ks N ks env)(h2:∀env,Ks N ks env->go cx n Q k .normal ⟨env,H',[],[]⟩):Ij (go cx n Q (.c a::k) .normal s0) B (some (.bool t)):=by
 cases t with
 | true=>exact zlL _ (h1 rfl) λs' ⟨env,e,hk⟩=>by subst e;exact h2 env hk
 | false =>
  obtain⟨env,e,hk⟩:=h0 rfl;refine hB ?_;subst e;exact h2 env hk
section
variable{cx:Cx}{all:Array Oper}{takes:bY}{i:Nat}{rs:List Rec}{c0:ei}{cs:List ei}{o:Oper}{os:List Oper}{env:aD}{H:Hp}{df:bO}{r:Option (Ex×St)}
theorem oF(m:Nat)(v:V)(aC:cx.op takes o env H [] df=some (.val v,⟨env,H,[],df⟩))(k:cx.eN all takes (i+1) (jc all takes i o m false true env v::rs) (c0::cs) os ⟨aq env o.dst v,H,[],df⟩=r)
  (hm:wx rs o.after.toList=some m:=by kernel_rfl) (hg:zX all o env=some true:=by rfl) (h1:q9 cx.P cx.uq takes o=false:=by kernel_rfl) (h2:kU cx.P cx.uq o=false:=by kernel_rfl) (hs:kz (kw (jc all takes i o m false true env v)) rs=true:=by kernel_rfl):cx.eN all takes i rs (c0::cs) (o::os) ⟨env,H,[],df⟩=r:=qx hm hg aC h1 h2 hs k
theorem oL(m:Nat)(v:V)(aC:cx.op takes o env H [] df=some (.val v,⟨env,H,[],df⟩))(hc:∀c∈cs,c.H=H/\c.lk=[]/\c.df=df)(k:cx.eN all takes (i+1) (jc all takes i o m false false env v::rs) (c0::cs) os ⟨aq env o.dst v,H,[],df⟩=r)
  (hm:wx rs o.after.toList=some m:=by kernel_rfl) (hg:zX all o env=some true:=by rfl) (h1:q9 cx.P cx.uq takes o=false:=by kernel_rfl) (h2:kU cx.P cx.uq o=true:=by kernel_rfl) (hs:kz (kw (jc all takes i o m false false env v)) rs=true:=by kernel_rfl):cx.eN all takes i rs (c0::cs) (o::os) ⟨env,H,[],df⟩=r :=
 kj hm hg aC h1 h2 hs (kC λc h=>by
  obtain⟨D,H1,lk,eu⟩:=c;obtain⟨e1,e2,e3⟩:=hc _ h;simp only at e1 e2 e3;subst e1 e2 e3;split
  ·simp only[Cx.eM,Cx.dK,aC,V.cN]
  ·rfl) k
theorem oH(m D:Nat)(v:V)(aC:cx.op takes o env H [] df=some (.val v,⟨env,H,[],df⟩))(cq:∀c∈cs,vA (Nat.land m (ep rs)) c.D=false)(dX:cx.eK takes rs (ep rs) (jc all takes i o m true false env v) (⟨D,H,[],df⟩::c0::cs) ⟨D,H,[],df⟩=true)(k:cx.eN all takes (i+1) (jc all takes i o m true false env v::rs) (⟨D,H,[],df⟩::c0::cs) os ⟨aq env o.dst v,H,[],df⟩=r)
  (hD:Nat.lor c0.D (Nat.pow 2 i)=D:=by kernel_rfl) (hm:wx rs o.after.toList=some m:=by kernel_rfl) (hg:zX all o env=some true:=by rfl) (h1:q9 cx.P cx.uq takes o=true:=by kernel_rfl) (h2:kU cx.P cx.uq o=true:=by kernel_rfl) (hs:kz (kw (jc all takes i o m true false env v)) rs=true:=by kernel_rfl):cx.eN all takes i rs (c0::cs) (o::os) ⟨env,H,[],df⟩=r :=
 yo hm hg aC h1 h2 hs (λK=>jK (by rw[hD]) rfl cq dX) k
end
section
variable{cx:Cx}{all:Array Oper}{takes:bY}{i m:Nat}{rs:List Rec}{c0:ei}{cs cs':List ei}{o:Oper}{os:List Oper}{env cK:aD}{H H1:Hp}{lk eB:aN}{df eu:bO}{v:V}{r:Option (Ex×St)}
theorem zdS(hm:wx rs o.after.toList=some m)(hg:zX all o env=some true)(aC:cx.op takes o env H lk df=some (.val v,⟨cK,H1,eB,eu⟩))(h1:q9 cx.P cx.uq takes o=true)(h2:kU cx.P cx.uq o=false)
  (hs:kz (kw (jc all takes i o m true true env v)) rs=true) (hc:∀K,cx.fj takes rs (jc all takes i o m true true env v) c0 ⟨Nat.lor c0.D (Nat.pow 2 i),H1,eB,eu⟩ cs K=K cs')
  (k:cx.eN all takes (i+1) (jc all takes i o m true true env v::rs) cs' os ⟨aq cK o.dst v,H1,eB,eu⟩=r):cx.eN all takes i rs (c0::cs) (o::os) ⟨env,H,lk,df⟩=r:=by
 have ej:=λK=>hc K;simp only[jc] at hs k ej;simp only[Cx.eN,hm,qz,hg,aC,qp,jO,h1,h2,oo,hs];rw[ej];exact k
theorem zhC{KU:Nat}{R:Rec}{al:List ei}{c:ei}(h:∀q∈rs,q.hp=true/\bit c.D q.idx=true\/q.hp=false/\(q.free=true\/bit R.m q.idx=true\/cx.eM takes q.o q.env q.v c=true)):cx.eK takes rs KU R al c=true:=by
 unfold Cx.eK;refine kC λq hq=>?_;split
 ·rfl
 ·rcases h q hq with⟨h1,h2⟩|⟨h1,h2|h2|h2⟩<;>simp[h1,h2]
theorem yg{D:Nat}{s:St}(h:cx.op takes o env H lk df=some (.val v,s)):cx.eM takes o env v ⟨D,H,lk,df⟩=true:=by
 simp only[Cx.eM,Cx.dK,h,V.cN]
end
theorem m8.mono{P:aQ}{gl:Gl}{f:FuncId}{xs:aD}{v:V}{k k':Nat}(h:m8 k P gl f xs v)(hk:k<=k'):m8 k' P gl f xs v:=λn hn H=>h n (by omega) H
theorem zqj{P:aQ}{gl:Gl}{ef:bN}(hg:GK gl ef){f:FuncId}{fn:Func}{body:Code}{xs:aD}{v:V}{n:Nat}{bs:List aV}{es:aN}(hf:P.funcs[f]?=some fn)(hb:fn.body=some body)(eT:ef.any (Nat.beq f)=false)(ht:v.top=0)
  (h:go ⟨P,gl,zj P gl n,nU⟩ n (Fx P fn.results.toList λw H1=>w=v/\∃ls,H1=⟨bs++ls,[]⟩) [.c body] .normal ⟨xs++List.replicate (fn.ntmps - xs.length) (.bq []),⟨bs,[]⟩,[],[]⟩):zj P gl (n+1) f xs ⟨bs,es⟩=some (.ret v,⟨bs,es⟩):=by
 obtain⟨w,H1,h0,rfl,ls,rfl⟩:=zQ (bs:=bs) (es:=es) (hg.no f eT xs) (λH=>hg.h2 f eT n xs H) hf hb (by rw[show gl.uq=nU from funext hg.uq];exact h)
 rw[h0,ht];exact congrArg (λx=>some (Out.ret _,x)) (z8 (eg _))
end Go.Vm
namespace Go.Proofs.YthohlnmcjkjeiaaGreatDoor.A2
open Go Go.Vm Go.Vm.Sx
open Go.Proofs.Tryz
set_option maxRecDepth 100000
abbrev cE:=Bool×List Int
abbrev f_:=Bool×List cE
abbrev Q4:=Int×Int×Int×Int
structure F where
 s:Bool×List Q4
 r:cE
 f:f_
 n:f_
def ie(n:Int):V:=.int .i64 n
def iv(p:cE):V:=lv 1 p.1 (p.2.map ie)
def rv(p:f_):V:=lv 1 p.1 (p.2.map iv)
def qe(q:Q4):V:=.agg [.int .u64 q.1,.int .u64 q.2.1,.int .u64 q.2.2.1,.int .u64 q.2.2.2]
def qv(p:Bool×List Q4):V:=lv 4 p.1 (p.2.map qe)
def fc(f:F):aD:=[qv f.s,iv f.r,rv f.f,rv f.n]
def fv(f:F):V:=.agg (fc f)
theorem lJ{α:Type}{h:α->V}(hh:∀a,(h a).top=0):∀(l:List α),aI (l.map h)=0
 | []=>rfl
 | a::l=>by simp[aI,hh a,lJ hh l]
theorem p7(p:cE):(iv p).top=0:=by unfold iv;rw[JR];exact lJ (λ_=>rfl) _
theorem CP(p:f_):(rv p).top=0:=by unfold rv;rw[JR];exact lJ p7 _
theorem zpG(p:Bool×List Q4):(qv p).top=0:=by unfold qv;rw[JR];exact lJ (λ_=>rfl) _
theorem zn4(f:F):aI (fc f)=0:=by simp[fc,aI,zpG,p7,CP]
theorem sM(f:F):(fv f).top=0:=zn4 f
def GZ(z:Int):Prop:=-9223372036854775808<=z/\z<=9223372036854775807
def WI(p:cE):Prop:=p.2.length * 8<=reachBytes/\∀z∈p.2,GZ z
def WR(p:f_):Prop:=p.2.length * 24<=reachBytes/\∀q∈p.2,WI q
structure WF(f:F):Prop where
 s:f.s.2.length * 32<=reachBytes
 r:WI f.r
 fi:WR f.f
 ne:WR f.n
theorem c3:prog.cellsOf 3=1:=by kernel_rfl
theorem G0:prog.cellsOf 27=1:=by kernel_rfl
theorem QH:prog.cellsOf 28=1:=by kernel_rfl
theorem QI:prog.cellsOf 30=4:=by kernel_rfl
theorem b3:prog.bytesOf 3=8:=by kernel_rfl
theorem b24:prog.bytesOf 27=24:=by kernel_rfl
theorem mk3(cs:aD):v7 prog 3 cs=cs.headD .dW:=by
 have:y5 prog 3=false:=by kernel_rfl
 simp[v7,this]
theorem zqN(cs:aD):v7 prog 27 cs=cs.headD .dW:=by
 have:y5 prog 27=false:=by kernel_rfl
 simp[v7,this]
theorem l7{α:Type}{h:α->V}{Q:α->Prop}:∀(ys:aD),(∀y∈ys,∃a,h a=y/\Q a)->∃l:List α,l.map h=ys/\∀a∈l,Q a
 | [],_=>⟨[],rfl,λ_ h=>by simp at h⟩
 | y::ys,hy=>by
  obtain⟨a,h1,h2⟩:=hy y (eH ..);obtain⟨l,h3,h4⟩:=l7 ys λz hz=>hy z (dR _ hz);refine⟨a::l,by simp[h1,h3],λb hb=>?_⟩
  rcases dH.1 hb with rfl|hb
  ·exact h2
  ·exact h4 b hb
theorem p8{n:Nat}{xs:aD}(h:jk prog n 3 xs):∃z,xs=[ie z]/\GZ z:=by
 cases n with
 | zero=>exact h.elim
 | succ n =>
  simp only[jk,underlying3] at h;obtain⟨z,h,hw⟩:=h;refine⟨z,h,?_⟩;have tJ:IntKind.i64.min<=z/\z<=IntKind.i64.max:=by simpa[Lit.wf] using hw
  have e1:IntKind.i64.min = -9223372036854775808:=by decide
  have e2:IntKind.i64.max=9223372036854775807:=by decide
  rw[e1,e2] at tJ;exact tJ
theorem zn5{n:Nat}{xs:aD}(h:jk prog n 27 xs):∃p,xs=[iv p]/\WI p:=by
 cases n with
 | zero=>exact h.elim
 | succ n =>
  simp only[jk,underlying27,c3,b3] at h;rcases h with h|⟨ys,h,⟨_,hb⟩,hy⟩
  ·exact⟨(true,[]),h,by simp[WI]⟩
  ·obtain⟨l,h1,h2⟩:=l7 (h:=ie) (Q:=GZ) ys λy FQ=>by
    obtain⟨cs,g1,g2⟩:=hy y FQ;obtain⟨z,g3,g4⟩:=p8 g1;rw[mk3,g3] at g2;exact⟨z,g2.symm,g4⟩
   subst h1;exact⟨(false,l),h,by simpa using hb,h2⟩
theorem IN{n:Nat}{xs:aD}(h:jk prog n 28 xs):∃p,xs=[rv p]/\WR p:=by
 cases n with
 | zero=>exact h.elim
 | succ n =>
  simp only[jk,underlying28,G0,b24] at h;rcases h with h|⟨ys,h,⟨_,hb⟩,hy⟩
  ·exact⟨(true,[]),h,by simp[WR]⟩
  ·obtain⟨l,h1,h2⟩:=l7 (h:=iv) (Q:=WI) ys λy FQ=>by
    obtain⟨cs,g1,g2⟩:=hy y FQ;obtain⟨z,g3,g4⟩:=zn5 g1;rw[zqN,g3] at g2;exact⟨z,g2.symm,g4⟩
   subst h1;exact⟨(false,l),h,by simpa using hb,h2⟩
section
set_option linter.unusedSectionVars false
theorem bB(p:cE):aW (iv p)=iv p:=PY ..
theorem bH(p:f_):aW (rv p)=rv p:=PY ..
theorem ey(p:Bool×List Q4):aW (qv p)=qv p:=PY ..
theorem dY:reachBytes<=140737488355328:=by decide
variable{gl:Gl}
end
section
set_option linter.unusedSectionVars false
variable{gl:Gl}
def gi(l:List Int)(i:Nat):Int:=l.getD i 0
def gr(l:List (List Int))(i:Nat):List Int:=l.getD i []
def rowsOf(p:f_):List (List Int):=p.2.map (·.2)
theorem ez(p:f_):(rowsOf p).length=p.2.length:=by simp[rowsOf]
theorem oR{p:f_}{i:Nat}{q:cE}(h:p.2[i]?=some q):gr (rowsOf p) i=q.2:=by simp[gr,rowsOf,h]
def nG(l:List Int):Bool:=wP (λk=>!dj (gi l (l.length - 1 - k)) (gi l (l.length - 1 - k - 1))) (l.length - 1)
end
section
set_option linter.unusedSectionVars false
variable{gl:Gl}
abbrev D:=f_×cE
def ij(d:D):V:=.agg [rv d.1,iv d.2]
theorem CQ(d:D):(ij d).top=0:=by simp[ij,V.top,aI,CP,p7]
structure WD(d:D):Prop where
 n:WR d.1
 l:WI d.2
def J7(n:Nat)(q:List Int)(c:Nat):Bool:=!dj (gi q c) 0 && !nD (n:Int) (gi q c)
def EC(rows:List (List Int))(ls:List Int)(n i:Nat):Bool:=((((gr rows i).length:Nat):Int) == 256) && (!dj (gi ls i) (-1) && (!nD 200 (gi ls i) && wP (J7 n (gr rows i)) 256))
def rU(rows:List (List Int))(ls:List Int):Bool :=
 bif ((dj (rows.length:Int) 1 || dj 600 (rows.length:Int)) || !((ls.length:Int) == (rows.length:Int))) then false else wP (EC rows ls rows.length) rows.length
end
section
set_option linter.unusedSectionVars false
variable{gl:Gl}
def G1(rows:List (List Int)):Int->List Int->Int
 | s,[]=>s
 | s,b::t=>G1 rows (gi (gr rows s.toNat) b.toNat) t
theorem zeZ{rows:List (List Int)}{b:Int}:∀{t:List Int}{s:Int},G1 rows s (t++[b])=gi (gr rows (G1 rows s t).toNat) b.toNat
 | [],_s=>rfl
 | _::t,_s=>zeZ (t:=t)
theorem YI{rows:List (List Int)}{ls:List Int}(h:rU rows ls=true):(1<=rows.length/\rows.length<=600)/\∀i,i<rows.length->(gr rows i).length=256/\∀c,c<256->0<=gi (gr rows i) c/\gi (gr rows i) c<rows.length:=by
 unfold rU at h;cases hh:((dj (rows.length:Int) 1 || dj 600 (rows.length:Int)) || !((ls.length:Int) == (rows.length:Int))) with
 | true=>rw[hh] at h;cases h
 | false =>
  rw[hh] at h;simp only[oq] at h;simp only[KJ,dj,decide_eq_false_iff_not] at hh;refine⟨by omega,λi hi=>?_⟩
  have tv:=cL.1 h i hi;simp only[EC,eo] at tv;obtain⟨h1,_,_,h2⟩:=tv;refine⟨by have:=eq_of_beq h1;omega,λc hc=>?_⟩
  have hk:=cL.1 h2 c hc;simp only[J7,eo,Gq,dj,nD,decide_eq_false_iff_not] at hk;omega
theorem zjw{rows:List (List Int)}{ls:List Int}(h:rU rows ls=true):∀{t:List Int}{s:Int},(∀b∈t,0<=b/\b<256)->0<=s->s<rows.length->0<=G1 rows s t/\G1 rows s t<rows.length
 | [],s,_,h0,h1=>⟨h0,h1⟩
 | b::t,s,hb,h0,h1=>by
  have tP:=hb b (eH ..);have:=((YI h).2 s.toNat (by omega)).2 b.toNat (by omega)
  exact zjw h (t:=t) (λc hc=>hb c (dR _ hc)) this.1 this.2
def be(b:Int):V:=.int .u8 b
def CR(p:cE):V:=lv 1 p.1 (p.2.map be)
theorem zmh(p:cE):aW (CR p)=CR p:=PY ..
theorem Mc(p:cE):(CR p).top=0:=by
 rw[CR,JR];exact lJ (λ_=>rfl) _
def CS:V:=.ec 396 (.obj 0)
def FR(d:D)(t:List Int):V:=bif rU (rowsOf d.1) d.2.2 then .bq [.int .i64 (G1 (rowsOf d.1) 0 t),.bM] else .bq [.int .i64 0,CS]
end
section
set_option linter.unusedSectionVars false
variable{gl:Gl}
end
section
set_option linter.unusedSectionVars false
variable{gl:Gl}
end
section
set_option linter.unusedSectionVars false
variable{gl:Gl}
def AK(n:Nat)(l:List Int)(i:Nat):Bool:=!dj (gi l i) 0 && (!nD (n:Int) (gi l i) && (i == 0 || !nD (gi l i) (gi l (i - 1))))
end
section
variable{gl:Gl}{ef:bN}
theorem Md:prog.underlying 27=some (.slice 3):=by kernel_rfl
theorem fA:qD prog 3=some false:=by kernel_rfl
theorem IP:z4 prog 3=some 1:=by kernel_rfl
theorem kO{H:Hp}{p:cE}:jb prog H 27 (iv p)=some (p.2.length:Int):=by
 unfold iv;rcases cH 1 p.1 (p.2.map ie) with h|⟨h0,h⟩<;>rw[h]
 ·simp[jb]
 ·simp only[List.map_eq_nil_iff] at h0;simp[jb,h0]
theorem YJ{p:cE}{i:Nat}(h:i<p.2.length):zt prog 27 (iv p) (i:Int)=some (.vp [ie p.2[i]]):=by
 have hk:¬((i:Int)<0):=by omega
 have hn:nth (p.2.map ie) i=some (ie p.2[i]):=by rw[zg,iY,gh h];rfl
 have cI:iv p=.sl 1 (p.2.map ie) .no:=by
  unfold iv;rcases cH 1 p.1 (p.2.map ie) with h'|⟨h0,_⟩
  ·exact h'
  ·simp only[List.map_eq_nil_iff] at h0;rw[h0] at h;simp at h
 rw[cI];simp[zt,IP,hk,hn,V.cells,ie]
theorem xu{H:Hp}{g:Nat->Nat->bX}{z:Int}:zk prog H g 3 (.vp [.int .i64 z])=some (.int .i64 z):=by
 simp[zk,qy,fA,nth,wW]
end
section
set_option maxHeartbeats 1000000
variable{gl:Gl}{ef:bN}
theorem Me:prog.underlying 28=some (.slice 27):=by kernel_rfl
theorem gI:qD prog 28=some false:=by kernel_rfl
theorem iM:zB prog 30 0=some 0/\zB prog 30 1=some 1/\zB prog 30 2=some 2/\zB prog 30 3=some 3:=⟨by kernel_rfl,by kernel_rfl,by kernel_rfl,by kernel_rfl⟩
theorem jS{H:Hp}{p:f_}:jb prog H 28 (rv p)=some (p.2.length:Int):=by
 unfold rv;rcases cH 1 p.1 (p.2.map iv) with h|⟨h0,h⟩<;>rw[h]
 ·simp[jb]
 ·simp only[List.map_eq_nil_iff] at h0;simp[jb,h0]
theorem Oc{bs:List aV}{x:aV}{es:aN}:(⟨bs++[x],es⟩:Hp).get bs.length=some x:=by
 show nth _ _=_;rw[zg,fE (dI _)];simp
theorem YK{bs:List aV}{es:aN}{cs:aD}{ty t:aB}{g:Nat->Nat->bX}{off:Nat}{v:V}(ha:qD prog t=some false)(hn:nth cs off=some v):zk prog ⟨bs++[.cells cs ty],es⟩ g t (.ptr bs.length off)=some v:=zq ha Oc hn
theorem YL(f:F):dz (fv f)=true:=rfl
theorem T'(f:F):(fv f).laid=fc f:=by simp[fv,V.laid,fc,ey,bB,bH]
theorem Od(f:F)(env:aD)(t:Nat):qK env t (some (fv f))=some (fv f,env):=rfl
theorem YM(hg:GK gl ef)(eT:ef.any (Nat.beq 72)=false)(f:F)(a:cE)(ha:a.2.length<2 ^ 60):m8 (a.2.length+2) prog gl 72 [fv f,iv a] (.bool (wP (AK f.f.2.length a.2) a.2.length)):=by
 refine vw hg func72 rfl eT rfl (a.2.length+1) λn hn bs=>?_;have gw:zk prog ⟨bs++[.cells (fc f) 30],[]⟩ gl.g 28 (.ptr bs.length 2)=some (rv f.f):=YK gI rfl;simp only[f72,zh];refine rg ?_;simp only[BW,Nat.reduceAdd,List.replicate,Od,z7 (YL f),T'];refine rg ?_;simp only[BW,kO,bB]
 refine qh (λm s=>∃i env,m+i=a.2.length/\s=⟨env,⟨bs++[.cells (fc f) 30],[]⟩,[],[]⟩/\Ks 37 [(1,iv a),(2,.ptr bs.length 0),(7,iv a),(8,.int .i64 (a.2.length:Nat)),(9,.int .i64 (i:Nat))] env/\∀j,j<i->AK f.f.2.length a.2 j=true) a.2.length (by omega) ⟨0,_,rfl,rfl,gF rfl,λj hj=>by omega⟩ ?_
 rintro m s ⟨i,env,sG,rfl,⟨j,rfl⟩,dF⟩;simp only[sh,rT,Nat.reduceBEq,Nat.reduceAdd,mJ,oq];simp only[zh];refine rg ?_;simp only[BW,qo]
 by_cases hi:i<a.2.length
 ·refine .inl ⟨by simp;omega,?_⟩
  have e:a.2[i]=gi a.2 i:=by simp[gi,hi]
  have CB:=YJ hi;rw[e] at CB;refine rg ?_;simp only[BW,bB,CB,xu,ie];refine Oa 37 [(1,iv a),(2,.ptr bs.length 0),(7,iv a),(8,.int .i64 (a.2.length:Nat)),(9,.int .i64 (i:Nat)),(35,.bool (!AK f.f.2.length a.2 i))] ?_ λenv ⟨j,e⟩=>?_
  ·refine rg ?_
   by_cases c1:gi a.2 i<0
   ·simp only[BW,c1];exact⟨_,rfl,(show(!AK f.f.2.length a.2 i)=true by simp[AK,dj,c1]) ▸ gF rfl⟩
   by_cases c2:(f.f.2.length:Int)<=gi a.2 i
   ·simp only[BW,c1,iM,gw,bH,jS,ge_iff_le,c2];exact⟨_,rfl,(show(!AK f.f.2.length a.2 i)=true by simp[AK,nD,c2]) ▸ gF rfl⟩
   rcases Jl i with rfl|c3
   ·simp only[BW,c1,iM,gw,bH,jS,ge_iff_le,c2,gt_iff_lt,show ¬((0:Int)<((0:Nat):Int)) by omega]
    exact⟨_,rfl,(show(!AK f.f.2.length a.2 0)=false by simp[AK,dj,nD,c1,c2]) ▸ gF rfl⟩
   have c4:(0:Int)<(i:Int):=by omega
   have lQ:IntKind.i64.wrap ((i:Int) - 1)=((i - 1:Nat):Int):=by rw[xH (by omega) (by omega)];omega
   have QJ:=YJ (p:=a) (i:=i - 1) (by omega)
   have e2:a.2[i - 1]=gi a.2 (i - 1):=by simp[gi,show i - 1<a.2.length by omega]
   rw[e2] at QJ;have c5:(i == 0)=false:=by simp;omega
   simp only[BW,c1,iM,gw,bH,jS,ge_iff_le,c2,gt_iff_lt,c4,jX,lQ,bB,QJ,xu,ie];exact⟨_,rfl,(show(!AK f.f.2.length a.2 i)=decide (gi a.2 i<=gi a.2 (i - 1)) by simp[AK,dj,nD,c1,c2,c5]) ▸ gF rfl⟩
  ·subst e;simp only[sh,rT,Nat.reduceBEq,Nat.reduceAdd,mJ,oq]
   by_cases ho:AK f.f.2.length a.2 i=true
   ·simp only[BW,ho];refine rg ?_;simp only[BW,qc (show i<2 ^ 60 by omega)]
    exact⟨m - 1,by omega,i+1,_,by omega,rfl,gF rfl,λj hj=>by
     rcases eX j i with h|h
     ·exact dF j h
     ·obtain rfl:j=i:=by omega
      exact ho⟩
   ·have ho:AK f.f.2.length a.2 i=false:=by simpa using ho
    simp only[BW,ho];refine rg ?_;simp only[BW];have hb:wP (AK f.f.2.length a.2) a.2.length=false:=by
     rw[<- Jn,cL];exact λh=>by rw[h i hi] at ho;cases ho
    exact fI (v:=.bool false) rfl ⟨by rw[hb],_,rfl⟩
 ·obtain rfl:i=a.2.length:=by omega
  refine .inr ⟨by simp,?_⟩
  refine rg ?_;simp only[BW];have hb:wP (AK f.f.2.length a.2) a.2.length=true:=cL.2 dF;exact fI (v:=.bool true) rfl ⟨by rw[hb],_,rfl⟩
end
section
variable{gl:Gl}{ef:bN}
theorem nZ:qD prog 9=some false:=by kernel_rfl
theorem dQ:qD prog 51=some false:=by kernel_rfl
theorem QK:qD prog 50=some true:=by kernel_rfl
theorem Bp:qD prog 53=some true:=by kernel_rfl
theorem QL:z4 prog 50=some 4:=by kernel_rfl
theorem uB:z4 prog 53=some 10:=by kernel_rfl
theorem QM:prog.underlying 51=some (.slice 53):=by kernel_rfl
theorem dL:zB prog 53 0=some 0/\zB prog 53 1=some 1/\zB prog 53 2=some 2/\zB prog 53 3=some 6/\zB prog 53 4=some 7/\zB prog 53 5=some 8/\zB prog 53 6=some 9:=⟨by kernel_rfl,by kernel_rfl,by kernel_rfl,by kernel_rfl,by kernel_rfl,by kernel_rfl,by kernel_rfl⟩
theorem eY{bs:List aV}{es:aN}{cs:aD}{ty t:aB}{g:Nat->Nat->bX}{off:Nat}(ha:qD prog t=some false):zk prog ⟨bs++[.cells cs ty],es⟩ g t (.ptr bs.length off)=nth cs off:=by
 cases h:nth cs off with
 | some v=>exact YK ha h
 | none=>simp[zk,qy,ha,Oc,h,wW]
theorem BT{bs:List aV}{es:aN}{a0 a1 a2 a3 a4 a5 a6 a7 a8 a9:V}{g:Nat->Nat->bX}:zk prog ⟨bs++[.cells [a0,a1,a2,a3,a4,a5,a6,a7,a8,a9] 53],es⟩ g 50 (.ptr bs.length 2)=some (.agg [a2,a3,a4,a5]):=qY QK QL Oc (by simp)
theorem BU{env:aD}:ky prog 50 #[] env=some (.agg [.int .u64 0,.int .u64 0,.int .u64 0,.int .u64 0]):=by kernel_rfl
theorem ya{x y:aX}{a b c d:Int}:qP prog .eql 50 x y (some (.agg [.int .u64 a,.int .u64 b,.int .u64 c,.int .u64 d])) (some (.agg [.int .u64 0,.int .u64 0,.int .u64 0,.int .u64 0]))=some (.bool (a == 0 && (b == 0 && (c == 0 && d == 0)))):=by
 have h1:prog.underlying 50=some (.array 4 48):=by kernel_rfl
 have h2:prog.underlying 48=some (.int .u64):=by kernel_rfl
 have h3:z4 prog 48=some 1:=by kernel_rfl
 have h4:prog.eqGuardType prog.depth 50=false:=by kernel_rfl
 have h5:qD prog 48=some false:=by kernel_rfl
 by_cases ha:a=0<;>by_cases hb:b=0<;>by_cases hc:c=0<;>by_cases hd:d=0<;>simp[qP,jt,v6,w7,AQ,h1,h2,h3,h4,h5,Nj,KO,qy,nth,wW,ha,hb,hc,hd]
theorem J8(e:E):dz (enc e)=true:=by rw[qA];rfl
theorem yh(e:E):(enc e).laid=aK e:=by rw[qA];simp only[V.laid,qi]
theorem Mf(e:E)(env:aD)(t:Nat):qK env t (some (enc e))=some (enc e,env):=by rw[qA];rfl
theorem qn{H:Hp}{nl:Bool}{l:List E}:jb prog H 51 (ye nl (fe l))=some (l.length:Int):=by
 rcases vG nl (fe l) with h|⟨h0,h⟩<;>rw[h]
 ·simp[jb,fD]
 ·have:l.length=0:=by rw[<- fD,h0];rfl
  simp[jb,this]
theorem BV{P:aQ}{t:aB}{x y:aX}{a b:bN}:qP P .eql t x y (some (.str a)) (some (.str b))=some (.bool (nQ a b)):=by
 simp[qP,jt,v6,w7,OH]
theorem zqO(hg:GK gl ef)(eT:ef.any (Nat.beq 86)=false)(e:E):m8 2 prog gl 86 [enc e] (.bool (mG e)):=by
 refine vw hg func86 rfl eT rfl 1 λn hn bs=>?_;simp only[f86,zh];refine rg ?_;simp only[BW,List.replicate,Mf,z7 (J8 e),yh];refine rg ?_;obtain⟨op,pl,s0,s1,s2,s3,text,mn,mx,nl,args⟩:=e;cases h1:op == 0 with
 | false =>
  simp only[BW,dL,eY fA,aK,h1];exact fI rfl ⟨by simp only[mG,h1];rfl,_,rfl⟩
 | true =>
 cases h2:pl == 0 with
 | false =>
  simp only[BW,dL,eY fA,aK,h1,h2];exact fI rfl ⟨by simp only[mG,h1,h2];rfl,_,rfl⟩
 | true =>
 cases h3:s0 == 0 && (s1 == 0 && (s2 == 0 && s3 == 0)) with
 | false =>
  simp only[BW,dL,eY fA,BT,BU,ya,aK,h1,h2,h3];exact fI rfl ⟨by simp only[mG,h1,h2,h3];rfl,_,rfl⟩
 | true =>
 cases h4:nQ text [] with
 | false =>
  simp only[BW,dL,eY fA,eY nZ,BT,BU,ya,BV,aK,h1,h2,h3,h4];exact fI rfl ⟨by simp only[mG,h1,h2,h3,h4];rfl,_,rfl⟩
 | true =>
 cases h5:mn == 0 with
 | false =>
  simp only[BW,dL,eY fA,eY nZ,BT,BU,ya,BV,aK,h1,h2,h3,h4,h5];exact fI rfl ⟨by simp only[mG,h1,h2,h3,h4,h5];rfl,_,rfl⟩
 | true =>
 cases h6:mx == 0 with
 | false =>
  simp only[BW,dL,eY fA,eY nZ,BT,BU,ya,BV,aK,h1,h2,h3,h4,h5,h6];exact fI rfl ⟨by simp only[mG,h1,h2,h3,h4,h5,h6];rfl,_,rfl⟩
 | true =>
  simp only[BW,dL,eY fA,eY nZ,eY dQ,BT,BU,ya,BV,aK,zY,qn,h1,h2,h3,h4,h5,h6];exact fI rfl ⟨by simp only[mG,h1,h2,h3,h4,h5,h6,s5],_,rfl⟩
theorem zqk(hg:GK gl ef)(eT:ef.any (Nat.beq 153)=false)(e:E):m8 2 prog gl 153 [enc e] (.bool (lC e)):=by
 refine vw hg func153 rfl eT rfl 1 λn hn bs=>?_;simp only[f153,zh];refine rg ?_;simp only[BW,List.replicate,Mf,z7 (J8 e),yh];refine rg ?_;obtain⟨op,pl,s0,s1,s2,s3,text,mn,mx,nl,args⟩:=e;cases h1:pl == 0 with
 | false =>
  simp only[BW,dL,eY fA,aK,h1];exact fI rfl ⟨by simp only[lC,h1];rfl,_,rfl⟩
 | true =>
 cases h2:nQ text [] with
 | false =>
  simp only[BW,dL,eY fA,eY nZ,BV,aK,h1,h2];exact fI rfl ⟨by simp only[lC,h1,h2];rfl,_,rfl⟩
 | true =>
 have key:∀b:Bool,((op == 2) || (s0 == 0 && (s1 == 0 && (s2 == 0 && s3 == 0))))=b->lC (.mk op pl s0 s1 s2 s3 text mn mx nl args)=(b && (op == 7 || (mn == 0 && mx == 0))):=λb hb=>by simp only[lC,h1,h2,hb,s5]
 cases h3:op == 2 with
 | true =>
  have k1:=key true (by rw[h3];rfl)
  cases h4:op == 7 with
  | true =>
   simp only[BW,dL,eY fA,eY nZ,BV,aK,h1,h2,h3,h4];exact fI rfl ⟨by rw[k1,h4];rfl,_,rfl⟩
  | false =>
  cases h5:mn == 0 with
  | false =>
   simp only[BW,dL,eY fA,eY nZ,BV,aK,h1,h2,h3,h4,h5];exact fI rfl ⟨by rw[k1,h4,h5];rfl,_,rfl⟩
  | true =>
   simp only[BW,dL,eY fA,eY nZ,BV,aK,h1,h2,h3,h4,h5];exact fI rfl ⟨by rw[k1,h4,h5];rfl,_,rfl⟩
 | false =>
 cases h6:s0 == 0 && (s1 == 0 && (s2 == 0 && s3 == 0)) with
 | false =>
  have k1:=key false (by rw[h3,h6];rfl)
  simp only[BW,dL,eY fA,eY nZ,BT,BU,ya,BV,aK,h1,h2,h3,h6];exact fI rfl ⟨by rw[k1];rfl,_,rfl⟩
 | true =>
  have k1:=key true (by rw[h3,h6];rfl)
  cases h4:op == 7 with
  | true =>
   simp only[BW,dL,eY fA,eY nZ,BT,BU,ya,BV,aK,h1,h2,h3,h4,h6];exact fI rfl ⟨by rw[k1,h4];rfl,_,rfl⟩
  | false =>
  cases h5:mn == 0 with
  | false =>
   simp only[BW,dL,eY fA,eY nZ,BT,BU,ya,BV,aK,h1,h2,h3,h4,h5,h6];exact fI rfl ⟨by rw[k1,h4,h5];rfl,_,rfl⟩
  | true =>
   simp only[BW,dL,eY fA,eY nZ,BT,BU,ya,BV,aK,h1,h2,h3,h4,h5,h6];exact fI rfl ⟨by rw[k1,h4,h5];rfl,_,rfl⟩
theorem zql(hg:GK gl ef)(eT:ef.any (Nat.beq 154)=false)(e:E):m8 2 prog gl 154 [enc e] (.bool (fU e)):=by
 refine vw hg func154 rfl eT rfl 1 λn hn bs=>?_;simp only[f154,zh];refine rg ?_;simp only[BW,List.replicate,Mf,z7 (J8 e),yh];refine rg ?_;obtain⟨op,pl,s0,s1,s2,s3,text,mn,mx,nl,args⟩:=e;simp only[BW,dL,eY fA,aK];refine rg ?_;cases h1:op == 1 with
 | true =>
  simp only[BW,h1];refine rg ?_;simp only[BW,dL,eY dQ,zY,qn];exact fI rfl ⟨by simp only[fU,h1];rfl,_,rfl⟩
 | false =>
 simp only[BW,h1];refine rg ?_;cases h2:op == 2 with
 | true =>
  simp only[BW,h2];refine rg ?_;simp only[BW,dL,eY dQ,zY,qn];exact fI rfl ⟨by simp only[fU,h1,h2];rfl,_,rfl⟩
 | false =>
 simp only[BW,h2];refine rg ?_;cases h5:op == 5 with
 | true =>
  simp only[BW,h5];refine rg ?_;simp only[BW,dL,eY dQ,zY,qn];exact fI rfl ⟨by simp only[fU,h1,h2,h5];rfl,_,rfl⟩
 | false =>
 simp only[BW,h5];refine rg ?_;cases h6:op == 6 with
 | true =>
  simp only[BW,h6];refine rg ?_;simp only[BW,dL,eY dQ,zY,qn];exact fI rfl ⟨by simp only[fU,h1,h2,h5,h6];rfl,_,rfl⟩
 | false =>
 simp only[BW,h6];refine rg ?_;cases h7:op == 7 with
 | false =>
  simp only[BW,h7];refine rg ?_;simp only[BW];exact fI rfl ⟨by simp only[fU,h1,h2,h5,h6,h7];rfl,_,rfl⟩
 | true =>
 simp only[BW,h7];refine rg ?_;have hk:fU (.mk op pl s0 s1 s2 s3 text mn mx nl args)=((args.length:Int) == 1 && ((mn == 0 && mx == -1 || mn == 1 && mx == -1) || mn == 0 && mx == 1)):=by simp only[fU,h1,h2,h5,h6,h7];rfl
 rw[hk];cases a1:(args.length:Int) == 1 with
 | false =>
  simp only[BW,dL,eY dQ,zY,qn,a1];exact fI rfl ⟨rfl,_,rfl⟩
 | true =>
 cases a2:mn == 0 with
 | true =>
  have a4:(mn == 1)=false:=by rw[eq_of_beq a2];rfl
  cases a3:mx == -1 with
  | true =>
   simp only[BW,dL,eY fA,eY dQ,zY,qn,a1,a2,a3];exact fI rfl ⟨rfl,_,rfl⟩
  | false =>
   simp only[BW,dL,eY fA,eY dQ,zY,qn,a1,a2,a3,a4];exact fI rfl ⟨rfl,_,rfl⟩
 | false =>
 cases a4:mn == 1 with
 | true =>
  cases a3:mx == -1 with
  | true =>
   simp only[BW,dL,eY fA,eY dQ,zY,qn,a1,a2,a3,a4];exact fI rfl ⟨rfl,_,rfl⟩
  | false =>
   simp only[BW,dL,eY fA,eY dQ,zY,qn,a1,a2,a3,a4];exact fI rfl ⟨rfl,_,rfl⟩
 | false =>
  simp only[BW,dL,eY fA,eY dQ,zY,qn,a1,a2,a4];exact fI rfl ⟨rfl,_,rfl⟩
end
section
variable{gl:Gl}{ef:bN}
def ci(z:Int):aV:=.cells [.int .i64 z] 3
def two(bs:List aV)(b1 b2:Nat)(n s:Int):List aV:=(bs.set b1 (ci n)).set b2 (ci s)
section
variable{bs ls:List aV}{b1 b2:Nat}{n s z:Int}{es:aN}{g:Nat->Nat->bX}{env:aD}{df:bO}{cs:aD}{ty t:aB}{off:Nat}{e:E}
theorem kP:(two bs b1 b2 n s).length=bs.length:=by simp[two]
theorem zjx(h1:b1<bs.length)(h2:b2<bs.length):two (bs++ls) b1 b2 n s=two bs b1 b2 n s++ls:=by
 unfold two;rw[Gp _ _ h1,Gp _ _ (by simpa using h2)]
theorem Oe(h1:b1<bs.length)(h:b1≠b2):zk prog ⟨two bs b1 b2 n s++ls,es⟩ g 3 (.ptr b1 0)=some (.int .i64 n) :=
 zq (cs:=[.int .i64 n]) (ty:=3) fA (by show nth _ _=_;rw[zg,gb (by rw[kP];exact h1),two,rW (Ne.symm h),B7 h1];rfl) rfl
theorem zjy(h2:b2<bs.length):zk prog ⟨two bs b1 b2 n s++ls,es⟩ g 3 (.ptr b2 0)=some (.int .i64 s) :=
 zq (cs:=[.int .i64 s]) (ty:=3) fA (by show nth _ _=_;rw[zg,gb (by rw[kP];exact h2),two,B7 (by simpa using h2)];rfl) rfl
theorem zjz(h1:b1<bs.length)(h:b1≠b2):qr prog 3 ⟨two bs b1 b2 n s++ls,es⟩ [] df (some (.int .i64 z,env)) (some (.ptr b1 0))=some (.skip,⟨env,⟨two bs b1 b2 z s++ls,es⟩,[],df⟩):=by
 rw[zy (cs:=[.int .i64 n]) (ty:=3) IP (by show nth _ _=_;rw[zg,gb (by rw[kP];exact h1),two,rW (Ne.symm h),B7 h1];rfl) rfl rfl (by simp) (wh rfl (by simp)),jT (eg _)]
 simp only[Hp.set];rw[Gp _ _ (by rw[kP];exact h1)]
 simp only[two];rw[List.set_comm _ _ (Ne.symm h),List.set_set];rfl
theorem zjA(h2:b2<bs.length):qr prog 3 ⟨two bs b1 b2 n s++ls,es⟩ [] df (some (.int .i64 z,env)) (some (.ptr b2 0))=some (.skip,⟨env,⟨two bs b1 b2 n z++ls,es⟩,[],df⟩):=by
 rw[zy (cs:=[.int .i64 s]) (ty:=3) IP (by show nth _ _=_;rw[zg,gb (by rw[kP];exact h2),two,B7 (by simpa using h2)];rfl) rfl rfl (by simp) (wh rfl (by simp)),jT (eg _)]
 simp only[Hp.set];rw[Gp _ _ (by rw[kP];exact h2)]
 simp only[two,List.set_set];rfl
theorem zjB(ha:qD prog t=some false):zk prog ⟨two bs b1 b2 n s++(.cells cs ty::ls),es⟩ g t (.ptr bs.length off)=nth cs off:=by
 have hg:(⟨two bs b1 b2 n s++(.cells cs ty::ls),es⟩:Hp).get bs.length=some (.cells cs ty):=by
  show nth _ _=_;rw[zg,fE (by rw[kP];exact dI _),kP];simp
 cases h:nth cs off with
 | some v=>exact zq ha hg h
 | none=>simp[zk,qy,ha,hg,h,wW]
theorem z_:zk prog ⟨two bs b1 b2 n s++(.cells (aK e) 53::ls),es⟩ g 53 (.ptr bs.length 0)=some (enc e):=by
 rw[qY Bp uB (cs:=aK e) (ty:=53) (by
  show nth _ _=_
  rw[zg,fE (by rw[kP];exact dI _),kP];simp) (by rw[zZ];omega),qA,mg,p9 (by rw[zZ];omega)]
theorem zn6{l:aD}(hl:l.length=10)(hu:l.all (λc=>!(locked c))=true):qr prog 53 ⟨two bs b1 b2 n s++(ls++[.cells l 53]),es⟩ [] df (some (.agg (aK e),env)) (some (.ptr (bs.length+ls.length) 0))=some (.skip,⟨env,⟨two bs b1 b2 n s++(ls++[.cells (aK e) 53]),es⟩,[],df⟩):=by
 have h:=JT (P:=prog) (t:=53) (n:=10) (B:=two bs b1 b2 n s) (ls:=ls++[.cells l 53]) (k:=ls.length) (off:=0) (cs:=l) (ty:=53) (v:=enc e) (env:=env) (lk:=[]) (df:=df) (es:=es) uB (by rw[zg];simp) (J8 e) (by rw[yh,zZ]) (by omega) hu (u7 e)
 rw[kP] at h;rw[<- qA,h,yh,wO (by rw[zZ,hl])]
 simp
theorem Dr:zk prog ⟨two bs b1 b2 n s++(ls++[.cells (aK e) 53]),es⟩ g 53 (.ptr (bs.length+ls.length) 0)=some (.agg (aK e)):=by
 have h:=XX (P:=prog) (t:=53) (n:=10) (B:=two bs b1 b2 n s) (ls:=ls++[.cells (aK e) 53]) (k:=ls.length) (off:=0) (cs:=aK e) (ty:=53) (es:=es) (g:=g) Bp uB (by rw[zg];simp) (by rw[zZ];omega)
 rw[kP] at h;rw[h,mg,p9 (by rw[zZ];omega)]
end
def zE:aD:=[.int .i64 0,.int .i64 0,.int .u64 0,.int .u64 0,.int .u64 0,.int .u64 0,.str [],.int .i64 0,.int .i64 0,.aG]
theorem YN:qQ prog 53=some (.agg zE):=by kernel_rfl
theorem zoU(hG:GK gl ef)(eT:[122,153,154].all (λf=>!ef.any (Nat.beq f))=true):∀(e:E),Wf e->∀(d n s:Int)(N:Nat),hg e+3<=N->∀(bs:List aV)(es:aN)(b1 b2:Nat),b1<bs.length->b2<bs.length->b1≠b2 ->
  zj prog gl N 122 [enc e,.int .i64 d,.ptr b1 0,.ptr b2 0] ⟨two bs b1 b2 n s,es⟩=some (.ret (.bool (cO e d n s).1),⟨two bs b1 b2 (cO e d n s).2.1 (cO e d n s).2.2,es⟩)
 | .mk op pl s0 s1 s2 s3 text mn mx nl args,hw=>by
  intro d n s N hN bs es b1 b2 h1 h2 J9;have BO:=pY;have hlen:=hw.2.1;simp only[List.all_cons,List.all_nil,Bool.and_true,eo,Gq] at eT;obtain⟨YO,no2,no3⟩:=eT;simp only[hg] at hN;obtain⟨N,rfl⟩:∃k,N=k+1:=⟨N - 1,by omega⟩
  have fB:∀a,a∈args->∀(d n s:Int)(bs:List aV)(es:aN),b1<bs.length->b2<bs.length ->
    zj prog gl N 122 [enc a,.int .i64 d,.ptr b1 0,.ptr b2 0] ⟨two bs b1 b2 n s,es⟩=some (.ret (.bool (cO a d n s).1),⟨two bs b1 b2 (cO a d n s).2.1 (cO a d n s).2.2,es⟩):=λa ha d n s bs es k1 k2 =>
   zoU hG (by simp[YO,no2,no3]) a (hw.2.2.mem ha) d n s N (by have:=P4 ha;omega) bs es b1 b2 k1 k2 J9
  generalize he:E.mk op pl s0 s1 s2 s3 text mn mx nl args=e at hw ⊢
  suffices bL:(go ⟨prog,gl,zj prog gl N,nU⟩ N (Fx prog f122.results.toList λw H1=>w=.bool (cO e d n s).1/\∃ls,H1=⟨two bs b1 b2 (cO e d n s).2.1 (cO e d n s).2.2++ls,[]⟩) [.c (f122.body.getD .skip)] .normal ⟨[enc e,.int .i64 d,.ptr b1 0,.ptr b2 0]++List.replicate 53 (.bq []),⟨two bs b1 b2 n s,[]⟩,[],[]⟩) by
   obtain⟨w,H1,h0,rfl,ls,rfl⟩:=zQ (es:=es) (hG.no 122 YO _) (λH=>hG.h2 122 YO _ _ H) func122 rfl (by rw[show gl.uq=nU from funext hG.uq];exact bL)
   rw[h0];have:=z8 (bs:=two bs b1 b2 (cO e d n s).2.1 (cO e d n s).2.2) (ls:=ls) (es:=es) (t:=0) (eg _);rw[kP] at this;rw[kP];exact congrArg (λx=>some (Out.ret _,x)) this
  have FU:∀H,Cx.bC ⟨prog,gl.g,zj prog gl N,nU⟩ 153 [enc e] H=some (.val (.bool (lC e)),H):=jD func153 rfl (zqk hG no2 e N (by omega))
  have IQ:∀H,Cx.bC ⟨prog,gl.g,zj prog gl N,nU⟩ 154 [enc e] H=some (.val (.bool (fU e)),H):=jD func154 rfl (zql hG no3 e N (by omega))
  simp only[f122,fQ,zh];refine rg ?_;simp only[BW,List.replicate,Mf,z7 (J8 e),yh,kP];refine rg ?_;simp only[BW,Oe h1 J9,zjz h1 J9,kg];generalize Er:IntKind.i64.wrap (n+1)=n1;refine rg ?_
  have YP:∀b,((dj 65536 n1 || dj 4096 d) || (!lC e || !fU e))=b->(b=true->cO e d n s=(false,n1,s))/\(b=false->cO e d n s=iG (IntKind.i64.wrap (d+1)) args n1 (if op == 2 then IntKind.i64.wrap (s+1) else s)):=by
   intro b hb;subst he;simp only[cO,Er];cases k1:(dj 65536 n1 || dj 4096 d) with
   | true=>rw[k1] at hb;subst hb;simp
   | false =>
   rw[k1] at hb;cases k2:lC (.mk op pl s0 s1 s2 s3 text mn mx nl args) with
   | false=>rw[k2] at hb;subst hb;simp
   | true =>
   rw[k2] at hb;cases k3:fU (.mk op pl s0 s1 s2 s3 text mn mx nl args) with
   | false=>rw[k3] at hb;subst hb;simp
   | true=>rw[k3] at hb;subst hb;simp
  have iH:((dj 65536 n1 || dj 4096 d) || (!lC e || !fU e))=true->cO e d n s=(false,n1,s):=λh=>(YP true h).1 rfl
  by_cases c1:65536<n1
  ·rw[iH (by simp[dj,c1])]
   simp only[BW,Oe h1 J9,gt_iff_lt,c1];refine rg ?_;simp only[BW];exact fI rfl ⟨rfl,_,rfl⟩
  by_cases c2:4096<d
  ·rw[iH (by simp[dj,c2])]
   simp only[BW,Oe h1 J9,gt_iff_lt,c1,c2];refine rg ?_;simp only[BW];exact fI rfl ⟨rfl,_,rfl⟩
  cases c3:lC e with
  | false =>
   rw[iH (by simp[c3])]
   rw[c3] at FU;simp only[BW,Oe h1 J9,gt_iff_lt,c1,c2,z_,NT,FU,iz];refine rg ?_;simp only[BW];exact fI rfl ⟨rfl,_,rfl⟩
  | true =>
  rw[c3] at FU;cases c4:fU e with
  | false =>
   rw[iH (by simp[c4])]
   rw[c4] at IQ;simp only[BW,Oe h1 J9,gt_iff_lt,c1,c2,z_,NT,FU,IQ,iz];refine rg ?_;simp only[BW];exact fI rfl ⟨rfl,_,rfl⟩
  | true =>
  rw[c4] at IQ;rw[(YP false (by simp[dj,c1,c2,c3,c4])).2 rfl]
  clear iH YP;have e0:nth (aK e) 0=some (.int .i64 op):=by rw[<- he];rfl
  have e9:nth (aK e) 9=some (ye nl (fe args)):=by rw[<- he];rfl
  simp only[BW,Oe h1 J9,gt_iff_lt,c1,c2,z_,NT,FU,IQ,iz];refine rg ?_;simp only[BW,dL,zjB fA,e0];generalize AZ:(if op == 2 then IntKind.i64.wrap (s+1) else s)=s1
  refine zqM (λh=>by simpa only[zh] using h) ⟨two bs b1 b2 n1 s1++[.cells (aK e) 53],[]⟩ 57 [(1,.int .i64 d),(2,.ptr b1 0),(3,.ptr b2 0),(4,.ptr bs.length 0)] (λaC=>?_) (λaC=>?_) λenv ⟨j,e⟩=>?_
  ·rw[aC] at AZ;subst AZ;refine rg ?_;simp only[BW,zjy h2,zjA h2,kg];exact⟨_,rfl,gF rfl⟩
  ·rw[aC] at AZ;subst AZ;exact⟨_,rfl,gF rfl⟩
  subst e;simp only[sh,rT,Nat.reduceBEq,Nat.reduceAdd,mJ,oq];simp only[zh];refine rg ?_;simp only[BW,dL,zjB dQ,e9,zY,qn];generalize hR:iG (IntKind.i64.wrap (d+1)) args n1 s1=R
  refine qh (λm st=>∃i env n' s' ls,m+i=args.length/\st=⟨env,⟨two bs b1 b2 n' s'++ls,[]⟩,[],[]⟩/\Ks 57 [(1,.int .i64 d),(2,.ptr b1 0),(3,.ptr b2 0),(43,ye nl (fe args)),(44,.int .i64 (args.length:Nat)),(45,.int .i64 (i:Nat))] env/\iG (IntKind.i64.wrap (d+1)) (args.drop i) n' s'=R) args.length (by omega) ⟨0,_,_,_,_,rfl,rfl,gF rfl,hR⟩ ?_
  rintro m st ⟨i,env,n',s',ls,sG,rfl,⟨j,rfl⟩,oN⟩;simp only[sh,rT,Nat.reduceBEq,Nat.reduceAdd,mJ,oq];simp only[zh];refine rg ?_;simp only[BW,qo]
  by_cases hi:i<args.length
  ·refine .inl ⟨by simp;omega,?_⟩
   obtain⟨a,ha⟩:∃a,args[i]?=some a:=⟨args[i],by simp[hi]⟩
   have eZ:args.drop i=a::args.drop (i+1):=by
    rw[EL hi];rw[gh hi] at ha;cases ha;rfl
   refine rg ?_;simp only[BW,zY,Yo ha,T4,YN,zH (show dz (.agg zE)=true from rfl),V.cells,kP,zn6 (l:=zE) rfl rfl];refine rg ?_;have dw:=fB a (m_ ha) (IntKind.i64.wrap (d+1)) n' s' (bs++(ls++[.cells (aK a) 53])) [] (by simp;omega) (by simp;omega)
   rw[zjx h1 h2,zjx h1 h2,qA] at dw;rw[eZ] at oN;simp only[iG] at oN;generalize cO a (IntKind.i64.wrap (d+1)) n' s'=r at dw oN;obtain⟨r1,r2,r3⟩:=r
   have hc:Cx.bC ⟨prog,gl.g,zj prog gl N,nU⟩ 122 [.agg (aK a),.int .i64 (IntKind.i64.wrap (d+1)),.ptr b1 0,.ptr b2 0] ⟨two bs b1 b2 n' s'++(ls++[.cells (aK a) 53]),[]⟩=some (.val (.bool r1),⟨two bs b1 b2 r2 r3++(ls++[.cells (aK a) 53]),[]⟩):=zu func122 rfl dw;cases r1 with
   | false =>
    simp only[BW,Dr,kg,hc,iz];refine rg ?_;simp only[BW];simp only[fP,bw] at oN;subst oN;exact fI rfl ⟨rfl,_,rfl⟩
   | true =>
    simp only[BW,Dr,kg,hc,iz];refine rg ?_;simp only[aF] at oN;have h4:=Xv (i:=i) (by omega)
    simp only[BW,kg,h4];exact⟨m - 1,by omega,i+1,_,_,_,_,by omega,rfl,gF rfl,oN⟩
  ·obtain rfl:i=args.length:=by omega
   refine .inr ⟨by simp,?_⟩
   rw[List.drop_length] at oN;simp only[iG] at oN;subst oN;refine rg ?_;simp only[BW];exact fI rfl ⟨rfl,_,rfl⟩
termination_by e=>hg e
decreasing_by simp only[hg];have:=P4 ha;omega
end
section
variable{gl:Gl}{ef:bN}
section
variable{bs:List aV}{x:aV}{n s z:Int}{es:aN}{g:Nat->Nat->bX}{env:aD}{df:bO}
theorem Mg{y w:aV}:two (bs++[x,y,w]) (bs.length+1) (bs.length+2) n s=bs++[x,ci n,ci s]:=by
 unfold two;rw[uM _ _ (by omega),uM _ _ (by omega),show bs.length+1 - bs.length=1 by omega,show bs.length+2 - bs.length=2 by omega]
 rfl
theorem QN:qr prog 3 ⟨bs++[x,ci n,ci s],es⟩ [] df (some (.int .i64 z,env)) (some (.ptr (bs.length+1) 0))=some (.skip,⟨env,⟨bs++[x,ci z,ci s],es⟩,[],df⟩):=by
 have:=zjz (bs:=bs++[x,ci n,ci s]) (ls:=[]) (b1:=bs.length+1) (b2:=bs.length+2) (n:=n) (s:=s) (z:=z) (es:=es) (env:=env) (df:=df) (by simp) (by omega)
 rwa [Mg,Mg,mT,mT] at this
theorem QO:qr prog 3 ⟨bs++[x,ci n,ci s],es⟩ [] df (some (.int .i64 z,env)) (some (.ptr (bs.length+2) 0))=some (.skip,⟨env,⟨bs++[x,ci n,ci z],es⟩,[],df⟩):=by
 have:=zjA (bs:=bs++[x,ci n,ci s]) (ls:=[]) (b1:=bs.length+1) (b2:=bs.length+2) (n:=n) (s:=s) (z:=z) (es:=es) (env:=env) (df:=df) (by simp)
 rwa [Mg,Mg,mT,mT] at this
theorem QS:zk prog ⟨bs++[x,ci n,ci s],es⟩ g 3 (.ptr (bs.length+2) 0)=some (.int .i64 s):=by
 have:=zjy (bs:=bs++[x,ci n,ci s]) (ls:=[]) (b1:=bs.length+1) (b2:=bs.length+2) (n:=n) (s:=s) (es:=es) (g:=g) (by simp)
 rwa [Mg,mT] at this
theorem YQ{e:E}{ls:List aV}:zk prog ⟨bs++(.cells (aK e) 53::ls),es⟩ g 53 (.ptr bs.length 0)=some (enc e):=by
 rw[qY Bp uB (cs:=aK e) (ty:=53) (by
  show nth _ _=_
  rw[zg,fE (dI _)];simp) (by rw[zZ];omega),qA,mg,p9 (by rw[zZ];omega)]
end
theorem YR:qQ prog 3=some (.int .i64 0):=by kernel_rfl
theorem zoV{z:Int}:aV.cells [.int .i64 z] 3=ci z:=rfl
def CT:bX->bX->bX
 | some (.int k a),some (.int _ b)=>some (.int k (if b<a then b else a))
 | _,_=>none
theorem zip{cx:Cx}{takes:bY}{dst:fH}{type:aB}{pos:String}{after:Array Edge}{guard:oZ}{env:aD}{H:Hp}{lk:aN}{df:bO}{x y:aX}{ts:Array aB} :
  cx.op takes ⟨dst,.call ⟨.builtin .min,#[x,y],ts⟩,type,pos,after,guard⟩ env H lk df=iB env H lk df (CT (ak env x) (ak env y)):=by
 simp only[Cx.op,Cx.builtin];cases hx:ak env x with
 | none=>cases ak env y<;>simp[CT,iB]
 | some a=>cases hy:ak env y with
  | none=>cases a<;>simp[CT,iB]
  | some b=>cases a<;>cases b<;>simp[CT,iB]
def Ua(ef:bN):Bool:=[122,153,154].all (λf=>!ef.any (Nat.beq f))
theorem zjC(hG:GK gl ef)(eT:Ua ef=true){e:E}(hw:Wf e){N:Nat}(hN:hg e+3<=N){bs:List aV}{x:aV}:Cx.bC ⟨prog,gl.g,zj prog gl N,nU⟩ 122 [enc e,.int .i64 1,.ptr (bs.length+1) 0,.ptr (bs.length+2) 0] ⟨bs++[x,ci 0,ci 0],[]⟩=some (.val (.bool (cO e 1 0 0).1),⟨bs++[x,ci (cO e 1 0 0).2.1,ci (cO e 1 0 0).2.2],[]⟩):=by
 have:=zoU hG eT e hw 1 0 0 N hN (bs++[x,ci 0,ci 0]) [] (bs.length+1) (bs.length+2) (by simp) (by simp) (by omega)
 rw[Mg,Mg] at this;exact zu func122 rfl this
theorem zqP(hG:GK gl ef)(h0:ef.any (Nat.beq 85)=false)(eT:Ua ef=true)(e:E)(hw:Wf e):m8 (hg e+4) prog gl 85 [enc e] (.bool (J4 e)):=by
 refine vw hG func85 rfl h0 rfl (hg e+3) λn hn bs=>?_;simp only[f85,zh];refine rg ?_;simp only[BW,List.replicate,Mf,z7 (J8 e),yh];refine rg ?_;have hz:(V.int .i64 0).cells=[.int .i64 0]:=rfl;simp only[BW,Nat.reduceAdd,YR,zH (show dz (.int .i64 0)=true from rfl),hz,zoV,QN,QO];refine rg ?_
 simp only[BW,YQ,NT,zjC hG eT hw hn];exact fI rfl ⟨rfl,_,rfl⟩
theorem zqQ(hG:GK gl ef)(h0:ef.any (Nat.beq 87)=false)(eT:Ua ef=true)(e:E)(hw:Wf e):m8 (hg e+4) prog gl 87 [enc e] (.int .i64 (vv e)):=by
 refine vw hG func87 rfl h0 rfl (hg e+3) λn hn bs=>?_;simp only[f87,zh];refine rg ?_;simp only[BW,List.replicate,Mf,z7 (J8 e),yh];refine rg ?_;have hz:(V.int .i64 0).cells=[.int .i64 0]:=rfl;have hc:=zjC hG eT hw hn (bs:=bs) (x:=.cells (aK e) 53);unfold vv;generalize cO e 1 0 0=r at hc ⊢;obtain⟨r1,r2,r3⟩:=r
 simp only[BW,Nat.reduceAdd,YR,zH (show dz (.int .i64 0)=true from rfl),hz,zoV,QN,QO];refine rg ?_;cases r1 with
 | false =>
  simp only[BW,YQ,NT,hc,iz];refine rg ?_;simp only[BW];exact fI rfl ⟨rfl,_,rfl⟩
 | true =>
  simp only[BW,YQ,NT,hc,iz];refine rg ?_
  by_cases h:1001<r3
  ·simp only[BW,QS,zip,CT,h];exact fI rfl ⟨by simp[dj,h],_,rfl⟩
  ·simp only[BW,QS,zip,CT,h];exact fI rfl ⟨by simp[dj,h],_,rfl⟩
end
section
set_option maxHeartbeats 1000000
variable{gl:Gl}{ef:bN}
def zC:aD:=iS (.mk 0 0 0 0 0 0 [] 0 0 true [],false,.mk 0 0 0 0 0 0 [] 0 0 true [])
section
variable{bs ls:List aV}{es:aN}{g:Nat->Nat->bX}{env:aD}{df:bO}{c:Cr}
theorem YS{x:aV}:(⟨bs++(ls++[x]),es⟩:Hp).get (bs.length+ls.length)=some x:=by
 show nth _ _=_;rw[zg,fE (by omega),show bs.length+ls.length - bs.length=ls.length by omega,fE (dI _)];simp
theorem QT:qr prog 55 ⟨bs++(ls++[.cells zC 55]),es⟩ [] df (some (.agg (iS c),env)) (some (.ptr (bs.length+ls.length) 0))=some (.skip,⟨env,⟨bs++(ls++[.cells (iS c) 55]),es⟩,[],df⟩):=by
 have h:=JT (P:=prog) (t:=55) (n:=21) (B:=bs) (ls:=ls++[.cells zC 55]) (k:=ls.length) (off:=0) (cs:=zC) (ty:=55) (v:=.agg (iS c)) (env:=env) (lk:=[]) (df:=df) (es:=es) IL (by rw[zg];simp) rfl (by simp only[V.laid,yf,w5]) (by simp[zC,w5]) (zjt _) (by simp[V.top,YA])
 rw[h];simp only[V.laid,yf];rw[wO (by simp[zC,w5])]
 simp
theorem pz:zB prog 55 0=some 0/\zB prog 55 1=some 10/\zB prog 55 2=some 11:=⟨by kernel_rfl,by kernel_rfl,by kernel_rfl⟩
theorem J_:zk prog ⟨bs++(ls++[.cells (iS c) 55]),es⟩ g 53 (.ptr (bs.length+ls.length) 0)=some (.agg (aK c.1))/\zk prog ⟨bs++(ls++[.cells (iS c) 55]),es⟩ g 53 (.ptr (bs.length+ls.length) 11)=some (.agg (aK c.2.2))/\zk prog ⟨bs++(ls++[.cells (iS c) 55]),es⟩ g 4 (.ptr (bs.length+ls.length) 10)=some (.bool c.2.1):=by
 have h1:=zZ c.1;have h2:=zZ c.2.2;refine⟨?_,?_,?_⟩
 ·rw[qY Bp uB YS (by rw[w5];omega)]
  simp only[iS,mg,bh];rw[List.take_left' h1]
 ·rw[qY Bp uB YS (by rw[w5];omega)]
  simp only[iS];rw[List.drop_left' (by simp[h1]),p9 (by omega)]
 ·refine zq (by kernel_rfl) YS ?_
  simp only[iS,bh];rw[zg,fE (by omega),h1];rfl
end
theorem YT:qQ prog 55=some (.agg zC):=z47
def zoW(ef:bN):Bool:=Ua ef && [85,86,87].all (λf=>!ef.any (Nat.beq f))
theorem YU(hG:GK gl ef)(h0:ef.any (Nat.beq 54)=false)(eT:zoW ef=true)(nl:Bool)(l:List Cr)(_hl:l.length<=maxLen)(hw:∀c∈l,Mb c):Kn prog gl 54 [z0 nl l] (.bq [.int .i64 (yO l).1,.bool (yO l).2]):=by
 have BO:=pY;obtain⟨K,hK⟩:∃K,∀c∈l,hg c.1<=K/\hg c.2.2<=K:=by
  clear _hl hw
  induction l with
  | nil=>exact⟨0,λc h=>by cases h⟩
  | cons a l ih =>
   obtain⟨K,hK⟩:=ih;refine⟨max K (max (hg a.1) (hg a.2.2)),λc h=>?_⟩;rcases dH.1 h with rfl|h
   ·omega
   ·have:=hK c h;omega
 simp only[zoW,eo,List.all_cons,List.all_nil,Bool.and_true,Gq] at eT;obtain⟨QV,n85,n86,n87⟩:=eT;refine⟨_,vw hG func54 rfl h0 rfl (l.length+K+5) λn hn bs=>?_⟩;simp only[f54,zh];refine rg ?_;simp only[BW,List.replicate];refine rg ?_
 by_cases c0:(200:Int)<l.length
 ·simp only[BW,je,xq,gt_iff_lt,c0];refine rg ?_;simp only[BW];have hm:yO l=(0,false):=by simp[yO,dj,c0]
  rw[hm];exact GY rfl rfl ⟨rfl,[],by simp⟩
 simp only[BW,je,xq,gt_iff_lt,c0];have hm:yO l=m7 0 l:=by simp[yO,dj,c0]
 rw[hm];generalize hR:m7 0 l=R;refine rg ?_;simp only[BW,je,xq];refine qh (λm st=>∃i env p ls,m+i=l.length/\st=⟨env,⟨bs++ls,[]⟩,[],[]⟩/\Ks 52 [(2,.int .i64 p),(3,.bool false),(9,z0 nl l),(10,.int .i64 (l.length:Nat)),(11,.int .i64 (i:Nat))] env/\m7 p (l.drop i)=R) l.length (by omega) ⟨0,_,_,[],rfl,by rw[mT],gF rfl,hR⟩ ?_
 rintro m st ⟨i,env,p,ls,sG,rfl,⟨j,rfl⟩,oN⟩;simp only[sh,rT,Nat.reduceBEq,Nat.reduceAdd,mJ,oq];simp only[zh];refine rg ?_;simp only[BW,qo]
 by_cases hi:i<l.length
 ·refine .inl ⟨by simp;omega,?_⟩
  obtain⟨c,hc⟩:∃c,l[i]?=some c:=⟨l[i],by simp[hi]⟩
  have eZ:l.drop i=c::l.drop (i+1):=by
   rw[EL hi];rw[gh hi] at hc;cases hc;rfl
  have pQ:=m_ hc;obtain⟨w1,w2⟩:=hw c pQ;obtain⟨k1,k2⟩:=hK c pQ;rw[eZ] at oN;have c85:∀e,Wf e->hg e<=K->∀H,Cx.bC ⟨prog,gl.g,zj prog gl n,nU⟩ 85 [.agg (aK e)] H=some (.val (.bool (J4 e)),H):=λe w k=>by
   rw[<- qA];exact jD func85 rfl (zqP hG n85 QV e w n (by omega))
  have c87:∀e,Wf e->hg e<=K->∀H,Cx.bC ⟨prog,gl.g,zj prog gl n,nU⟩ 87 [.agg (aK e)] H=some (.val (.int .i64 (vv e)),H):=λe w k=>by
   rw[<- qA];exact jD func87 rfl (zqQ hG n87 QV e w n (by omega))
  have c86:∀e H,Cx.bC ⟨prog,gl.g,zj prog gl n,nU⟩ 86 [.agg (aK e)] H=some (.val (.bool (mG e)),H):=λe=>by
   rw[<- qA];exact jD func86 rfl (zqO hG n86 e n (by omega))
  refine rg ?_;simp only[BW,je,YD hc,zju,YT,zH (show dz (.agg zC)=true from rfl),V.cells,QT];have ek:∀b,CO c=b->b=true/\m7 p (c::l.drop (i+1))=m7 (FO p c) (l.drop (i+1))\/b=false/\m7 p (c::l.drop (i+1))=(0,false):=λb hb=>by
   simp only[m7];cases b with
   | true=>exact .inl ⟨rfl,by rw[hb];rfl⟩
   | false=>exact .inr ⟨rfl,by rw[hb];rfl⟩
  obtain⟨ls',anp⟩:∃ls',ls'=ls++[.cells (iS c) 55]:=⟨_,rfl⟩;refine Oa 52 [(2,.int .i64 p),(3,.bool false),(5,.ptr (bs.length+ls.length) 0),(9,z0 nl l),(10,.int .i64 (l.length:Nat)),(11,.int .i64 (i:Nat)),(39,.bool (!CO c))] ?_ λenv ⟨j,e⟩=>?_
  ·refine rg ?_;have Mh:=c85 c.1 w1 k1;obtain⟨q1,q2,q3⟩:=(J_ (bs:=bs) (ls:=ls) (es:=[]) (g:=gl.g) (c:=c));cases a1:J4 c.1 with
   | false =>
    rw[a1] at Mh;simp only[BW,pz,q1,Mh,iz];exact⟨_,rfl,(show(!CO c)=true by simp[CO,a1]) ▸ gF rfl⟩
   | true =>
   rw[a1] at Mh;have IS:=c85 c.2.2 w2 k2;have Ub:=c86 c.2.2;cases a2:c.2.1 with
   | true =>
    rw[a2] at q3;cases a3:J4 c.2.2 with
    | false =>
     rw[a3] at IS;simp only[BW,pz,q1,q2,q3,Mh,IS,iz];exact⟨_,rfl,(show(!CO c)=true by simp[CO,a1,a2,a3]) ▸ gF rfl⟩
    | true =>
     rw[a3] at IS;simp only[BW,pz,q1,q2,q3,Mh,IS,iz];exact⟨_,rfl,(show(!CO c)=false by simp[CO,a1,a2,a3]) ▸ gF rfl⟩
   | false =>
    rw[a2] at q3;cases a3:mG c.2.2 with
    | false =>
     rw[a3] at Ub;simp only[BW,pz,q1,q2,q3,Mh,Ub,iz];exact⟨_,rfl,(show(!CO c)=true by simp[CO,a1,a2,a3]) ▸ gF rfl⟩
    | true =>
     rw[a3] at Ub;simp only[BW,pz,q1,q2,q3,Mh,Ub,iz];exact⟨_,rfl,(show(!CO c)=false by simp[CO,a1,a2,a3]) ▸ gF rfl⟩
  subst e;simp only[sh,rT,Nat.reduceBEq,Nat.reduceAdd,mJ,oq];rcases ek _ rfl with⟨ho,hF⟩|⟨ho,hF⟩
  ·rw[hF] at oN;simp only[BW,ho];obtain⟨q1,q2,q3⟩:=(J_ (bs:=bs) (ls:=ls) (es:=[]) (g:=gl.g) (c:=c));have v1:=c87 c.1 w1 k1;have v2:=c87 c.2.2 w2 k2;generalize hq:vv c.1=z1 at v1;generalize A9:vv c.2.2=z2 at v2;refine wC (tk:=[]) (by kernel_rfl) ?_
   apply Exists.intro;apply And.intro;refine oF 0 (.int .i64 p) (by simp only[BW]) ?_
   dsimp only[aq]
   refine oF 0 (.ptr (bs.length+ls.length) 0) (by simp only[BW,pz]) ?_
   dsimp only[aq]
   refine oL 2 (.agg (aK c.1)) (by simp only[BW,q1]) (λc h=>by cases h) ?_
   dsimp only[aq]
   refine oH 6 8 (.int .i64 z1) (by simp only[BW,v1]) (λc h=>by cases h) (by kernel_rfl) ?_
   dsimp only[aq]
   refine oF 15 (.int .i64 (IntKind.i64.wrap (p+z1))) (by simp only[BW,kg]) ?_
   dsimp only[aq]
   refine oF 0 (.ptr (bs.length+ls.length) 11) (by simp only[BW,pz]) ?_
   dsimp only[aq]
   refine oL 32 (.agg (aK c.2.2)) (by simp only[BW,q2]) (λc h=>by rw[oX.1 h];exact⟨rfl,rfl,rfl⟩) ?_
   dsimp only[aq]
   refine oH 110 136 (.int .i64 z2) (by simp only[BW,v2]) (λc h=>by rw[oX.1 h];kernel_rfl) (by kernel_rfl) ?_
   dsimp only[aq]
   refine oF 255 (.int .i64 (IntKind.i64.wrap (IntKind.i64.wrap (p+z1)+z2))) (by simp only[BW,kg]) ?_
   dsimp only[aq]
   refine oL 511 (.int .i64 (FO p c)) (by
    simp only[BW,zip,CT];simp only[FO,hq,A9,dj]
    by_cases h:1001<IntKind.i64.wrap (IntKind.i64.wrap (p+z1)+z2)<;>simp[h]) (λc h=>by simp only[dH,Ap,uR] at h;rcases h with rfl|rfl<;>exact⟨rfl,rfl,rfl⟩) ?_
   dsimp only[aq]
   refine oF 1023 (.int .i64 (FO p c)) (by simp only[BW]) wG
   simp only[aq];refine rg ?_;have h4:=Xv (i:=i) (by omega)
   simp only[BW,kg,h4];exact⟨m - 1,by omega,i+1,_,_,ls++[.cells (iS c) 55],by omega,rfl,gF rfl,oN⟩
  ·rw[hF] at oN;subst oN;simp only[BW,ho];refine rg ?_;simp only[BW];exact GY rfl rfl ⟨rfl,_,rfl⟩
 ·obtain rfl:i=l.length:=by omega
  refine .inr ⟨by simp,?_⟩
  rw[List.drop_length] at oN;simp only[m7] at oN;subst oN;refine rg ?_;simp only[BW];exact GY rfl rfl ⟨rfl,_,rfl⟩
end
end Go.Proofs.YthohlnmcjkjeiaaGreatDoor.A2
namespace Go.Proofs.YthohlnmcjkjeiaaGreatDoor
open Go Go.Vm
open Go.Proofs.Tryz
set_option maxRecDepth 100000
section
variable{gl:Gl}
def fC(F N:aD):aD:=[.aG,.aG,zl 1 27 F,zl 1 27 N]
structure BI(H:Hp)(F N:aD)(m:Mk):Prop where
 r:H.get 0=some (.cells zF 30)
 f:H.get 2=some (.cells (fC F N) 30)
 AJ:∃i,MK 0 H 1 m i
 len:3<=H.az.length
def Kc(H H':Hp):Prop:=∀d cs ty,d≠1->H.get d=some (.cells cs ty)->H'.get d=some (.cells cs ty)
theorem zmi{H H':Hp}{c:V}{i:Option Nat}{xs:List aD}(hu:UL H 19 115 c i xs)(hf:sF H H' (λd=>d=1\/i=some d)):Kc H H':=λd cs ty hd hg=>hf.some hg λhc=>by
 rcases hc with rfl|hc
 ·exact hd rfl
 ·exact L3 hu hg hc
variable{H:Hp}{F N:aD}{m:Mk}
theorem BI.made(h:BI H F N m){H':Hp}{m':Mk}{i':Option Nat}(hk:Kc H H')(hl:H.az.length<=H'.az.length)(hm:MK 0 H' 1 m' i'):BI H' F N m' :=
 ⟨hk _ _ _ (by decide) h.r,hk _ _ _ (by decide) h.f,⟨i',hm⟩,cP h.len hl⟩
theorem BI.push(h:BI H F N m)(x:aV):BI (H.push x) F N m:=by
 have hl:=h.len;obtain⟨i,c,k1,k2,k3⟩:=h.AJ;refine⟨(jG (by omega)).trans h.r,(jG (by omega)).trans h.f,⟨i,c,(jG (by omega)).trans k1,k2.frame λj hj=>jG (by subst hj;exact k2.lt),k3⟩,by rw[jl];omega⟩
theorem zn7(x:aV):Kc H (H.push x):=λ_d _cs _ty _ hg=>(jG (kI hg)).trans hg
theorem BI.CM(h:BI H F N m){b:Nat}{cs cs':aD}{ty ty':aB}(hb:H.get b=some (.cells cs ty))(h3:3<=b):BI (H.set b (.cells cs' ty')) F N m:=by
 obtain⟨i,c,k1,k2,k3⟩:=h.AJ;refine⟨(qB (by omega)).trans h.r,(qB (by omega)).trans h.f,⟨i,c,(qB (by omega)).trans k1,k2.frame λj hj=>qB λe=>?_,k3⟩,by rw[wm];exact h.len⟩
 subst e;exact L3 k2 hb hj
theorem BI.QW{F' N':aD}(h:BI H F N m):BI (H.set 2 (.cells (fC F' N') 30)) F' N' m:=by
 obtain⟨i,c,k1,k2,k3⟩:=h.AJ;refine⟨(qB (by decide)).trans h.r,wH h.f,⟨i,c,(qB (by decide)).trans k1,k2.frame λj hj=>qB λe=>?_,k3⟩,by rw[wm];exact h.len⟩
 subst e;exact L3 k2 h.f hj
theorem zmj{H:Hp}{b:Nat}{v:V}{e:Nat×Nat}(h:e∈H.bG):e∈(H.bQ b v).bG:=by
 unfold Hp.bQ;split
 ·exact h
 ·exact dR _ h
theorem BI.bQ(h:BI H F N m)(b:Nat)(v:V):BI (H.bQ b v) F N m:=by
 obtain⟨i,c,k1,k2,k3⟩:=h.AJ;exact⟨bU.trans h.r,bU.trans h.f,⟨i,c,bU.trans k1,k2.frame λj hj=>bU,λj hj hn=>⟨(k3 j hj hn).1,zmj (k3 j hj hn).2⟩⟩,by rw[xk];exact h.len⟩
theorem YV{H:Hp}{b:Nat}{x y:aV}:(H.set b x).set b y=H.set b y:=by simp[Hp.set,List.set_set]
theorem YW{t n:aB}{H:Hp}{b:Nat}{v cs:aD}{ty:aB}{env:aD}{lk:aN}{df:bO}(hs:z4 prog t=some n)(hg:H.get b=some (.cells cs ty))(hv:v.length=n)(hc:v.map aW=v)(ht:aI v=0)(hl:cs.length=n)(hu:cs.all (λc=>!(locked c))=true) :
  qr prog t H lk df (some (.agg v,env)) (some (.ptr b 0))=some (.skip,⟨env,H.set b (.cells v ty),lk,df⟩):=by
 rw[zy (v:=.agg v) hs hg rfl (by simp[V.laid,hv]) (by omega) (wh hu (by omega)),jT (by simp[V.top,ht])]
 simp only[V.laid,hc];rw[wO (by rw[hl,hv])]
theorem YX{t n:aB}{H:Hp}{b:Nat}{cs:aD}{ty:aB}{g:Nat->Nat->bX}(ha:qD prog t=some true)(hs:z4 prog t=some n)(hg:H.get b=some (.cells cs ty))(hl:cs.length=n):zk prog H g t (.ptr b 0)=some (.agg cs):=by
 rw[qY ha hs hg (by omega),mg,p9 (by omega)]
theorem J':mN prog 28 27 1 24:=⟨by kernel_rfl,by kernel_rfl,by kernel_rfl,by decide,by kernel_rfl,by kernel_rfl,by kernel_rfl⟩
theorem QX:qD prog 28=some false:=by kernel_rfl
theorem FV:zB prog 55 0=some 0:=by kernel_rfl
theorem Mi:zB prog 55 1=some 10:=by kernel_rfl
theorem Mj:zB prog 55 2=some 11:=by kernel_rfl
theorem Ml:zB prog 30 0=some 0:=by kernel_rfl
theorem Mm:zB prog 30 1=some 1:=by kernel_rfl
theorem FW:zB prog 30 2=some 2:=by kernel_rfl
theorem Mn:zB prog 30 3=some 3:=by kernel_rfl
theorem ldC{b:Nat}{c:Cr}{g:Nat->Nat->bX}(hg:H.get b=some (.cells (iS c) 55)) :
  zk prog H g 53 (.ptr b 0)=some (.agg (aK c.1))/\zk prog H g 4 (.ptr b 10)=some (.bool c.2.1)/\zk prog H g 53 (.ptr b 11)=some (.agg (aK c.2.2)):=by
 obtain⟨h,t,tr⟩:=c;have BR:=zZ h;have t10:=zZ tr;have e1:(iS (h,t,tr)).take 10=aK h:=by
  rw[iS,bh,<- BR,List.take_left]
 have e2:(iS (h,t,tr)).drop 11=aK tr:=by
  have:(aK h++[V.bool t]).length=11:=by simp[BR]
  rw[iS,<- this,List.drop_left]
 have e3:(iS (h,t,tr))[10]?=some (.bool t):=by
  rw[iS,bh,fE (by simp only;omega),BR];rfl
 refine⟨?_,zq NZ hg (by rw[zg,e3]),?_⟩
 ·rw[qY Bi sH hg (by rw[w5];decide),mg,e1]
 ·rw[qY Bi sH hg (by rw[w5];decide),e2,p9 (by omega)]
theorem zqm{x:aX}{env:aD}{h t:E}(hx:ak env x=some (.sl 10 [.agg (aK h),.agg (aK t)] .no)):ky prog 53 #[(0,.const (.int .i64 5)),(6,x)] env=some (.agg (aK (.mk 5 0 0 0 0 0 [] 0 0 false [h,t]))):=by
 have hp:(match prog.underlying 53 with|some (.struct fs)=>SB prog fs|_=>none)=some [(0,1),(1,1),(2,4),(6,1),(7,1),(8,1),(9,1)]:=by kernel_rfl
 have h5:ak env (.const (.int .i64 5))=some (.int .i64 5):=rfl;unfold ky;rw[YF];cases hu:prog.underlying 53 with
 | none=>rw[hu] at hp;cases hp
 | some d =>
  rw[hu] at hp;cases d<;>simp only at hp<;>try (cases hp;done)
  simp only[hp];simp[dz,xO,h5,hx,nth,aK,V.cells,Vm.storeCells,ye,fe,qA]
theorem Uc(hb:BI H F N m)(cz v:aD)(ty ty':aB):BI ((H.push (.cells cz ty)).set H.az.length (.cells v ty')) F N m/\Kc H ((H.push (.cells cz ty)).set H.az.length (.cells v ty'))/\((H.push (.cells cz ty)).set H.az.length (.cells v ty')).get H.az.length=some (.cells v ty')/\((H.push (.cells cz ty)).set H.az.length (.cells v ty')).az.length=H.az.length+1:=by
 have hg:(H.push (.cells cz ty)).get H.az.length=some (.cells cz ty):=wc;refine⟨(hb.push _).CM hg hb.len,λd cs t hd Az=>?_,wH hg,by rw[wm,jl]⟩
 have:=kI Az;rw[qB (by omega),jG this,Az]
theorem YY(hb:BI H F N m){b:Nat}{cs v:aD}{ty:aB}(hg:H.get b=some (.cells cs ty))(h3:3<=b):BI (H.set b (.cells v ty)) F N m/\(∀d x,d≠b->H.get d=some x->(H.set b (.cells v ty)).get d=some x)/\(H.set b (.cells v ty)).get b=some (.cells v ty)/\(H.set b (.cells v ty)).az.length=H.az.length :=
 ⟨hb.CM hg h3,λ_d _x hd hx=>(qB hd).trans hx,wH hg,wm⟩
end
section
variable{gl:Gl}
theorem zmm(hg:GW gl){n:Nat}(hn:70<=n){H:Hp}{b off eI:Nat}{pre post:aD}{p:Nat->Bool}(hb:H.get b=some (.ul eI 19 (pre++pv 19 p++post) 115))(ho:pre.length=off) :
  zj prog gl (n+1) 59 [.gj b eI off] H=some (.ret (aW (zl 1 3 (xm p 19))),H):=by
 obtain⟨bs,es⟩:=H;have tP:Hp.get ⟨bs,[]⟩ b=some (.ul eI 19 (pre++pv 19 p++post) 115):=hb;have iE:zW bs.length es 0 ⟨bs,[]⟩=⟨bs,es⟩:=by
  have:=z8 (bs:=bs) (ls:=[]) (es:=es) (t:=0) (eg _)
  rwa [mT] at this
 generalize hL:xm p 19=L
 suffices bL:(go ⟨prog,gl,zj prog gl n,fy⟩ n (Fx prog f59.results.toList λw H1=>w=aW (zl 1 3 L)/\H1=⟨bs,[]⟩) [.c (f59.body.getD .skip)] .normal ⟨[.gj b eI off]++List.replicate 28 (.bq []),⟨bs,[]⟩,[],[]⟩) by
  obtain⟨w,H1,h0,h1,h2⟩:=zQ (gl:=gl) (f:=59) (bs:=bs) (es:=es) (args:=[.gj b eI off]) (n:=n) (hg.hk _ _ (by decide)) (λH=>hg.fG _ _ _ _) func59 rfl (by rw[hg.uq];exact bL)
  rw[h0,h1,h2];have:(aW (zl 1 3 L)).top=0:=by
   rw[<- hL];exact zcK 19
  rw[this];exact congrArg (λx=>some (Out.ret _,x)) iE
 simp only[f59,fQ,zh];refine zi ?_;simp only[qw,aH,zh,z6,qF,aj,aS,z9,aL,aq,bS,bT,List.replicate,a_,bg]
 refine zi ?_;simp only[qw,aH,zh,z6,qF,aj,aS,z9,aL,aq,bS,bT]
 refine zi ?_;simp only[qw,aH,zw,zK,ak,aj,zd,zr,aL,aq,bS,bT,jR]
 refine qh (λm s=>∃i env,m+i=19/\s=⟨env,⟨bs,[]⟩,[],[]⟩/\env.length=29/\nth env 3=some (zl 1 3 (xm p i))/\nth env 6=some (.gj b eI off)/\nth env 7=some (.int .i64 (i:Nat))) 19 (by omega) ⟨0,_,rfl,rfl,rfl,rfl,rfl,rfl⟩ ?_
 rintro m s ⟨i,env,sG,rfl,hlen,h3,h6,h7⟩;simp only[zh];refine zi ?_;simp only[qw,aH,zh,qS,zV,ak,aj,h7,zr,aL,aq,za,hlen,Nat.reduceLT,aF,zR,qR,qU,qo]
 by_cases hi:i<19
 ·refine .inl ⟨by simp;omega,?_⟩
  simp only[bz,zh,zw]
  refine qG (tk:=[]) (by kernel_rfl) (by kernel_rfl) ?_
  have dg:nth (pre++pv 19 p++post) (off+i)=some (.int .u64 (kK p i:Nat)):=by
   rw[zg,<- ho,xE jE hi,yH hi]
  have gw:zk prog ⟨bs,[]⟩ gl.g 48 (.gj b eI (off+i))=some (.int .u64 (kK p i:Nat)):=zeU mX tP dg;simp only[jY,bk,zw,au,mX,iU,zK,zG,zT,qu,z6,zL,ak,h6,h7,zr,aL,aq,za,bD,hlen,Nat.reduceEqDiff,Nat.reduceLT,aF,bw,jR,zR,qq,z9,aS,aT,aa,aE,zhn hi,gw]
  refine qh (λm s=>∃w acc env,(wg w).length=m/\w<2 ^ 64/\acc++((wg w).map λj=>.int .i64 ((64 * i+j:Nat):Int))=xm p (i+1)/\s=⟨env,⟨bs,[]⟩,[],[]⟩/\env.length=29/\nth env 3=some (zl 1 3 acc)/\nth env 4=some (.int .i64 (i:Nat))/\nth env 5=some (.int .u64 (w:Nat))/\nth env 6=some (.gj b eI off)/\nth env 7=some (.int .i64 (i:Nat))) (wg (kK p i)).length (by have:=Xi (w:=kK p i);omega) ⟨kK p i,xm p i,_,rfl,kZ,rfl,rfl,?_,?_,?_,?_,?_,?_⟩ ?_
  ·simp[hlen]
  ·simp[za,h3]
  ·simp[za,hlen]
  ·simp[za,hlen]
  ·simp[za,h6]
  ·simp[za,h7]
  clear h3 h6 h7 hlen;rintro m s ⟨w,acc,env,hm,hw,u_,rfl,hlen,h3,h4,h5,h6,h7⟩;simp only[zh];refine zi ?_;simp only[qw,aH,qS,zK,zV,ak,aj,h5,zr,aL,aq,za,bD,hlen,Nat.reduceEqDiff,Nat.reduceLT,aF,bw,zR,qR,PJ,qo]
  by_cases uo:w=0
  ·subst uo;rw[sE,bp,mT] at u_;subst u_;refine .inr ⟨by decide,?_⟩
   simp only[ql,zN,zp,bJ,zD,iN,aF,qC];refine zi ?_;simp only[qw,aH,zK,zV,ak,aj,h7,zr,aL,aq,za,bD,hlen,Nat.reduceEqDiff,Nat.reduceLT,aF,bw,zR,qc (show i<2 ^ 60 by omega),zp,aM]
   refine⟨18 - i,by omega,i+1,_,by omega,rfl,?_,?_,?_,?_⟩
   ·simp[hlen]
   ·simp[za,h3]
   ·simp[za,h6]
   ·simp[za,hlen]
  ·refine .inl ⟨by simp;omega,?_⟩
   obtain⟨k,mm,CC⟩:=Ba w uo;have Gx:=λ(H:Hp)=>zlX hg (n:=n - 1) (H:=H) (k:=k) (m:=mm) (by rw[<- CC];exact hw)
   rw[<- CC,show n - 1+1=n by omega] at Gx
   simp only[bz,zh,zw]
   refine wo (tk:=[19]) (by kernel_rfl) ?_
   have dw:Cx.bC ⟨prog,gl.g,zj prog gl n,fy⟩ 96 [.int .u64 (w:Nat)] ⟨bs,[]⟩=some (.val (.int .i64 (k:Nat)),⟨bs,[]⟩):=zu func96 rfl (Gx _);have hk:k<64:=PU (by rw[<- CC];exact hw)
   have P5:acc.length+1<=64 * (i+1):=by
    have h1:=congrArg List.length u_;have h2:=xn (p:=p) (i+1);have h3:(wg w).length≠0:=by
     rw[CC,TF (by rw[<- CC];exact hw)];simp
    simp only[aU,gC] at h1;omega
   have fz:=jC Et (H:=⟨bs,[]⟩) (xs:=acc) (ys:=[V.int .i64 ((64 * i+k:Nat):Int)]) (o:=.no) (by simp) (dG (by simp;omega) (by simp;omega))
   have Fm:=Et.BQ (v:=.int .i64 ((64 * i+k:Nat):Int)) rfl rfl;have hmul:∀(u v:aX),qP prog .mul 3 u v (some (.int .i64 64)) (some (.int .i64 (i:Nat)))=some (.int .i64 ((64 * i:Nat):Int)):=λu v=>Xm (a:=64) (by omega)
   have LM:nth (((env.set 13 (V.int .u64 (w:Nat))).set 14 (V.bool ((w:Int) != 0)))) 3=some (zl 1 3 acc):=by simp[za,h3]
   simp only[qw,jy,jr,vY LM,zV,kf,av,qp,ne_eq,ue,jP,jV (cx:=⟨prog,gl.g,zj prog gl n,fy⟩) (show pN prog fy 27=false by kernel_rfl),ak,aj,h4,h5,zr,z9,aL,aq,za,bD,hlen,Nat.reduceEqDiff,Nat.reduceLT,aF,bw,zR,kY,qM,aY,bp,aA,dw,hmul,xp (show 64 * i+k<2 ^ 60 by omega),Fm]
   rw[vY (n:=1) (e:=3) (xs:=acc) (by simp[za,hlen])]
   simp only[xS,aT,fz,aL,aq,qw,aH,qC,z6]
   rw[vY (n:=1) (e:=3) (xs:=acc++[V.int .i64 ((64 * i+k:Nat):Int)]) (by simp[za,hlen])]
   simp only[z9,aL,aq]
   refine zi ?_;have GP:w - 1<2 ^ 64:=by omega
   simp only[qw,aH,zK,zV,z6,zL,ak,aj,h5,zr,z9,aL,aq,za,bD,hlen,Nat.reduceEqDiff,Nat.reduceLT,aF,bw,zR,qq,zeS uo hw,TG hw GP,zp,aM]
   have lO:wg w=k::wg (w &&& (w - 1)):=by
    rw[CC];exact TF (by rw[<- CC];exact hw)
   refine⟨(wg (w &&& (w - 1))).length,by rw[<- hm,lO];simp,w &&& (w - 1),acc++[V.int .i64 ((64 * i+k:Nat):Int)],_,rfl,KL Nat.and_le_left hw,?_,rfl,?_,?_,?_,?_,?_,?_⟩
   ·rw[<- u_,lO];simp
   ·simp[hlen]
   ·simp[za,hlen]
   ·simp[za,h4]
   ·simp[za,hlen]
   ·simp[za,h6]
   ·simp[za,h7]
 ·obtain rfl:i=19:=by omega
  refine .inr ⟨by decide,?_⟩
  rw[hL] at h3;simp only[ql,zN,zp,bJ,zD,iN,aF,zh];refine zi ?_;have ri:aW (aW (zl 1 3 L))=aW (zl 1 3 L):=by cases L<;>rfl
  have mb:∀e:aD,nth e 28=some (aW (zl 1 3 L))->take e (.tmp 28)=some (aW (zl 1 3 L),e):=λe he=>by
   rw[zL,he];cases L<;>rfl
  simp only[qw,aH,zK,z6,ak,h3,zr,aL,aq,za,hlen,Nat.reduceEqDiff,Nat.reduceLT,aF,bw]
  rw[mb _ (by simp[za,hlen])]
  simp only[z9,aL,aq,go_ret,zp,Fx]
  refine⟨trivial,[aW (zl 1 3 L)],?_,rfl,trivial⟩;simp[zx,za,hlen]
end
section
variable{gl:Gl}
theorem z3:qQ prog 3=some (.int .i64 0):=by kernel_rfl
theorem sz3:z4 prog 3=some 1:=by kernel_rfl
theorem QY:∃i,prog.info? 3=some i/\i.bytes=8:=by
 have h:=Et.i;cases hi:prog.info? 3 with
 | none=>rw[hi] at h;cases h
 | some i =>
  rw[hi] at h;simp only[aT] at h;cases hz:i.zero with
  | none=>rw[hz] at h;cases h
  | some z =>
   rw[hz] at h;simp only[aS,br,cg] at h;exact⟨i,rfl,h.2⟩
theorem uC:∀(l:bN),(bW (l.map FL)).map aW=l.map FL
 | []=>rfl
 | a::l=>by
  simp only[aY,bW,List.map_append,uC l];rfl
theorem Bq:∀(k:Nat)(z:V),(List.replicate k [z]).flatten=List.replicate k z
 | 0,_=>rfl
 | k+1,z=>by simp[Hh,Bq k z]
def FX:Nat->Code->Code
 | 0,c=>c
 | n+1,.seq _ b=>FX n b
 | _+1,c=>c
structure EB(nl:Bool)(l:List Cr)(k:Nat)(env:aD):Prop where
 len:env.length=110
 e2:nth env 2=some (.ptr 0 0)
 e3:nth env 3=some .bM
 e4:nth env 4=some (.int .i64 (k:Int))
 e6:nth env 6=some (.ptr 1 0)
 e7:nth env 7=some (.ptr 2 0)
 AL:nth env 31=some (z0 nl l)
 Aa:nth env 32=some (.int .i64 (l.length:Int))
def Ud(H:Hp)(ns:List (Nat->Bool))(N:aD):Prop:=N.length=ns.length/\∀(j:Nat)(p:Nat->Bool),ns[j]?=some p->∃b,N[j]?=some (.sr b 0 (jh p 19).length (jh p 19).length)/\H.get b=some (.cells ((jh p 19).map FL) 3)
theorem zn8(hg:GW gl){n:Nat}(hn:4000<=n){nl:Bool}{l:List Cr}{k:Nat}{env:aD}{H:Hp}{m:Mk}{F:List bN}(he:EB nl l k env)(hb:BI H (F.map jH) [] m)(ek:m.Ok)(hM:m.bZ.length<=1200)(cI:∀p∈m.next,jh p 19≠[]) :
  go ⟨prog,gl,zj prog gl n,fy⟩ n (Fx prog f14.results.toList λw H1=>∃N,w=.bq [.agg [aW (zl 4 50 m.lG),aW (zl 1 3 m.fW),aW (zl 1 27 (F.map jH)),aW (zl 1 27 N)],.bM]/\Ud H1 m.next N) [.c (FX 7 (f14.body.getD .skip))] .normal ⟨env,H,[],[]⟩:=by
 have hlen:=he.len;obtain⟨im,cu,u1,u2,u3⟩:=hb.AJ;have Cn:aW cu=cu/\jb prog H 111 cu=some (m.next.length:Int):=by
  cases im with
  | none =>
   obtain⟨rfl,h⟩:=u2;have:m.next=[]:=by simpa using h
   exact⟨rfl,by rw[zeT GQ.u,this];rfl⟩
  | some j=>obtain⟨v,rfl,_⟩:=u2;exact⟨rfl,by rw[xo GQ.u,gC]⟩
 have gw:zk prog H gl.g 111 (.ptr 1 2)=some cu:=zq Fu u1 rfl;simp only[f14,fQ,FX,zh];refine zi ?_;simp only[BA,Nat.reduceEqDiff,ak,aj,aq,aa,ah,za,bD,Nat.reduceLT,bw,he.e6,hlen,pZ,gw,Cn.1,Cn.2];have lg:m.next.length<=1200:=by rw[ek.n];exact hM
 refine y7 (λenv=>EB nl l k env/\nth env 75=some (.int .i64 (m.next.length:Int))/\nth env 76=some (.int .i64 ((0:Nat):Int))) ⟨⟨by simp[hlen],by simp[za,he.e2],by simp[za,he.e3],by simp[za,he.e4],by simp[za,he.e6],by simp[za,he.e7],by simp[za,he.AL],by simp[za,he.Aa]⟩,by simp[za,hlen],by simp[za,hlen]⟩ λenv AE=>?_
 clear u1 u2 u3 gw Cn cu im he hlen;refine qh (λj s=>∃q env H N,j+q=m.next.length/\s=⟨env,H,[],[]⟩/\EB nl l k env/\nth env 75=some (.int .i64 (m.next.length:Int))/\nth env 76=some (.int .i64 ((q:Nat):Int))/\BI H (F.map jH) N m/\Ud H (m.next.take q) N) m.next.length (by omega) ⟨0,env,H,[],rfl,rfl,AE.1,AE.2.1,AE.2.2,hb,rfl,λj p hp=>by simp at hp⟩ ?_
 clear AE hb env H;rintro j s ⟨q,env,H,N,hjq,rfl,he,Of,Mo,hb,hN⟩;have hlen:=he.len;simp only[zh];refine zi ?_;simp only[BA,ak,aq,za,Nat.reduceLT,Of,Mo,hlen,qU]
 by_cases hq:q<m.next.length
 ·refine .inl ⟨by simpa using hq,?_⟩
  obtain⟨p,hp⟩:∃p,m.next[q]?=some p:=⟨_,gh hq⟩
  have hpg:m.next.getD q (λ_=>false)=p:=by rw[Nf,hp];rfl
  have hpm:p∈m.next:=m_ hp
  obtain⟨im,cu,u1,u2,u3⟩:=hb.AJ;obtain⟨jj,rfl⟩:∃jj,im=some jj:=by
   cases im with
   | none =>
    have h:m.next=[]:=by simpa using u2.2
    rw[h] at hq;simp at hq
   | some jj=>exact⟨jj,rfl⟩
  obtain⟨v,rfl,hj⟩:=u2;obtain⟨pr,po,w1,w2,w3⟩:=zhc hq;rw[w2,hpg] at hj;have AF:Cx.bC ⟨prog,gl.g,zj prog gl n,fy⟩ 59 [.gj jj v (q * 19)] H=some (.val (jH (jh p 19)),H):=by
   have h:=zmm hg (n:=n - 1) (by omega) (H:=H) hj w1
   rw[show n - 1+1=n by omega,xF] at h
   exact zu func59 rfl h
  obtain⟨xs,oU⟩:∃xs,xs=(jh p 19).map FL:=⟨_,rfl⟩;have QZ:xs≠[]:=by
   intro e;rw[oU] at e;exact cI p hpm (by simpa using e)
  have JK:xs.length=(jh p 19).length:=by rw[oU,gC]
  have anx:xs.length<=1216:=by
   rw[JK];have:=xn (p:=p) 19;rw[xF,gC] at this;omega
  obtain⟨row,b_⟩:∃row,row=V.sl 1 xs .no:=⟨_,rfl⟩;have Vx:jH (jh p 19)=row:=by
   rw[b_,oU];have:(jh p 19).map FL≠[]:=by rw[<- oU];exact QZ
   unfold jH;cases h:(jh p 19).map FL with
   | nil=>exact absurd h this
   | cons a b=>rfl
  rw[Vx] at AF;have mb:∀env t,qK env t (some row)=some (row,env):=λ_ _=>by rw[b_];rfl
  have IT:aW row=row:=by rw[b_];rfl
  have En:∀H,jb prog H 27 row=some (xs.length:Int):=λH=>by rw[b_];simp[jb,Et.u]
  have gw:zk prog H gl.g 111 (.ptr 1 2)=some (.dD jj v (m.next.map (pv 19)).length):=zq Fu u1 rfl
  have Iv:zt prog 111 (.dD jj v (m.next.map (pv 19)).length) (q:Int)=some (.gj jj v (q * 19)):=by
   rw[TJ GQ.u GQ.s (by rw[gC];omega),uP]
  refine zi ?_;simp only[BA,Nat.reduceEqDiff,ak,aq,za,bD,Nat.reduceLT,bw,Mo,hlen];refine zi ?_
  simp only[BA,Nat.reduceEqDiff,av,ak,aq,aa,ah,aE,aA,za,bD,Nat.reduceLT,bw,he.e6,hlen,pZ,gw,Iv,AF,mb]
  refine y7 (λenv=>EB nl l k env/\nth env 75=some (.int .i64 (m.next.length:Int))/\nth env 76=some (.int .i64 ((q:Nat):Int))/\nth env 14=some row) ⟨⟨by simp[hlen],by simp[za,he.e2],by simp[za,he.e3],by simp[za,he.e4],by simp[za,he.e6],by simp[za,he.e7],by simp[za,he.AL],by simp[za,he.Aa]⟩,by simp[za,Of],by simp[za,Mo],by simp[za,hlen]⟩ λenv AE=>?_
  obtain⟨he,Of,Mo,sO⟩:=AE;have hlen:=he.len;refine zi ?_;simp only[BA,ak,aq,za,Nat.reduceLT,sO,hlen,IT,En];obtain⟨inf,Mp,Mq⟩:=QY;have LA:xs.length≠0:=λe=>QZ (He e)
  rw[Xa (k:=xs.length) Et.u sz3 z3 rfl Mp (by decide) rfl rfl (by simp[ak,za,hlen,aW]) (by simp[ak,za,hlen,aW]) (by rw[Mq];exact dG (by omega) (by omega)) LA]
  have DN:aI xs=0:=by rw[oU];exact wu (λ_=>rfl) _
  obtain⟨cz,BK⟩:∃cz,cz=(List.replicate xs.length (V.int .i64 0).cells).flatten:=⟨_,rfl⟩;have Q0:cz=List.replicate xs.length (.int .i64 0):=by rw[BK];exact Bq _ _
  have YZ:cz.length=xs.length:=by rw[Q0,List.length_replicate]
  have Y0:cz.all (λc=>!(locked c))=true:=by rw[Q0];simp[locked]
  rw[<- BK];obtain⟨b1,k1,g1,n1⟩:=Uc hb cz xs 3 3;obtain⟨K,hK⟩:∃K,K=H.az.length:=⟨_,rfl⟩;have hK3:3<=K:=by rw[hK];exact hb.len
  have hgK:(H.push (.cells cz 3)).get K=some (.cells cz 3):=by rw[hK];exact wc
  rw[<- hK] at b1 k1 g1 n1 ⊢;have Y1:∀env t,qK env t (some (.sr K 0 xs.length xs.length))=some (.sr K 0 xs.length xs.length,env):=λ_ _=>rfl;have Q1:aW (.sr K 0 xs.length xs.length)=.sr K 0 xs.length xs.length:=rfl
  simp only[BA,Nat.reduceEqDiff,aq,za,bD,Nat.reduceLT,bw,hlen,Y1]
  refine y7 (λenv=>EB nl l k env/\nth env 75=some (.int .i64 (m.next.length:Int))/\nth env 76=some (.int .i64 ((q:Nat):Int))/\nth env 14=some row/\nth env 15=some (.sr K 0 xs.length xs.length)) ⟨⟨by simp[hlen],by simp[za,he.e2],by simp[za,he.e3],by simp[za,he.e4],by simp[za,he.e6],by simp[za,he.e7],by simp[za,he.AL],by simp[za,he.Aa]⟩,by simp[za,Of],by simp[za,Mo],by simp[za,sO],by simp[za,hlen]⟩ λenv AE=>?_
  obtain⟨he,Of,Mo,sO,tT⟩:=AE;have hlen:=he.len;refine zi ?_;simp only[BA,Nat.reduceEqDiff,ak,aq,za,Nat.reduceLT,bw,sO,tT,hlen,IT,Q1]
  rw[zif (ys:=xs) (o:=.no) (b:=K) (off:=0) (len:=xs.length) (cap:=xs.length) (cs:=cz) (ty:=3) Et.u sz3 (by simp[ak,za,hlen,aW]) (by simp[ak,za,hlen,b_,aW]) hgK rfl (by rw[oU];exact uC _) (by omega) (wh Y0 (by omega))]
  rw[wO YZ,jT (by simp[V.top,DN])]
  generalize Q2:(H.push (aV.cells cz 3)).set K (aV.cells xs 3)=H1 at b1 k1 g1 n1 ⊢;simp only[aL,aq]
  obtain⟨bF,Ue⟩:∃bF,bF=fC (F.map jH) N:=⟨_,rfl⟩;have f1:=b1.f;rw[<- Ue] at f1;have mO:∀env,vW prog 28 env H1 [] [] (some (.ptr 2 3))=some (.val (zl 1 27 N),⟨env,H1.set 2 (.cells (bF.set 3 (oh 1 N)) 30),kD 2 3 N,[]⟩):=λenv=>TM QX f1 (by rw[Ue];rfl)
  obtain⟨HL,Ka⟩:∃HL,HL=H1.set 2 (.cells (bF.set 3 (oh 1 N)) 30):=⟨_,rfl⟩;rw[<- Ka] at mO;have Y2:HL.get 2=some (.cells (bF.set 3 (oh 1 N)) 30):=by rw[Ka,wH f1]
  have lO:3<bF.length:=by rw[Ue];simp[fC]
  have Q3:N.length=q:=by rw[hN.1,uf];omega
  have lR:=J'.BQ (v:=.sr K 0 xs.length xs.length) rfl rfl;have fz:∀H,j9 prog H 28 (zl 1 27 N) (.sl 1 [.sr K 0 xs.length xs.length] .no)=some (zl 1 27 (N++[.sr K 0 xs.length xs.length])):=λH=>jC J' (by simp) (dG (by simp;omega) (by simp;omega))
  have e_:∀env,qr prog 28 HL (kD 2 3 N) [] (some (zl 1 27 (N++[.sr K 0 xs.length xs.length]),env)) (some (.ptr 2 3))=some (.skip,⟨env,(HL.set 2 (.cells (bF.set 3 (zl 1 27 (N++[.sr K 0 xs.length xs.length]))) 30)).bQ 2 (zl 1 27 (N++[.sr K 0 xs.length xs.length])),kD 2 3 N,[]⟩):=λenv=>by
   rw[zy J'.st Y2 PX (by rw[vt];rfl) (by rw[bD];omega) (PW lO)]
   simp only[vt,Vm.storeCells,List.set_set]
  refine wo (tk:=[93]) (by kernel_rfl) ?_
  simp only[BA,Nat.reduceEqDiff,ak,aq,ah,za,bD,Nat.reduceLT,bw,he.e7,tT,hlen,Mn,mO,Q1,lR,xS,fz,e_,jV (cx:=⟨prog,gl.g,zj prog gl n,fy⟩) (show pN prog fy 28=false by kernel_rfl)]
  refine zi ?_;simp only[BA,Nat.reduceEqDiff,ak,aj,aq,za,bD,Nat.reduceLT,bw,Mo,hlen,qc (show q<2 ^ 60 by omega)]
  simp only[zp,aM]
  have Ab:bF.set 3 (zl 1 27 (N++[.sr K 0 xs.length xs.length]))=fC (F.map jH) (N++[.sr K 0 xs.length xs.length]):=by rw[Ue];rfl
  have nA:=(b1.QW (F':=F.map jH) (N':=N++[.sr K 0 xs.length xs.length])).bQ 2 (zl 1 27 (N++[.sr K 0 xs.length xs.length]));rw[Ka,YV,Ab]
  refine⟨j - 1,by omega,q+1,_,_,N++[.sr K 0 xs.length xs.length],by omega,rfl,⟨by simp[hlen],by simp[za,he.e2],by simp[za,he.e3],by simp[za,he.e4],by simp[za,he.e6],by simp[za,he.e7],by simp[za,he.AL],by simp[za,he.Aa]⟩,by simp[za,Of],by simp[za,hlen],nA,by simp[Q3];omega,λi p' GD=>?_⟩
  have hiq:i<q+1:=by
   have:=(c_.1 GD).1;rw[uf] at this;omega
  rw[Ao,if_pos hiq] at GD;have uj:∀d x,d≠2->H1.get d=some x->((H1.set 2 (.cells (fC (F.map jH) (N++[.sr K 0 xs.length xs.length])) 30)).bQ 2 (zl 1 27 (N++[.sr K 0 xs.length xs.length]))).get d=some x:=λd x hd hx=>(ki hd).trans hx
  by_cases hi:i<q
  ·obtain⟨b,e1,e2⟩:=hN.2 i p' (by rw[Ao,if_pos hi];exact GD)
   have Y3:b≠2:=by
    intro e;subst e;have CU:=hb.f;rw[e2] at CU;injection CU with h1;injection h1 with h2 h3;cases h3
   have Y4:b≠1:=by
    intro e;subst e;obtain⟨_,_,y1,_⟩:=hb.AJ;rw[e2] at y1;injection y1 with h1;injection h1 with h2 h3;cases h3
   exact⟨b,by rw[gb (by omega)];exact e1,uj b _ Y3 (k1 _ _ _ Y4 e2)⟩
  ·obtain rfl:i=q:=by omega
   rw[hp] at GD;cases GD;refine⟨K,?_,uj K _ (by omega) (by rw[<- oU];exact g1)⟩
   rw[fE (by omega),Q3,Cb,<- JK]
   rfl
 ·obtain rfl:q=m.next.length:=by omega
  refine .inr ⟨by simp,?_⟩
  rw[DF] at hN;obtain⟨im,cu,u1,u2,u3⟩:=hb.AJ;have Y5:∀H',(∀x,H.get 1=some x->H'.get 1=some x)->zk prog H' gl.g 26 (.ptr 1 0)=some (zl 4 50 m.lG):=λH' h=>zq Fy (h _ u1) rfl;have Mr:∀H',(∀x,H.get 1=some x->H'.get 1=some x)->zk prog H' gl.g 27 (.ptr 1 1)=some (zl 1 3 m.fW):=λH' h=>zq IA (h _ u1) rfl;obtain⟨X1,hX1⟩:∃X1,X1=aW (zl 4 50 m.lG):=⟨_,rfl⟩
  obtain⟨X2,Uf⟩:∃X2,X2=aW (zl 1 3 m.fW):=⟨_,rfl⟩;have Kb:∀n e (xs:aD),aI xs=0->aW (aW (zl n e xs))=aW (zl n e xs)/\(∀env t,qK env t (some (aW (zl n e xs)))=some (aW (zl n e xs),env))/\(aW (zl n e xs)).laid=[aW (zl n e xs)]/\dz (aW (zl n e xs))=true/\(aW (zl n e xs)).top=0/\locked (aW (zl n e xs))=false:=λn e xs ht=>by
   refine⟨qT,λ_ _=>ji,?_,?_,by rw[jm];exact Qc ht,?_⟩<;>cases xs<;>rfl
  obtain⟨Y6,x1b,Y7,x1d,x1e,x1f⟩:=Kb 4 50 m.lG (wu (λ_=>rfl) _);obtain⟨Y8,x2b,Y9,x2d,x2e,x2f⟩:=Kb 1 3 m.fW (wu (λ_=>rfl) _);rw[<- hX1] at Y6 x1b Y7 x1d x1e x1f;rw[<- Uf] at Y8 x2b Y9 x2d x2e x2f;have f2:=hb.f
  have Ms:∀env,qr prog 26 H [] [] (some (X1,env)) (some (.ptr 2 0))=some (.skip,⟨env,H.set 2 (.cells [X1,.aG,zl 1 27 (F.map jH),zl 1 27 N] 30),[],[]⟩):=λenv=>by
   rw[zy Qe f2 x1d (by rw[Y7];rfl) (by simp[fC]) rfl,jT (by rw[x1e];omega)]
   simp only[Y7,Vm.storeCells,fC,bS]
  have CJ:∀env,qr prog 27 (H.set 2 (.cells [X1,.aG,zl 1 27 (F.map jH),zl 1 27 N] 30)) [] [] (some (X2,env)) (some (.ptr 2 1))=some (.skip,⟨env,H.set 2 (.cells [X1,X2,zl 1 27 (F.map jH),zl 1 27 N] 30),[],[]⟩):=λenv=>by
   rw[zy Qd (wH f2) x2d (by rw[Y9];rfl) (by simp) rfl,jT (by rw[x2e];omega),YV]
   simp only[Y9,Vm.storeCells,bS,bT]
  simp only[ql,zN,zD,zp,bJ,zh,iN,aF]
  refine Tw [7] [(false,false),(false,false),(false,false),(false,false),(false,false),(false,false),(false,false),(true,false),(false,false),(false,true),(false,false),(false,true)] (tk:=[]) (by kernel_rfl) (by kernel_rfl) ?_
  simp only[BA,Nat.reduceEqDiff,ak,aq,aa,ah,au,za,bD,Nat.reduceLT,bw,r8,u6,Tx,W9,Tz,TA,Fy,IA,he.e6,he.e7,hlen,w_,Fw,Ml,Mm,Y5 H (λ_ h=>h),Mr H (λ_ h=>h),<- hX1,<- Uf,x1b,x2b,Ms,CJ]
  refine⟨λ_=>vE (p:=.ptr 1 1) (by simp[ak,za,hlen,aW]) (Mr _ λ_ h=>(qB (by decide)).trans h) Uf.symm,λ_=>vE (p:=.ptr 1 1) (by simp[ak,za,hlen,aW]) (Mr _ λ_ h=>(qB (by decide)).trans h) Uf.symm,?_⟩
  obtain⟨H2,FJ⟩:∃H2,H2=H.set 2 (.cells [X1,X2,zl 1 27 (F.map jH),zl 1 27 N] 30):=⟨_,rfl⟩;have g2:H2.get 2=some (.cells [X1,X2,zl 1 27 (F.map jH),zl 1 27 N] 30):=by rw[FJ,wH f2]
  have g0:H2.get 0=some (.cells zF 30):=by rw[FJ,qB (by decide)];exact hb.r
  rw[<- FJ];obtain⟨VA,Q5⟩:∃VA,VA=V.agg [X1,X2,zl 1 27 (F.map jH),zl 1 27 N]:=⟨_,rfl⟩;have Y_:zk prog H2 gl.g 30 (.ptr 2 0)=some VA:=by rw[Q5];exact YX Ma FM g2 rfl
  have hcA:aW VA=VA:=by rw[Q5];rfl
  have htA:∀env t,qK env t (some VA)=some (VA,env):=λ_ _=>by rw[Q5];rfl
  have hlA:VA.laid=[X1,X2,aW (zl 1 27 (F.map jH)),aW (zl 1 27 N)]:=by
   rw[Q5];simp only[V.laid,aY,bp,Y6,Y8]
  have FA:∀env,qr prog 30 H2 [] [] (some (VA,env)) (some (.ptr 0 0))=some (.skip,⟨env,(H2.set 0 (.cells [X1,X2,aW (zl 1 27 (F.map jH)),aW (zl 1 27 N)] 30)).bQ 0 VA,[],[]⟩):=λenv=>by
   rw[zy FM g0 (by rw[Q5];rfl) (by rw[hlA];rfl) (by simp[zF]) rfl,hlA]
   rfl
  refine zi ?_;simp only[BA,Nat.reduceEqDiff,ak,aj,aq,za,bD,Nat.reduceLT,bw,he.e7,he.e2,hlen,Y_,hcA,htA,FA];simp only[go_ret,zp,Fx]
  refine⟨trivial,[.agg [X1,X2,aW (zl 1 27 (F.map jH)),aW (zl 1 27 N)],.bM],?_,N,?_,hN.1,λi p hp=>?_⟩
  ·have hr:zk prog ((H2.set 0 (.cells [X1,X2,aW (zl 1 27 (F.map jH)),aW (zl 1 27 N)] 30)).bQ 0 VA) (λ_ _=>none) 30 (.ptr 0 0)=some (.agg [X1,X2,aW (zl 1 27 (F.map jH)),aW (zl 1 27 N)]):=YX Ma FM (by rw[bU,wH g0]) rfl
   simp only[zx,za,bD,hlen,Nat.reduceEqDiff,Nat.reduceLT,aF,bw,he.e2];rw[hr];rfl
  ·rfl
  ·obtain⟨b,e1,e2⟩:=hN.2 i p hp;have h0:b≠0:=λe=>by
    subst e;have:=hb.r;rw[e2] at this;injection this with h1;injection h1 with h2 h3;cases h3
   have h2:b≠2:=λe=>by
    subst e;have:=hb.f;rw[e2] at this;injection this with h1;injection h1 with h2 h3;cases h3
   exact⟨b,e1,by rw[bU,qB h0,FJ,qB h2];exact e2⟩
end
section
variable{gl:Gl}
theorem zkA(hg:GW gl){n:Nat}{nl:Bool}{l:List Cr}{k:Nat}(hm:gl.hk 54 [z0 nl l]=some (.bq [.int .i64 (k:Int),.bool true]))(hk:k<=1000)(hl:l.length<=200)
  (hM:(qt k 0 (l.map ff) m0).2.bZ.length<=1200) (cI:∀p∈(qt k 0 (l.map ff) m0).2.next,jh p 19≠[]) (hw:∀c∈l,wE (ff c)+4000<=n/\wE (ff c)+2<=2 ^ 31) (hn:4000<=n) :
  ∃H' N,zj prog gl (n+1) 14 [z0 nl l] ⟨[],[]⟩=some (.ret (.bq [.agg [aW (zl 4 50 (qt k 0 (l.map ff) m0).2.lG),aW (zl 1 3 (qt k 0 (l.map ff) m0).2.fW),aW (zl 1 27 ((qt k 0 (l.map ff) m0).1.map jH)),aW (zl 1 27 N)],.bM]),H')/\Ud H' (qt k 0 (l.map ff) m0).2.next N:=by
 obtain⟨FT,MT,hT⟩:∃FT MT,qt k 0 (l.map ff) m0=(FT,MT):=⟨_,_,rfl⟩;rw[hT] at hM cI ⊢;simp only at hM cI ⊢
 suffices bL:(go ⟨prog,gl,zj prog gl n,fy⟩ n (Fx prog f14.results.toList λw H1=>∃N,w=.bq [.agg [aW (zl 4 50 MT.lG),aW (zl 1 3 MT.fW),aW (zl 1 27 (FT.map jH)),aW (zl 1 27 N)],.bM]/\Ud H1 MT.next N) [.c (f14.body.getD .skip)] .normal ⟨[z0 nl l]++List.replicate 109 (.bq []),⟨[],[]⟩,[],[]⟩) by
  obtain⟨w,H1,h0,N,rfl,hN⟩:=zQ (gl:=gl) (f:=14) (bs:=[]) (es:=[]) (args:=[z0 nl l]) (n:=n) (hg.hk _ _ (by decide)) (λH=>hg.fG _ _ _ _) func14 rfl (by rw[hg.uq];exact bL)
  refine⟨_,N,h0,hN.1,λj p hp=>?_⟩;obtain⟨b,h1,h2⟩:=hN.2 j p hp;refine⟨b,h1,?_⟩;have hb:b+1<=(V.bq [.agg [aW (zl 4 50 MT.lG),aW (zl 1 3 MT.fW),aW (zl 1 27 (FT.map jH)),aW (zl 1 27 N)],.bM]).top:=by
   have hNt:b+1<=aI N:=zn (x:=.sr b 0 (jh p 19).length (jh p 19).length) (m_ h1);have hN2:(aW (zl 1 27 N)).top=aI N:=by
    rw[jm];cases N<;>rfl
   simp only[V.top,aI,hN2];omega
  unfold zW;have lO:Nat.ble (V.bq [.agg [aW (zl 4 50 MT.lG),aW (zl 1 3 MT.fW),aW (zl 1 27 (FT.map jH)),aW (zl 1 27 N)],.bM]).top ([]:List aV).length=false:=by
   cases hx:Nat.ble (V.bq [.agg [aW (zl 4 50 MT.lG),aW (zl 1 3 MT.fW),aW (zl 1 27 (FT.map jH)),aW (zl 1 27 N)],.bM]).top ([]:List aV).length with
   | false=>rfl
   | true=>have:=rJ hx;simp only[List.length_nil] at this;omega
  rw[lO];exact h2
 have dw:Cx.bC ⟨prog,gl.g,zj prog gl n,fy⟩ 54 [z0 nl l] ⟨[.cells zF 30],[]⟩=some (.val (.bq [.int .i64 (k:Int),.bool true]),⟨[.cells zF 30],[]⟩):=by
  have:=xr (P:=prog) (n:=n - 1) (H:=⟨[.cells zF 30],[]⟩) hm;rw[show n - 1+1=n by omega] at this
  exact zu func54 rfl this
 have hz:dz (V.agg zF)=true:=rfl;have CG:dz (V.agg [.aG,.aG,.aG])=true:=rfl;simp only[f14,fQ,zh];refine zi ?_;simp only[BA,aj,aq,zc,bS,bT,YE,zH hz,V.cells,List.replicate];refine zi ?_
 simp only[BA,av,ak,aq,aA,zd,ze,bS,bT,je,dw,kX,dA];refine zi ?_;simp only[BA,ak,aq,zd,ze,bS,bT,iz]
 refine .inr ⟨rfl,?_⟩;refine zi ?_;simp only[BA,ak,aj,aq,zd,ze,bS,bT,w4];refine .inr ⟨by simpa using by omega,?_⟩
 refine zi ?_;simp only[BA,aq,zc,zd,ze,bS,bT,zqi,z7 CG,V.laid];refine zi ?_
 simp only[BA,aq,zc,Nat.reduceAdd,bS,bT,YE,zH hz,V.cells];refine zi ?_;simp only[BA,ak,aj,aq,zd,ze,bS,bT,je,xq]
 generalize FI:Hp.mk [aV.cells zF 30,aV.cells [V.aG,V.aG,V.aG] 113,aV.cells zF 30] []=H0;have tP:BI H0 [] [] m0:=by
  subst FI;exact⟨rfl,rfl,⟨none,.aG,rfl,⟨rfl,rfl⟩,λj hj=>by cases hj⟩,by simp⟩
 refine y7 (λenv=>EB nl l k env/\nth env 33=some (.int .i64 ((0:Nat):Int))) ⟨⟨rfl,rfl,rfl,rfl,rfl,rfl,rfl,rfl⟩,rfl⟩ λenv he=>?_
 refine qh (λj s=>∃r env H m F,j+r=l.length/\s=⟨env,H,[],[]⟩/\EB nl l k env/\nth env 33=some (.int .i64 ((r:Nat):Int))/\BI H (F.map jH) [] m/\m.Ok/\F.length=r/\∃F',qt k r ((l.drop r).map ff) m=(F',MT)/\F++F'=FT) l.length (by omega) ⟨0,env,H0,m0,[],rfl,rfl,he.1,he.2,tP,⟨rfl,rfl⟩,rfl,FT,hT,rfl⟩ ?_
 clear he tP FI env H0;rintro j s ⟨r,env,H,m,F,hjr,rfl,he,Ds,hb,ek,hFr,F',hR,hF⟩;have hlen:=he.len;simp only[zh];refine zi ?_;simp only[BA,ak,aq,za,Nat.reduceLT,he.Aa,Ds,hlen,qU]
 by_cases hr:r<l.length
 ·refine .inl ⟨by simpa using hr,?_⟩
  obtain⟨c,hc⟩:∃c,l[r]?=some c:=⟨_,gh hr⟩;have gG:c∈l:=m_ hc;have eZ:l.drop r=c::l.drop (r+1):=by
   obtain⟨h1,h2⟩:=c_.1 hc;rw[EL h1,h2]
  rw[eZ] at hR;simp only[aY,qt,cg] at hR;obtain⟨hF',hR⟩:=hR;have Za:dz (V.agg (iS (.mk 0 0 0 0 0 0 [] 0 0 true [],false,.mk 0 0 0 0 0 0 [] 0 0 true [])))=true:=rfl;refine zi ?_
  simp only[BA,Nat.reduceEqDiff,ak,aq,aE,za,bD,Nat.reduceLT,bw,he.AL,Ds,hlen,je,YD hc,zju,z47,zH Za,V.cells];rw[YW (t:=55) IL wc (w5 c) (yf c) (YA c) (w5 _) (zjt _)]
  obtain⟨b1,k1,g1,n1⟩:=Uc hb (iS (.mk 0 0 0 0 0 0 [] 0 0 true [],false,.mk 0 0 0 0 0 0 [] 0 0 true [])) (iS c) 55 55;obtain⟨K,hK⟩:∃K,K=H.az.length:=⟨_,rfl⟩;have hK3:3<=K:=by rw[hK];exact hb.len
  rw[<- hK] at b1 k1 g1 n1 ⊢;generalize Q2:(H.push (aV.cells (iS (.mk 0 0 0 0 0 0 [] 0 0 true [],false,.mk 0 0 0 0 0 0 [] 0 0 true [])) 55)).set K (aV.cells (iS c) 55)=H1 at b1 k1 g1 n1 ⊢;simp only[bu,aq]
  refine y7 (λenv=>EB nl l k env/\nth env 33=some (.int .i64 ((r:Nat):Int))/\nth env 8=some (.int .i64 ((r:Nat):Int))/\nth env 9=some (.ptr K 0)) ⟨⟨by simp[hlen],by simp[za,he.e2],by simp[za,he.e3],by simp[za,he.e4],by simp[za,he.e6],by simp[za,he.e7],by simp[za,he.AL],by simp[za,he.Aa]⟩,by simp[za,Ds],by simp[za,hlen],by simp[za,hlen]⟩ λenv AE=>?_
  clear he Ds hlen;obtain⟨he,Ds,e8,e9⟩:=AE;have hlen:=he.len;obtain⟨l1,l2,l3⟩:=ldC (g:=gl.g) g1;have Q6:dz (V.agg (aK (.mk 0 0 0 0 0 0 [] 0 0 true [])))=true:=rfl;refine zi ?_
  simp only[BA,Nat.reduceEqDiff,ak,aq,ah,za,bD,Nat.reduceLT,bw,e9,hlen,FV,l1,YF,zH Q6,V.cells];rw[YW (t:=53) sH wc (zZ _) (qi _) (vZ _) (zZ _) (Yc _)];obtain⟨b2,k2,g2,n2⟩:=Uc b1 (aK (.mk 0 0 0 0 0 0 [] 0 0 true [])) (aK c.1) 53 53
  generalize FJ:(H1.push (aV.cells (aK (.mk 0 0 0 0 0 0 [] 0 0 true [])) 53)).set H1.az.length (aV.cells (aK c.1) 53)=H2 at b2 k2 g2 n2 ⊢;have g12:=k2 _ _ _ (by omega) g1
  rw[n1] at g2 n2 ⊢;simp only[bu,aq]
  obtain⟨l1,l2,l3⟩:=ldC (g:=gl.g) g12;refine zi ?_;simp only[BA,Nat.reduceEqDiff,ak,aq,ah,za,bD,Nat.reduceLT,bw,e9,hlen,Mi,l2];have Q7:(V.agg (aK (.mk 0 0 0 0 0 0 [] 0 0 true []))).cells.length=10:=rfl;rcases NV:c.2.1 with _|_
  refine .inr ⟨rfl,?_⟩;have uW:ff c=c.1:=by simp[ff,NV]
  rw[<- uW] at g2
  refine l_ (λs=>∃env H3,s=⟨env,H3,[],[]⟩/\EB nl l k env/\nth env 33=some (.int .i64 ((r:Nat):Int))/\nth env 8=some (.int .i64 ((r:Nat):Int))/\nth env 10=some (.ptr (K+1) 0)/\BI H3 (F.map jH) [] m/\H3.get (K+1)=some (.cells (aK (ff c)) 53)) ⟨_,_,rfl,⟨by simp[hlen],by simp[za,he.e2],by simp[za,he.e3],by simp[za,he.e4],by simp[za,he.e6],by simp[za,he.e7],by simp[za,he.AL],by simp[za,he.Aa]⟩,by simp[za,Ds],by simp[za,e8],by simp[za,hlen],b2,g2⟩ ?_
  rotate_left
  refine .inl ⟨rfl,?_⟩;have uW:ff c=.mk 5 0 0 0 0 0 [] 0 0 false [c.1,c.2.2]:=by simp[ff,NV]
  refine zi ?_;simp only[BA,Nat.reduceEqDiff,ak,aq,ah,za,bD,Nat.reduceLT,bw,e9,hlen,FV,Mj,l1,l3]
  rw[znI (v:=.agg (aK c.1)) (u:=.agg (aK c.2.2)) TZ sH YF (by decide) Q7 Q6 (by simp[ak,za,hlen,aW]) (by simp[ak,za,hlen,aW]) rfl rfl (zZ _) (zZ _)]
  simp only[BA,aq];rw[zqm (h:=c.1) (t:=c.2.2) (by simp[ak,za,hlen,aW])]
  simp only[BA,Nat.reduceEqDiff,ak,aq,za,bD,Nat.reduceLT,bw,hlen];rw[YW (t:=53) sH g2 (zZ _) (qi _) (vZ _) (zZ _) (Yc _)];obtain⟨b3,k3,g3,n3⟩:=YY b2 (v:=aK (.mk 5 0 0 0 0 0 [] 0 0 false [c.1,c.2.2])) g2 (by omega)
  simp only[bu,aq]
  rw[<- uW] at g3 b3 ⊢
  refine l_ (λs=>∃env H3,s=⟨env,H3,[],[]⟩/\EB nl l k env/\nth env 33=some (.int .i64 ((r:Nat):Int))/\nth env 8=some (.int .i64 ((r:Nat):Int))/\nth env 10=some (.ptr (K+1) 0)/\BI H3 (F.map jH) [] m/\H3.get (K+1)=some (.cells (aK (ff c)) 53)) ⟨_,_,rfl,⟨by simp[hlen],by simp[za,he.e2],by simp[za,he.e3],by simp[za,he.e4],by simp[za,he.e6],by simp[za,he.e7],by simp[za,he.AL],by simp[za,he.Aa]⟩,by simp[za,Ds],by simp[za,e8],by simp[za,hlen],b3,g3⟩ ?_
  all_goals
   rintro s ⟨env,H3,rfl,he,Ds,e8,sg,b3,g3⟩;have hlen:=he.len;obtain⟨i3,k3⟩:=b3.AJ;obtain⟨P,M1,hP⟩:∃P M1,iR (r:Int) (ff c) m=(P,M1):=⟨_,_,rfl⟩;have hMs:M1.bZ.length<=1200:=by
    have h1:=zcM (n:=k) (r:=r+1) (es:=(l.drop (r+1)).map ff) (m:=(jU k r (ff c) m).2);rw[hR,Yz,hP] at h1;exact cP h1 hM
   obtain⟨anM,Zb⟩:=hw c gG;obtain⟨H4,i4,c4,k4,n4,f4,ok4,p4⟩:=zma hg (n:=n - 1) k3 (eg _) hP ek hMs (by omega) Zb
   rw[show n - 1+1=n by omega,qA] at c4
   have Qy:Cx.bC ⟨prog,gl.g,zj prog gl n,fy⟩ 55 _ H3=_:=zu func55 rfl c4;have kc4:Kc H3 H4:=by obtain⟨_,_,u,_⟩:=k3;exact zmi u f4
   have b4:=b3.made kc4 f4.len k4;refine zi ?_;simp only[BA,Nat.reduceEqDiff,av,ak,aq,aA,za,bD,Nat.reduceLT,bw,he.e6,sg,e8,hlen,YX Bi sH g3 (zZ _),Qy,LX,zH (show dz (V.agg (zo ⟨false,cQ,cQ⟩))=true from rfl),V.cells];rw[T1 wc]
   obtain⟨b5,k5,g5,n5⟩:=Uc b4 (zo ⟨false,cQ,cQ⟩) (zo P) 117 117;obtain⟨K4,hK4⟩:∃K4,K4=H4.az.length:=⟨_,rfl⟩;have anO:3<=K4:=by rw[hK4];exact b4.len
   rw[<- hK4] at b5 k5 g5 n5 ⊢;generalize N9:(H4.push (aV.cells (zo ⟨false,cQ,cQ⟩) 117)).set K4 (aV.cells (zo P) 117)=H5 at b5 k5 g5 n5 ⊢;simp only[bu,aq]
   refine zi ?_;simp only[BA,aq,z60,zH (show dz (V.agg (pv 19 cQ))=true from rfl),V.cells,n5]
   refine y7 (λenv=>EB nl l k env/\nth env 33=some (.int .i64 ((r:Nat):Int))/\nth env 8=some (.int .i64 ((r:Nat):Int))/\nth env 11=some (.ptr K4 0)/\nth env 12=some (.ptr (K4+1) 0)) ⟨⟨by simp[hlen],by simp[za,he.e2],by simp[za,he.e3],by simp[za,he.e4],by simp[za,he.e6],by simp[za,he.e7],by simp[za,he.AL],by simp[za,he.Aa]⟩,by simp[za,Ds],by simp[za,e8],by simp[za,hlen],by simp[za,hlen]⟩ λenv AE=>?_
   obtain⟨he,Ds,e8,iX,n6⟩:=AE;have hlen:=he.len;have b6:=b5.push (.cells (pv 19 cQ) 115);have g6:=(zn7 (H:=H5) (.cells (pv 19 cQ) 115)) K4 _ _ (by omega) g5
   have Zc:(H5.push (.cells (pv 19 cQ) 115)).get (K4+1)=some (.cells (pv 19 cQ) 115):=by rw[<- n5];exact wc
   generalize hH6:H5.push (aV.cells (pv 19 cQ) 115)=H6 at b6 g6 Zc ⊢;obtain⟨Zd,Ea⟩:=H6;have A0:k+r<1216:=by omega
   have c7:=zjo hg (n:=n - 1) (bs:=Zd) (es:=Ea) (b:=K4+1) (off:=0) (pre:=[]) (post:=[]) (p:=cQ) (ty:=115) (k:=k+r) (by rw[bg,mT];exact Zc) rfl A0
   rw[show n - 1+1=n by omega,bg,mT] at c7
   have J2:Cx.bC ⟨prog,gl.g,zj prog gl n,fy⟩ 56 _ ⟨Zd,Ea⟩=_:=zu func56 rfl c7;obtain⟨b7,k7,Ug,n7⟩:=YY b6 (v:=pv 19 (jQ cQ (k+r))) Zc (by omega)
   have g7:=k7 _ _ (by omega) g6
   simp only[Hp.set] at b7 k7 Ug n7 g7;have nY:∀u w,qP prog .add 3 u w (some (.int .i64 (k:Int))) (some (.int .i64 (r:Int)))=some (.int .i64 ((k+r:Nat):Int)):=λu w=>xp (by omega)
   refine zi ?_;simp only[BA,Nat.reduceEqDiff,av,ak,aq,aA,za,bD,Nat.reduceLT,bw,n6,he.e4,e8,hlen,nY,J2];generalize anP:Zd.set (K4+1) (aV.cells (pv 19 (jQ cQ (k+r))) 115)=Og at b7 k7 Ug n7 g7 ⊢;obtain⟨i7,cu,u1,u2,u3⟩:=b7.AJ
   have c8:=XT hg (n:=n - 1) (by omega) (es:=Ea) (bm:=1) (bl:=K4) (ol:=20) (bf:=K4+1) (ob:=0) (ns:=M1.next) (p:=P.last) (q:=jQ cQ (k+r)) (pre:=.bool P.null::pv 19 P.first) (post:=[]) (pre':=[]) (post':=[]) (ty:=117) (ty':=115) u1 u2 (by rw[<- Qs];exact g7) (by simp[jE]) (by rw[bg,mT];exact Ug) rfl p4.2
   rw[show n - 1+1=n by omega] at c8
   have Yy:Cx.bC ⟨prog,gl.g,zj prog gl n,fy⟩ 57 _ ⟨Og,Ea⟩=_:=zu func57 rfl c8;have Df:(jU k r (ff c) m).2={ M1 with next:=mF (jQ cQ (k+r)) (jh P.last 19) M1.next }:=by simp only[jU,hP]
   have N7:(jU k r (ff c) m).1=jh (if P.null then jB P.first (jQ cQ (k+r)) else P.first) 19:=by simp only[jU,hP]
   have Ze:Kc ⟨Og,Ea⟩ ⟨ee Og i7 (mF (jQ cQ (k+r)) (jh P.last 19) M1.next),Ea⟩:=zmi u2 Yg
   have b8:=b7.made Ze (by show Og.length<=(ee Og i7 _).length;rw[yI];exact dI _) (MK.ee (es:=Ea) ⟨cu,u1,u2,u3⟩ wr)
   rw[<- Df] at b8;have g8:=Ze _ _ _ (by omega) g7
   have g8b:=Ze _ _ _ (by omega) Ug
   have ok8:(jU k r (ff c) m).2.Ok:=by rw[Df];exact⟨ok4.r,by simp only[wr];exact ok4.n⟩
   refine zi ?_;simp only[BA,Nat.reduceEqDiff,av,ak,aq,ah,aA,za,bD,Nat.reduceLT,bw,he.e6,iX,n6,hlen,oM,Yy];generalize anR:ee Og i7 (mF (jQ cQ (k+r)) (jh P.last 19) M1.next)=Zf at b8 g8 g8b ⊢
   have hl8:zk prog ⟨Zf,Ea⟩ gl.g 4 (.ptr K4 0)=some (.bool P.null):=zq NZ g8 rfl;refine zi ?_;simp only[BA,Nat.reduceEqDiff,ak,aq,ah,za,bD,Nat.reduceLT,bw,iX,hlen,ig,hl8];rcases hpn:P.null with _|_
   refine .inr ⟨rfl,?_⟩
   refine l_ (λs=>∃env H9,s=⟨env,H9,[],[]⟩/\EB nl l k env/\nth env 33=some (.int .i64 ((r:Nat):Int))/\nth env 11=some (.ptr K4 0)/\BI H9 (F.map jH) [] (jU k r (ff c) m).2/\∃fp,(jU k r (ff c) m).1=jh fp 19/\H9.get K4=some (.cells (zo ⟨P.null,fp,P.last⟩) 117)) ⟨_,_,rfl,⟨by simp[hlen],by simp[za,he.e2],by simp[za,he.e3],by simp[za,he.e4],by simp[za,he.e6],by simp[za,he.e7],by simp[za,he.AL],by simp[za,he.Aa]⟩,by simp[za,Ds],by simp[za,iX],b8,P.first,by rw[N7,hpn];rfl,g8⟩ ?_
   rotate_left
   refine .inl ⟨rfl,?_⟩;have c9:=XB hg (n:=n - 1) (by omega) (bs:=Zf) (es:=Ea) (b:=K4) (off:=1) (b':=K4+1) (off':=0) (pre:=[.bool P.null]) (post:=pv 19 P.last) (pre':=[]) (post':=[]) (p:=P.first) (q:=jQ cQ (k+r)) (ty:=117) (ty':=115) (by rw[<- N1];exact g8) rfl (by rw[bg,mT];exact g8b) rfl (by omega)
   rw[show n - 1+1=n by omega] at c9
   have hc9:Cx.bC ⟨prog,gl.g,zj prog gl n,fy⟩ 58 _ ⟨Zf,Ea⟩=_:=zu func58 rfl c9;obtain⟨b9,k9,g9,n9⟩:=YY b8 (v:=zo ⟨P.null,jB P.first (jQ cQ (k+r)),P.last⟩) g8 (by omega)
   simp only[Hp.set] at b9 g9;refine zi ?_;simp only[BA,Nat.reduceEqDiff,av,ak,aq,ah,aA,za,bD,Nat.reduceLT,bw,iX,n6,hlen,oK,hc9]
   refine l_ (λs=>∃env H9,s=⟨env,H9,[],[]⟩/\EB nl l k env/\nth env 33=some (.int .i64 ((r:Nat):Int))/\nth env 11=some (.ptr K4 0)/\BI H9 (F.map jH) [] (jU k r (ff c) m).2/\∃fp,(jU k r (ff c) m).1=jh fp 19/\H9.get K4=some (.cells (zo ⟨P.null,fp,P.last⟩) 117)) ⟨_,_,rfl,⟨by simp[hlen],by simp[za,he.e2],by simp[za,he.e3],by simp[za,he.e4],by simp[za,he.e6],by simp[za,he.e7],by simp[za,he.AL],by simp[za,he.Aa]⟩,by simp[za,Ds],by simp[za,iX],b9,jB P.first (jQ cQ (k+r)),by rw[N7,hpn];rfl,g9⟩ ?_
   all_goals
    rintro s ⟨env,H9,rfl,he,Ds,iX,b9,fp,hfp,g9⟩;have hlen:=he.len;obtain⟨bF,Uh⟩:∃bF,bF=fC (F.map jH) []:=⟨_,rfl⟩;have f9:=b9.f;rw[<- Uh] at f9;have mO:∀env,vW prog 28 env H9 [] [] (some (.ptr 2 2))=some (.val (zl 1 27 (F.map jH)),⟨env,H9.set 2 (.cells (bF.set 2 (oh 1 (F.map jH))) 30),kD 2 2 (F.map jH),[]⟩):=λenv=>TM QX f9 (by rw[Uh];rfl)
    obtain⟨HL,Ka⟩:∃HL,HL=H9.set 2 (.cells (bF.set 2 (oh 1 (F.map jH))) 30):=⟨_,rfl⟩;rw[<- Ka] at mO;obtain⟨LK,hLK⟩:∃LK,LK=kD 2 2 (F.map jH):=⟨_,rfl⟩;rw[<- hLK] at mO;have gL:HL.get K4=some (.cells (zo ⟨P.null,fp,P.last⟩) 117):=by rw[Ka,qB (by omega)];exact g9
    have Y2:HL.get 2=some (.cells (bF.set 2 (oh 1 (F.map jH))) 30):=by rw[Ka,wH f9]
    have b_:aW (zl 1 3 (xm fp 19))=jH (jU k r (ff c) m).1:=by rw[hfp,xF];rfl
    have AF:∀H,H.get K4=some (.cells (zo ⟨P.null,fp,P.last⟩) 117)->Cx.bC ⟨prog,gl.g,zj prog gl n,fy⟩ 59 [.ptr K4 1] H=some (.val (jH (jU k r (ff c) m).1),H):=λH hH=>by
     have h:=zhm hg (n:=n - 1) (by omega) (H:=H) (b:=K4) (off:=1) (pre:=[.bool P.null]) (post:=pv 19 P.last) (p:=fp) (ty:=117) (by rw[<- N1 ⟨P.null,fp,P.last⟩];exact hH) rfl
     rw[show n - 1+1=n by omega,b_] at h
     exact zu func59 rfl h
    obtain⟨row,Mt⟩:∃row,row=jH (jU k r (ff c) m).1:=⟨_,rfl⟩;rw[<- Mt] at AF;have IT:aW row=row:=by rw[Mt];exact qT
    have Mu:dz row=true/\row.cells.length=1/\row.top=0:=by
     rw[Mt];have:aI ((jU k r (ff c) m).1.map FL)=0:=wu (λ_=>rfl) _;unfold jH;cases h:(jU k r (ff c) m).1.map FL with
     | nil=>exact⟨rfl,rfl,rfl⟩
     | cons x xs =>
      rw[h] at this;exact⟨rfl,rfl,this⟩
    have lR:=J'.BQ (v:=row) Mu.1 Mu.2.1;have fz:∀H,j9 prog H 28 (zl 1 27 (F.map jH)) (.sl 1 [row] .no)=some (zl 1 27 (F.map jH++[row])):=λH=>jC J' (by simp) (dG (by rw[gC];simp;omega) (by rw[gC];simp;omega))
    have e_:∀env,qr prog 28 HL LK [] (some (zl 1 27 (F.map jH++[row]),env)) (some (.ptr 2 2))=some (.skip,⟨env,HL.set 2 (.cells (bF.set 2 (zl 1 27 (F.map jH++[row]))) 30),LK,[]⟩):=λenv=>by
     have lO:2<bF.length:=by rw[Uh];simp[fC]
     have Nw:(zl 1 27 (F.map jH++[row])).top=0:=Qc (gz (wu (λx=>by
      unfold jH;rw[jm]
      exact Qc (wu (λ_=>rfl) _)) _) (by simp[aI,Mu.2.2]))
     rw[zy J'.st Y2 PX (by rw[vt];rfl) (by rw[bD];omega) (by rw[hLK];exact PW lO),jT (by rw[Nw];omega)]
     simp only[vt,Vm.storeCells,List.set_set]
    refine wC (tk:=[64]) (by kernel_rfl) ?_
    apply Exists.intro;apply And.intro;refine qx (m:=0) (v:=.ptr 2 2) (by kernel_rfl) rfl (by simp only[BA,ak,ah,he.e7,FW];rfl) (by kernel_rfl) (by kernel_rfl) (by kernel_rfl) ?_
    dsimp only[aq]
    refine yo (m:=1) (v:=zl 1 27 (F.map jH)) (cs':=[⟨2,HL,LK,[]⟩,⟨0,H9,[],[]⟩]) (by kernel_rfl) rfl (by simp only[BA,ak,za,Nat.reduceLT,hlen,mO];rfl) (by kernel_rfl) (by kernel_rfl) (by kernel_rfl) (λK=>?_) ?_
    rotate_left
    dsimp only[aq]
    refine qx (m:=0) (v:=.ptr K4 1) (by kernel_rfl) rfl (by simp only[BA,Nat.reduceEqDiff,ak,ah,za,bD,Nat.reduceLT,bw,iX,hlen,oK];rfl) (by kernel_rfl) (by kernel_rfl) (by kernel_rfl) ?_
    dsimp only[aq]
    refine yo (m:=4) (v:=row) (cs':=[⟨10,HL,LK,[]⟩,⟨8,H9,[],[]⟩,⟨2,HL,LK,[]⟩,⟨0,H9,[],[]⟩]) (by kernel_rfl) rfl (by simp only[BA,Nat.reduceEqDiff,av,ak,aA,za,bD,Nat.reduceLT,bw,hlen,AF HL gL];rfl) (by kernel_rfl) (by kernel_rfl) (by kernel_rfl) (λK=>?_) ?_
    rotate_left
    dsimp only[aq]
    refine qx (m:=12) (v:=.sl 1 [row] (.yes 27)) (by kernel_rfl) rfl (by simp only[BA,Nat.reduceEqDiff,ak,za,bD,Nat.reduceLT,bw,hlen,IT,lR];rfl) (by kernel_rfl) (by kernel_rfl) (by kernel_rfl) ?_
    dsimp only[aq]
    refine kj (m:=31) (v:=zl 1 27 (F.map jH++[row])) (by kernel_rfl) rfl (by simp only[BA,Nat.reduceEqDiff,ak,za,bD,Nat.reduceLT,bw,hlen,xS,fz,jV (cx:=⟨prog,gl.g,zj prog gl n,fy⟩) (show pN prog fy 28=false by kernel_rfl)];rfl) (by kernel_rfl) (by kernel_rfl) (by kernel_rfl) (by kernel_rfl) ?_
    dsimp only[aq]
    refine qx (m:=63) (v:=.ptr 2 2) (by kernel_rfl) rfl (by simp only[BA,Nat.reduceEqDiff,ak,ah,za,bD,Nat.reduceLT,bw,he.e7,hlen,FW];rfl) (by kernel_rfl) (by kernel_rfl) (by kernel_rfl) ?_
    dsimp only[aq]
    refine wD (m:=127) (cs':=[⟨138,HL.set 2 (.cells (bF.set 2 (zl 1 27 (F.map jH++[row]))) 30),LK,[]⟩,⟨10,HL,LK,[]⟩,⟨8,H9,[],[]⟩,⟨2,HL,LK,[]⟩,⟨0,H9,[],[]⟩]) (by kernel_rfl) rfl (by simp only[BA,Nat.reduceEqDiff,ak,za,bD,Nat.reduceLT,bw,hlen,e_];rfl) (by kernel_rfl) (by kernel_rfl) (λK=>?_) wG
    ·refine jK ?_ ?_ ?_ ?_
     ·kernel_rfl
     ·rfl
     ·intro c hc;simp only[dH,Ap,uR] at hc;rcases hc with rfl|rfl|rfl<;>kernel_rfl
     ·kernel_rfl
    rotate_left
    ·refine jK ?_ ?_ ?_ ?_
     ·kernel_rfl
     ·rfl
     ·intro c hc;simp at hc
     ·kernel_rfl
    ·refine zig (e:=⟨0,HL,LK,[]⟩) ?_ ?_ ?_ ?_ ?_ ?_ ?_ ?_ ?_ ?_ ?_ ?_ ?_ ?_
     ·kernel_rfl
     ·rfl
     ·rfl
     ·rfl
     ·rfl
     ·rfl
     ·rfl
     ·kernel_rfl
     rotate_left
     ·kernel_rfl
     ·kernel_rfl
     rotate_left
     ·kernel_rfl
     ·exact Xb
     ·simp only[Cx.dK,jc];simp only[BA,Nat.reduceEqDiff,av,ak,aA,Nat.reduceAdd,za,bD,Nat.reduceLT,bw,hlen,AF H9 g9];rfl
     ·simp only[Cx.dK,jc];simp only[BA,ak,za,Nat.reduceLT,hlen,mO]
    simp only[aq];simp only[qC]
    refine zi ?_;simp only[BA,Nat.reduceEqDiff,ak,aj,aq,za,bD,Nat.reduceLT,bw,Ds,hlen,qc (show r<2 ^ 60 by omega)]
    simp only[zp,aM]
    refine⟨j - 1,by omega,r+1,_,_,(jU k r (ff c) m).2,F++[(jU k r (ff c) m).1],by omega,rfl,⟨by simp[hlen],by simp[za,he.e2],by simp[za,he.e3],by simp[za,he.e4],by simp[za,he.e6],by simp[za,he.e7],by simp[za,he.AL],by simp[za,he.Aa]⟩,by simp[za,hlen],?_,ok8,by simp[hFr],_,Prod.ext rfl hR,?_⟩
    ·rw[Ka,YV];have:=b9.QW (F':=(F++[(jU k r (ff c) m).1]).map jH) (N':=[]);rw[Uh,Mt];simpa[fC] using this
    ·rw[<- hF,<- hF',bh];rfl
 ·obtain rfl:r=l.length:=by omega
  refine .inr ⟨by simp,?_⟩
  rw[List.drop_length] at hR;simp only[bp,qt,cg] at hR;obtain⟨rfl,rfl⟩:=hR;rw[mT] at hF;subst hF;simp only[ql,zN];exact zn8 hg hn (nl:=nl) (l:=l) (k:=k) (F:=F) (m:=m) ⟨by simp[hlen],by simp[za,he.e2],by simp[za,he.e3],by simp[za,he.e4],by simp[za,he.e6],by simp[za,he.e7],by simp[za,he.AL],by simp[za,he.Aa]⟩ hb ek hM cI
end
end Go.Proofs.YthohlnmcjkjeiaaGreatDoor
