/- Seat 8: what a function that changes nothing tells, in whatever heap: walks. Conditions: none but those named. -/
import Derived.Test.YthohlnmcjkjeiaaGreatDoorVmI
namespace Go.Vm
set_option maxRecDepth 100000
open Go
theorem rg{cx:Cx}{n id:Nat}{Q:Ex->St->Prop}{k:List It}{ops:Array Oper}{env:aC}{H:Hp}{lk:aN}{df:bP}(h:go cx n Q (.os ops [] ops.toList::k) .normal ⟨env,H,[],df⟩)(ht:jM ops=[]:=by kernel_rfl):go cx n Q (.c (.region id ops false)::k) .normal ⟨env,H,lk,df⟩:=wd ht h
theorem fY{P:aQ}{t:Tmp}{um:V->Hp->Prop}{env:aC}{H:Hp}{lk:aN}{v:V}(h:nth env t=some v)(hp:um v H):Fx P [.tmp t] um .ret ⟨env,H,lk,[]⟩:=⟨rfl,[v],by simp only[zy,h],hp⟩
theorem Gc{P:aQ}{t u:Tmp}{um:V->Hp->Prop}{env:aC}{H:Hp}{lk:aN}{v w:V}(h:nth env t=some v)(h':nth env u=some w)(hp:um (.br [aW v,aW w]) H):Fx P [.tmp t,.tmp u] um .ret ⟨env,H,lk,[]⟩:=⟨rfl,[v,w],by simp only[zy,h,h'],hp⟩
def rY(k:Nat)(P:aQ)(gl:Gl)(f:FuncId)(xs:aC)(v:V):Prop:=∀n,k<=n->∀H,zk P gl n f xs H=some (.ret v,H)
def Kn(P:aQ)(gl:Gl)(f:FuncId)(xs:aC)(v:V):Prop:=∃k,rY k P gl f xs v
theorem Kn.anR{P:aQ}{gl:Gl}{f:FuncId}{xs:aC}{v:V}(h:gl.hk f xs=some v):Kn P gl f xs v:=⟨1,λn hn H=>by
 obtain⟨n,rfl⟩:∃k,n=k+1:=⟨n - 1,by omega⟩
 obtain⟨bs,es⟩:=H
 simp only[zk,h]⟩
def nU:aB->Bool:=λ_=>false
structure GK(gl:Gl)(fj:bL):Prop where
 no:∀f,fj.any (Nat.beq f)=false->∀args,gl.hk f args=none
 h2:∀f,fj.any (Nat.beq f)=false->∀n args H,gl.eV n f args H=none
 uq:∀t,gl.uq t=false
theorem yM{P:aQ}{gl:Gl}{fj:bL}(hg:GK gl fj){f:FuncId}{fn:Func}{body:Code}{xs:aC}{v:V}(hf:P.funcs[f]?=some fn)(hb:fn.body=some body)(eH:fj.any (Nat.beq f)=false)(ht:v.top=0)(k0:Nat)
  (h:∀n,k0<=n->∀bs,go ⟨P,gl,zk P gl n,nU⟩ n (Fx P fn.results.toList λw H1=>w=v/\∃ls,H1=⟨bs++ls,[]⟩) [.c body] .normal ⟨xs++List.replicate (fn.ntmps - xs.length) (.br []),⟨bs,[]⟩,[],[]⟩):rY (k0+1) P gl f xs v:=by
 intro n hn H;obtain⟨n,rfl⟩:∃k,n=k+1:=⟨n - 1,by omega⟩
 obtain⟨bs,es⟩:=H;obtain⟨w,H1,h0,rfl,ls,rfl⟩:=zJ (bs:=bs) (es:=es) (hg.no f eH xs) (λH=>hg.h2 f eH n xs H) hf hb (by rw[show gl.uq=nU from funext hg.uq];exact h n (by omega) bs)
 rw[h0,ht];exact congrArg (λx=>some (Out.ret _,x)) (zW (dU _))
theorem wh{P:aQ}{gl:Gl}{f:FuncId}{fn:Func}{body:Code}{xs:aC}{v:V}{n:Nat}{uq:aB->Bool}(hf:P.funcs[f]?=some fn)(hb:fn.body=some body)(h:∀H,zk P gl n f xs H=some (.ret v,H))(H:Hp):Cx.bD ⟨P,gl,zk P gl n,uq⟩ f xs H=some (.val v,H):=zq hf hb (h H)
def pV:List (Nat×V)->Nat->V->V
 | [],_,d=>d
 | (k,v)::r,i,d=>bif k == i then v else pV r i d
def sh(j:Nat->V)(ks:List (Nat×V)):Nat->Nat->aC
 | 0,_=>[]
 | n+1,i=>pV ks i (j i)::sh j ks n (i+1)
def Ks(N:Nat)(ks:List (Nat×V))(env:aC):Prop:=∃j,env=sh j ks N 0
theorem fZ{N:Nat}{ks:List (Nat×V)}{l:aC}(h:l=sh (λk=>(nth l k).getD .fE) ks N 0):Ks N ks l:=⟨_,h⟩
theorem Rk{cx:Cx}{n:Nat}{Q:Ex->St->Prop}{k:List It}{c:Code}{BR:aC}{G9:aN}{H:Hp}(N:Nat)(ks:List (Nat×V))(h:go cx n (Qt cx n Q k λs=>∃env,s=⟨env,H,[],[]⟩/\Ks N ks env) [.c c] .normal ⟨BR,H,G9,[]⟩)(h2:∀env,Ks N ks env->go cx n Q k .normal ⟨env,H,[],[]⟩):go cx n Q (.c c::k) .normal ⟨BR,H,G9,[]⟩ :=
 zlM _ h λs' ⟨env,e,hk⟩=>by subst e;exact h2 env hk
theorem zq7{cx:Cx}{n:Nat}{Q:Ex->St->Prop}{k:List It}{a:Code}{s0:St}{t:Bool}{B:Prop}(hB:go cx n Q k .normal s0->B)(H':Hp)(N:Nat)(ks:List (Nat×V))(h1:t=true->go cx n (Qt cx n Q k λs=>∃env,s=⟨env,H',[],[]⟩/\Ks N ks env) [.c a] .normal s0)(h0:t=false->∃env,s0=⟨env,H',[],[]⟩/\Ks N ks env)(h2:∀env,Ks N ks env->go cx n Q k .normal ⟨env,H',[],[]⟩):II (go cx n Q (.c a::k) .normal s0) B (some (.bool t)):=by
 cases t with
 | true=>exact zlM _ (h1 rfl) λs' ⟨env,e,hk⟩=>by subst e;exact h2 env hk
 | false =>
  obtain⟨env,e,hk⟩:=h0 rfl;refine hB ?_;subst e;exact h2 env hk
section
variable{cx:Cx}{all:Array Oper}{takes:cg}{i:Nat}{rs:List Rec}{c0:eD}{cs:List eD}{o:Oper}{os:List Oper}{env:aC}{H:Hp}{df:bP}{r:Option (Ex×St)}
theorem oF(m:Nat)(v:V)(aD:cx.op takes o env H [] df=some (.val v,⟨env,H,[],df⟩))(k:cx.eU all takes (i+1) (jr all takes i o m false true env v::rs) (c0::cs) os ⟨aq env o.dst v,H,[],df⟩=r)
  (hm:wA rs o.after.toList=some m:=by kernel_rfl) (hg:z0 all o env=some true:=by rfl) (h1:q9 cx.P cx.uq takes o=false:=by kernel_rfl) (h2:kV cx.P cx.uq o=false:=by kernel_rfl) (hs:kE (kz (jr all takes i o m false true env v)) rs=true:=by kernel_rfl):cx.eU all takes i rs (c0::cs) (o::os) ⟨env,H,[],df⟩=r:=qy hm hg aD h1 h2 hs k
theorem oL(m:Nat)(v:V)(aD:cx.op takes o env H [] df=some (.val v,⟨env,H,[],df⟩))(hc:∀c∈cs,c.H=H/\c.lk=[]/\c.df=df)(k:cx.eU all takes (i+1) (jr all takes i o m false false env v::rs) (c0::cs) os ⟨aq env o.dst v,H,[],df⟩=r)
  (hm:wA rs o.after.toList=some m:=by kernel_rfl) (hg:z0 all o env=some true:=by rfl) (h1:q9 cx.P cx.uq takes o=false:=by kernel_rfl) (h2:kV cx.P cx.uq o=true:=by kernel_rfl) (hs:kE (kz (jr all takes i o m false false env v)) rs=true:=by kernel_rfl):cx.eU all takes i rs (c0::cs) (o::os) ⟨env,H,[],df⟩=r :=
 kn hm hg aD h1 h2 hs (wc λc h=>by
  obtain⟨D,H1,lk,eF⟩:=c;obtain⟨e1,e2,e3⟩:=hc _ h;simp only at e1 e2 e3;subst e1 e2 e3;split
  ·simp only[Cx.fu,Cx.ej,aD,V.dx]
  ·rfl) k
theorem oH(m D:Nat)(v:V)(aD:cx.op takes o env H [] df=some (.val v,⟨env,H,[],df⟩))(cj:∀c∈cs,vO (Nat.land m (eP rs)) c.D=false)(eu:cx.fR takes rs (eP rs) (jr all takes i o m true false env v) (⟨D,H,[],df⟩::c0::cs) ⟨D,H,[],df⟩=true)(k:cx.eU all takes (i+1) (jr all takes i o m true false env v::rs) (⟨D,H,[],df⟩::c0::cs) os ⟨aq env o.dst v,H,[],df⟩=r)
  (hD:Nat.lor c0.D (Nat.pow 2 i)=D:=by kernel_rfl) (hm:wA rs o.after.toList=some m:=by kernel_rfl) (hg:z0 all o env=some true:=by rfl) (h1:q9 cx.P cx.uq takes o=true:=by kernel_rfl) (h2:kV cx.P cx.uq o=true:=by kernel_rfl) (hs:kE (kz (jr all takes i o m true false env v)) rs=true:=by kernel_rfl):cx.eU all takes i rs (c0::cs) (o::os) ⟨env,H,[],df⟩=r :=
 yp hm hg aD h1 h2 hs (λK=>j9 (by rw[hD]) rfl cj eu) k
end
section
variable{cx:Cx}{all:Array Oper}{takes:cg}{i m:Nat}{rs:List Rec}{c0:eD}{cs cs':List eD}{o:Oper}{os:List Oper}{env cM:aC}{H H1:Hp}{lk eG:aN}{df eF:bP}{v:V}{r:Option (Ex×St)}
theorem zir(hm:wA rs o.after.toList=some m)(hg:z0 all o env=some true)(aD:cx.op takes o env H lk df=some (.val v,⟨cM,H1,eG,eF⟩))(h1:q9 cx.P cx.uq takes o=true)(h2:kV cx.P cx.uq o=false)
  (hs:kE (kz (jr all takes i o m true true env v)) rs=true) (hc:∀K,cx.fS takes rs (jr all takes i o m true true env v) c0 ⟨Nat.lor c0.D (Nat.pow 2 i),H1,eG,eF⟩ cs K=K cs')
  (k:cx.eU all takes (i+1) (jr all takes i o m true true env v::rs) cs' os ⟨aq cM o.dst v,H1,eG,eF⟩=r):cx.eU all takes i rs (c0::cs) (o::os) ⟨env,H,lk,df⟩=r:=by
 have ey:=λK=>hc K;simp only[jr] at hs k ey;simp only[Cx.eU,hm,qA,hg,aD,qm,jN,h1,h2,oN,hs];rw[ey];exact k
theorem zhy{Lm:Nat}{R:Rec}{al:List eD}{c:eD}(h:∀q∈rs,q.hp=true/\bit c.D q.idx=true\/q.hp=false/\(q.free=true\/bit R.m q.idx=true\/cx.fu takes q.o q.env q.v c=true)):cx.fR takes rs Lm R al c=true:=by
 unfold Cx.fR;refine wc λq hq=>?_;split
 ·rfl
 ·rcases h q hq with⟨h1,h2⟩|⟨h1,h2|h2|h2⟩<;>simp[h1,h2]
theorem OI{D:Nat}{s:St}(h:cx.op takes o env H lk df=some (.val v,s)):cx.fu takes o env v ⟨D,H,lk,df⟩=true:=by
 simp only[Cx.fu,Cx.ej,h,V.dx]
end
theorem rY.mono{P:aQ}{gl:Gl}{f:FuncId}{xs:aC}{v:V}{k k':Nat}(h:rY k P gl f xs v)(hk:k<=k'):rY k' P gl f xs v:=λn hn H=>h n (by omega) H
theorem zqH{P:aQ}{gl:Gl}{fj:bL}(hg:GK gl fj){f:FuncId}{fn:Func}{body:Code}{xs:aC}{v:V}{n:Nat}{bs:List aT}{es:aN}(hf:P.funcs[f]?=some fn)(hb:fn.body=some body)(eH:fj.any (Nat.beq f)=false)(ht:v.top=0)
  (h:go ⟨P,gl,zk P gl n,nU⟩ n (Fx P fn.results.toList λw H1=>w=v/\∃ls,H1=⟨bs++ls,[]⟩) [.c body] .normal ⟨xs++List.replicate (fn.ntmps - xs.length) (.br []),⟨bs,[]⟩,[],[]⟩):zk P gl (n+1) f xs ⟨bs,es⟩=some (.ret v,⟨bs,es⟩):=by
 obtain⟨w,H1,h0,rfl,ls,rfl⟩:=zJ (bs:=bs) (es:=es) (hg.no f eH xs) (λH=>hg.h2 f eH n xs H) hf hb (by rw[show gl.uq=nU from funext hg.uq];exact h)
 rw[h0,ht];exact congrArg (λx=>some (Out.ret _,x)) (zW (dU _))
end Go.Vm
namespace Go.Proofs.YthohlnmcjkjeiaaGreatDoor.A2
open Go Go.Vm Go.Vm.Sx
open Go.Proofs.Tryz
set_option maxRecDepth 100000
abbrev cO:=Bool×List Int
abbrev gZ:=Bool×List cO
abbrev Q4:=Int×Int×Int×Int
structure F where
 s:Bool×List Q4
 r:cO
 f:gZ
 n:gZ
def ie(n:Int):V:=.int .i64 n
def iv(p:cO):V:=lv 1 p.1 (p.2.map ie)
def rv(p:gZ):V:=lv 1 p.1 (p.2.map iv)
def qe(q:Q4):V:=.agg [.int .u64 q.1,.int .u64 q.2.1,.int .u64 q.2.2.1,.int .u64 q.2.2.2]
def qv(p:Bool×List Q4):V:=lv 4 p.1 (p.2.map qe)
def fc(f:F):aC:=[qv f.s,iv f.r,rv f.f,rv f.n]
def fv(f:F):V:=.agg (fc f)
theorem gT{α:Type}{h:α->V}(hh:∀a,(h a).top=0):∀(l:List α),aI (l.map h)=0
 | []=>rfl
 | a::l=>by simp[aI,hh a,gT hh l]
theorem mD(p:cO):(iv p).top=0:=by unfold iv;rw[xH];exact gT (λ_=>rfl) _
theorem Au(p:gZ):(rv p).top=0:=by unfold rv;rw[xH];exact gT mD _
theorem zpU(p:Bool×List Q4):(qv p).top=0:=by unfold qv;rw[xH];exact gT (λ_=>rfl) _
theorem zn6(f:F):aI (fc f)=0:=by simp[fc,aI,zpU,mD,Au]
theorem Av(f:F):(fv f).top=0:=zn6 f
def Hq(z:Int):Prop:=-9223372036854775808<=z/\z<=9223372036854775807
def WI(p:cO):Prop:=p.2.length * 8<=reachBytes/\∀z∈p.2,Hq z
def WR(p:gZ):Prop:=p.2.length * 24<=reachBytes/\∀q∈p.2,WI q
structure WF(f:F):Prop where
 s:f.s.2.length * 32<=reachBytes
 r:WI f.r
 fi:WR f.f
 ne:WR f.n
theorem c3:prog.cellsOf 3=1:=by kernel_rfl
theorem Hr:prog.cellsOf 27=1:=by kernel_rfl
theorem Rm:prog.cellsOf 28=1:=by kernel_rfl
theorem ML:prog.cellsOf 30=4:=by kernel_rfl
theorem b3:prog.bytesOf 3=8:=by kernel_rfl
theorem b24:prog.bytesOf 27=24:=by kernel_rfl
theorem mk3(cs:aC):v9 prog 3 cs=cs.headD .ee:=by
 have:y5 prog 3=false:=by kernel_rfl
 simp[v9,this]
theorem zq8(cs:aC):v9 prog 27 cs=cs.headD .ee:=by
 have:y5 prog 27=false:=by kernel_rfl
 simp[v9,this]
theorem mw{α:Type}{h:α->V}{Q:α->Prop}:∀(ys:aC),(∀y∈ys,∃a,h a=y/\Q a)->∃l:List α,l.map h=ys/\∀a∈l,Q a
 | [],_=>⟨[],rfl,λ_ h=>by simp at h⟩
 | y::ys,hy=>by
  obtain⟨a,h1,h2⟩:=hy y (eT ..);obtain⟨l,h3,h4⟩:=mw ys λz hz=>hy z (d_ _ hz);refine⟨a::l,by simp[h1,h3],λb hb=>?_⟩
  rcases dN.1 hb with rfl|hb
  ·exact h2
  ·exact h4 b hb
theorem rJ{n:Nat}{xs:aC}(h:jk prog n 3 xs):∃z,xs=[ie z]/\Hq z:=by
 cases n with
 | zero=>exact h.elim
 | succ n =>
  simp only[jk,underlying3] at h;obtain⟨z,h,hw⟩:=h;refine⟨z,h,?_⟩;have tT:IntKind.i64.min<=z/\z<=IntKind.i64.max:=by simpa[Lit.wf] using hw
  have e1:IntKind.i64.min = -9223372036854775808:=by decide
  have e2:IntKind.i64.max=9223372036854775807:=by decide
  rw[e1,e2] at tT;exact tT
theorem zn7{n:Nat}{xs:aC}(h:jk prog n 27 xs):∃p,xs=[iv p]/\WI p:=by
 cases n with
 | zero=>exact h.elim
 | succ n =>
  simp only[jk,underlying27,c3,b3] at h;rcases h with h|⟨ys,h,⟨_,hb⟩,hy⟩
  ·exact⟨(true,[]),h,by simp[WI]⟩
  ·obtain⟨l,h1,h2⟩:=mw (h:=ie) (Q:=Hq) ys λy Gd=>by
    obtain⟨cs,g1,g2⟩:=hy y Gd;obtain⟨z,g3,g4⟩:=rJ g1;rw[mk3,g3] at g2;exact⟨z,g2.symm,g4⟩
   subst h1;exact⟨(false,l),h,by simpa using hb,h2⟩
theorem I_{n:Nat}{xs:aC}(h:jk prog n 28 xs):∃p,xs=[rv p]/\WR p:=by
 cases n with
 | zero=>exact h.elim
 | succ n =>
  simp only[jk,underlying28,Hr,b24] at h;rcases h with h|⟨ys,h,⟨_,hb⟩,hy⟩
  ·exact⟨(true,[]),h,by simp[WR]⟩
  ·obtain⟨l,h1,h2⟩:=mw (h:=iv) (Q:=WI) ys λy Gd=>by
    obtain⟨cs,g1,g2⟩:=hy y Gd;obtain⟨z,g3,g4⟩:=zn7 g1;rw[zq8,g3] at g2;exact⟨z,g2.symm,g4⟩
   subst h1;exact⟨(false,l),h,by simpa using hb,h2⟩
section
set_option linter.unusedSectionVars false
theorem bH(p:cO):aW (iv p)=iv p:=Qy ..
theorem bM(p:gZ):aW (rv p)=rv p:=Qy ..
theorem eA(p:Bool×List Q4):aW (qv p)=qv p:=Qy ..
theorem fm:reachBytes<=140737488355328:=by decide
variable{gl:Gl}
end
section
set_option linter.unusedSectionVars false
variable{gl:Gl}
def gi(l:List Int)(i:Nat):Int:=l.getD i 0
def gr(l:List (List Int))(i:Nat):List Int:=l.getD i []
def rowsOf(p:gZ):List (List Int):=p.2.map (·.2)
theorem eB(p:gZ):(rowsOf p).length=p.2.length:=by simp[rowsOf]
theorem pq{p:gZ}{i:Nat}{q:cO}(h:p.2[i]?=some q):gr (rowsOf p) i=q.2:=by simp[gr,rowsOf,h]
def nX(l:List Int):Bool:=wM (λk=>!c_ (gi l (l.length - 1 - k)) (gi l (l.length - 1 - k - 1))) (l.length - 1)
end
section
set_option linter.unusedSectionVars false
variable{gl:Gl}
abbrev D:=gZ×cO
def rK(d:D):V:=.agg [rv d.1,iv d.2]
theorem C7(d:D):(rK d).top=0:=by simp[rK,V.top,aI,Au,mD]
structure WD(d:D):Prop where
 n:WR d.1
 l:WI d.2
def uw(n:Nat)(q:List Int)(c:Nat):Bool:=!c_ (gi q c) 0 && !nA (n:Int) (gi q c)
def Ez(rows:List (List Int))(ls:List Int)(n i:Nat):Bool:=((((gr rows i).length:Nat):Int) == 256) && (!c_ (gi ls i) (-1) && (!nA 200 (gi ls i) && wM (uw n (gr rows i)) 256))
def pz(rows:List (List Int))(ls:List Int):Bool :=
 bif ((c_ (rows.length:Int) 1 || c_ 600 (rows.length:Int)) || !((ls.length:Int) == (rows.length:Int))) then false else wM (Ez rows ls rows.length) rows.length
end
section
set_option linter.unusedSectionVars false
variable{gl:Gl}
def Hs(rows:List (List Int)):Int->List Int->Int
 | s,[]=>s
 | s,b::t=>Hs rows (gi (gr rows s.toNat) b.toNat) t
theorem ze1{rows:List (List Int)}{b:Int}:∀{t:List Int}{s:Int},Hs rows s (t++[b])=gi (gr rows (Hs rows s t).toNat) b.toNat
 | [],_s=>rfl
 | _::t,_s=>ze1 (t:=t)
theorem Y9{rows:List (List Int)}{ls:List Int}(h:pz rows ls=true):(1<=rows.length/\rows.length<=600)/\∀i,i<rows.length->(gr rows i).length=256/\∀c,c<256->0<=gi (gr rows i) c/\gi (gr rows i) c<rows.length:=by
 unfold pz at h;cases hh:((c_ (rows.length:Int) 1 || c_ 600 (rows.length:Int)) || !((ls.length:Int) == (rows.length:Int))) with
 | true=>rw[hh] at h;cases h
 | false =>
  rw[hh] at h;simp only[nD] at h;simp only[HN,c_,decide_eq_false_iff_not] at hh;refine⟨by omega,λi hi=>?_⟩
  have uc:=cI.1 h i hi;simp only[Ez,ei] at uc;obtain⟨h1,_,_,h2⟩:=uc;refine⟨by have:=eq_of_beq h1;omega,λc hc=>?_⟩
  have hk:=cI.1 h2 c hc;simp only[uw,ei,EK,c_,nA,decide_eq_false_iff_not] at hk;omega
theorem zjw{rows:List (List Int)}{ls:List Int}(h:pz rows ls=true):∀{t:List Int}{s:Int},(∀b∈t,0<=b/\b<256)->0<=s->s<rows.length->0<=Hs rows s t/\Hs rows s t<rows.length
 | [],s,_,h0,h1=>⟨h0,h1⟩
 | b::t,s,hb,h0,h1=>by
  have uo:=hb b (eT ..);have:=((Y9 h).2 s.toNat (by omega)).2 b.toNat (by omega)
  exact zjw h (t:=t) (λc hc=>hb c (d_ _ hc)) this.1 this.2
def be(b:Int):V:=.int .u8 b
def C8(p:cO):V:=lv 1 p.1 (p.2.map be)
theorem zmn(p:cO):aW (C8 p)=C8 p:=Qy ..
theorem Ge(p:cO):(C8 p).top=0:=by
 rw[C8,xH];exact gT (λ_=>rfl) _
def C9:V:=.ec 396 (.obj 0)
def Gf(d:D)(t:List Int):V:=bif pz (rowsOf d.1) d.2.2 then .br [.int .i64 (Hs (rowsOf d.1) 0 t),.bT] else .br [.int .i64 0,C9]
end
section
set_option linter.unusedSectionVars false
variable{gl:Gl}
end
section
set_option linter.unusedSectionVars false
variable{gl:Gl}
end
section
set_option linter.unusedSectionVars false
variable{gl:Gl}
def A6(n:Nat)(l:List Int)(i:Nat):Bool:=!c_ (gi l i) 0 && (!nA (n:Int) (gi l i) && (i == 0 || !nA (gi l i) (gi l (i - 1))))
end
section
variable{gl:Gl}{fj:bL}
theorem Aw:prog.underlying 27=some (.slice 3):=by kernel_rfl
theorem fo:qC prog 3=some false:=by kernel_rfl
theorem ux:z8 prog 3=some 1:=by kernel_rfl
theorem wy{H:Hp}{p:cO}:qV prog H 27 (iv p)=some (p.2.length:Int):=by
 unfold iv;rcases cJ 1 p.1 (p.2.map ie) with h|⟨h0,h⟩<;>rw[h]
 ·simp[qV]
 ·simp only[List.map_eq_nil_iff] at h0;simp[qV,h0]
theorem Y_{p:cO}{i:Nat}(h:i<p.2.length):zp prog 27 (iv p) (i:Int)=some (.vp [ie p.2[i]]):=by
 have hk:¬((i:Int)<0):=by omega
 have hn:nth (p.2.map ie) i=some (ie p.2[i]):=by rw[zg,gj,fQ h];rfl
 have b_:iv p=.sl 1 (p.2.map ie) .no:=by
  unfold iv;rcases cJ 1 p.1 (p.2.map ie) with h'|⟨h0,_⟩
  ·exact h'
  ·simp only[List.map_eq_nil_iff] at h0;rw[h0] at h;simp at h
 rw[b_];simp[zp,ux,hk,hn,V.cells,ie]
theorem xJ{H:Hp}{g:Nat->Nat->bY}{z:Int}:zl prog H g 3 (.vp [.int .i64 z])=some (.int .i64 z):=by
 simp[zl,qu,fo,nth,wV]
end
section
set_option maxHeartbeats 1000000
variable{gl:Gl}{fj:bL}
theorem Gg:prog.underlying 28=some (.slice 27):=by kernel_rfl
theorem gU:qC prog 28=some false:=by kernel_rfl
theorem iU:zD prog 30 0=some 0/\zD prog 30 1=some 1/\zD prog 30 2=some 2/\zD prog 30 3=some 3:=⟨by kernel_rfl,by kernel_rfl,by kernel_rfl,by kernel_rfl⟩
theorem jZ{H:Hp}{p:gZ}:qV prog H 28 (rv p)=some (p.2.length:Int):=by
 unfold rv;rcases cJ 1 p.1 (p.2.map iv) with h|⟨h0,h⟩<;>rw[h]
 ·simp[qV]
 ·simp only[List.map_eq_nil_iff] at h0;simp[qV,h0]
theorem OJ{bs:List aT}{x:aT}{es:aN}:(⟨bs++[x],es⟩:Hp).get bs.length=some x:=by
 show nth _ _=_;rw[zg,eM (dB _)];simp
theorem Za{bs:List aT}{es:aN}{cs:aC}{ty t:aB}{g:Nat->Nat->bY}{off:Nat}{v:V}(ha:qC prog t=some false)(hn:nth cs off=some v):zl prog ⟨bs++[.cells cs ty],es⟩ g t (.ptr bs.length off)=some v:=zu ha OJ hn
theorem Zb(f:F):dD (fv f)=true:=rfl
theorem UM(f:F):(fv f).laid=fc f:=by simp[fv,V.laid,fc,eA,bH,bM]
theorem OK(f:F)(env:aC)(t:Nat):qE env t (some (fv f))=some (fv f,env):=rfl
theorem Zc(hg:GK gl fj)(eH:fj.any (Nat.beq 72)=false)(f:F)(a:cO)(ha:a.2.length<2 ^ 60):rY (a.2.length+2) prog gl 72 [fv f,iv a] (.bool (wM (A6 f.f.2.length a.2) a.2.length)):=by
 refine yM hg func72 rfl eH rfl (a.2.length+1) λn hn bs=>?_;have gp:zl prog ⟨bs++[.cells (fc f) 30],[]⟩ gl.g 28 (.ptr bs.length 2)=some (rv f.f):=Za gU rfl;simp only[f72,zh];refine rg ?_;simp only[BW,Nat.reduceAdd,List.replicate,OK,qc (Zb f),UM];refine rg ?_;simp only[BW,wy,bH]
 refine qd (λm s=>∃i env,m+i=a.2.length/\s=⟨env,⟨bs++[.cells (fc f) 30],[]⟩,[],[]⟩/\Ks 37 [(1,iv a),(2,.ptr bs.length 0),(7,iv a),(8,.int .i64 (a.2.length:Nat)),(9,.int .i64 (i:Nat))] env/\∀j,j<i->A6 f.f.2.length a.2 j=true) a.2.length (by omega) ⟨0,_,rfl,rfl,fZ rfl,λj hj=>by omega⟩ ?_
 rintro m s ⟨i,env,tU,rfl,⟨j,rfl⟩,dH⟩;simp only[sh,pV,Nat.reduceBEq,Nat.reduceAdd,mh,nD];simp only[zh];refine rg ?_;simp only[BW,qh]
 by_cases hi:i<a.2.length
 ·refine .inl ⟨by simp;omega,?_⟩
  have e:a.2[i]=gi a.2 i:=by simp[gi,hi]
  have sD:=Y_ hi;rw[e] at sD;refine rg ?_;simp only[BW,bH,sD,xJ,ie];refine Rk 37 [(1,iv a),(2,.ptr bs.length 0),(7,iv a),(8,.int .i64 (a.2.length:Nat)),(9,.int .i64 (i:Nat)),(35,.bool (!A6 f.f.2.length a.2 i))] ?_ λenv ⟨j,e⟩=>?_
  ·refine rg ?_
   by_cases c1:gi a.2 i<0
   ·simp only[BW,c1];exact⟨_,rfl,(show(!A6 f.f.2.length a.2 i)=true by simp[A6,c_,c1]) ▸ fZ rfl⟩
   by_cases c2:(f.f.2.length:Int)<=gi a.2 i
   ·simp only[BW,c1,iU,gp,bM,jZ,ge_iff_le,c2];exact⟨_,rfl,(show(!A6 f.f.2.length a.2 i)=true by simp[A6,nA,c2]) ▸ fZ rfl⟩
   rcases JD i with rfl|c3
   ·simp only[BW,c1,iU,gp,bM,jZ,ge_iff_le,c2,gt_iff_lt,show ¬((0:Int)<((0:Nat):Int)) by omega]
    exact⟨_,rfl,(show(!A6 f.f.2.length a.2 0)=false by simp[A6,c_,nA,c1,c2]) ▸ fZ rfl⟩
   have c4:(0:Int)<(i:Int):=by omega
   have l8:IntKind.i64.wrap ((i:Int) - 1)=((i - 1:Nat):Int):=by rw[J_ (by omega) (by omega)];omega
   have Rn:=Y_ (p:=a) (i:=i - 1) (by omega)
   have e2:a.2[i - 1]=gi a.2 (i - 1):=by simp[gi,show i - 1<a.2.length by omega]
   rw[e2] at Rn;have c5:(i == 0)=false:=by simp;omega
   simp only[BW,c1,iU,gp,bM,jZ,ge_iff_le,c2,gt_iff_lt,c4,kj,l8,bH,Rn,xJ,ie];exact⟨_,rfl,(show(!A6 f.f.2.length a.2 i)=decide (gi a.2 i<=gi a.2 (i - 1)) by simp[A6,c_,nA,c1,c2,c5]) ▸ fZ rfl⟩
  ·subst e;simp only[sh,pV,Nat.reduceBEq,Nat.reduceAdd,mh,nD]
   by_cases ho:A6 f.f.2.length a.2 i=true
   ·simp only[BW,ho];refine rg ?_;simp only[BW,zQ (show i<2 ^ 60 by omega)]
    exact⟨m - 1,by omega,i+1,_,by omega,rfl,fZ rfl,λj hj=>by
     rcases eI j i with h|h
     ·exact dH j h
     ·obtain rfl:j=i:=by omega
      exact ho⟩
   ·have ho:A6 f.f.2.length a.2 i=false:=by simpa using ho
    simp only[BW,ho];refine rg ?_;simp only[BW];have hb:wM (A6 f.f.2.length a.2) a.2.length=false:=by
     rw[<- JG,cI];exact λh=>by rw[h i hi] at ho;cases ho
    exact fY (v:=.bool false) rfl ⟨by rw[hb],_,rfl⟩
 ·obtain rfl:i=a.2.length:=by omega
  refine .inr ⟨by simp,?_⟩
  refine rg ?_;simp only[BW];have hb:wM (A6 f.f.2.length a.2) a.2.length=true:=cI.2 dH;exact fY (v:=.bool true) rfl ⟨by rw[hb],_,rfl⟩
end
section
variable{gl:Gl}{fj:bL}
theorem oz:qC prog 9=some false:=by kernel_rfl
theorem dX:qC prog 51=some false:=by kernel_rfl
theorem Ro:qC prog 50=some true:=by kernel_rfl
theorem BS:qC prog 53=some true:=by kernel_rfl
theorem Rp:z8 prog 50=some 4:=by kernel_rfl
theorem uU:z8 prog 53=some 10:=by kernel_rfl
theorem Rq:prog.underlying 51=some (.slice 53):=by kernel_rfl
theorem dQ:zD prog 53 0=some 0/\zD prog 53 1=some 1/\zD prog 53 2=some 2/\zD prog 53 3=some 6/\zD prog 53 4=some 7/\zD prog 53 5=some 8/\zD prog 53 6=some 9:=⟨by kernel_rfl,by kernel_rfl,by kernel_rfl,by kernel_rfl,by kernel_rfl,by kernel_rfl,by kernel_rfl⟩
theorem fq{bs:List aT}{es:aN}{cs:aC}{ty t:aB}{g:Nat->Nat->bY}{off:Nat}(ha:qC prog t=some false):zl prog ⟨bs++[.cells cs ty],es⟩ g t (.ptr bs.length off)=nth cs off:=by
 cases h:nth cs off with
 | some v=>exact Za ha h
 | none=>simp[zl,qu,ha,OJ,h,wV]
theorem Co{bs:List aT}{es:aN}{a0 a1 a2 a3 a4 a5 a6 a7 a8 a9:V}{g:Nat->Nat->bY}:zl prog ⟨bs++[.cells [a0,a1,a2,a3,a4,a5,a6,a7,a8,a9] 53],es⟩ g 50 (.ptr bs.length 2)=some (.agg [a2,a3,a4,a5]):=je Ro Rp OJ (by simp)
theorem Cp{env:aC}:kB prog 50 #[] env=some (.agg [.int .u64 0,.int .u64 0,.int .u64 0,.int .u64 0]):=by kernel_rfl
theorem yc{x y:aX}{a b c d:Int}:qO prog .eql 50 x y (some (.agg [.int .u64 a,.int .u64 b,.int .u64 c,.int .u64 d])) (some (.agg [.int .u64 0,.int .u64 0,.int .u64 0,.int .u64 0]))=some (.bool (a == 0 && (b == 0 && (c == 0 && d == 0)))):=by
 have h1:prog.underlying 50=some (.array 4 48):=by kernel_rfl
 have h2:prog.underlying 48=some (.int .u64):=by kernel_rfl
 have h3:z8 prog 48=some 1:=by kernel_rfl
 have h4:prog.eqGuardType prog.depth 50=false:=by kernel_rfl
 have h5:qC prog 48=some false:=by kernel_rfl
 by_cases ha:a=0<;>by_cases hb:b=0<;>by_cases hc:c=0<;>by_cases hd:d=0<;>simp[qO,jv,v8,w9,Bf,h1,h2,h3,h4,h5,NP,Lf,qu,nth,wV,ha,hb,hc,hd]
theorem Kr(e:E):dD (enc e)=true:=by rw[qz];rfl
theorem yj(e:E):(enc e).laid=aL e:=by rw[qz];simp only[V.laid,z7]
theorem MN(e:E)(env:aC)(t:Nat):qE env t (some (enc e))=some (enc e,env):=by rw[qz];rfl
theorem qp{H:Hp}{nl:Bool}{l:List E}:qV prog H 51 (yi nl (fy l))=some (l.length:Int):=by
 rcases vG nl (fy l) with h|⟨h0,h⟩<;>rw[h]
 ·simp[qV,fO]
 ·have:l.length=0:=by rw[<- fO,h0];rfl
  simp[qV,this]
theorem Cq{P:aQ}{t:aB}{x y:aX}{a b:bL}:qO P .eql t x y (some (.str a)) (some (.str b))=some (.bool (om a b)):=by
 simp[qO,jv,v8,w9,Ph]
theorem zq9(hg:GK gl fj)(eH:fj.any (Nat.beq 86)=false)(e:E):rY 2 prog gl 86 [enc e] (.bool (mO e)):=by
 refine yM hg func86 rfl eH rfl 1 λn hn bs=>?_;simp only[f86,zh];refine rg ?_;simp only[BW,List.replicate,MN,qc (Kr e),yj];refine rg ?_;obtain⟨op,pl,s0,s1,s2,s3,text,mn,mx,nl,args⟩:=e;cases h1:op == 0 with
 | false =>
  simp only[BW,dQ,fq fo,aL,h1];exact fY rfl ⟨by simp only[mO,h1];rfl,_,rfl⟩
 | true =>
 cases h2:pl == 0 with
 | false =>
  simp only[BW,dQ,fq fo,aL,h1,h2];exact fY rfl ⟨by simp only[mO,h1,h2];rfl,_,rfl⟩
 | true =>
 cases h3:s0 == 0 && (s1 == 0 && (s2 == 0 && s3 == 0)) with
 | false =>
  simp only[BW,dQ,fq fo,Co,Cp,yc,aL,h1,h2,h3];exact fY rfl ⟨by simp only[mO,h1,h2,h3];rfl,_,rfl⟩
 | true =>
 cases h4:om text [] with
 | false =>
  simp only[BW,dQ,fq fo,fq oz,Co,Cp,yc,Cq,aL,h1,h2,h3,h4];exact fY rfl ⟨by simp only[mO,h1,h2,h3,h4];rfl,_,rfl⟩
 | true =>
 cases h5:mn == 0 with
 | false =>
  simp only[BW,dQ,fq fo,fq oz,Co,Cp,yc,Cq,aL,h1,h2,h3,h4,h5];exact fY rfl ⟨by simp only[mO,h1,h2,h3,h4,h5];rfl,_,rfl⟩
 | true =>
 cases h6:mx == 0 with
 | false =>
  simp only[BW,dQ,fq fo,fq oz,Co,Cp,yc,Cq,aL,h1,h2,h3,h4,h5,h6];exact fY rfl ⟨by simp only[mO,h1,h2,h3,h4,h5,h6];rfl,_,rfl⟩
 | true =>
  simp only[BW,dQ,fq fo,fq oz,fq dX,Co,Cp,yc,Cq,aL,z4,qp,h1,h2,h3,h4,h5,h6];exact fY rfl ⟨by simp only[mO,h1,h2,h3,h4,h5,h6,tE],_,rfl⟩
theorem zqI(hg:GK gl fj)(eH:fj.any (Nat.beq 153)=false)(e:E):rY 2 prog gl 153 [enc e] (.bool (lM e)):=by
 refine yM hg func153 rfl eH rfl 1 λn hn bs=>?_;simp only[f153,zh];refine rg ?_;simp only[BW,List.replicate,MN,qc (Kr e),yj];refine rg ?_;obtain⟨op,pl,s0,s1,s2,s3,text,mn,mx,nl,args⟩:=e;cases h1:pl == 0 with
 | false =>
  simp only[BW,dQ,fq fo,aL,h1];exact fY rfl ⟨by simp only[lM,h1];rfl,_,rfl⟩
 | true =>
 cases h2:om text [] with
 | false =>
  simp only[BW,dQ,fq fo,fq oz,Cq,aL,h1,h2];exact fY rfl ⟨by simp only[lM,h1,h2];rfl,_,rfl⟩
 | true =>
 have key:∀b:Bool,((op == 2) || (s0 == 0 && (s1 == 0 && (s2 == 0 && s3 == 0))))=b->lM (.mk op pl s0 s1 s2 s3 text mn mx nl args)=(b && (op == 7 || (mn == 0 && mx == 0))):=λb hb=>by simp only[lM,h1,h2,hb,tE]
 cases h3:op == 2 with
 | true =>
  have k1:=key true (by rw[h3];rfl)
  cases h4:op == 7 with
  | true =>
   simp only[BW,dQ,fq fo,fq oz,Cq,aL,h1,h2,h3,h4];exact fY rfl ⟨by rw[k1,h4];rfl,_,rfl⟩
  | false =>
  cases h5:mn == 0 with
  | false =>
   simp only[BW,dQ,fq fo,fq oz,Cq,aL,h1,h2,h3,h4,h5];exact fY rfl ⟨by rw[k1,h4,h5];rfl,_,rfl⟩
  | true =>
   simp only[BW,dQ,fq fo,fq oz,Cq,aL,h1,h2,h3,h4,h5];exact fY rfl ⟨by rw[k1,h4,h5];rfl,_,rfl⟩
 | false =>
 cases h6:s0 == 0 && (s1 == 0 && (s2 == 0 && s3 == 0)) with
 | false =>
  have k1:=key false (by rw[h3,h6];rfl)
  simp only[BW,dQ,fq fo,fq oz,Co,Cp,yc,Cq,aL,h1,h2,h3,h6];exact fY rfl ⟨by rw[k1];rfl,_,rfl⟩
 | true =>
  have k1:=key true (by rw[h3,h6];rfl)
  cases h4:op == 7 with
  | true =>
   simp only[BW,dQ,fq fo,fq oz,Co,Cp,yc,Cq,aL,h1,h2,h3,h4,h6];exact fY rfl ⟨by rw[k1,h4];rfl,_,rfl⟩
  | false =>
  cases h5:mn == 0 with
  | false =>
   simp only[BW,dQ,fq fo,fq oz,Co,Cp,yc,Cq,aL,h1,h2,h3,h4,h5,h6];exact fY rfl ⟨by rw[k1,h4,h5];rfl,_,rfl⟩
  | true =>
   simp only[BW,dQ,fq fo,fq oz,Co,Cp,yc,Cq,aL,h1,h2,h3,h4,h5,h6];exact fY rfl ⟨by rw[k1,h4,h5];rfl,_,rfl⟩
theorem zqJ(hg:GK gl fj)(eH:fj.any (Nat.beq 154)=false)(e:E):rY 2 prog gl 154 [enc e] (.bool (gh e)):=by
 refine yM hg func154 rfl eH rfl 1 λn hn bs=>?_;simp only[f154,zh];refine rg ?_;simp only[BW,List.replicate,MN,qc (Kr e),yj];refine rg ?_;obtain⟨op,pl,s0,s1,s2,s3,text,mn,mx,nl,args⟩:=e;simp only[BW,dQ,fq fo,aL];refine rg ?_;cases h1:op == 1 with
 | true =>
  simp only[BW,h1];refine rg ?_;simp only[BW,dQ,fq dX,z4,qp];exact fY rfl ⟨by simp only[gh,h1];rfl,_,rfl⟩
 | false =>
 simp only[BW,h1];refine rg ?_;cases h2:op == 2 with
 | true =>
  simp only[BW,h2];refine rg ?_;simp only[BW,dQ,fq dX,z4,qp];exact fY rfl ⟨by simp only[gh,h1,h2];rfl,_,rfl⟩
 | false =>
 simp only[BW,h2];refine rg ?_;cases h5:op == 5 with
 | true =>
  simp only[BW,h5];refine rg ?_;simp only[BW,dQ,fq dX,z4,qp];exact fY rfl ⟨by simp only[gh,h1,h2,h5];rfl,_,rfl⟩
 | false =>
 simp only[BW,h5];refine rg ?_;cases h6:op == 6 with
 | true =>
  simp only[BW,h6];refine rg ?_;simp only[BW,dQ,fq dX,z4,qp];exact fY rfl ⟨by simp only[gh,h1,h2,h5,h6];rfl,_,rfl⟩
 | false =>
 simp only[BW,h6];refine rg ?_;cases h7:op == 7 with
 | false =>
  simp only[BW,h7];refine rg ?_;simp only[BW];exact fY rfl ⟨by simp only[gh,h1,h2,h5,h6,h7];rfl,_,rfl⟩
 | true =>
 simp only[BW,h7];refine rg ?_;have hk:gh (.mk op pl s0 s1 s2 s3 text mn mx nl args)=((args.length:Int) == 1 && ((mn == 0 && mx == -1 || mn == 1 && mx == -1) || mn == 0 && mx == 1)):=by simp only[gh,h1,h2,h5,h6,h7];rfl
 rw[hk];cases a1:(args.length:Int) == 1 with
 | false =>
  simp only[BW,dQ,fq dX,z4,qp,a1];exact fY rfl ⟨rfl,_,rfl⟩
 | true =>
 cases a2:mn == 0 with
 | true =>
  have a4:(mn == 1)=false:=by rw[eq_of_beq a2];rfl
  cases a3:mx == -1 with
  | true =>
   simp only[BW,dQ,fq fo,fq dX,z4,qp,a1,a2,a3];exact fY rfl ⟨rfl,_,rfl⟩
  | false =>
   simp only[BW,dQ,fq fo,fq dX,z4,qp,a1,a2,a3,a4];exact fY rfl ⟨rfl,_,rfl⟩
 | false =>
 cases a4:mn == 1 with
 | true =>
  cases a3:mx == -1 with
  | true =>
   simp only[BW,dQ,fq fo,fq dX,z4,qp,a1,a2,a3,a4];exact fY rfl ⟨rfl,_,rfl⟩
  | false =>
   simp only[BW,dQ,fq fo,fq dX,z4,qp,a1,a2,a3,a4];exact fY rfl ⟨rfl,_,rfl⟩
 | false =>
  simp only[BW,dQ,fq fo,fq dX,z4,qp,a1,a2,a4];exact fY rfl ⟨rfl,_,rfl⟩
end
section
variable{gl:Gl}{fj:bL}
def ci(z:Int):aT:=.cells [.int .i64 z] 3
def two(bs:List aT)(b1 b2:Nat)(n s:Int):List aT:=(bs.set b1 (ci n)).set b2 (ci s)
section
variable{bs ls:List aT}{b1 b2:Nat}{n s z:Int}{es:aN}{g:Nat->Nat->bY}{env:aC}{df:bP}{cs:aC}{ty t:aB}{off:Nat}{e:E}
theorem kR:(two bs b1 b2 n s).length=bs.length:=by simp[two]
theorem zjx(h1:b1<bs.length)(h2:b2<bs.length):two (bs++ls) b1 b2 n s=two bs b1 b2 n s++ls:=by
 unfold two;rw[GO _ _ h1,GO _ _ (by simpa using h2)]
theorem OL(h1:b1<bs.length)(h:b1≠b2):zl prog ⟨two bs b1 b2 n s++ls,es⟩ g 3 (.ptr b1 0)=some (.int .i64 n) :=
 zu (cs:=[.int .i64 n]) (ty:=3) fo (by show nth _ _=_;rw[zg,fI (by rw[kR];exact h1),two,su (Ne.symm h),Ct h1];rfl) rfl
theorem zjy(h2:b2<bs.length):zl prog ⟨two bs b1 b2 n s++ls,es⟩ g 3 (.ptr b2 0)=some (.int .i64 s) :=
 zu (cs:=[.int .i64 s]) (ty:=3) fo (by show nth _ _=_;rw[zg,fI (by rw[kR];exact h2),two,Ct (by simpa using h2)];rfl) rfl
theorem zjz(h1:b1<bs.length)(h:b1≠b2):qo prog 3 ⟨two bs b1 b2 n s++ls,es⟩ [] df (some (.int .i64 z,env)) (some (.ptr b1 0))=some (.skip,⟨env,⟨two bs b1 b2 z s++ls,es⟩,[],df⟩):=by
 rw[zA (cs:=[.int .i64 n]) (ty:=3) ux (by show nth _ _=_;rw[zg,fI (by rw[kR];exact h1),two,su (Ne.symm h),Ct h1];rfl) rfl rfl (by simp) (wk rfl (by simp)),jT (dU _)]
 simp only[Hp.set];rw[GO _ _ (by rw[kR];exact h1)]
 simp only[two];rw[List.set_comm _ _ (Ne.symm h),List.set_set];rfl
theorem zjA(h2:b2<bs.length):qo prog 3 ⟨two bs b1 b2 n s++ls,es⟩ [] df (some (.int .i64 z,env)) (some (.ptr b2 0))=some (.skip,⟨env,⟨two bs b1 b2 n z++ls,es⟩,[],df⟩):=by
 rw[zA (cs:=[.int .i64 s]) (ty:=3) ux (by show nth _ _=_;rw[zg,fI (by rw[kR];exact h2),two,Ct (by simpa using h2)];rfl) rfl rfl (by simp) (wk rfl (by simp)),jT (dU _)]
 simp only[Hp.set];rw[GO _ _ (by rw[kR];exact h2)]
 simp only[two,List.set_set];rfl
theorem zjB(ha:qC prog t=some false):zl prog ⟨two bs b1 b2 n s++(.cells cs ty::ls),es⟩ g t (.ptr bs.length off)=nth cs off:=by
 have hg:(⟨two bs b1 b2 n s++(.cells cs ty::ls),es⟩:Hp).get bs.length=some (.cells cs ty):=by
  show nth _ _=_;rw[zg,eM (by rw[kR];exact dB _),kR];simp
 cases h:nth cs off with
 | some v=>exact zu ha hg h
 | none=>simp[zl,qu,ha,hg,h,wV]
theorem Ax:zl prog ⟨two bs b1 b2 n s++(.cells (aL e) 53::ls),es⟩ g 53 (.ptr bs.length 0)=some (enc e):=by
 rw[je BS uU (cs:=aL e) (ty:=53) (by
  show nth _ _=_
  rw[zg,eM (by rw[kR];exact dB _),kR];simp) (by rw[z6];omega),qz,iW,rM (by rw[z6];omega)]
theorem zn8{l:aC}(hl:l.length=10)(hu:l.all (λc=>!(locked c))=true):qo prog 53 ⟨two bs b1 b2 n s++(ls++[.cells l 53]),es⟩ [] df (some (.agg (aL e),env)) (some (.ptr (bs.length+ls.length) 0))=some (.skip,⟨env,⟨two bs b1 b2 n s++(ls++[.cells (aL e) 53]),es⟩,[],df⟩):=by
 have h:=Ms (P:=prog) (t:=53) (n:=10) (B:=two bs b1 b2 n s) (ls:=ls++[.cells l 53]) (k:=ls.length) (off:=0) (cs:=l) (ty:=53) (v:=enc e) (env:=env) (lk:=[]) (df:=df) (es:=es) uU (by rw[zg];simp) (Kr e) (by rw[yj,z6]) (by omega) hu (Ao e)
 rw[kR] at h;rw[<- qz,h,yj,w7 (by rw[z6,hl])]
 simp
theorem DJ:zl prog ⟨two bs b1 b2 n s++(ls++[.cells (aL e) 53]),es⟩ g 53 (.ptr (bs.length+ls.length) 0)=some (.agg (aL e)):=by
 have h:=Yo (P:=prog) (t:=53) (n:=10) (B:=two bs b1 b2 n s) (ls:=ls++[.cells (aL e) 53]) (k:=ls.length) (off:=0) (cs:=aL e) (ty:=53) (es:=es) (g:=g) BS uU (by rw[zg];simp) (by rw[z6];omega)
 rw[kR] at h;rw[h,iW,rM (by rw[z6];omega)]
end
def zE:aC:=[.int .i64 0,.int .i64 0,.int .u64 0,.int .u64 0,.int .u64 0,.int .u64 0,.str [],.int .i64 0,.int .i64 0,.aG]
theorem Zd:qP prog 53=some (.agg zE):=by kernel_rfl
theorem zo1(hG:GK gl fj)(eH:[122,153,154].all (λf=>!fj.any (Nat.beq f))=true):∀(e:E),Wf e->∀(d n s:Int)(N:Nat),hg e+3<=N->∀(bs:List aT)(es:aN)(b1 b2:Nat),b1<bs.length->b2<bs.length->b1≠b2 ->
  zk prog gl N 122 [enc e,.int .i64 d,.ptr b1 0,.ptr b2 0] ⟨two bs b1 b2 n s,es⟩=some (.ret (.bool (cR e d n s).1),⟨two bs b1 b2 (cR e d n s).2.1 (cR e d n s).2.2,es⟩)
 | .mk op pl s0 s1 s2 s3 text mn mx nl args,hw=>by
  intro d n s N hN bs es b1 b2 h1 h2 Kt;have Ci:=rG;have hlen:=hw.2.1;simp only[List.all_cons,List.all_nil,Lc,ei,EK] at eH;obtain⟨Ze,no2,no3⟩:=eH;simp only[hg] at hN;obtain⟨N,rfl⟩:∃k,N=k+1:=⟨N - 1,by omega⟩
  have fM:∀a,a∈args->∀(d n s:Int)(bs:List aT)(es:aN),b1<bs.length->b2<bs.length ->
    zk prog gl N 122 [enc a,.int .i64 d,.ptr b1 0,.ptr b2 0] ⟨two bs b1 b2 n s,es⟩=some (.ret (.bool (cR a d n s).1),⟨two bs b1 b2 (cR a d n s).2.1 (cR a d n s).2.2,es⟩):=λa ha d n s bs es k1 k2 =>
   zo1 hG (by simp[Ze,no2,no3]) a (hw.2.2.mem ha) d n s N (by have:=QB ha;omega) bs es b1 b2 k1 k2 Kt
  generalize he:E.mk op pl s0 s1 s2 s3 text mn mx nl args=e at hw ⊢
  suffices bK:(go ⟨prog,gl,zk prog gl N,nU⟩ N (Fx prog f122.results.toList λw H1=>w=.bool (cR e d n s).1/\∃ls,H1=⟨two bs b1 b2 (cR e d n s).2.1 (cR e d n s).2.2++ls,[]⟩) [.c (f122.body.getD .skip)] .normal ⟨[enc e,.int .i64 d,.ptr b1 0,.ptr b2 0]++List.replicate 53 (.br []),⟨two bs b1 b2 n s,[]⟩,[],[]⟩) by
   obtain⟨w,H1,h0,rfl,ls,rfl⟩:=zJ (es:=es) (hG.no 122 Ze _) (λH=>hG.h2 122 Ze _ _ H) func122 rfl (by rw[show gl.uq=nU from funext hG.uq];exact bK)
   rw[h0];have:=zW (bs:=two bs b1 b2 (cR e d n s).2.1 (cR e d n s).2.2) (ls:=ls) (es:=es) (t:=0) (dU _);rw[kR] at this;rw[kR];exact congrArg (λx=>some (Out.ret _,x)) this
  have Gi:∀H,Cx.bD ⟨prog,gl.g,zk prog gl N,nU⟩ 153 [enc e] H=some (.val (.bool (lM e)),H):=wh func153 rfl (zqI hG no2 e N (by omega))
  have Ja:∀H,Cx.bD ⟨prog,gl.g,zk prog gl N,nU⟩ 154 [enc e] H=some (.val (.bool (gh e)),H):=wh func154 rfl (zqJ hG no3 e N (by omega))
  simp only[f122,ga,zh];refine rg ?_;simp only[BW,List.replicate,MN,qc (Kr e),yj,kR];refine rg ?_;simp only[BW,OL h1 Kt,zjz h1 Kt,jO];generalize Hg:IntKind.i64.wrap (n+1)=n1;refine rg ?_
  have Zf:∀b,((c_ 65536 n1 || c_ 4096 d) || (!lM e || !gh e))=b->(b=true->cR e d n s=(false,n1,s))/\(b=false->cR e d n s=iO (IntKind.i64.wrap (d+1)) args n1 (if op == 2 then IntKind.i64.wrap (s+1) else s)):=by
   intro b hb;subst he;simp only[cR,Hg];cases k1:(c_ 65536 n1 || c_ 4096 d) with
   | true=>rw[k1] at hb;subst hb;simp
   | false =>
   rw[k1] at hb;cases k2:lM (.mk op pl s0 s1 s2 s3 text mn mx nl args) with
   | false=>rw[k2] at hb;subst hb;simp
   | true =>
   rw[k2] at hb;cases k3:gh (.mk op pl s0 s1 s2 s3 text mn mx nl args) with
   | false=>rw[k3] at hb;subst hb;simp
   | true=>rw[k3] at hb;subst hb;simp
  have iP:((c_ 65536 n1 || c_ 4096 d) || (!lM e || !gh e))=true->cR e d n s=(false,n1,s):=λh=>(Zf true h).1 rfl
  by_cases c1:65536<n1
  ·rw[iP (by simp[c_,c1])]
   simp only[BW,OL h1 Kt,gt_iff_lt,c1];refine rg ?_;simp only[BW];exact fY rfl ⟨rfl,_,rfl⟩
  by_cases c2:4096<d
  ·rw[iP (by simp[c_,c2])]
   simp only[BW,OL h1 Kt,gt_iff_lt,c1,c2];refine rg ?_;simp only[BW];exact fY rfl ⟨rfl,_,rfl⟩
  cases c3:lM e with
  | false =>
   rw[iP (by simp[c3])]
   rw[c3] at Gi;simp only[BW,OL h1 Kt,gt_iff_lt,c1,c2,Ax,Om,Gi,iI];refine rg ?_;simp only[BW];exact fY rfl ⟨rfl,_,rfl⟩
  | true =>
  rw[c3] at Gi;cases c4:gh e with
  | false =>
   rw[iP (by simp[c4])]
   rw[c4] at Ja;simp only[BW,OL h1 Kt,gt_iff_lt,c1,c2,Ax,Om,Gi,Ja,iI];refine rg ?_;simp only[BW];exact fY rfl ⟨rfl,_,rfl⟩
  | true =>
  rw[c4] at Ja;rw[(Zf false (by simp[c_,c1,c2,c3,c4])).2 rfl]
  clear iP Zf;have e0:nth (aL e) 0=some (.int .i64 op):=by rw[<- he];rfl
  have e9:nth (aL e) 9=some (yi nl (fy args)):=by rw[<- he];rfl
  simp only[BW,OL h1 Kt,gt_iff_lt,c1,c2,Ax,Om,Gi,Ja,iI];refine rg ?_;simp only[BW,dQ,zjB fo,e0];generalize Bm:(if op == 2 then IntKind.i64.wrap (s+1) else s)=s1
  refine zq7 (λh=>by simpa only[zh] using h) ⟨two bs b1 b2 n1 s1++[.cells (aL e) 53],[]⟩ 57 [(1,.int .i64 d),(2,.ptr b1 0),(3,.ptr b2 0),(4,.ptr bs.length 0)] (λaD=>?_) (λaD=>?_) λenv ⟨j,e⟩=>?_
  ·rw[aD] at Bm;subst Bm;refine rg ?_;simp only[BW,zjy h2,zjA h2,jO];exact⟨_,rfl,fZ rfl⟩
  ·rw[aD] at Bm;subst Bm;exact⟨_,rfl,fZ rfl⟩
  subst e;simp only[sh,pV,Nat.reduceBEq,Nat.reduceAdd,mh,nD];simp only[zh];refine rg ?_;simp only[BW,dQ,zjB dX,e9,z4,qp];generalize hR:iO (IntKind.i64.wrap (d+1)) args n1 s1=R
  refine qd (λm st=>∃i env n' s' ls,m+i=args.length/\st=⟨env,⟨two bs b1 b2 n' s'++ls,[]⟩,[],[]⟩/\Ks 57 [(1,.int .i64 d),(2,.ptr b1 0),(3,.ptr b2 0),(43,yi nl (fy args)),(44,.int .i64 (args.length:Nat)),(45,.int .i64 (i:Nat))] env/\iO (IntKind.i64.wrap (d+1)) (args.drop i) n' s'=R) args.length (by omega) ⟨0,_,_,_,_,rfl,rfl,fZ rfl,hR⟩ ?_
  rintro m st ⟨i,env,n',s',ls,tU,rfl,⟨j,rfl⟩,o8⟩;simp only[sh,pV,Nat.reduceBEq,Nat.reduceAdd,mh,nD];simp only[zh];refine rg ?_;simp only[BW,qh]
  by_cases hi:i<args.length
  ·refine .inl ⟨by simp;omega,?_⟩
   obtain⟨a,ha⟩:∃a,args[i]?=some a:=⟨args[i],by simp[hi]⟩
   have e_:args.drop i=a::args.drop (i+1):=by
    rw[E7 hi];rw[fQ hi] at ha;cases ha;rfl
   refine rg ?_;simp only[BW,z4,YO ha,Ra,Zd,zL (show dD (.agg zE)=true from rfl),V.cells,kR,zn8 (l:=zE) rfl rfl];refine rg ?_;have dz:=fM a (m8 ha) (IntKind.i64.wrap (d+1)) n' s' (bs++(ls++[.cells (aL a) 53])) [] (by simp;omega) (by simp;omega)
   rw[zjx h1 h2,zjx h1 h2,qz] at dz;rw[e_] at o8;simp only[iO] at o8;generalize cR a (IntKind.i64.wrap (d+1)) n' s'=r at dz o8;obtain⟨r1,r2,r3⟩:=r
   have hc:Cx.bD ⟨prog,gl.g,zk prog gl N,nU⟩ 122 [.agg (aL a),.int .i64 (IntKind.i64.wrap (d+1)),.ptr b1 0,.ptr b2 0] ⟨two bs b1 b2 n' s'++(ls++[.cells (aL a) 53]),[]⟩=some (.val (.bool r1),⟨two bs b1 b2 r2 r3++(ls++[.cells (aL a) 53]),[]⟩):=zq func122 rfl dz;cases r1 with
   | false =>
    simp only[BW,DJ,jO,hc,iI];refine rg ?_;simp only[BW];simp only[f_,bz] at o8;subst o8;exact fY rfl ⟨rfl,_,rfl⟩
   | true =>
    simp only[BW,DJ,jO,hc,iI];refine rg ?_;simp only[aF] at o8;have h4:=XV (i:=i) (by omega)
    simp only[BW,jO,h4];exact⟨m - 1,by omega,i+1,_,_,_,_,by omega,rfl,fZ rfl,o8⟩
  ·obtain rfl:i=args.length:=by omega
   refine .inr ⟨by simp,?_⟩
   rw[List.drop_length] at o8;simp only[iO] at o8;subst o8;refine rg ?_;simp only[BW];exact fY rfl ⟨rfl,_,rfl⟩
termination_by e=>hg e
decreasing_by simp only[hg];have:=QB ha;omega
end
section
variable{gl:Gl}{fj:bL}
section
variable{bs:List aT}{x:aT}{n s z:Int}{es:aN}{g:Nat->Nat->bY}{env:aC}{df:bP}
theorem MO{y w:aT}:two (bs++[x,y,w]) (bs.length+1) (bs.length+2) n s=bs++[x,ci n,ci s]:=by
 unfold two;rw[tW _ _ (by omega),tW _ _ (by omega),show bs.length+1 - bs.length=1 by omega,show bs.length+2 - bs.length=2 by omega]
 rfl
theorem Rr:qo prog 3 ⟨bs++[x,ci n,ci s],es⟩ [] df (some (.int .i64 z,env)) (some (.ptr (bs.length+1) 0))=some (.skip,⟨env,⟨bs++[x,ci z,ci s],es⟩,[],df⟩):=by
 have:=zjz (bs:=bs++[x,ci n,ci s]) (ls:=[]) (b1:=bs.length+1) (b2:=bs.length+2) (n:=n) (s:=s) (z:=z) (es:=es) (env:=env) (df:=df) (by simp) (by omega)
 rwa [MO,MO,mT,mT] at this
theorem Rs:qo prog 3 ⟨bs++[x,ci n,ci s],es⟩ [] df (some (.int .i64 z,env)) (some (.ptr (bs.length+2) 0))=some (.skip,⟨env,⟨bs++[x,ci n,ci z],es⟩,[],df⟩):=by
 have:=zjA (bs:=bs++[x,ci n,ci s]) (ls:=[]) (b1:=bs.length+1) (b2:=bs.length+2) (n:=n) (s:=s) (z:=z) (es:=es) (env:=env) (df:=df) (by simp)
 rwa [MO,MO,mT,mT] at this
theorem Rt:zl prog ⟨bs++[x,ci n,ci s],es⟩ g 3 (.ptr (bs.length+2) 0)=some (.int .i64 s):=by
 have:=zjy (bs:=bs++[x,ci n,ci s]) (ls:=[]) (b1:=bs.length+1) (b2:=bs.length+2) (n:=n) (s:=s) (es:=es) (g:=g) (by simp)
 rwa [MO,mT] at this
theorem Zg{e:E}{ls:List aT}:zl prog ⟨bs++(.cells (aL e) 53::ls),es⟩ g 53 (.ptr bs.length 0)=some (enc e):=by
 rw[je BS uU (cs:=aL e) (ty:=53) (by
  show nth _ _=_
  rw[zg,eM (dB _)];simp) (by rw[z6];omega),qz,iW,rM (by rw[z6];omega)]
end
theorem Zh:qP prog 3=some (.int .i64 0):=by kernel_rfl
theorem zo2{z:Int}:aT.cells [.int .i64 z] 3=ci z:=rfl
def C_:bY->bY->bY
 | some (.int k a),some (.int _ b)=>some (.int k (if b<a then b else a))
 | _,_=>none
theorem Zi{cx:Cx}{takes:cg}{dst:fJ}{type:aB}{pos:String}{after:Array Edge}{guard:oP}{env:aC}{H:Hp}{lk:aN}{df:bP}{x y:aX}{ts:Array aB} :
  cx.op takes ⟨dst,.call ⟨.builtin .min,#[x,y],ts⟩,type,pos,after,guard⟩ env H lk df=iF env H lk df (C_ (ak env x) (ak env y)):=by
 simp only[Cx.op,Cx.builtin];cases hx:ak env x with
 | none=>cases ak env y<;>simp[C_,iF]
 | some a=>cases hy:ak env y with
  | none=>cases a<;>simp[C_,iF]
  | some b=>cases a<;>cases b<;>simp[C_,iF]
def UN(fj:bL):Bool:=[122,153,154].all (λf=>!fj.any (Nat.beq f))
theorem zjC(hG:GK gl fj)(eH:UN fj=true){e:E}(hw:Wf e){N:Nat}(hN:hg e+3<=N){bs:List aT}{x:aT}:Cx.bD ⟨prog,gl.g,zk prog gl N,nU⟩ 122 [enc e,.int .i64 1,.ptr (bs.length+1) 0,.ptr (bs.length+2) 0] ⟨bs++[x,ci 0,ci 0],[]⟩=some (.val (.bool (cR e 1 0 0).1),⟨bs++[x,ci (cR e 1 0 0).2.1,ci (cR e 1 0 0).2.2],[]⟩):=by
 have:=zo1 hG eH e hw 1 0 0 N hN (bs++[x,ci 0,ci 0]) [] (bs.length+1) (bs.length+2) (by simp) (by simp) (by omega)
 rw[MO,MO] at this;exact zq func122 rfl this
theorem zra(hG:GK gl fj)(h0:fj.any (Nat.beq 85)=false)(eH:UN fj=true)(e:E)(hw:Wf e):rY (hg e+4) prog gl 85 [enc e] (.bool (Km e)):=by
 refine yM hG func85 rfl h0 rfl (hg e+3) λn hn bs=>?_;simp only[f85,zh];refine rg ?_;simp only[BW,List.replicate,MN,qc (Kr e),yj];refine rg ?_;have hz:(V.int .i64 0).cells=[.int .i64 0]:=rfl;simp only[BW,Nat.reduceAdd,Zh,zL (show dD (.int .i64 0)=true from rfl),hz,zo2,Rr,Rs];refine rg ?_
 simp only[BW,Zg,Om,zjC hG eH hw hn];exact fY rfl ⟨rfl,_,rfl⟩
theorem zrb(hG:GK gl fj)(h0:fj.any (Nat.beq 87)=false)(eH:UN fj=true)(e:E)(hw:Wf e):rY (hg e+4) prog gl 87 [enc e] (.int .i64 (vv e)):=by
 refine yM hG func87 rfl h0 rfl (hg e+3) λn hn bs=>?_;simp only[f87,zh];refine rg ?_;simp only[BW,List.replicate,MN,qc (Kr e),yj];refine rg ?_;have hz:(V.int .i64 0).cells=[.int .i64 0]:=rfl;have hc:=zjC hG eH hw hn (bs:=bs) (x:=.cells (aL e) 53);unfold vv;generalize cR e 1 0 0=r at hc ⊢;obtain⟨r1,r2,r3⟩:=r
 simp only[BW,Nat.reduceAdd,Zh,zL (show dD (.int .i64 0)=true from rfl),hz,zo2,Rr,Rs];refine rg ?_;cases r1 with
 | false =>
  simp only[BW,Zg,Om,hc,iI];refine rg ?_;simp only[BW];exact fY rfl ⟨rfl,_,rfl⟩
 | true =>
  simp only[BW,Zg,Om,hc,iI];refine rg ?_
  by_cases h:1001<r3
  ·simp only[BW,Rt,Zi,C_,h];exact fY rfl ⟨by simp[c_,h],_,rfl⟩
  ·simp only[BW,Rt,Zi,C_,h];exact fY rfl ⟨by simp[c_,h],_,rfl⟩
end
section
set_option maxHeartbeats 1000000
variable{gl:Gl}{fj:bL}
def zC:aC:=iG (.mk 0 0 0 0 0 0 [] 0 0 true [],false,.mk 0 0 0 0 0 0 [] 0 0 true [])
section
variable{bs ls:List aT}{es:aN}{g:Nat->Nat->bY}{env:aC}{df:bP}{c:Cr}
theorem Zj{x:aT}:(⟨bs++(ls++[x]),es⟩:Hp).get (bs.length+ls.length)=some x:=by
 show nth _ _=_;rw[zg,eM (by omega),show bs.length+ls.length - bs.length=ls.length by omega,eM (dB _)];simp
theorem Ru:qo prog 55 ⟨bs++(ls++[.cells zC 55]),es⟩ [] df (some (.agg (iG c),env)) (some (.ptr (bs.length+ls.length) 0))=some (.skip,⟨env,⟨bs++(ls++[.cells (iG c) 55]),es⟩,[],df⟩):=by
 have h:=Ms (P:=prog) (t:=55) (n:=21) (B:=bs) (ls:=ls++[.cells zC 55]) (k:=ls.length) (off:=0) (cs:=zC) (ty:=55) (v:=.agg (iG c)) (env:=env) (lk:=[]) (df:=df) (es:=es) I8 (by rw[zg];simp) rfl (by simp only[V.laid,wx,w8]) (by simp[zC,w8]) (zjt _) (by simp[V.top,Y1])
 rw[h];simp only[V.laid,wx];rw[w7 (by simp[zC,w8])]
 simp
theorem nY:zD prog 55 0=some 0/\zD prog 55 1=some 10/\zD prog 55 2=some 11:=⟨by kernel_rfl,by kernel_rfl,by kernel_rfl⟩
theorem Ku:zl prog ⟨bs++(ls++[.cells (iG c) 55]),es⟩ g 53 (.ptr (bs.length+ls.length) 0)=some (.agg (aL c.1))/\zl prog ⟨bs++(ls++[.cells (iG c) 55]),es⟩ g 53 (.ptr (bs.length+ls.length) 11)=some (.agg (aL c.2.2))/\zl prog ⟨bs++(ls++[.cells (iG c) 55]),es⟩ g 4 (.ptr (bs.length+ls.length) 10)=some (.bool c.2.1):=by
 have h1:=z6 c.1;have h2:=z6 c.2.2;refine⟨?_,?_,?_⟩
 ·rw[je BS uU Zj (by rw[w8];omega)]
  simp only[iG,iW,aY];rw[List.take_left' h1]
 ·rw[je BS uU Zj (by rw[w8];omega)]
  simp only[iG];rw[List.drop_left' (by simp[h1]),rM (by omega)]
 ·refine zu (by kernel_rfl) Zj ?_
  simp only[iG,aY];rw[zg,eM (by omega),h1];rfl
end
theorem Zk:qP prog 55=some (.agg zC):=z47
def zo3(fj:bL):Bool:=UN fj && [85,86,87].all (λf=>!fj.any (Nat.beq f))
theorem Zl(hG:GK gl fj)(h0:fj.any (Nat.beq 54)=false)(eH:zo3 fj=true)(nl:Bool)(l:List Cr)(_hl:l.length<=maxLen)(hw:∀c∈l,MJ c):Kn prog gl 54 [zZ nl l] (.br [.int .i64 (yP l).1,.bool (yP l).2]):=by
 have Ci:=rG;obtain⟨K,hK⟩:∃K,∀c∈l,hg c.1<=K/\hg c.2.2<=K:=by
  clear _hl hw
  induction l with
  | nil=>exact⟨0,λc h=>by cases h⟩
  | cons a l ih =>
   obtain⟨K,hK⟩:=ih;refine⟨max K (max (hg a.1) (hg a.2.2)),λc h=>?_⟩;rcases dN.1 h with rfl|h
   ·omega
   ·have:=hK c h;omega
 simp only[zo3,ei,List.all_cons,List.all_nil,Lc,EK] at eH;obtain⟨Rw,n85,n86,n87⟩:=eH;refine⟨_,yM hG func54 rfl h0 rfl (l.length+K+5) λn hn bs=>?_⟩;simp only[f54,zh];refine rg ?_;simp only[BW,List.replicate];refine rg ?_
 by_cases c0:(200:Int)<l.length
 ·simp only[BW,qB,yw,gt_iff_lt,c0];refine rg ?_;simp only[BW];have hm:yP l=(0,false):=by simp[yP,c_,c0]
  rw[hm];exact Gc rfl rfl ⟨rfl,[],by simp⟩
 simp only[BW,qB,yw,gt_iff_lt,c0];have hm:yP l=nB 0 l:=by simp[yP,c_,c0]
 rw[hm];generalize hR:nB 0 l=R;refine rg ?_;simp only[BW,qB,yw];refine qd (λm st=>∃i env p ls,m+i=l.length/\st=⟨env,⟨bs++ls,[]⟩,[],[]⟩/\Ks 52 [(2,.int .i64 p),(3,.bool false),(9,zZ nl l),(10,.int .i64 (l.length:Nat)),(11,.int .i64 (i:Nat))] env/\nB p (l.drop i)=R) l.length (by omega) ⟨0,_,_,[],rfl,by rw[mT],fZ rfl,hR⟩ ?_
 rintro m st ⟨i,env,p,ls,tU,rfl,⟨j,rfl⟩,o8⟩;simp only[sh,pV,Nat.reduceBEq,Nat.reduceAdd,mh,nD];simp only[zh];refine rg ?_;simp only[BW,qh]
 by_cases hi:i<l.length
 ·refine .inl ⟨by simp;omega,?_⟩
  obtain⟨c,hc⟩:∃c,l[i]?=some c:=⟨l[i],by simp[hi]⟩
  have e_:l.drop i=c::l.drop (i+1):=by
   rw[E7 hi];rw[fQ hi] at hc;cases hc;rfl
  have pH:=m8 hc;obtain⟨w1,w2⟩:=hw c pH;obtain⟨k1,k2⟩:=hK c pH;rw[e_] at o8;have c85:∀e,Wf e->hg e<=K->∀H,Cx.bD ⟨prog,gl.g,zk prog gl n,nU⟩ 85 [.agg (aL e)] H=some (.val (.bool (Km e)),H):=λe w k=>by
   rw[<- qz];exact wh func85 rfl (zra hG n85 Rw e w n (by omega))
  have c87:∀e,Wf e->hg e<=K->∀H,Cx.bD ⟨prog,gl.g,zk prog gl n,nU⟩ 87 [.agg (aL e)] H=some (.val (.int .i64 (vv e)),H):=λe w k=>by
   rw[<- qz];exact wh func87 rfl (zrb hG n87 Rw e w n (by omega))
  have c86:∀e H,Cx.bD ⟨prog,gl.g,zk prog gl n,nU⟩ 86 [.agg (aL e)] H=some (.val (.bool (mO e)),H):=λe=>by
   rw[<- qz];exact wh func86 rfl (zq9 hG n86 e n (by omega))
  refine rg ?_;simp only[BW,qB,UH hc,zju,Zk,zL (show dD (.agg zC)=true from rfl),V.cells,Ru];have eE:∀b,C6 c=b->b=true/\nB p (c::l.drop (i+1))=nB (Ga p c) (l.drop (i+1))\/b=false/\nB p (c::l.drop (i+1))=(0,false):=λb hb=>by
   simp only[nB];cases b with
   | true=>exact .inl ⟨rfl,by rw[hb];rfl⟩
   | false=>exact .inr ⟨rfl,by rw[hb];rfl⟩
  obtain⟨ls',an'⟩:∃ls',ls'=ls++[.cells (iG c) 55]:=⟨_,rfl⟩;refine Rk 52 [(2,.int .i64 p),(3,.bool false),(5,.ptr (bs.length+ls.length) 0),(9,zZ nl l),(10,.int .i64 (l.length:Nat)),(11,.int .i64 (i:Nat)),(39,.bool (!C6 c))] ?_ λenv ⟨j,e⟩=>?_
  ·refine rg ?_;have MP:=c85 c.1 w1 k1;obtain⟨q1,q2,q3⟩:=(Ku (bs:=bs) (ls:=ls) (es:=[]) (g:=gl.g) (c:=c));cases a1:Km c.1 with
   | false =>
    rw[a1] at MP;simp only[BW,nY,q1,MP,iI];exact⟨_,rfl,(show(!C6 c)=true by simp[C6,a1]) ▸ fZ rfl⟩
   | true =>
   rw[a1] at MP;have Jb:=c85 c.2.2 w2 k2;have UO:=c86 c.2.2;cases a2:c.2.1 with
   | true =>
    rw[a2] at q3;cases a3:Km c.2.2 with
    | false =>
     rw[a3] at Jb;simp only[BW,nY,q1,q2,q3,MP,Jb,iI];exact⟨_,rfl,(show(!C6 c)=true by simp[C6,a1,a2,a3]) ▸ fZ rfl⟩
    | true =>
     rw[a3] at Jb;simp only[BW,nY,q1,q2,q3,MP,Jb,iI];exact⟨_,rfl,(show(!C6 c)=false by simp[C6,a1,a2,a3]) ▸ fZ rfl⟩
   | false =>
    rw[a2] at q3;cases a3:mO c.2.2 with
    | false =>
     rw[a3] at UO;simp only[BW,nY,q1,q2,q3,MP,UO,iI];exact⟨_,rfl,(show(!C6 c)=true by simp[C6,a1,a2,a3]) ▸ fZ rfl⟩
    | true =>
     rw[a3] at UO;simp only[BW,nY,q1,q2,q3,MP,UO,iI];exact⟨_,rfl,(show(!C6 c)=false by simp[C6,a1,a2,a3]) ▸ fZ rfl⟩
  subst e;simp only[sh,pV,Nat.reduceBEq,Nat.reduceAdd,mh,nD];rcases eE _ rfl with⟨ho,hF⟩|⟨ho,hF⟩
  ·rw[hF] at o8;simp only[BW,ho];obtain⟨q1,q2,q3⟩:=(Ku (bs:=bs) (ls:=ls) (es:=[]) (g:=gl.g) (c:=c));have v1:=c87 c.1 w1 k1;have v2:=c87 c.2.2 w2 k2;generalize hq:vv c.1=z1 at v1;generalize CS:vv c.2.2=z2 at v2;refine wH (tk:=[]) (by kernel_rfl) ?_
   apply Exists.intro;apply And.intro;refine oF 0 (.int .i64 p) (by simp only[BW]) ?_
   dsimp only[aq]
   refine oF 0 (.ptr (bs.length+ls.length) 0) (by simp only[BW,nY]) ?_
   dsimp only[aq]
   refine oL 2 (.agg (aL c.1)) (by simp only[BW,q1]) (λc h=>by cases h) ?_
   dsimp only[aq]
   refine oH 6 8 (.int .i64 z1) (by simp only[BW,v1]) (λc h=>by cases h) (by kernel_rfl) ?_
   dsimp only[aq]
   refine oF 15 (.int .i64 (IntKind.i64.wrap (p+z1))) (by simp only[BW,jO]) ?_
   dsimp only[aq]
   refine oF 0 (.ptr (bs.length+ls.length) 11) (by simp only[BW,nY]) ?_
   dsimp only[aq]
   refine oL 32 (.agg (aL c.2.2)) (by simp only[BW,q2]) (λc h=>by rw[mF.1 h];exact⟨rfl,rfl,rfl⟩) ?_
   dsimp only[aq]
   refine oH 110 136 (.int .i64 z2) (by simp only[BW,v2]) (λc h=>by rw[mF.1 h];kernel_rfl) (by kernel_rfl) ?_
   dsimp only[aq]
   refine oF 255 (.int .i64 (IntKind.i64.wrap (IntKind.i64.wrap (p+z1)+z2))) (by simp only[BW,jO]) ?_
   dsimp only[aq]
   refine oL 511 (.int .i64 (Ga p c)) (by
    simp only[BW,Zi,C_];simp only[Ga,hq,CS,c_]
    by_cases h:1001<IntKind.i64.wrap (IntKind.i64.wrap (p+z1)+z2)<;>simp[h]) (λc h=>by simp only[dN,Cc,Bc] at h;rcases h with rfl|rfl<;>exact⟨rfl,rfl,rfl⟩) ?_
   dsimp only[aq]
   refine oF 1023 (.int .i64 (Ga p c)) (by simp only[BW]) wI
   simp only[aq];refine rg ?_;have h4:=XV (i:=i) (by omega)
   simp only[BW,jO,h4];exact⟨m - 1,by omega,i+1,_,_,ls++[.cells (iG c) 55],by omega,rfl,fZ rfl,o8⟩
  ·rw[hF] at o8;subst o8;simp only[BW,ho];refine rg ?_;simp only[BW];exact Gc rfl rfl ⟨rfl,_,rfl⟩
 ·obtain rfl:i=l.length:=by omega
  refine .inr ⟨by simp,?_⟩
  rw[List.drop_length] at o8;simp only[nB] at o8;subst o8;refine rg ?_;simp only[BW];exact Gc rfl rfl ⟨rfl,_,rfl⟩
end
end Go.Proofs.YthohlnmcjkjeiaaGreatDoor.A2
namespace Go.Proofs.YthohlnmcjkjeiaaGreatDoor
open Go Go.Vm
open Go.Proofs.Tryz
set_option maxRecDepth 100000
section
variable{gl:Gl}
def fC(F N:aC):aC:=[.aG,.aG,zm 1 27 F,zm 1 27 N]
structure BI(H:Hp)(F N:aC)(m:Mk):Prop where
 r:H.get 0=some (.cells zF 30)
 f:H.get 2=some (.cells (fC F N) 30)
 A5:∃i,MK 0 H 1 m i
 len:3<=H.au.length
def Kc(H H':Hp):Prop:=∀d cs ty,d≠1->H.get d=some (.cells cs ty)->H'.get d=some (.cells cs ty)
theorem zmo{H H':Hp}{c:V}{i:Option Nat}{xs:List aC}(hu:UL H 19 115 c i xs)(hf:sX H H' (λd=>d=1\/i=some d)):Kc H H':=λd cs ty hd hg=>hf.some hg λhc=>by
 rcases hc with rfl|hc
 ·exact hd rfl
 ·exact MA hu hg hc
variable{H:Hp}{F N:aC}{m:Mk}
theorem BI.made(h:BI H F N m){H':Hp}{m':Mk}{i':Option Nat}(hk:Kc H H')(hl:H.au.length<=H'.au.length)(hm:MK 0 H' 1 m' i'):BI H' F N m' :=
 ⟨hk _ _ _ (by decide) h.r,hk _ _ _ (by decide) h.f,⟨i',hm⟩,cU h.len hl⟩
theorem BI.push(h:BI H F N m)(x:aT):BI (H.push x) F N m:=by
 have hl:=h.len;obtain⟨i,c,k1,k2,k3⟩:=h.A5;refine⟨(jG (by omega)).trans h.r,(jG (by omega)).trans h.f,⟨i,c,(jG (by omega)).trans k1,k2.frame λj hj=>jG (by subst hj;exact k2.lt),k3⟩,by rw[jl];omega⟩
theorem zn9(x:aT):Kc H (H.push x):=λ_d _cs _ty _ hg=>(jG (kL hg)).trans hg
theorem BI.C4(h:BI H F N m){b:Nat}{cs cs':aC}{ty ty':aB}(hb:H.get b=some (.cells cs ty))(h3:3<=b):BI (H.set b (.cells cs' ty')) F N m:=by
 obtain⟨i,c,k1,k2,k3⟩:=h.A5;refine⟨(qD (by omega)).trans h.r,(qD (by omega)).trans h.f,⟨i,c,(qD (by omega)).trans k1,k2.frame λj hj=>qD λe=>?_,k3⟩,by rw[wu];exact h.len⟩
 subst e;exact MA k2 hb hj
theorem BI.Rx{F' N':aC}(h:BI H F N m):BI (H.set 2 (.cells (fC F' N') 30)) F' N' m:=by
 obtain⟨i,c,k1,k2,k3⟩:=h.A5;refine⟨(qD (by decide)).trans h.r,wJ h.f,⟨i,c,(qD (by decide)).trans k1,k2.frame λj hj=>qD λe=>?_,k3⟩,by rw[wu];exact h.len⟩
 subst e;exact MA k2 h.f hj
theorem zmp{H:Hp}{b:Nat}{v:V}{e:Nat×Nat}(h:e∈H.bC):e∈(H.bQ b v).bC:=by
 unfold Hp.bQ;split
 ·exact h
 ·exact d_ _ h
theorem BI.bQ(h:BI H F N m)(b:Nat)(v:V):BI (H.bQ b v) F N m:=by
 obtain⟨i,c,k1,k2,k3⟩:=h.A5;exact⟨bW.trans h.r,bW.trans h.f,⟨i,c,bW.trans k1,k2.frame λj hj=>bW,λj hj hn=>⟨(k3 j hj hn).1,zmp (k3 j hj hn).2⟩⟩,by rw[xl];exact h.len⟩
theorem Zm{H:Hp}{b:Nat}{x y:aT}:(H.set b x).set b y=H.set b y:=by simp[Hp.set,List.set_set]
theorem Zn{t n:aB}{H:Hp}{b:Nat}{v cs:aC}{ty:aB}{env:aC}{lk:aN}{df:bP}(hs:z8 prog t=some n)(hg:H.get b=some (.cells cs ty))(hv:v.length=n)(hc:v.map aW=v)(ht:aI v=0)(hl:cs.length=n)(hu:cs.all (λc=>!(locked c))=true) :
  qo prog t H lk df (some (.agg v,env)) (some (.ptr b 0))=some (.skip,⟨env,H.set b (.cells v ty),lk,df⟩):=by
 rw[zA (v:=.agg v) hs hg rfl (by simp[V.laid,hv]) (by omega) (wk hu (by omega)),jT (by simp[V.top,ht])]
 simp only[V.laid,hc];rw[w7 (by rw[hl,hv])]
theorem Zo{t n:aB}{H:Hp}{b:Nat}{cs:aC}{ty:aB}{g:Nat->Nat->bY}(ha:qC prog t=some true)(hs:z8 prog t=some n)(hg:H.get b=some (.cells cs ty))(hl:cs.length=n):zl prog H g t (.ptr b 0)=some (.agg cs):=by
 rw[je ha hs hg (by omega),iW,rM (by omega)]
theorem Kv:mY prog 28 27 1 24:=⟨by kernel_rfl,by kernel_rfl,by kernel_rfl,by decide,by kernel_rfl,by kernel_rfl,by kernel_rfl⟩
theorem Ry:qC prog 28=some false:=by kernel_rfl
theorem Gj:zD prog 55 0=some 0:=by kernel_rfl
theorem MR:zD prog 55 1=some 10:=by kernel_rfl
theorem MS:zD prog 55 2=some 11:=by kernel_rfl
theorem MU:zD prog 30 0=some 0:=by kernel_rfl
theorem MV:zD prog 30 1=some 1:=by kernel_rfl
theorem Gk:zD prog 30 2=some 2:=by kernel_rfl
theorem MW:zD prog 30 3=some 3:=by kernel_rfl
theorem ldC{b:Nat}{c:Cr}{g:Nat->Nat->bY}(hg:H.get b=some (.cells (iG c) 55)) :
  zl prog H g 53 (.ptr b 0)=some (.agg (aL c.1))/\zl prog H g 4 (.ptr b 10)=some (.bool c.2.1)/\zl prog H g 53 (.ptr b 11)=some (.agg (aL c.2.2)):=by
 obtain⟨h,t,tr⟩:=c;have DD:=z6 h;have t10:=z6 tr;have e1:(iG (h,t,tr)).take 10=aL h:=by
  rw[iG,aY,<- DD,List.take_left]
 have e2:(iG (h,t,tr)).drop 11=aL tr:=by
  have:(aL h++[V.bool t]).length=11:=by simp[DD]
  rw[iG,<- this,List.drop_left]
 have e3:(iG (h,t,tr))[10]?=some (.bool t):=by
  rw[iG,aY,eM (by simp only;omega),DD];rfl
 refine⟨?_,zu Ov hg (by rw[zg,e3]),?_⟩
 ·rw[je BK sY hg (by rw[w8];decide),iW,e1]
 ·rw[je BK sY hg (by rw[w8];decide),e2,rM (by omega)]
theorem zqK{x:aX}{env:aC}{h t:E}(hx:ak env x=some (.sl 10 [.agg (aL h),.agg (aL t)] .no)):kB prog 53 #[(0,.const (.int .i64 5)),(6,x)] env=some (.agg (aL (.mk 5 0 0 0 0 0 [] 0 0 false [h,t]))):=by
 have hp:(match prog.underlying 53 with|some (.struct fs)=>Ta prog fs|_=>none)=some [(0,1),(1,1),(2,4),(6,1),(7,1),(8,1),(9,1)]:=by kernel_rfl
 have h5:ak env (.const (.int .i64 5))=some (.int .i64 5):=rfl;unfold kB;rw[Y5];cases hu:prog.underlying 53 with
 | none=>rw[hu] at hp;cases hp
 | some d =>
  rw[hu] at hp;cases d<;>simp only at hp<;>try (cases hp;done)
  simp only[hp];simp[dD,xN,h5,hx,nth,aL,V.cells,Vm.storeCells,yi,fy,qz]
theorem UP(hb:BI H F N m)(cz v:aC)(ty ty':aB):BI ((H.push (.cells cz ty)).set H.au.length (.cells v ty')) F N m/\Kc H ((H.push (.cells cz ty)).set H.au.length (.cells v ty'))/\((H.push (.cells cz ty)).set H.au.length (.cells v ty')).get H.au.length=some (.cells v ty')/\((H.push (.cells cz ty)).set H.au.length (.cells v ty')).au.length=H.au.length+1:=by
 have hg:(H.push (.cells cz ty)).get H.au.length=some (.cells cz ty):=wg;refine⟨(hb.push _).C4 hg hb.len,λd cs t hd AT=>?_,wJ hg,by rw[wu,jl]⟩
 have:=kL AT;rw[qD (by omega),jG this,AT]
theorem Zp(hb:BI H F N m){b:Nat}{cs v:aC}{ty:aB}(hg:H.get b=some (.cells cs ty))(h3:3<=b):BI (H.set b (.cells v ty)) F N m/\(∀d x,d≠b->H.get d=some x->(H.set b (.cells v ty)).get d=some x)/\(H.set b (.cells v ty)).get b=some (.cells v ty)/\(H.set b (.cells v ty)).au.length=H.au.length :=
 ⟨hb.C4 hg h3,λ_d _x hd hx=>(qD hd).trans hx,wJ hg,wu⟩
end
section
variable{gl:Gl}
theorem zms(hg:GW gl){n:Nat}(hn:70<=n){H:Hp}{b off eO:Nat}{pre post:aC}{p:Nat->Bool}(hb:H.get b=some (.ul eO 19 (pre++pv 19 p++post) 115))(ho:pre.length=off) :
  zk prog gl (n+1) 59 [.gm b eO off] H=some (.ret (aW (zm 1 3 (xn p 19))),H):=by
 obtain⟨bs,es⟩:=H;have uo:Hp.get ⟨bs,[]⟩ b=some (.ul eO 19 (pre++pv 19 p++post) 115):=hb;have iM:zX bs.length es 0 ⟨bs,[]⟩=⟨bs,es⟩:=by
  have:=zW (bs:=bs) (ls:=[]) (es:=es) (t:=0) (dU _)
  rwa [mT] at this
 generalize hL:xn p 19=L
 suffices bK:(go ⟨prog,gl,zk prog gl n,fG⟩ n (Fx prog f59.results.toList λw H1=>w=aW (zm 1 3 L)/\H1=⟨bs,[]⟩) [.c (f59.body.getD .skip)] .normal ⟨[.gm b eO off]++List.replicate 28 (.br []),⟨bs,[]⟩,[],[]⟩) by
  obtain⟨w,H1,h0,h1,h2⟩:=zJ (gl:=gl) (f:=59) (bs:=bs) (es:=es) (args:=[.gm b eO off]) (n:=n) (hg.hk _ _ (by decide)) (λH=>hg.eV _ _ _ _) func59 rfl (by rw[hg.uq];exact bK)
  rw[h0,h1,h2];have:(aW (zm 1 3 L)).top=0:=by
   rw[<- hL];exact zcN 19
  rw[this];exact congrArg (λx=>some (Out.ret _,x)) iM
 simp only[f59,ga,zh];refine zi ?_;simp only[qx,aH,zh,z9,qH,aj,aS,qg,aM,aq,bS,bU,List.replicate,bh,bg]
 refine zi ?_;simp only[qx,aH,zh,z9,qH,aj,aS,qg,aM,aq,bS,bU]
 refine zi ?_;simp only[qx,aH,zx,zK,ak,aj,zd,zt,aM,aq,bS,bU,jR]
 refine qd (λm s=>∃i env,m+i=19/\s=⟨env,⟨bs,[]⟩,[],[]⟩/\env.length=29/\nth env 3=some (zm 1 3 (xn p i))/\nth env 6=some (.gm b eO off)/\nth env 7=some (.int .i64 (i:Nat))) 19 (by omega) ⟨0,_,rfl,rfl,rfl,rfl,rfl,rfl⟩ ?_
 rintro m s ⟨i,env,tU,rfl,hlen,h3,h6,h7⟩;simp only[zh];refine zi ?_;simp only[qx,aH,zh,qR,zY,ak,aj,h7,zt,aM,aq,za,hlen,Nat.reduceLT,aF,zS,qQ,qT,qh]
 by_cases hi:i<19
 ·refine .inl ⟨by simp;omega,?_⟩
  simp only[bB,zh,zx]
  refine qY (tk:=[]) (by kernel_rfl) (by kernel_rfl) ?_
  have dL:nth (pre++pv 19 p++post) (off+i)=some (.int .u64 (kO p i:Nat)):=by
   rw[zg,<- ho,xE jF hi,yJ hi]
  have gp:zl prog ⟨bs,[]⟩ gl.g 48 (.gm b eO (off+i))=some (.int .u64 (kO p i:Nat)):=XN ni uo dL;simp only[jX,bq,zx,av,ni,lU,zK,zH,zU,qw,z9,zM,ak,h6,h7,zt,aM,aq,za,bG,hlen,Nat.reduceEqDiff,Nat.reduceLT,aF,bz,jR,zS,qr,qg,aS,aU,aa,aE,zhj hi,gp]
  refine qd (λm s=>∃w acc env,(wj w).length=m/\w<2 ^ 64/\acc++((wj w).map λj=>.int .i64 ((64 * i+j:Nat):Int))=xn p (i+1)/\s=⟨env,⟨bs,[]⟩,[],[]⟩/\env.length=29/\nth env 3=some (zm 1 3 acc)/\nth env 4=some (.int .i64 (i:Nat))/\nth env 5=some (.int .u64 (w:Nat))/\nth env 6=some (.gm b eO off)/\nth env 7=some (.int .i64 (i:Nat))) (wj (kO p i)).length (by have:=XJ (w:=kO p i);omega) ⟨kO p i,xn p i,_,rfl,we,rfl,rfl,?_,?_,?_,?_,?_,?_⟩ ?_
  ·simp[hlen]
  ·simp[za,h3]
  ·simp[za,hlen]
  ·simp[za,hlen]
  ·simp[za,h6]
  ·simp[za,h7]
  clear h3 h6 h7 hlen;rintro m s ⟨w,acc,env,hm,hw,Ap,rfl,hlen,h3,h4,h5,h6,h7⟩;simp only[zh];refine zi ?_;simp only[qx,aH,qR,zK,zY,ak,aj,h5,zt,aM,aq,za,bG,hlen,Nat.reduceEqDiff,Nat.reduceLT,aF,bz,zS,qQ,Qm,qh]
  by_cases AU:w=0
  ·subst AU;rw[sW,bt,mT] at Ap;subst Ap;refine .inr ⟨by decide,?_⟩
   simp only[ql,zO,zr,bJ,zG,lu,aF,qF];refine zi ?_;simp only[qx,aH,zK,zY,ak,aj,h7,zt,aM,aq,za,bG,hlen,Nat.reduceEqDiff,Nat.reduceLT,aF,bz,zS,zQ (show i<2 ^ 60 by omega),zr,aO]
   refine⟨18 - i,by omega,i+1,_,by omega,rfl,?_,?_,?_,?_⟩
   ·simp[hlen]
   ·simp[za,h3]
   ·simp[za,h6]
   ·simp[za,hlen]
  ·refine .inl ⟨by simp;omega,?_⟩
   obtain⟨k,mm,CV⟩:=Bz w AU;have GY:=λ(H:Hp)=>zl2 hg (n:=n - 1) (H:=H) (k:=k) (m:=mm) (by rw[<- CV];exact hw)
   rw[<- CV,show n - 1+1=n by omega] at GY
   simp only[bB,zh,zx]
   refine wd (tk:=[19]) (by kernel_rfl) ?_
   have dz:Cx.bD ⟨prog,gl.g,zk prog gl n,fG⟩ 96 [.int .u64 (w:Nat)] ⟨bs,[]⟩=some (.val (.int .i64 (k:Nat)),⟨bs,[]⟩):=zq func96 rfl (GY _);have hk:k<64:=Qu (by rw[<- CV];exact hw)
   have QC:acc.length+1<=64 * (i+1):=by
    have h1:=congrArg List.length Ap;have h2:=xo (p:=p) (i+1);have h3:(wj w).length≠0:=by
     rw[CV,Ui (by rw[<- CV];exact hw)];simp
    simp only[aV,gk] at h1;omega
   have fH:=jE EV (H:=⟨bs,[]⟩) (xs:=acc) (ys:=[V.int .i64 ((64 * i+k:Nat):Int)]) (o:=.no) (by simp) (dJ (by simp;omega) (by simp;omega))
   have FL:=EV.Ck (v:=.int .i64 ((64 * i+k:Nat):Int)) rfl rfl;have hmul:∀(u v:aX),qO prog .mul 3 u v (some (.int .i64 64)) (some (.int .i64 (i:Nat)))=some (.int .i64 ((64 * i:Nat):Int)):=λu v=>XO (a:=64) (by omega)
   have Mh:nth (((env.set 13 (V.int .u64 (w:Nat))).set 14 (V.bool ((w:Int) != 0)))) 3=some (zm 1 3 acc):=by simp[za,h3]
   simp only[qx,jA,jq,vW Mh,zY,ki,az,qm,ne_eq,uI,jP,jV (cx:=⟨prog,gl.g,zk prog gl n,fG⟩) (show q_ prog fG 27=false by kernel_rfl),ak,aj,h4,h5,zt,qg,aM,aq,za,bG,hlen,Nat.reduceEqDiff,Nat.reduceLT,aF,bz,zS,kZ,qL,a_,bt,aA,dz,hmul,xq (show 64 * i+k<2 ^ 60 by omega),FL]
   rw[vW (n:=1) (e:=3) (xs:=acc) (by simp[za,hlen])]
   simp only[xR,aU,fH,aM,aq,qx,aH,qF,z9]
   rw[vW (n:=1) (e:=3) (xs:=acc++[V.int .i64 ((64 * i+k:Nat):Int)]) (by simp[za,hlen])]
   simp only[qg,aM,aq]
   refine zi ?_;have Hh:w - 1<2 ^ 64:=by omega
   simp only[qx,aH,zK,zY,z9,zM,ak,aj,h5,zt,qg,aM,aq,za,bG,hlen,Nat.reduceEqDiff,Nat.reduceLT,aF,bz,zS,qr,zeV AU hw,Uj hw Hh,zr,aO]
   have l6:wj w=k::wj (w &&& (w - 1)):=by
    rw[CV];exact Ui (by rw[<- CV];exact hw)
   refine⟨(wj (w &&& (w - 1))).length,by rw[<- hm,l6];simp,w &&& (w - 1),acc++[V.int .i64 ((64 * i+k:Nat):Int)],_,rfl,JE Nat.and_le_left hw,?_,rfl,?_,?_,?_,?_,?_,?_⟩
   ·rw[<- Ap,l6];simp
   ·simp[hlen]
   ·simp[za,hlen]
   ·simp[za,h4]
   ·simp[za,hlen]
   ·simp[za,h6]
   ·simp[za,h7]
 ·obtain rfl:i=19:=by omega
  refine .inr ⟨by decide,?_⟩
  rw[hL] at h3;simp only[ql,zO,zr,bJ,zG,lu,aF,zh];refine zi ?_;have rj:aW (aW (zm 1 3 L))=aW (zm 1 3 L):=by cases L<;>rfl
  have mH:∀e:aC,nth e 28=some (aW (zm 1 3 L))->take e (.tmp 28)=some (aW (zm 1 3 L),e):=λe he=>by
   rw[zM,he];cases L<;>rfl
  simp only[qx,aH,zK,z9,ak,h3,zt,aM,aq,za,hlen,Nat.reduceEqDiff,Nat.reduceLT,aF,bz]
  rw[mH _ (by simp[za,hlen])]
  simp only[qg,aM,aq,go_ret,zr,Fx]
  refine⟨trivial,[aW (zm 1 3 L)],?_,rfl,trivial⟩;simp[zy,za,hlen]
end
section
variable{gl:Gl}
theorem z3:qP prog 3=some (.int .i64 0):=by kernel_rfl
theorem sz3:z8 prog 3=some 1:=by kernel_rfl
theorem Rz:∃i,prog.info? 3=some i/\i.bytes=8:=by
 have h:=EV.i;cases hi:prog.info? 3 with
 | none=>rw[hi] at h;cases h
 | some i =>
  rw[hi] at h;simp only[aU] at h;cases hz:i.zero with
  | none=>rw[hz] at h;cases h
  | some z =>
   rw[hz] at h;simp only[aS,bu,cw] at h;exact⟨i,rfl,h.2⟩
theorem uV:∀(l:bL),(bX (l.map F9)).map aW=l.map F9
 | []=>rfl
 | a::l=>by
  simp only[a_,bX,List.map_append,uV l];rfl
theorem BT:∀(k:Nat)(z:V),(List.replicate k [z]).flatten=List.replicate k z
 | 0,_=>rfl
 | k+1,z=>by simp[HQ,BT k z]
def Gm:Nat->Code->Code
 | 0,c=>c
 | n+1,.seq _ b=>Gm n b
 | _+1,c=>c
structure EB(nl:Bool)(l:List Cr)(k:Nat)(env:aC):Prop where
 len:env.length=110
 e2:nth env 2=some (.ptr 0 0)
 e3:nth env 3=some .bT
 e4:nth env 4=some (.int .i64 (k:Int))
 e6:nth env 6=some (.ptr 1 0)
 e7:nth env 7=some (.ptr 2 0)
 A7:nth env 31=some (zZ nl l)
 Ay:nth env 32=some (.int .i64 (l.length:Int))
def UQ(H:Hp)(ns:List (Nat->Bool))(N:aC):Prop:=N.length=ns.length/\∀(j:Nat)(p:Nat->Bool),ns[j]?=some p->∃b,N[j]?=some (.sr b 0 (jg p 19).length (jg p 19).length)/\H.get b=some (.cells ((jg p 19).map F9) 3)
theorem zoa(hg:GW gl){n:Nat}(hn:4000<=n){nl:Bool}{l:List Cr}{k:Nat}{env:aC}{H:Hp}{m:Mk}{F:List bL}(he:EB nl l k env)(hb:BI H (F.map jH) [] m)(eE:m.Ok)(hM:m.cq.length<=1200)(b_:∀p∈m.next,jg p 19≠[]) :
  go ⟨prog,gl,zk prog gl n,fG⟩ n (Fx prog f14.results.toList λw H1=>∃N,w=.br [.agg [aW (zm 4 50 m.lQ),aW (zm 1 3 m.gq),aW (zm 1 27 (F.map jH)),aW (zm 1 27 N)],.bT]/\UQ H1 m.next N) [.c (Gm 7 (f14.body.getD .skip))] .normal ⟨env,H,[],[]⟩:=by
 have hlen:=he.len;obtain⟨im,cu,u1,u2,u3⟩:=hb.A5;have CH:aW cu=cu/\qV prog H 111 cu=some (m.next.length:Int):=by
  cases im with
  | none =>
   obtain⟨rfl,h⟩:=u2;have:m.next=[]:=by simpa using h
   exact⟨rfl,by rw[zeW Hj.u,this];rfl⟩
  | some j=>obtain⟨v,rfl,_⟩:=u2;exact⟨rfl,by rw[xp Hj.u,gk]⟩
 have gp:zl prog H gl.g 111 (.ptr 1 2)=some cu:=zu FR u1 rfl;simp only[f14,ga,Gm,zh];refine zi ?_;simp only[BA,Nat.reduceEqDiff,ak,aj,aq,aa,ah,za,bG,Nat.reduceLT,bz,he.e6,hlen,rH,gp,CH.1,CH.2];have lH:m.next.length<=1200:=by rw[eE.n];exact hM
 refine y7 (λenv=>EB nl l k env/\nth env 75=some (.int .i64 (m.next.length:Int))/\nth env 76=some (.int .i64 ((0:Nat):Int))) ⟨⟨by simp[hlen],by simp[za,he.e2],by simp[za,he.e3],by simp[za,he.e4],by simp[za,he.e6],by simp[za,he.e7],by simp[za,he.A7],by simp[za,he.Ay]⟩,by simp[za,hlen],by simp[za,hlen]⟩ λenv AZ=>?_
 clear u1 u2 u3 gp CH cu im he hlen;refine qd (λj s=>∃q env H N,j+q=m.next.length/\s=⟨env,H,[],[]⟩/\EB nl l k env/\nth env 75=some (.int .i64 (m.next.length:Int))/\nth env 76=some (.int .i64 ((q:Nat):Int))/\BI H (F.map jH) N m/\UQ H (m.next.take q) N) m.next.length (by omega) ⟨0,env,H,[],rfl,rfl,AZ.1,AZ.2.1,AZ.2.2,hb,rfl,λj p hp=>by simp at hp⟩ ?_
 clear AZ hb env H;rintro j s ⟨q,env,H,N,hjq,rfl,he,OM,MX,hb,hN⟩;have hlen:=he.len;simp only[zh];refine zi ?_;simp only[BA,ak,aq,za,Nat.reduceLT,OM,MX,hlen,qT]
 by_cases hq:q<m.next.length
 ·refine .inl ⟨by simpa using hq,?_⟩
  obtain⟨p,hp⟩:∃p,m.next[q]?=some p:=⟨_,fQ hq⟩
  have hpg:m.next.getD q (λ_=>false)=p:=by rw[K5,hp];rfl
  have hpm:p∈m.next:=m8 hp
  obtain⟨im,cu,u1,u2,u3⟩:=hb.A5;obtain⟨jj,rfl⟩:∃jj,im=some jj:=by
   cases im with
   | none =>
    have h:m.next=[]:=by simpa using u2.2
    rw[h] at hq;simp at hq
   | some jj=>exact⟨jj,rfl⟩
  obtain⟨v,rfl,hj⟩:=u2;obtain⟨pr,po,w1,w2,w3⟩:=zg7 hq;rw[w2,hpg] at hj;have A0:Cx.bD ⟨prog,gl.g,zk prog gl n,fG⟩ 59 [.gm jj v (q * 19)] H=some (.val (jH (jg p 19)),H):=by
   have h:=zms hg (n:=n - 1) (by omega) (H:=H) hj w1
   rw[show n - 1+1=n by omega,xF] at h
   exact zq func59 rfl h
  obtain⟨xs,pG⟩:∃xs,xs=(jg p 19).map F9:=⟨_,rfl⟩;have RA:xs≠[]:=by
   intro e;rw[pG] at e;exact b_ p hpm (by simpa using e)
  have J3:xs.length=(jg p 19).length:=by rw[pG,gk]
  have aoh:xs.length<=1216:=by
   rw[J3];have:=xo (p:=p) 19;rw[xF,gk] at this;omega
  obtain⟨row,bZ⟩:∃row,row=V.sl 1 xs .no:=⟨_,rfl⟩;have V4:jH (jg p 19)=row:=by
   rw[bZ,pG];have:(jg p 19).map F9≠[]:=by rw[<- pG];exact RA
   unfold jH;cases h:(jg p 19).map F9 with
   | nil=>exact absurd h this
   | cons a b=>rfl
  rw[V4] at A0;have mH:∀env t,qE env t (some row)=some (row,env):=λ_ _=>by rw[bZ];rfl
  have Jc:aW row=row:=by rw[bZ];rfl
  have EP:∀H,qV prog H 27 row=some (xs.length:Int):=λH=>by rw[bZ];simp[qV,EV.u]
  have gp:zl prog H gl.g 111 (.ptr 1 2)=some (.dw jj v (m.next.map (pv 19)).length):=zu FR u1 rfl
  have IT:zp prog 111 (.dw jj v (m.next.map (pv 19)).length) (q:Int)=some (.gm jj v (q * 19)):=by
   rw[Um Hj.u Hj.s (by rw[gk];omega),y_]
  refine zi ?_;simp only[BA,Nat.reduceEqDiff,ak,aq,za,bG,Nat.reduceLT,bz,MX,hlen];refine zi ?_
  simp only[BA,Nat.reduceEqDiff,az,ak,aq,aa,ah,aE,aA,za,bG,Nat.reduceLT,bz,he.e6,hlen,rH,gp,IT,A0,mH]
  refine y7 (λenv=>EB nl l k env/\nth env 75=some (.int .i64 (m.next.length:Int))/\nth env 76=some (.int .i64 ((q:Nat):Int))/\nth env 14=some row) ⟨⟨by simp[hlen],by simp[za,he.e2],by simp[za,he.e3],by simp[za,he.e4],by simp[za,he.e6],by simp[za,he.e7],by simp[za,he.A7],by simp[za,he.Ay]⟩,by simp[za,OM],by simp[za,MX],by simp[za,hlen]⟩ λenv AZ=>?_
  obtain⟨he,OM,MX,s7⟩:=AZ;have hlen:=he.len;refine zi ?_;simp only[BA,ak,aq,za,Nat.reduceLT,s7,hlen,Jc,EP];obtain⟨inf,MY,MZ⟩:=Rz;have L5:xs.length≠0:=λe=>RA (HM e)
  rw[XC (k:=xs.length) EV.u sz3 z3 rfl MY (by decide) rfl rfl (by simp[ak,za,hlen,aW]) (by simp[ak,za,hlen,aW]) (by rw[MZ];exact dJ (by omega) (by omega)) L5]
  have Ea:aI xs=0:=by rw[pG];exact ww (λ_=>rfl) _
  obtain⟨cz,Cg⟩:∃cz,cz=(List.replicate xs.length (V.int .i64 0).cells).flatten:=⟨_,rfl⟩;have RB:cz=List.replicate xs.length (.int .i64 0):=by rw[Cg];exact BT _ _
  have Zq:cz.length=xs.length:=by rw[RB,List.length_replicate]
  have Zr:cz.all (λc=>!(locked c))=true:=by rw[RB];simp[locked]
  rw[<- Cg];obtain⟨b1,k1,g1,n1⟩:=UP hb cz xs 3 3;obtain⟨K,hK⟩:∃K,K=H.au.length:=⟨_,rfl⟩;have hK3:3<=K:=by rw[hK];exact hb.len
  have hgK:(H.push (.cells cz 3)).get K=some (.cells cz 3):=by rw[hK];exact wg
  rw[<- hK] at b1 k1 g1 n1 ⊢;have Zs:∀env t,qE env t (some (.sr K 0 xs.length xs.length))=some (.sr K 0 xs.length xs.length,env):=λ_ _=>rfl;have RD:aW (.sr K 0 xs.length xs.length)=.sr K 0 xs.length xs.length:=rfl
  simp only[BA,Nat.reduceEqDiff,aq,za,bG,Nat.reduceLT,bz,hlen,Zs]
  refine y7 (λenv=>EB nl l k env/\nth env 75=some (.int .i64 (m.next.length:Int))/\nth env 76=some (.int .i64 ((q:Nat):Int))/\nth env 14=some row/\nth env 15=some (.sr K 0 xs.length xs.length)) ⟨⟨by simp[hlen],by simp[za,he.e2],by simp[za,he.e3],by simp[za,he.e4],by simp[za,he.e6],by simp[za,he.e7],by simp[za,he.A7],by simp[za,he.Ay]⟩,by simp[za,OM],by simp[za,MX],by simp[za,s7],by simp[za,hlen]⟩ λenv AZ=>?_
  obtain⟨he,OM,MX,s7,uy⟩:=AZ;have hlen:=he.len;refine zi ?_;simp only[BA,Nat.reduceEqDiff,ak,aq,za,Nat.reduceLT,bz,s7,uy,hlen,Jc,RD]
  rw[zij (ys:=xs) (o:=.no) (b:=K) (off:=0) (len:=xs.length) (cap:=xs.length) (cs:=cz) (ty:=3) EV.u sz3 (by simp[ak,za,hlen,aW]) (by simp[ak,za,hlen,bZ,aW]) hgK rfl (by rw[pG];exact uV _) (by omega) (wk Zr (by omega))]
  rw[w7 Zq,jT (by simp[V.top,Ea])]
  generalize RE:(H.push (aT.cells cz 3)).set K (aT.cells xs 3)=H1 at b1 k1 g1 n1 ⊢;simp only[aM,aq]
  obtain⟨bF,UR⟩:∃bF,bF=fC (F.map jH) N:=⟨_,rfl⟩;have f1:=b1.f;rw[<- UR] at f1;have m4:∀env,vA prog 28 env H1 [] [] (some (.ptr 2 3))=some (.val (zm 1 27 N),⟨env,H1.set 2 (.cells (bF.set 3 (oJ 1 N)) 30),kG 2 3 N,[]⟩):=λenv=>Up Ry f1 (by rw[UR];rfl)
  obtain⟨HL,Kw⟩:∃HL,HL=H1.set 2 (.cells (bF.set 3 (oJ 1 N)) 30):=⟨_,rfl⟩;rw[<- Kw] at m4;have Zt:HL.get 2=some (.cells (bF.set 3 (oJ 1 N)) 30):=by rw[Kw,wJ f1]
  have l6:3<bF.length:=by rw[UR];simp[fC]
  have RF:N.length=q:=by rw[hN.1,uJ];omega
  have l_:=Kv.Ck (v:=.sr K 0 xs.length xs.length) rfl rfl;have fH:∀H,kf prog H 28 (zm 1 27 N) (.sl 1 [.sr K 0 xs.length xs.length] .no)=some (zm 1 27 (N++[.sr K 0 xs.length xs.length])):=λH=>jE Kv (by simp) (dJ (by simp;omega) (by simp;omega))
  have fe:∀env,qo prog 28 HL (kG 2 3 N) [] (some (zm 1 27 (N++[.sr K 0 xs.length xs.length]),env)) (some (.ptr 2 3))=some (.skip,⟨env,(HL.set 2 (.cells (bF.set 3 (zm 1 27 (N++[.sr K 0 xs.length xs.length]))) 30)).bQ 2 (zm 1 27 (N++[.sr K 0 xs.length xs.length])),kG 2 3 N,[]⟩):=λenv=>by
   rw[zA Kv.st Zt Qx (by rw[vt];rfl) (by rw[bG];omega) (Qw l6)]
   simp only[vt,Vm.storeCells,List.set_set]
  refine wd (tk:=[93]) (by kernel_rfl) ?_
  simp only[BA,Nat.reduceEqDiff,ak,aq,ah,za,bG,Nat.reduceLT,bz,he.e7,uy,hlen,MW,m4,RD,l_,xR,fH,fe,jV (cx:=⟨prog,gl.g,zk prog gl n,fG⟩) (show q_ prog fG 28=false by kernel_rfl)]
  refine zi ?_;simp only[BA,Nat.reduceEqDiff,ak,aj,aq,za,bG,Nat.reduceLT,bz,MX,hlen,zQ (show q<2 ^ 60 by omega)]
  simp only[zr,aO]
  have Az:bF.set 3 (zm 1 27 (N++[.sr K 0 xs.length xs.length]))=fC (F.map jH) (N++[.sr K 0 xs.length xs.length]):=by rw[UR];rfl
  have oq:=(b1.Rx (F':=F.map jH) (N':=N++[.sr K 0 xs.length xs.length])).bQ 2 (zm 1 27 (N++[.sr K 0 xs.length xs.length]));rw[Kw,Zm,Az]
  refine⟨j - 1,by omega,q+1,_,_,N++[.sr K 0 xs.length xs.length],by omega,rfl,⟨by simp[hlen],by simp[za,he.e2],by simp[za,he.e3],by simp[za,he.e4],by simp[za,he.e6],by simp[za,he.e7],by simp[za,he.A7],by simp[za,he.Ay]⟩,by simp[za,OM],by simp[za,hlen],oq,by simp[RF];omega,λi p' G3=>?_⟩
  have hiq:i<q+1:=by
   have:=(cP.1 G3).1;rw[uJ] at this;omega
  rw[AN,if_pos hiq] at G3;have uL:∀d x,d≠2->H1.get d=some x->((H1.set 2 (.cells (fC (F.map jH) (N++[.sr K 0 xs.length xs.length])) 30)).bQ 2 (zm 1 27 (N++[.sr K 0 xs.length xs.length]))).get d=some x:=λd x hd hx=>(kl hd).trans hx
  by_cases hi:i<q
  ·obtain⟨b,e1,e2⟩:=hN.2 i p' (by rw[AN,if_pos hi];exact G3)
   have Zu:b≠2:=by
    intro e;subst e;have Ht:=hb.f;rw[e2] at Ht;injection Ht with h1;injection h1 with h2 h3;cases h3
   have Zv:b≠1:=by
    intro e;subst e;obtain⟨_,_,y1,_⟩:=hb.A5;rw[e2] at y1;injection y1 with h1;injection h1 with h2 h3;cases h3
   exact⟨b,by rw[fI (by omega)];exact e1,uL b _ Zu (k1 _ _ _ Zv e2)⟩
  ·obtain rfl:i=q:=by omega
   rw[hp] at G3;cases G3;refine⟨K,?_,uL K _ (by omega) (by rw[<- pG];exact g1)⟩
   rw[eM (by omega),RF,Bb,<- J3]
   rfl
 ·obtain rfl:q=m.next.length:=by omega
  refine .inr ⟨by simp,?_⟩
  rw[Dh] at hN;obtain⟨im,cu,u1,u2,u3⟩:=hb.A5;have Zw:∀H',(∀x,H.get 1=some x->H'.get 1=some x)->zl prog H' gl.g 26 (.ptr 1 0)=some (zm 4 50 m.lQ):=λH' h=>zu FW (h _ u1) rfl;have M0:∀H',(∀x,H.get 1=some x->H'.get 1=some x)->zl prog H' gl.g 27 (.ptr 1 1)=some (zm 1 3 m.gq):=λH' h=>zu IY (h _ u1) rfl;obtain⟨X1,hX1⟩:∃X1,X1=aW (zm 4 50 m.lQ):=⟨_,rfl⟩
  obtain⟨X2,US⟩:∃X2,X2=aW (zm 1 3 m.gq):=⟨_,rfl⟩;have Kx:∀n e (xs:aC),aI xs=0->aW (aW (zm n e xs))=aW (zm n e xs)/\(∀env t,qE env t (some (aW (zm n e xs)))=some (aW (zm n e xs),env))/\(aW (zm n e xs)).laid=[aW (zm n e xs)]/\dD (aW (zm n e xs))=true/\(aW (zm n e xs)).top=0/\locked (aW (zm n e xs))=false:=λn e xs ht=>by
   refine⟨qS,λ_ _=>jh,?_,?_,by rw[ji];exact QM ht,?_⟩<;>cases xs<;>rfl
  obtain⟨Zx,x1b,Zy,x1d,x1e,x1f⟩:=Kx 4 50 m.lQ (ww (λ_=>rfl) _);obtain⟨Zz,x2b,ZA,x2d,x2e,x2f⟩:=Kx 1 3 m.gq (ww (λ_=>rfl) _);rw[<- hX1] at Zx x1b Zy x1d x1e x1f;rw[<- US] at Zz x2b ZA x2d x2e x2f;have f2:=hb.f
  have M3:∀env,qo prog 26 H [] [] (some (X1,env)) (some (.ptr 2 0))=some (.skip,⟨env,H.set 2 (.cells [X1,.aG,zm 1 27 (F.map jH),zm 1 27 N] 30),[],[]⟩):=λenv=>by
   rw[zA QO f2 x1d (by rw[Zy];rfl) (by simp[fC]) rfl,jT (by rw[x1e];omega)]
   simp only[Zy,Vm.storeCells,fC,bS]
  have C1:∀env,qo prog 27 (H.set 2 (.cells [X1,.aG,zm 1 27 (F.map jH),zm 1 27 N] 30)) [] [] (some (X2,env)) (some (.ptr 2 1))=some (.skip,⟨env,H.set 2 (.cells [X1,X2,zm 1 27 (F.map jH),zm 1 27 N] 30),[],[]⟩):=λenv=>by
   rw[zA QN (wJ f2) x2d (by rw[ZA];rfl) (by simp) rfl,jT (by rw[x2e];omega),Zm]
   simp only[ZA,Vm.storeCells,bS,bU]
  simp only[ql,zO,zG,zr,bJ,zh,lu,aF]
  refine T' [7] [(false,false),(false,false),(false,false),(false,false),(false,false),(false,false),(false,false),(true,false),(false,false),(false,true),(false,false),(false,true)] (tk:=[]) (by kernel_rfl) (by kernel_rfl) ?_
  simp only[BA,Nat.reduceEqDiff,ak,aq,aa,ah,av,za,bG,Nat.reduceLT,bz,sC,Al,Ua,XA,Uc,Ud,FW,IY,he.e6,he.e7,hlen,Ar,FV,MU,MV,Zw H (λ_ h=>h),M0 H (λ_ h=>h),<- hX1,<- US,x1b,x2b,M3,C1]
  refine⟨λ_=>vE (p:=.ptr 1 1) (by simp[ak,za,hlen,aW]) (M0 _ λ_ h=>(qD (by decide)).trans h) US.symm,λ_=>vE (p:=.ptr 1 1) (by simp[ak,za,hlen,aW]) (M0 _ λ_ h=>(qD (by decide)).trans h) US.symm,?_⟩
  obtain⟨H2,F7⟩:∃H2,H2=H.set 2 (.cells [X1,X2,zm 1 27 (F.map jH),zm 1 27 N] 30):=⟨_,rfl⟩;have g2:H2.get 2=some (.cells [X1,X2,zm 1 27 (F.map jH),zm 1 27 N] 30):=by rw[F7,wJ f2]
  have g0:H2.get 0=some (.cells zF 30):=by rw[F7,qD (by decide)];exact hb.r
  rw[<- F7];obtain⟨VA,RG⟩:∃VA,VA=V.agg [X1,X2,zm 1 27 (F.map jH),zm 1 27 N]:=⟨_,rfl⟩;have ZB:zl prog H2 gl.g 30 (.ptr 2 0)=some VA:=by rw[RG];exact Zo MI F_ g2 rfl
  have hcA:aW VA=VA:=by rw[RG];rfl
  have htA:∀env t,qE env t (some VA)=some (VA,env):=λ_ _=>by rw[RG];rfl
  have hlA:VA.laid=[X1,X2,aW (zm 1 27 (F.map jH)),aW (zm 1 27 N)]:=by
   rw[RG];simp only[V.laid,a_,bt,Zx,Zz]
  have FY:∀env,qo prog 30 H2 [] [] (some (VA,env)) (some (.ptr 0 0))=some (.skip,⟨env,(H2.set 0 (.cells [X1,X2,aW (zm 1 27 (F.map jH)),aW (zm 1 27 N)] 30)).bQ 0 VA,[],[]⟩):=λenv=>by
   rw[zA F_ g0 (by rw[RG];rfl) (by rw[hlA];rfl) (by simp[zF]) rfl,hlA]
   rfl
  refine zi ?_;simp only[BA,Nat.reduceEqDiff,ak,aj,aq,za,bG,Nat.reduceLT,bz,he.e7,he.e2,hlen,ZB,hcA,htA,FY];simp only[go_ret,zr,Fx]
  refine⟨trivial,[.agg [X1,X2,aW (zm 1 27 (F.map jH)),aW (zm 1 27 N)],.bT],?_,N,?_,hN.1,λi p hp=>?_⟩
  ·have hr:zl prog ((H2.set 0 (.cells [X1,X2,aW (zm 1 27 (F.map jH)),aW (zm 1 27 N)] 30)).bQ 0 VA) (λ_ _=>none) 30 (.ptr 0 0)=some (.agg [X1,X2,aW (zm 1 27 (F.map jH)),aW (zm 1 27 N)]):=Zo MI F_ (by rw[bW,wJ g0]) rfl
   simp only[zy,za,bG,hlen,Nat.reduceEqDiff,Nat.reduceLT,aF,bz,he.e2];rw[hr];rfl
  ·rfl
  ·obtain⟨b,e1,e2⟩:=hN.2 i p hp;have h0:b≠0:=λe=>by
    subst e;have:=hb.r;rw[e2] at this;injection this with h1;injection h1 with h2 h3;cases h3
   have h2:b≠2:=λe=>by
    subst e;have:=hb.f;rw[e2] at this;injection this with h1;injection h1 with h2 h3;cases h3
   exact⟨b,e1,by rw[bW,qD h0,F7,qD h2];exact e2⟩
end
section
variable{gl:Gl}
theorem zkB(hg:GW gl){n:Nat}{nl:Bool}{l:List Cr}{k:Nat}(hm:gl.hk 54 [zZ nl l]=some (.br [.int .i64 (k:Int),.bool true]))(hk:k<=1000)(hl:l.length<=200)
  (hM:(qt k 0 (l.map fz) m0).2.cq.length<=1200) (b_:∀p∈(qt k 0 (l.map fz) m0).2.next,jg p 19≠[]) (hw:∀c∈l,wE (fz c)+4000<=n/\wE (fz c)+2<=2 ^ 31) (hn:4000<=n) :
  ∃H' N,zk prog gl (n+1) 14 [zZ nl l] ⟨[],[]⟩=some (.ret (.br [.agg [aW (zm 4 50 (qt k 0 (l.map fz) m0).2.lQ),aW (zm 1 3 (qt k 0 (l.map fz) m0).2.gq),aW (zm 1 27 ((qt k 0 (l.map fz) m0).1.map jH)),aW (zm 1 27 N)],.bT]),H')/\UQ H' (qt k 0 (l.map fz) m0).2.next N:=by
 obtain⟨FT,MT,hT⟩:∃FT MT,qt k 0 (l.map fz) m0=(FT,MT):=⟨_,_,rfl⟩;rw[hT] at hM b_ ⊢;simp only at hM b_ ⊢
 suffices bK:(go ⟨prog,gl,zk prog gl n,fG⟩ n (Fx prog f14.results.toList λw H1=>∃N,w=.br [.agg [aW (zm 4 50 MT.lQ),aW (zm 1 3 MT.gq),aW (zm 1 27 (FT.map jH)),aW (zm 1 27 N)],.bT]/\UQ H1 MT.next N) [.c (f14.body.getD .skip)] .normal ⟨[zZ nl l]++List.replicate 109 (.br []),⟨[],[]⟩,[],[]⟩) by
  obtain⟨w,H1,h0,N,rfl,hN⟩:=zJ (gl:=gl) (f:=14) (bs:=[]) (es:=[]) (args:=[zZ nl l]) (n:=n) (hg.hk _ _ (by decide)) (λH=>hg.eV _ _ _ _) func14 rfl (by rw[hg.uq];exact bK)
  refine⟨_,N,h0,hN.1,λj p hp=>?_⟩;obtain⟨b,h1,h2⟩:=hN.2 j p hp;refine⟨b,h1,?_⟩;have hb:b+1<=(V.br [.agg [aW (zm 4 50 MT.lQ),aW (zm 1 3 MT.gq),aW (zm 1 27 (FT.map jH)),aW (zm 1 27 N)],.bT]).top:=by
   have hNt:b+1<=aI N:=zn (x:=.sr b 0 (jg p 19).length (jg p 19).length) (m8 h1);have RH:(aW (zm 1 27 N)).top=aI N:=by
    rw[ji];cases N<;>rfl
   simp only[V.top,aI,RH];omega
  unfold zX;have l6:Nat.ble (V.br [.agg [aW (zm 4 50 MT.lQ),aW (zm 1 3 MT.gq),aW (zm 1 27 (FT.map jH)),aW (zm 1 27 N)],.bT]).top ([]:List aT).length=false:=by
   cases hx:Nat.ble (V.br [.agg [aW (zm 4 50 MT.lQ),aW (zm 1 3 MT.gq),aW (zm 1 27 (FT.map jH)),aW (zm 1 27 N)],.bT]).top ([]:List aT).length with
   | false=>rfl
   | true=>have:=r8 hx;simp only[List.length_nil] at this;omega
  rw[l6];exact h2
 have dz:Cx.bD ⟨prog,gl.g,zk prog gl n,fG⟩ 54 [zZ nl l] ⟨[.cells zF 30],[]⟩=some (.val (.br [.int .i64 (k:Int),.bool true]),⟨[.cells zF 30],[]⟩):=by
  have:=vY (P:=prog) (n:=n - 1) (H:=⟨[.cells zF 30],[]⟩) hm;rw[show n - 1+1=n by omega] at this
  exact zq func54 rfl this
 have hz:dD (V.agg zF)=true:=rfl;have BH:dD (V.agg [.aG,.aG,.aG])=true:=rfl;simp only[f14,ga,zh];refine zi ?_;simp only[BA,aj,aq,zc,bS,bU,Y4,zL hz,V.cells,List.replicate];refine zi ?_
 simp only[BA,az,ak,aq,aA,zd,ze,bS,bU,qB,dz,kY,ew];refine zi ?_;simp only[BA,ak,aq,zd,ze,bS,bU,iI]
 refine .inr ⟨rfl,?_⟩;refine zi ?_;simp only[BA,ak,aj,aq,zd,ze,bS,bU,w6];refine .inr ⟨by simpa using by omega,?_⟩
 refine zi ?_;simp only[BA,aq,zc,zd,ze,bS,bU,zqG,qc BH,V.laid];refine zi ?_
 simp only[BA,aq,zc,Nat.reduceAdd,bS,bU,Y4,zL hz,V.cells];refine zi ?_;simp only[BA,ak,aj,aq,zd,ze,bS,bU,qB,yw]
 generalize F6:Hp.mk [aT.cells zF 30,aT.cells [V.aG,V.aG,V.aG] 113,aT.cells zF 30] []=H0;have uo:BI H0 [] [] m0:=by
  subst F6;exact⟨rfl,rfl,⟨none,.aG,rfl,⟨rfl,rfl⟩,λj hj=>by cases hj⟩,by simp⟩
 refine y7 (λenv=>EB nl l k env/\nth env 33=some (.int .i64 ((0:Nat):Int))) ⟨⟨rfl,rfl,rfl,rfl,rfl,rfl,rfl,rfl⟩,rfl⟩ λenv he=>?_
 refine qd (λj s=>∃r env H m F,j+r=l.length/\s=⟨env,H,[],[]⟩/\EB nl l k env/\nth env 33=some (.int .i64 ((r:Nat):Int))/\BI H (F.map jH) [] m/\m.Ok/\F.length=r/\∃F',qt k r ((l.drop r).map fz) m=(F',MT)/\F++F'=FT) l.length (by omega) ⟨0,env,H0,m0,[],rfl,rfl,he.1,he.2,uo,⟨rfl,rfl⟩,rfl,FT,hT,rfl⟩ ?_
 clear he uo F6 env H0;rintro j s ⟨r,env,H,m,F,hjr,rfl,he,DK,hb,eE,hFr,F',hR,hF⟩;have hlen:=he.len;simp only[zh];refine zi ?_;simp only[BA,ak,aq,za,Nat.reduceLT,he.Ay,DK,hlen,qT]
 by_cases hr:r<l.length
 ·refine .inl ⟨by simpa using hr,?_⟩
  obtain⟨c,hc⟩:∃c,l[r]?=some c:=⟨_,fQ hr⟩;have gE:c∈l:=m8 hc;have e_:l.drop r=c::l.drop (r+1):=by
   obtain⟨h1,h2⟩:=cP.1 hc;rw[E7 h1,h2]
  rw[e_] at hR;simp only[a_,qt,cw] at hR;obtain⟨hF',hR⟩:=hR;have ZC:dD (V.agg (iG (.mk 0 0 0 0 0 0 [] 0 0 true [],false,.mk 0 0 0 0 0 0 [] 0 0 true [])))=true:=rfl;refine zi ?_
  simp only[BA,Nat.reduceEqDiff,ak,aq,aE,za,bG,Nat.reduceLT,bz,he.A7,DK,hlen,qB,UH hc,zju,z47,zL ZC,V.cells];rw[Zn (t:=55) I8 wg (w8 c) (wx c) (Y1 c) (w8 _) (zjt _)]
  obtain⟨b1,k1,g1,n1⟩:=UP hb (iG (.mk 0 0 0 0 0 0 [] 0 0 true [],false,.mk 0 0 0 0 0 0 [] 0 0 true [])) (iG c) 55 55;obtain⟨K,hK⟩:∃K,K=H.au.length:=⟨_,rfl⟩;have hK3:3<=K:=by rw[hK];exact hb.len
  rw[<- hK] at b1 k1 g1 n1 ⊢;generalize RE:(H.push (aT.cells (iG (.mk 0 0 0 0 0 0 [] 0 0 true [],false,.mk 0 0 0 0 0 0 [] 0 0 true [])) 55)).set K (aT.cells (iG c) 55)=H1 at b1 k1 g1 n1 ⊢;simp only[bx,aq]
  refine y7 (λenv=>EB nl l k env/\nth env 33=some (.int .i64 ((r:Nat):Int))/\nth env 8=some (.int .i64 ((r:Nat):Int))/\nth env 9=some (.ptr K 0)) ⟨⟨by simp[hlen],by simp[za,he.e2],by simp[za,he.e3],by simp[za,he.e4],by simp[za,he.e6],by simp[za,he.e7],by simp[za,he.A7],by simp[za,he.Ay]⟩,by simp[za,DK],by simp[za,hlen],by simp[za,hlen]⟩ λenv AZ=>?_
  clear he DK hlen;obtain⟨he,DK,e8,e9⟩:=AZ;have hlen:=he.len;obtain⟨l1,l2,l3⟩:=ldC (g:=gl.g) g1;have RJ:dD (V.agg (aL (.mk 0 0 0 0 0 0 [] 0 0 true [])))=true:=rfl;refine zi ?_
  simp only[BA,Nat.reduceEqDiff,ak,aq,ah,za,bG,Nat.reduceLT,bz,e9,hlen,Gj,l1,Y5,zL RJ,V.cells];rw[Zn (t:=53) sY wg (z6 _) (z7 _) (vX _) (z6 _) (YC _)];obtain⟨b2,k2,g2,n2⟩:=UP b1 (aL (.mk 0 0 0 0 0 0 [] 0 0 true [])) (aL c.1) 53 53
  generalize F7:(H1.push (aT.cells (aL (.mk 0 0 0 0 0 0 [] 0 0 true [])) 53)).set H1.au.length (aT.cells (aL c.1) 53)=H2 at b2 k2 g2 n2 ⊢;have g12:=k2 _ _ _ (by omega) g1
  rw[n1] at g2 n2 ⊢;simp only[bx,aq]
  obtain⟨l1,l2,l3⟩:=ldC (g:=gl.g) g12;refine zi ?_;simp only[BA,Nat.reduceEqDiff,ak,aq,ah,za,bG,Nat.reduceLT,bz,e9,hlen,MR,l2];have RK:(V.agg (aL (.mk 0 0 0 0 0 0 [] 0 0 true []))).cells.length=10:=rfl;rcases Oo:c.2.1 with _|_
  refine .inr ⟨rfl,?_⟩;have Af:fz c=c.1:=by simp[fz,Oo]
  rw[<- Af] at g2
  refine mC (λs=>∃env H3,s=⟨env,H3,[],[]⟩/\EB nl l k env/\nth env 33=some (.int .i64 ((r:Nat):Int))/\nth env 8=some (.int .i64 ((r:Nat):Int))/\nth env 10=some (.ptr (K+1) 0)/\BI H3 (F.map jH) [] m/\H3.get (K+1)=some (.cells (aL (fz c)) 53)) ⟨_,_,rfl,⟨by simp[hlen],by simp[za,he.e2],by simp[za,he.e3],by simp[za,he.e4],by simp[za,he.e6],by simp[za,he.e7],by simp[za,he.A7],by simp[za,he.Ay]⟩,by simp[za,DK],by simp[za,e8],by simp[za,hlen],b2,g2⟩ ?_
  rotate_left
  refine .inl ⟨rfl,?_⟩;have Af:fz c=.mk 5 0 0 0 0 0 [] 0 0 false [c.1,c.2.2]:=by simp[fz,Oo]
  refine zi ?_;simp only[BA,Nat.reduceEqDiff,ak,aq,ah,za,bG,Nat.reduceLT,bz,e9,hlen,Gj,MS,l1,l3]
  rw[znJ (v:=.agg (aL c.1)) (u:=.agg (aL c.2.2)) UC sY Y5 (by decide) RK RJ (by simp[ak,za,hlen,aW]) (by simp[ak,za,hlen,aW]) rfl rfl (z6 _) (z6 _)]
  simp only[BA,aq];rw[zqK (h:=c.1) (t:=c.2.2) (by simp[ak,za,hlen,aW])]
  simp only[BA,Nat.reduceEqDiff,ak,aq,za,bG,Nat.reduceLT,bz,hlen];rw[Zn (t:=53) sY g2 (z6 _) (z7 _) (vX _) (z6 _) (YC _)];obtain⟨b3,k3,g3,n3⟩:=Zp b2 (v:=aL (.mk 5 0 0 0 0 0 [] 0 0 false [c.1,c.2.2])) g2 (by omega)
  simp only[bx,aq]
  rw[<- Af] at g3 b3 ⊢
  refine mC (λs=>∃env H3,s=⟨env,H3,[],[]⟩/\EB nl l k env/\nth env 33=some (.int .i64 ((r:Nat):Int))/\nth env 8=some (.int .i64 ((r:Nat):Int))/\nth env 10=some (.ptr (K+1) 0)/\BI H3 (F.map jH) [] m/\H3.get (K+1)=some (.cells (aL (fz c)) 53)) ⟨_,_,rfl,⟨by simp[hlen],by simp[za,he.e2],by simp[za,he.e3],by simp[za,he.e4],by simp[za,he.e6],by simp[za,he.e7],by simp[za,he.A7],by simp[za,he.Ay]⟩,by simp[za,DK],by simp[za,e8],by simp[za,hlen],b3,g3⟩ ?_
  all_goals
   rintro s ⟨env,H3,rfl,he,DK,e8,sG,b3,g3⟩;have hlen:=he.len;obtain⟨i3,k3⟩:=b3.A5;obtain⟨P,M1,hP⟩:∃P M1,j_ (r:Int) (fz c) m=(P,M1):=⟨_,_,rfl⟩;have hMs:M1.cq.length<=1200:=by
    have h1:=zcO (n:=k) (r:=r+1) (es:=(l.drop (r+1)).map fz) (m:=(jU k r (fz c) m).2);rw[hR,Y0,hP] at h1;exact cU h1 hM
   obtain⟨aou,ZD⟩:=hw c gE;obtain⟨H4,i4,c4,k4,n4,f4,ok4,p4⟩:=zmf hg (n:=n - 1) k3 (dU _) hP eE hMs (by omega) ZD
   rw[show n - 1+1=n by omega,qz] at c4
   have Rc:Cx.bD ⟨prog,gl.g,zk prog gl n,fG⟩ 55 _ H3=_:=zq func55 rfl c4;have kc4:Kc H3 H4:=by obtain⟨_,_,u,_⟩:=k3;exact zmo u f4
   have b4:=b3.made kc4 f4.len k4;refine zi ?_;simp only[BA,Nat.reduceEqDiff,az,ak,aq,aA,za,bG,Nat.reduceLT,bz,he.e6,sG,e8,hlen,Zo BK sY g3 (z6 _),Rc,Mt,zL (show dD (V.agg (zo ⟨false,cW,cW⟩))=true from rfl),V.cells];rw[UD wg]
   obtain⟨b5,k5,g5,n5⟩:=UP b4 (zo ⟨false,cW,cW⟩) (zo P) 117 117;obtain⟨K4,hK4⟩:∃K4,K4=H4.au.length:=⟨_,rfl⟩;have aow:3<=K4:=by rw[hK4];exact b4.len
   rw[<- hK4] at b5 k5 g5 n5 ⊢;generalize OF:(H4.push (aT.cells (zo ⟨false,cW,cW⟩) 117)).set K4 (aT.cells (zo P) 117)=H5 at b5 k5 g5 n5 ⊢;simp only[bx,aq]
   refine zi ?_;simp only[BA,aq,z60,zL (show dD (V.agg (pv 19 cW))=true from rfl),V.cells,n5]
   refine y7 (λenv=>EB nl l k env/\nth env 33=some (.int .i64 ((r:Nat):Int))/\nth env 8=some (.int .i64 ((r:Nat):Int))/\nth env 11=some (.ptr K4 0)/\nth env 12=some (.ptr (K4+1) 0)) ⟨⟨by simp[hlen],by simp[za,he.e2],by simp[za,he.e3],by simp[za,he.e4],by simp[za,he.e6],by simp[za,he.e7],by simp[za,he.A7],by simp[za,he.Ay]⟩,by simp[za,DK],by simp[za,e8],by simp[za,hlen],by simp[za,hlen]⟩ λenv AZ=>?_
   obtain⟨he,DK,e8,lp,oA⟩:=AZ;have hlen:=he.len;have b6:=b5.push (.cells (pv 19 cW) 115);have g6:=(zn9 (H:=H5) (.cells (pv 19 cW) 115)) K4 _ _ (by omega) g5
   have ZE:(H5.push (.cells (pv 19 cW) 115)).get (K4+1)=some (.cells (pv 19 cW) 115):=by rw[<- n5];exact wg
   generalize hH6:H5.push (aT.cells (pv 19 cW) 115)=H6 at b6 g6 ZE ⊢;obtain⟨ZF,EA⟩:=H6;have Bo:k+r<1216:=by omega
   have c7:=zjo hg (n:=n - 1) (bs:=ZF) (es:=EA) (b:=K4+1) (off:=0) (pre:=[]) (post:=[]) (p:=cW) (ty:=115) (k:=k+r) (by rw[bg,mT];exact ZE) rfl Bo
   rw[show n - 1+1=n by omega,bg,mT] at c7
   have Kl:Cx.bD ⟨prog,gl.g,zk prog gl n,fG⟩ 56 _ ⟨ZF,EA⟩=_:=zq func56 rfl c7;obtain⟨b7,k7,UT,n7⟩:=Zp b6 (v:=pv 19 (jQ cW (k+r))) ZE (by omega)
   have g7:=k7 _ _ (by omega) g6
   simp only[Hp.set] at b7 k7 UT n7 g7;have ov:∀u w,qO prog .add 3 u w (some (.int .i64 (k:Int))) (some (.int .i64 (r:Int)))=some (.int .i64 ((k+r:Nat):Int)):=λu w=>xq (by omega)
   refine zi ?_;simp only[BA,Nat.reduceEqDiff,az,ak,aq,aA,za,bG,Nat.reduceLT,bz,oA,he.e4,e8,hlen,ov,Kl];generalize aox:ZF.set (K4+1) (aT.cells (pv 19 (jQ cW (k+r))) 115)=ON at b7 k7 UT n7 g7 ⊢;obtain⟨i7,cu,u1,u2,u3⟩:=b7.A5
   have c8:=Yk hg (n:=n - 1) (by omega) (es:=EA) (bm:=1) (bl:=K4) (ol:=20) (bf:=K4+1) (ob:=0) (ns:=M1.next) (p:=P.last) (q:=jQ cW (k+r)) (pre:=.bool P.null::pv 19 P.first) (post:=[]) (pre':=[]) (post':=[]) (ty:=117) (ty':=115) u1 u2 (by rw[<- Q6];exact g7) (by simp[jF]) (by rw[bg,mT];exact UT) rfl p4.2
   rw[show n - 1+1=n by omega] at c8
   have YZ:Cx.bD ⟨prog,gl.g,zk prog gl n,fG⟩ 57 _ ⟨ON,EA⟩=_:=zq func57 rfl c8;have Dx:(jU k r (fz c) m).2={ M1 with next:=mN (jQ cW (k+r)) (jg P.last 19) M1.next }:=by simp only[jU,hP]
   have OD:(jU k r (fz c) m).1=jg (if P.null then jD P.first (jQ cW (k+r)) else P.first) 19:=by simp only[jU,hP]
   have ZG:Kc ⟨ON,EA⟩ ⟨ep ON i7 (mN (jQ cW (k+r)) (jg P.last 19) M1.next),EA⟩:=zmo u2 YG
   have b8:=b7.made ZG (by show ON.length<=(ep ON i7 _).length;rw[yK];exact dB _) (MK.ep (es:=EA) ⟨cu,u1,u2,u3⟩ wv)
   rw[<- Dx] at b8;have g8:=ZG _ _ _ (by omega) g7
   have g8b:=ZG _ _ _ (by omega) UT
   have ok8:(jU k r (fz c) m).2.Ok:=by rw[Dx];exact⟨ok4.r,by simp only[wv];exact ok4.n⟩
   refine zi ?_;simp only[BA,Nat.reduceEqDiff,az,ak,aq,ah,aA,za,bG,Nat.reduceLT,bz,he.e6,lp,oA,hlen,o7,YZ];generalize aoz:ep ON i7 (mN (jQ cW (k+r)) (jg P.last 19) M1.next)=ZH at b8 g8 g8b ⊢
   have hl8:zl prog ⟨ZH,EA⟩ gl.g 4 (.ptr K4 0)=some (.bool P.null):=zu Ov g8 rfl;refine zi ?_;simp only[BA,Nat.reduceEqDiff,ak,aq,ah,za,bG,Nat.reduceLT,bz,lp,hlen,iz,hl8];rcases hpn:P.null with _|_
   refine .inr ⟨rfl,?_⟩
   refine mC (λs=>∃env H9,s=⟨env,H9,[],[]⟩/\EB nl l k env/\nth env 33=some (.int .i64 ((r:Nat):Int))/\nth env 11=some (.ptr K4 0)/\BI H9 (F.map jH) [] (jU k r (fz c) m).2/\∃fp,(jU k r (fz c) m).1=jg fp 19/\H9.get K4=some (.cells (zo ⟨P.null,fp,P.last⟩) 117)) ⟨_,_,rfl,⟨by simp[hlen],by simp[za,he.e2],by simp[za,he.e3],by simp[za,he.e4],by simp[za,he.e6],by simp[za,he.e7],by simp[za,he.A7],by simp[za,he.Ay]⟩,by simp[za,DK],by simp[za,lp],b8,P.first,by rw[OD,hpn];rfl,g8⟩ ?_
   rotate_left
   refine .inl ⟨rfl,?_⟩;have c9:=X3 hg (n:=n - 1) (by omega) (bs:=ZH) (es:=EA) (b:=K4) (off:=1) (b':=K4+1) (off':=0) (pre:=[.bool P.null]) (post:=pv 19 P.last) (pre':=[]) (post':=[]) (p:=P.first) (q:=jQ cW (k+r)) (ty:=117) (ty':=115) (by rw[<- Ox];exact g8) rfl (by rw[bg,mT];exact g8b) rfl (by omega)
   rw[show n - 1+1=n by omega] at c9
   have hc9:Cx.bD ⟨prog,gl.g,zk prog gl n,fG⟩ 58 _ ⟨ZH,EA⟩=_:=zq func58 rfl c9;obtain⟨b9,k9,g9,n9⟩:=Zp b8 (v:=zo ⟨P.null,jD P.first (jQ cW (k+r)),P.last⟩) g8 (by omega)
   simp only[Hp.set] at b9 g9;refine zi ?_;simp only[BA,Nat.reduceEqDiff,az,ak,aq,ah,aA,za,bG,Nat.reduceLT,bz,lp,oA,hlen,o6,hc9]
   refine mC (λs=>∃env H9,s=⟨env,H9,[],[]⟩/\EB nl l k env/\nth env 33=some (.int .i64 ((r:Nat):Int))/\nth env 11=some (.ptr K4 0)/\BI H9 (F.map jH) [] (jU k r (fz c) m).2/\∃fp,(jU k r (fz c) m).1=jg fp 19/\H9.get K4=some (.cells (zo ⟨P.null,fp,P.last⟩) 117)) ⟨_,_,rfl,⟨by simp[hlen],by simp[za,he.e2],by simp[za,he.e3],by simp[za,he.e4],by simp[za,he.e6],by simp[za,he.e7],by simp[za,he.A7],by simp[za,he.Ay]⟩,by simp[za,DK],by simp[za,lp],b9,jD P.first (jQ cW (k+r)),by rw[OD,hpn];rfl,g9⟩ ?_
   all_goals
    rintro s ⟨env,H9,rfl,he,DK,lp,b9,fp,hfp,g9⟩;have hlen:=he.len;obtain⟨bF,UU⟩:∃bF,bF=fC (F.map jH) []:=⟨_,rfl⟩;have f9:=b9.f;rw[<- UU] at f9;have m4:∀env,vA prog 28 env H9 [] [] (some (.ptr 2 2))=some (.val (zm 1 27 (F.map jH)),⟨env,H9.set 2 (.cells (bF.set 2 (oJ 1 (F.map jH))) 30),kG 2 2 (F.map jH),[]⟩):=λenv=>Up Ry f9 (by rw[UU];rfl)
    obtain⟨HL,Kw⟩:∃HL,HL=H9.set 2 (.cells (bF.set 2 (oJ 1 (F.map jH))) 30):=⟨_,rfl⟩;rw[<- Kw] at m4;obtain⟨LK,hLK⟩:∃LK,LK=kG 2 2 (F.map jH):=⟨_,rfl⟩;rw[<- hLK] at m4;have gL:HL.get K4=some (.cells (zo ⟨P.null,fp,P.last⟩) 117):=by rw[Kw,qD (by omega)];exact g9
    have Zt:HL.get 2=some (.cells (bF.set 2 (oJ 1 (F.map jH))) 30):=by rw[Kw,wJ f9]
    have bZ:aW (zm 1 3 (xn fp 19))=jH (jU k r (fz c) m).1:=by rw[hfp,xF];rfl
    have A0:∀H,H.get K4=some (.cells (zo ⟨P.null,fp,P.last⟩) 117)->Cx.bD ⟨prog,gl.g,zk prog gl n,fG⟩ 59 [.ptr K4 1] H=some (.val (jH (jU k r (fz c) m).1),H):=λH hH=>by
     have h:=zhi hg (n:=n - 1) (by omega) (H:=H) (b:=K4) (off:=1) (pre:=[.bool P.null]) (post:=pv 19 P.last) (p:=fp) (ty:=117) (by rw[<- Ox ⟨P.null,fp,P.last⟩];exact hH) rfl
     rw[show n - 1+1=n by omega,bZ] at h
     exact zq func59 rfl h
    obtain⟨row,M4⟩:∃row,row=jH (jU k r (fz c) m).1:=⟨_,rfl⟩;rw[<- M4] at A0;have Jc:aW row=row:=by rw[M4];exact qS
    have OO:dD row=true/\row.cells.length=1/\row.top=0:=by
     rw[M4];have:aI ((jU k r (fz c) m).1.map F9)=0:=ww (λ_=>rfl) _;unfold jH;cases h:(jU k r (fz c) m).1.map F9 with
     | nil=>exact⟨rfl,rfl,rfl⟩
     | cons x xs =>
      rw[h] at this;exact⟨rfl,rfl,this⟩
    have l_:=Kv.Ck (v:=row) OO.1 OO.2.1;have fH:∀H,kf prog H 28 (zm 1 27 (F.map jH)) (.sl 1 [row] .no)=some (zm 1 27 (F.map jH++[row])):=λH=>jE Kv (by simp) (dJ (by rw[gk];simp;omega) (by rw[gk];simp;omega))
    have fe:∀env,qo prog 28 HL LK [] (some (zm 1 27 (F.map jH++[row]),env)) (some (.ptr 2 2))=some (.skip,⟨env,HL.set 2 (.cells (bF.set 2 (zm 1 27 (F.map jH++[row]))) 30),LK,[]⟩):=λenv=>by
     have l6:2<bF.length:=by rw[UU];simp[fC]
     have N1:(zm 1 27 (F.map jH++[row])).top=0:=QM (gS (ww (λx=>by
      unfold jH;rw[ji]
      exact QM (ww (λ_=>rfl) _)) _) (by simp[aI,OO.2.2]))
     rw[zA Kv.st Zt Qx (by rw[vt];rfl) (by rw[bG];omega) (by rw[hLK];exact Qw l6),jT (by rw[N1];omega)]
     simp only[vt,Vm.storeCells,List.set_set]
    refine wH (tk:=[64]) (by kernel_rfl) ?_
    apply Exists.intro;apply And.intro;refine qy (m:=0) (v:=.ptr 2 2) (by kernel_rfl) rfl (by simp only[BA,ak,ah,he.e7,Gk];rfl) (by kernel_rfl) (by kernel_rfl) (by kernel_rfl) ?_
    dsimp only[aq]
    refine yp (m:=1) (v:=zm 1 27 (F.map jH)) (cs':=[⟨2,HL,LK,[]⟩,⟨0,H9,[],[]⟩]) (by kernel_rfl) rfl (by simp only[BA,ak,za,Nat.reduceLT,hlen,m4];rfl) (by kernel_rfl) (by kernel_rfl) (by kernel_rfl) (λK=>?_) ?_
    rotate_left
    dsimp only[aq]
    refine qy (m:=0) (v:=.ptr K4 1) (by kernel_rfl) rfl (by simp only[BA,Nat.reduceEqDiff,ak,ah,za,bG,Nat.reduceLT,bz,lp,hlen,o6];rfl) (by kernel_rfl) (by kernel_rfl) (by kernel_rfl) ?_
    dsimp only[aq]
    refine yp (m:=4) (v:=row) (cs':=[⟨10,HL,LK,[]⟩,⟨8,H9,[],[]⟩,⟨2,HL,LK,[]⟩,⟨0,H9,[],[]⟩]) (by kernel_rfl) rfl (by simp only[BA,Nat.reduceEqDiff,az,ak,aA,za,bG,Nat.reduceLT,bz,hlen,A0 HL gL];rfl) (by kernel_rfl) (by kernel_rfl) (by kernel_rfl) (λK=>?_) ?_
    rotate_left
    dsimp only[aq]
    refine qy (m:=12) (v:=.sl 1 [row] (.yes 27)) (by kernel_rfl) rfl (by simp only[BA,Nat.reduceEqDiff,ak,za,bG,Nat.reduceLT,bz,hlen,Jc,l_];rfl) (by kernel_rfl) (by kernel_rfl) (by kernel_rfl) ?_
    dsimp only[aq]
    refine kn (m:=31) (v:=zm 1 27 (F.map jH++[row])) (by kernel_rfl) rfl (by simp only[BA,Nat.reduceEqDiff,ak,za,bG,Nat.reduceLT,bz,hlen,xR,fH,jV (cx:=⟨prog,gl.g,zk prog gl n,fG⟩) (show q_ prog fG 28=false by kernel_rfl)];rfl) (by kernel_rfl) (by kernel_rfl) (by kernel_rfl) (by kernel_rfl) ?_
    dsimp only[aq]
    refine qy (m:=63) (v:=.ptr 2 2) (by kernel_rfl) rfl (by simp only[BA,Nat.reduceEqDiff,ak,ah,za,bG,Nat.reduceLT,bz,he.e7,hlen,Gk];rfl) (by kernel_rfl) (by kernel_rfl) (by kernel_rfl) ?_
    dsimp only[aq]
    refine vd (m:=127) (cs':=[⟨138,HL.set 2 (.cells (bF.set 2 (zm 1 27 (F.map jH++[row]))) 30),LK,[]⟩,⟨10,HL,LK,[]⟩,⟨8,H9,[],[]⟩,⟨2,HL,LK,[]⟩,⟨0,H9,[],[]⟩]) (by kernel_rfl) rfl (by simp only[BA,Nat.reduceEqDiff,ak,za,bG,Nat.reduceLT,bz,hlen,fe];rfl) (by kernel_rfl) (by kernel_rfl) (λK=>?_) wI
    ·refine j9 ?_ ?_ ?_ ?_
     ·kernel_rfl
     ·rfl
     ·intro c hc;simp only[dN,Cc,Bc] at hc;rcases hc with rfl|rfl|rfl<;>kernel_rfl
     ·kernel_rfl
    rotate_left
    ·refine j9 ?_ ?_ ?_ ?_
     ·kernel_rfl
     ·rfl
     ·intro c hc;simp at hc
     ·kernel_rfl
    ·refine zik (e:=⟨0,HL,LK,[]⟩) ?_ ?_ ?_ ?_ ?_ ?_ ?_ ?_ ?_ ?_ ?_ ?_ ?_ ?_
     ·kernel_rfl
     ·rfl
     ·rfl
     ·rfl
     ·rfl
     ·rfl
     ·rfl
     ·kernel_rfl
     rotate_left
     ·kernel_rfl
     ·kernel_rfl
     rotate_left
     ·kernel_rfl
     ·exact zdH
     ·simp only[Cx.ej,jr];simp only[BA,Nat.reduceEqDiff,az,ak,aA,Nat.reduceAdd,za,bG,Nat.reduceLT,bz,hlen,A0 H9 g9];rfl
     ·simp only[Cx.ej,jr];simp only[BA,ak,za,Nat.reduceLT,hlen,m4]
    simp only[aq];simp only[qF]
    refine zi ?_;simp only[BA,Nat.reduceEqDiff,ak,aj,aq,za,bG,Nat.reduceLT,bz,DK,hlen,zQ (show r<2 ^ 60 by omega)]
    simp only[zr,aO]
    refine⟨j - 1,by omega,r+1,_,_,(jU k r (fz c) m).2,F++[(jU k r (fz c) m).1],by omega,rfl,⟨by simp[hlen],by simp[za,he.e2],by simp[za,he.e3],by simp[za,he.e4],by simp[za,he.e6],by simp[za,he.e7],by simp[za,he.A7],by simp[za,he.Ay]⟩,by simp[za,hlen],?_,ok8,by simp[hFr],_,Prod.ext rfl hR,?_⟩
    ·rw[Kw,Zm];have:=b9.Rx (F':=(F++[(jU k r (fz c) m).1]).map jH) (N':=[]);rw[UU,M4];simpa[fC] using this
    ·rw[<- hF,<- hF',aY];rfl
 ·obtain rfl:r=l.length:=by omega
  refine .inr ⟨by simp,?_⟩
  rw[List.drop_length] at hR;simp only[bt,qt,cw] at hR;obtain⟨rfl,rfl⟩:=hR;rw[mT] at hF;subst hF;simp only[ql,zO];exact zoa hg hn (nl:=nl) (l:=l) (k:=k) (F:=F) (m:=m) ⟨by simp[hlen],by simp[za,he.e2],by simp[za,he.e3],by simp[za,he.e4],by simp[za,he.e6],by simp[za,he.e7],by simp[za,he.A7],by simp[za,he.Ay]⟩ hb eE hM b_
end
end Go.Proofs.YthohlnmcjkjeiaaGreatDoor
