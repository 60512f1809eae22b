/- Seat 8: what a function that changes nothing tells, in whatever heap: walks. Conditions: none but those named. -/
import Derived.Test.YthohlnmcjkjeiaaGreatDoorVmI
namespace Go.Vm
set_option maxRecDepth 100000
open Go
theorem rg{cx:Cx}{n id:Nat}{Q:Ex->St->Prop}{k:List It}{ops:Array Oper}{env:aG}{H:Hp}{lk:aP}{df:bS}(h:go cx n Q (.os ops [] ops.toList::k) .normal ⟨env,H,[],df⟩)(ht:jQ ops=[]:=by kernel_rfl):go cx n Q (.c (.region id ops false)::k) .normal ⟨env,H,lk,df⟩:=wK ht h
theorem ga{P:aY}{t:Tmp}{tP:V->Hp->Prop}{env:aG}{H:Hp}{lk:aP}{v:V}(h:nth env t=some v)(hp:tP v H):Fx P [.tmp t] tP .ret ⟨env,H,lk,[]⟩:=⟨rfl,[v],by simp only[zy,h],hp⟩
theorem Qj{P:aY}{t u:Tmp}{tP:V->Hp->Prop}{env:aG}{H:Hp}{lk:aP}{v w:V}(h:nth env t=some v)(h':nth env u=some w)(hp:tP (.bx [bg v,bg w]) H):Fx P [.tmp t,.tmp u] tP .ret ⟨env,H,lk,[]⟩:=⟨rfl,[v,w],by simp only[zy,h,h'],hp⟩
def CC(k:Nat)(P:aY)(gl:Gl)(f:FuncId)(xs:aG)(v:V):Prop:=∀n,k<=n->∀H,zj P gl n f xs H=some (.ret v,H)
def Kn(P:aY)(gl:Gl)(f:FuncId)(xs:aG)(v:V):Prop:=∃k,CC k P gl f xs v
theorem Kn.anc{P:aY}{gl:Gl}{f:FuncId}{xs:aG}{v:V}(h:gl.hk f xs=some v):Kn P gl f xs v:=⟨1,λn hn H=>by
 obtain⟨n,rfl⟩:∃k,n=k+1:=⟨n - 1,by omega⟩
 obtain⟨bs,es⟩:=H
 simp only[zj,h]⟩
def nU:aD->Bool:=λ_=>false
structure GK(gl:Gl)(fK:bO):Prop where
 no:∀f,fK.any (Nat.beq f)=false->∀args,gl.hk f args=none
 h2:∀f,fK.any (Nat.beq f)=false->∀n args H,gl.fq n f args H=none
 uq:∀t,gl.uq t=false
theorem xw{P:aY}{gl:Gl}{fK:bO}(hg:GK gl fK){f:FuncId}{fn:Func}{body:Code}{xs:aG}{v:V}(hf:P.funcs[f]?=some fn)(hb:fn.body=some body)(e_:fK.any (Nat.beq f)=false)(ht:v.top=0)(k0:Nat)
  (h:∀n,k0<=n->∀bs,go ⟨P,gl,zj P gl n,nU⟩ n (Fx P fn.results.toList λw H1=>w=v/\∃ls,H1=⟨bs++ls,[]⟩) [.c body] .normal ⟨xs++List.replicate (fn.ntmps - xs.length) (.bx []),⟨bs,[]⟩,[],[]⟩):CC (k0+1) P gl f xs v:=by
 intro n hn H;obtain⟨n,rfl⟩:∃k,n=k+1:=⟨n - 1,by omega⟩
 obtain⟨bs,es⟩:=H;obtain⟨w,H1,h0,rfl,ls,rfl⟩:=zO (bs:=bs) (es:=es) (hg.no f e_ xs) (λH=>hg.h2 f e_ n xs H) hf hb (by rw[show gl.uq=nU from funext hg.uq];exact h n (by omega) bs)
 rw[h0,ht];exact congrArg (λx=>some (Out.ret _,x)) (zY (dP _))
theorem yl{P:aY}{gl:Gl}{f:FuncId}{fn:Func}{body:Code}{xs:aG}{v:V}{n:Nat}{uq:aD->Bool}(hf:P.funcs[f]?=some fn)(hb:fn.body=some body)(h:∀H,zj P gl n f xs H=some (.ret v,H))(H:Hp):Cx.bK ⟨P,gl,zj P gl n,uq⟩ f xs H=some (.val v,H):=zu hf hb (h H)
def Az:List (Nat×V)->Nat->V->V
 | [],_,d=>d
 | (k,v)::r,i,d=>bif k == i then v else Az r i d
def sh(j:Nat->V)(ks:List (Nat×V)):Nat->Nat->aG
 | 0,_=>[]
 | n+1,i=>Az ks i (j i)::sh j ks n (i+1)
def Ks(N:Nat)(ks:List (Nat×V))(env:aG):Prop:=∃j,env=sh j ks N 0
theorem mo{N:Nat}{ks:List (Nat×V)}{l:aG}(h:l=sh (λk=>(nth l k).getD .fQ) ks N 0):Ks N ks l:=⟨_,h⟩
theorem Qk{cx:Cx}{n:Nat}{Q:Ex->St->Prop}{k:List It}{c:Code}{Bg:aG}{Gy:aP}{H:Hp}(N:Nat)(ks:List (Nat×V))(h:go cx n (Pr cx n Q k λs=>∃env,s=⟨env,H,[],[]⟩/\Ks N ks env) [.c c] .normal ⟨Bg,H,Gy,[]⟩)(h2:∀env,Ks N ks env->go cx n Q k .normal ⟨env,H,[],[]⟩):go cx n Q (.c c::k) .normal ⟨Bg,H,Gy,[]⟩ :=
 zlH _ h λs' ⟨env,e,hk⟩=>by subst e;exact h2 env hk
theorem zqz{cx:Cx}{n:Nat}{Q:Ex->St->Prop}{k:List It}{a:Code}{s0:St}{t:Bool}{B:Prop}(hB:go cx n Q k .normal s0->B)(H':Hp)(N:Nat)(ks:List (Nat×V))(h1:t=true->go cx n (Pr cx n Q k λs=>∃env,s=⟨env,H',[],[]⟩/\Ks N ks env) [.c a] .normal s0)(h0:t=false->∃env,s0=⟨env,H',[],[]⟩/\Ks N ks env)(h2:∀env,Ks N ks env->go cx n Q k .normal ⟨env,H',[],[]⟩):HR (go cx n Q (.c a::k) .normal s0) B (some (.bool t)):=by
 cases t with
 | true=>exact zlH _ (h1 rfl) λs' ⟨env,e,hk⟩=>by subst e;exact h2 env hk
 | false =>
  obtain⟨env,e,hk⟩:=h0 rfl;refine hB ?_;subst e;exact h2 env hk
section
variable{cx:Cx}{all:Array Oper}{takes:cw}{i:Nat}{rs:List Rec}{c0:ez}{cs:List ez}{o:Oper}{os:List Oper}{env:aG}{H:Hp}{df:bS}{r:Option (Ex×St)}
theorem oF(m:Nat)(v:V)(aE:cx.op takes o env H [] df=some (.val v,⟨env,H,[],df⟩))(k:cx.eO all takes (i+1) (jy all takes i o m false true env v::rs) (c0::cs) os ⟨aq env o.dst v,H,[],df⟩=r)
  (hm:wv rs o.after.toList=some m:=by kernel_rfl) (hg:zZ all o env=some true:=by rfl) (h1:jg cx.P cx.uq takes o=false:=by kernel_rfl) (h2:kW cx.P cx.uq o=false:=by kernel_rfl) (hs:kA (kq (jy all takes i o m false true env v)) rs=true:=by kernel_rfl):cx.eO all takes i rs (c0::cs) (o::os) ⟨env,H,[],df⟩=r:=qu hm hg aE h1 h2 hs k
theorem oL(m:Nat)(v:V)(aE:cx.op takes o env H [] df=some (.val v,⟨env,H,[],df⟩))(hc:∀c∈cs,c.H=H/\c.lk=[]/\c.df=df)(k:cx.eO all takes (i+1) (jy all takes i o m false false env v::rs) (c0::cs) os ⟨aq env o.dst v,H,[],df⟩=r)
  (hm:wv rs o.after.toList=some m:=by kernel_rfl) (hg:zZ all o env=some true:=by rfl) (h1:jg cx.P cx.uq takes o=false:=by kernel_rfl) (h2:kW cx.P cx.uq o=true:=by kernel_rfl) (hs:kA (kq (jy all takes i o m false false env v)) rs=true:=by kernel_rfl):cx.eO all takes i rs (c0::cs) (o::os) ⟨env,H,[],df⟩=r :=
 ki hm hg aE h1 h2 hs (wc λc h=>by
  obtain⟨D,H1,lk,eD⟩:=c;obtain⟨e1,e2,e3⟩:=hc _ h;simp only at e1 e2 e3;subst e1 e2 e3;split
  ·simp only[Cx.eZ,Cx.d_,aE,V.dx]
  ·rfl) k
theorem oH(m D:Nat)(v:V)(aE:cx.op takes o env H [] df=some (.val v,⟨env,H,[],df⟩))(cL:∀c∈cs,vU (Nat.land m (eL rs)) c.D=false)(dY:cx.fG takes rs (eL rs) (jy all takes i o m true false env v) (⟨D,H,[],df⟩::c0::cs) ⟨D,H,[],df⟩=true)(k:cx.eO all takes (i+1) (jy all takes i o m true false env v::rs) (⟨D,H,[],df⟩::c0::cs) os ⟨aq env o.dst v,H,[],df⟩=r)
  (hD:Nat.lor c0.D (Nat.pow 2 i)=D:=by kernel_rfl) (hm:wv rs o.after.toList=some m:=by kernel_rfl) (hg:zZ all o env=some true:=by rfl) (h1:jg cx.P cx.uq takes o=true:=by kernel_rfl) (h2:kW cx.P cx.uq o=true:=by kernel_rfl) (hs:kA (kq (jy all takes i o m true false env v)) rs=true:=by kernel_rfl):cx.eO all takes i rs (c0::cs) (o::os) ⟨env,H,[],df⟩=r :=
 yw hm hg aE h1 h2 hs (λK=>j8 (by rw[hD]) rfl cL dY) k
end
section
variable{cx:Cx}{all:Array Oper}{takes:cw}{i m:Nat}{rs:List Rec}{c0:ez}{cs cs':List ez}{o:Oper}{os:List Oper}{env cR:aG}{H H1:Hp}{lk eE:aP}{df eD:bS}{v:V}{r:Option (Ex×St)}
theorem zif(hm:wv rs o.after.toList=some m)(hg:zZ all o env=some true)(aE:cx.op takes o env H lk df=some (.val v,⟨cR,H1,eE,eD⟩))(h1:jg cx.P cx.uq takes o=true)(h2:kW cx.P cx.uq o=false)
  (hs:kA (kq (jy all takes i o m true true env v)) rs=true) (hc:∀K,cx.fH takes rs (jy all takes i o m true true env v) c0 ⟨Nat.lor c0.D (Nat.pow 2 i),H1,eE,eD⟩ cs K=K cs')
  (k:cx.eO all takes (i+1) (jy all takes i o m true true env v::rs) cs' os ⟨aq cR o.dst v,H1,eE,eD⟩=r):cx.eO all takes i rs (c0::cs) (o::os) ⟨env,H,lk,df⟩=r:=by
 have eA:=λK=>hc K;simp only[jy] at hs k eA;simp only[Cx.eO,hm,qw,hg,aE,ql,jR,h1,h2,oS,hs];rw[eA];exact k
theorem zhl{Ky:Nat}{R:Rec}{al:List ez}{c:ez}(h:∀q∈rs,q.hp=true/\bit c.D q.idx=true\/q.hp=false/\(q.free=true\/bit R.m q.idx=true\/cx.eZ takes q.o q.env q.v c=true)):cx.fG takes rs Ky R al c=true:=by
 unfold Cx.fG;refine wc λq hq=>?_;split
 ·rfl
 ·rcases h q hq with⟨h1,h2⟩|⟨h1,h2|h2|h2⟩<;>simp[h1,h2]
theorem NQ{D:Nat}{s:St}(h:cx.op takes o env H lk df=some (.val v,s)):cx.eZ takes o env v ⟨D,H,lk,df⟩=true:=by
 simp only[Cx.eZ,Cx.d_,h,V.dx]
end
theorem CC.mono{P:aY}{gl:Gl}{f:FuncId}{xs:aG}{v:V}{k k':Nat}(h:CC k P gl f xs v)(hk:k<=k'):CC k' P gl f xs v:=λn hn H=>h n (by omega) H
theorem zp2{P:aY}{gl:Gl}{fK:bO}(hg:GK gl fK){f:FuncId}{fn:Func}{body:Code}{xs:aG}{v:V}{n:Nat}{bs:List bq}{es:aP}(hf:P.funcs[f]?=some fn)(hb:fn.body=some body)(e_:fK.any (Nat.beq f)=false)(ht:v.top=0)
  (h:go ⟨P,gl,zj P gl n,nU⟩ n (Fx P fn.results.toList λw H1=>w=v/\∃ls,H1=⟨bs++ls,[]⟩) [.c body] .normal ⟨xs++List.replicate (fn.ntmps - xs.length) (.bx []),⟨bs,[]⟩,[],[]⟩):zj P gl (n+1) f xs ⟨bs,es⟩=some (.ret v,⟨bs,es⟩):=by
 obtain⟨w,H1,h0,rfl,ls,rfl⟩:=zO (bs:=bs) (es:=es) (hg.no f e_ xs) (λH=>hg.h2 f e_ n xs H) hf hb (by rw[show gl.uq=nU from funext hg.uq];exact h)
 rw[h0,ht];exact congrArg (λx=>some (Out.ret _,x)) (zY (dP _))
end Go.Vm
namespace Go.Proofs.YthohlnmcjkjeiaaGreatDoor.A2
open Go Go.Vm Go.Vm.Sx
open Go.Proofs.Tryz
set_option maxRecDepth 100000
abbrev cX:=Bool×List Int
abbrev gR:=Bool×List cX
abbrev Q4:=Int×Int×Int×Int
structure F where
 s:Bool×List Q4
 r:cX
 f:gR
 n:gR
def ie(n:Int):V:=.int .i64 n
def iv(p:cX):V:=lv 1 p.1 (p.2.map ie)
def rv(p:gR):V:=lv 1 p.1 (p.2.map iv)
def qe(q:Q4):V:=.agg [.int .u64 q.1,.int .u64 q.2.1,.int .u64 q.2.2.1,.int .u64 q.2.2.2]
def qv(p:Bool×List Q4):V:=lv 4 p.1 (p.2.map qe)
def fc(f:F):aG:=[qv f.s,iv f.r,rv f.f,rv f.n]
def fv(f:F):V:=.agg (fc f)
theorem lH{α:Type}{h:α->V}(hh:∀a,(h a).top=0):∀(l:List α),aL (l.map h)=0
 | []=>rfl
 | a::l=>by simp[aL,hh a,lH hh l]
theorem ry(p:cX):(iv p).top=0:=by unfold iv;rw[Jv];exact lH (λ_=>rfl) _
theorem CD(p:gR):(rv p).top=0:=by unfold rv;rw[Jv];exact lH ry _
theorem zpu(p:Bool×List Q4):(qv p).top=0:=by unfold qv;rw[Jv];exact lH (λ_=>rfl) _
theorem zn5(f:F):aL (fc f)=0:=by simp[fc,aL,zpu,ry,CD]
theorem sS(f:F):(fv f).top=0:=zn5 f
def LY(z:Int):Prop:=-9223372036854775808<=z/\z<=9223372036854775807
def WI(p:cX):Prop:=p.2.length * 8<=reachBytes/\∀z∈p.2,LY z
def WR(p:gR):Prop:=p.2.length * 24<=reachBytes/\∀q∈p.2,WI q
structure WF(f:F):Prop where
 s:f.s.2.length * 32<=reachBytes
 r:WI f.r
 fi:WR f.f
 ne:WR f.n
theorem c3:prog.cellsOf 3=1:=by kernel_rfl
theorem Is:prog.cellsOf 27=1:=by kernel_rfl
theorem c23:prog.cellsOf 26=1:=by kernel_rfl
theorem Ql:prog.cellsOf 30=4:=by kernel_rfl
theorem b3:prog.bytesOf 3=8:=by kernel_rfl
section
set_option linter.unusedSectionVars false
theorem bL(p:cX):bg (iv p)=iv p:=Ty ..
theorem b_(p:gR):bg (rv p)=rv p:=Ty ..
theorem eu(p:Bool×List Q4):bg (qv p)=qv p:=Ty ..
theorem mO:reachBytes<=140737488355328:=by decide
variable{gl:Gl}
end
section
set_option linter.unusedSectionVars false
variable{gl:Gl}
def gi(l:List Int)(i:Nat):Int:=l.getD i 0
def gr(l:List (List Int))(i:Nat):List Int:=l.getD i []
def rowsOf(p:gR):List (List Int):=p.2.map (·.2)
theorem ew(p:gR):(rowsOf p).length=p.2.length:=by simp[rowsOf]
theorem rz{p:gR}{i:Nat}{q:cX}(h:p.2[i]?=some q):gr (rowsOf p) i=q.2:=by simp[gr,rowsOf,h]
def nT(l:List Int):Bool:=wN (λk=>!dV (gi l (l.length - 1 - k)) (gi l (l.length - 1 - k - 1))) (l.length - 1)
end
section
set_option linter.unusedSectionVars false
variable{gl:Gl}
abbrev D:=gR×cX
def oe(d:D):V:=.agg [rv d.1,iv d.2]
theorem CE(d:D):(oe d).top=0:=by simp[oe,V.top,aL,CD,ry]
structure WD(d:D):Prop where
 n:WR d.1
 l:WI d.2
def JL(n:Nat)(q:List Int)(c:Nat):Bool:=!dV (gi q c) 0 && !nQ (n:Int) (gi q c)
def Ew(rows:List (List Int))(ls:List Int)(n i:Nat):Bool:=((((gr rows i).length:Nat):Int) == 256) && (!dV (gi ls i) (-1) && (!nQ 200 (gi ls i) && wN (JL n (gr rows i)) 256))
def rY(rows:List (List Int))(ls:List Int):Bool :=
 bif ((dV (rows.length:Int) 1 || dV 600 (rows.length:Int)) || !((ls.length:Int) == (rows.length:Int))) then false else wN (Ew rows ls rows.length) rows.length
end
section
set_option linter.unusedSectionVars false
variable{gl:Gl}
def GM(rows:List (List Int)):Int->List Int->Int
 | s,[]=>s
 | s,b::t=>GM rows (gi (gr rows s.toNat) b.toNat) t
theorem zeU{rows:List (List Int)}{b:Int}:∀{t:List Int}{s:Int},GM rows s (t++[b])=gi (gr rows (GM rows s t).toNat) b.toNat
 | [],_s=>rfl
 | _::t,_s=>zeU (t:=t)
theorem Yi{rows:List (List Int)}{ls:List Int}(h:rY rows ls=true):(1<=rows.length/\rows.length<=600)/\∀i,i<rows.length->(gr rows i).length=256/\∀c,c<256->0<=gi (gr rows i) c/\gi (gr rows i) c<rows.length:=by
 unfold rY at h;cases hh:((dV (rows.length:Int) 1 || dV 600 (rows.length:Int)) || !((ls.length:Int) == (rows.length:Int))) with
 | true=>rw[hh] at h;cases h
 | false =>
  rw[hh] at h;simp only[rB] at h;simp only[Bool.or_eq_false_iff,dV,decide_eq_false_iff_not] at hh;refine⟨by omega,λi hi=>?_⟩
  have EM:=cU.1 h i hi;simp only[Ew,eF] at EM;obtain⟨h1,_,_,h2⟩:=EM;refine⟨by have:=eq_of_beq h1;omega,λc hc=>?_⟩
  have hk:=cU.1 h2 c hc;simp only[JL,eF,Gb,dV,nQ,decide_eq_false_iff_not] at hk;omega
theorem zjw{rows:List (List Int)}{ls:List Int}(h:rY rows ls=true):∀{t:List Int}{s:Int},(∀b∈t,0<=b/\b<256)->0<=s->s<rows.length->0<=GM rows s t/\GM rows s t<rows.length
 | [],s,_,h0,h1=>⟨h0,h1⟩
 | b::t,s,hb,h0,h1=>by
  have sn:=hb b (fy ..);have:=((Yi h).2 s.toNat (by omega)).2 b.toNat (by omega)
  exact zjw h (t:=t) (λc hc=>hb c (eo _ hc)) this.1 this.2
def be(b:Int):V:=.int .u8 b
def Ey(p:cX):V:=lv 1 p.1 (p.2.map be)
theorem zmj(p:cX):bg (Ey p)=Ey p:=Ty ..
theorem LZ(p:cX):(Ey p).top=0:=by
 rw[Ey,Jv];exact lH (λ_=>rfl) _
def CF:V:=.dX 396 (.obj 0)
def FB(d:D)(t:List Int):V:=bif rY (rowsOf d.1) d.2.2 then .bx [.int .i64 (GM (rowsOf d.1) 0 t),.bP] else .bx [.int .i64 0,CF]
end
section
set_option linter.unusedSectionVars false
variable{gl:Gl}
end
section
set_option linter.unusedSectionVars false
variable{gl:Gl}
end
section
set_option linter.unusedSectionVars false
variable{gl:Gl}
def AA(n:Nat)(l:List Int)(i:Nat):Bool:=!dV (gi l i) 0 && (!nQ (n:Int) (gi l i) && (i == 0 || !nQ (gi l i) (gi l (i - 1))))
end
section
variable{gl:Gl}{fK:bO}
theorem L0:prog.underlying 27=some (.slice 3):=by kernel_rfl
theorem fB:qG prog 3=some false:=by kernel_rfl
theorem Iu:z4 prog 3=some 1:=by kernel_rfl
theorem wq{H:Hp}{p:cX}:qW prog H 27 (iv p)=some (p.2.length:Int):=by
 unfold iv;rcases cO 1 p.1 (p.2.map ie) with h|⟨h0,h⟩<;>rw[h]
 ·simp[qW]
 ·simp only[List.map_eq_nil_iff] at h0;simp[qW,h0]
theorem Yj{p:cX}{i:Nat}(h:i<p.2.length):zt prog 27 (iv p) (i:Int)=some (.vp [ie p.2[i]]):=by
 have hk:¬((i:Int)<0):=by omega
 have hn:nth (p.2.map ie) i=some (ie p.2[i]):=by rw[zg,mu,gG h];rfl
 have cK:iv p=.sl 1 (p.2.map ie) .no:=by
  unfold iv;rcases cO 1 p.1 (p.2.map ie) with h'|⟨h0,_⟩
  ·exact h'
  ·simp only[List.map_eq_nil_iff] at h0;rw[h0] at h;simp at h
 rw[cK];simp[zt,Iu,hk,hn,V.cells,ie]
theorem xI{H:Hp}{g:Nat->Nat->cj}{z:Int}:zk prog H g 3 (.vp [.int .i64 z])=some (.int .i64 z):=by
 simp[zk,qy,fB,nth,wP]
end
section
set_option maxHeartbeats 1000000
variable{gl:Gl}{fK:bO}
theorem L1:prog.underlying 28=some (.slice 27):=by kernel_rfl
theorem l_:qG prog 28=some false:=by kernel_rfl
theorem iP:zH prog 30 0=some 0/\zH prog 30 1=some 1/\zH prog 30 2=some 2/\zH prog 30 3=some 3:=⟨by kernel_rfl,by kernel_rfl,by kernel_rfl,by kernel_rfl⟩
theorem kG{H:Hp}{p:gR}:qW prog H 28 (rv p)=some (p.2.length:Int):=by
 unfold rv;rcases cO 1 p.1 (p.2.map iv) with h|⟨h0,h⟩<;>rw[h]
 ·simp[qW]
 ·simp only[List.map_eq_nil_iff] at h0;simp[qW,h0]
theorem Qm{bs:List bq}{x:bq}{es:aP}:(⟨bs++[x],es⟩:Hp).get bs.length=some x:=by
 show nth _ _=_;rw[zg,fM (dB _)];simp
theorem Yk{bs:List bq}{es:aP}{cs:aG}{ty t:aD}{g:Nat->Nat->cj}{off:Nat}{v:V}(ha:qG prog t=some false)(hn:nth cs off=some v):zk prog ⟨bs++[.cells cs ty],es⟩ g t (.ptr bs.length off)=some v:=zr ha Qm hn
theorem Yl(f:F):dD (fv f)=true:=rfl
theorem TU(f:F):(fv f).laid=fc f:=by simp[fv,V.laid,fc,eu,bL,b_]
theorem Ym(f:F)(env:aG)(t:Nat):jd env t (some (fv f))=some (fv f,env):=rfl
theorem Yn(hg:GK gl fK)(e_:fK.any (Nat.beq 72)=false)(f:F)(a:cX)(ha:a.2.length<2 ^ 60):CC (a.2.length+2) prog gl 72 [fv f,iv a] (.bool (wN (AA f.f.2.length a.2) a.2.length)):=by
 refine xw hg func72 rfl e_ rfl (a.2.length+1) λn hn bs=>?_;have gy:zk prog ⟨bs++[.cells (fc f) 30],[]⟩ gl.g 28 (.ptr bs.length 2)=some (rv f.f):=Yk l_ rfl;simp only[f72,zi];refine rg ?_;simp only[BW,Nat.reduceAdd,List.replicate,Ym,qg (Yl f),TU];refine rg ?_;simp only[BW,wq,bL]
 refine qx (λm s=>∃i env,m+i=a.2.length/\s=⟨env,⟨bs++[.cells (fc f) 30],[]⟩,[],[]⟩/\Ks 37 [(1,iv a),(2,.ptr bs.length 0),(7,iv a),(8,.int .i64 (a.2.length:Nat)),(9,.int .i64 (i:Nat))] env/\∀j,j<i->AA f.f.2.length a.2 j=true) a.2.length (by omega) ⟨0,_,rfl,rfl,mo rfl,λj hj=>by omega⟩ ?_
 rintro m s ⟨i,env,A9,rfl,⟨j,rfl⟩,dG⟩;simp only[sh,Az,Nat.reduceBEq,Nat.reduceAdd,oo,rB];simp only[zi];refine rg ?_;simp only[BW,qK]
 by_cases hi:i<a.2.length
 ·refine .inl ⟨by simp;omega,?_⟩
  have e:a.2[i]=gi a.2 i:=by simp[gi,hi]
  have GF:=Yj hi;rw[e] at GF;refine rg ?_;simp only[BW,bL,GF,xI,ie];refine Qk 37 [(1,iv a),(2,.ptr bs.length 0),(7,iv a),(8,.int .i64 (a.2.length:Nat)),(9,.int .i64 (i:Nat)),(35,.bool (!AA f.f.2.length a.2 i))] ?_ λenv ⟨j,e⟩=>?_
  ·refine rg ?_
   by_cases c1:gi a.2 i<0
   ·simp only[BW,c1];exact⟨_,rfl,(show(!AA f.f.2.length a.2 i)=true by simp[AA,dV,c1]) ▸ mo rfl⟩
   by_cases c2:(f.f.2.length:Int)<=gi a.2 i
   ·simp only[BW,c1,iP,gy,b_,kG,ge_iff_le,c2];exact⟨_,rfl,(show(!AA f.f.2.length a.2 i)=true by simp[AA,nQ,c2]) ▸ mo rfl⟩
   rcases Kk i with rfl|c3
   ·simp only[BW,c1,iP,gy,b_,kG,ge_iff_le,c2,gt_iff_lt,show ¬((0:Int)<((0:Nat):Int)) by omega]
    exact⟨_,rfl,(show(!AA f.f.2.length a.2 0)=false by simp[AA,dV,nQ,c1,c2]) ▸ mo rfl⟩
   have c4:(0:Int)<(i:Int):=by omega
   have lP:IntKind.i64.wrap ((i:Int) - 1)=((i - 1:Nat):Int):=by rw[Jw (by omega) (by omega)];omega
   have Qn:=Yj (p:=a) (i:=i - 1) (by omega)
   have e2:a.2[i - 1]=gi a.2 (i - 1):=by simp[gi,show i - 1<a.2.length by omega]
   rw[e2] at Qn;have c5:(i == 0)=false:=by simp;omega
   simp only[BW,c1,iP,gy,b_,kG,ge_iff_le,c2,gt_iff_lt,c4,kC,lP,bL,Qn,xI,ie];exact⟨_,rfl,(show(!AA f.f.2.length a.2 i)=decide (gi a.2 i<=gi a.2 (i - 1)) by simp[AA,dV,nQ,c1,c2,c5]) ▸ mo rfl⟩
  ·subst e;simp only[sh,Az,Nat.reduceBEq,Nat.reduceAdd,oo,rB]
   by_cases ho:AA f.f.2.length a.2 i=true
   ·simp only[BW,ho];refine rg ?_;simp only[BW,qn (show i<2 ^ 60 by omega)]
    exact⟨m - 1,by omega,i+1,_,by omega,rfl,mo rfl,λj hj=>by
     rcases eY j i with h|h
     ·exact dG j h
     ·obtain rfl:j=i:=by omega
      exact ho⟩
   ·have ho:AA f.f.2.length a.2 i=false:=by simpa using ho
    simp only[BW,ho];refine rg ?_;simp only[BW];have hb:wN (AA f.f.2.length a.2) a.2.length=false:=by
     rw[<- I3,cU];exact λh=>by rw[h i hi] at ho;cases ho
    exact ga (v:=.bool false) rfl ⟨by rw[hb],_,rfl⟩
 ·obtain rfl:i=a.2.length:=by omega
  refine .inr ⟨by simp,?_⟩
  refine rg ?_;simp only[BW];have hb:wN (AA f.f.2.length a.2) a.2.length=true:=cU.2 dG;exact ga (v:=.bool true) rfl ⟨by rw[hb],_,rfl⟩
end
section
variable{gl:Gl}{fK:bO}
theorem oD:qG prog 9=some false:=by kernel_rfl
theorem eB:qG prog 51=some false:=by kernel_rfl
theorem Qo:qG prog 50=some true:=by kernel_rfl
theorem Bh:qG prog 53=some true:=by kernel_rfl
theorem Qp:z4 prog 50=some 4:=by kernel_rfl
theorem uD:z4 prog 53=some 10:=by kernel_rfl
theorem Qq:prog.underlying 51=some (.slice 53):=by kernel_rfl
theorem ej:zH prog 53 0=some 0/\zH prog 53 1=some 1/\zH prog 53 2=some 2/\zH prog 53 3=some 6/\zH prog 53 4=some 7/\zH prog 53 5=some 8/\zH prog 53 6=some 9:=⟨by kernel_rfl,by kernel_rfl,by kernel_rfl,by kernel_rfl,by kernel_rfl,by kernel_rfl,by kernel_rfl⟩
theorem fu{bs:List bq}{es:aP}{cs:aG}{ty t:aD}{g:Nat->Nat->cj}{off:Nat}(ha:qG prog t=some false):zk prog ⟨bs++[.cells cs ty],es⟩ g t (.ptr bs.length off)=nth cs off:=by
 cases h:nth cs off with
 | some v=>exact Yk ha h
 | none=>simp[zk,qy,ha,Qm,h,wP]
theorem BJ{bs:List bq}{es:aP}{a0 a1 a2 a3 a4 a5 a6 a7 a8 a9:V}{g:Nat->Nat->cj}:zk prog ⟨bs++[.cells [a0,a1,a2,a3,a4,a5,a6,a7,a8,a9] 53],es⟩ g 50 (.ptr bs.length 2)=some (.agg [a2,a3,a4,a5]):=jp Qo Qp Qm (by simp)
theorem BK{env:aG}:kw prog 50 #[] env=some (.agg [.int .u64 0,.int .u64 0,.int .u64 0,.int .u64 0]):=by kernel_rfl
theorem yf{x y:a_}{a b c d:Int}:q0 prog .eql 50 x y (some (.agg [.int .u64 a,.int .u64 b,.int .u64 c,.int .u64 d])) (some (.agg [.int .u64 0,.int .u64 0,.int .u64 0,.int .u64 0]))=some (.bool (a == 0 && (b == 0 && (c == 0 && d == 0)))):=by
 have h1:prog.underlying 50=some (.array 4 48):=by kernel_rfl
 have h2:prog.underlying 48=some (.int .u64):=by kernel_rfl
 have h3:z4 prog 48=some 1:=by kernel_rfl
 have h4:prog.eqGuardType prog.depth 50=false:=by kernel_rfl
 have h5:qG prog 48=some false:=by kernel_rfl
 by_cases ha:a=0<;>by_cases hb:b=0<;>by_cases hc:c=0<;>by_cases hd:d=0<;>simp[q0,jz,yc,wX,AJ,h1,h2,h3,h4,h5,M0,Kr,qy,nth,wP,ha,hb,hc,hd]
theorem L3(e:E):dD (enc e)=true:=by rw[q9];rfl
theorem yZ(e:E):(enc e).laid=aR e:=by rw[q9];simp only[V.laid,ja]
theorem NR(e:E)(env:aG)(t:Nat):jd env t (some (enc e))=some (enc e,env):=by rw[q9];rfl
theorem qz{H:Hp}{nl:Bool}{l:List E}:qW prog H 51 (yT nl (fO l))=some (l.length:Int):=by
 rcases vI nl (fO l) with h|⟨h0,h⟩<;>rw[h]
 ·simp[qW,f_]
 ·have:l.length=0:=by rw[<- f_,h0];rfl
  simp[qW,this]
theorem BM{P:aY}{t:aD}{x y:a_}{a b:bO}:q0 P .eql t x y (some (.str a)) (some (.str b))=some (.bool (ot a b)):=by
 simp[q0,jz,yc,wX,Om]
theorem zqA(hg:GK gl fK)(e_:fK.any (Nat.beq 86)=false)(e:E):CC 2 prog gl 86 [enc e] (.bool (mM e)):=by
 refine xw hg func86 rfl e_ rfl 1 λn hn bs=>?_;simp only[f86,zi];refine rg ?_;simp only[BW,List.replicate,NR,qg (L3 e),yZ];refine rg ?_;obtain⟨op,pl,s0,s1,s2,s3,text,mn,mx,nl,args⟩:=e;cases h1:op == 0 with
 | false =>
  simp only[BW,ej,fu fB,aR,h1];exact ga rfl ⟨by simp only[mM,h1];rfl,_,rfl⟩
 | true =>
 cases h2:pl == 0 with
 | false =>
  simp only[BW,ej,fu fB,aR,h1,h2];exact ga rfl ⟨by simp only[mM,h1,h2];rfl,_,rfl⟩
 | true =>
 cases h3:s0 == 0 && (s1 == 0 && (s2 == 0 && s3 == 0)) with
 | false =>
  simp only[BW,ej,fu fB,BJ,BK,yf,aR,h1,h2,h3];exact ga rfl ⟨by simp only[mM,h1,h2,h3];rfl,_,rfl⟩
 | true =>
 cases h4:ot text [] with
 | false =>
  simp only[BW,ej,fu fB,fu oD,BJ,BK,yf,BM,aR,h1,h2,h3,h4];exact ga rfl ⟨by simp only[mM,h1,h2,h3,h4];rfl,_,rfl⟩
 | true =>
 cases h5:mn == 0 with
 | false =>
  simp only[BW,ej,fu fB,fu oD,BJ,BK,yf,BM,aR,h1,h2,h3,h4,h5];exact ga rfl ⟨by simp only[mM,h1,h2,h3,h4,h5];rfl,_,rfl⟩
 | true =>
 cases h6:mx == 0 with
 | false =>
  simp only[BW,ej,fu fB,fu oD,BJ,BK,yf,BM,aR,h1,h2,h3,h4,h5,h6];exact ga rfl ⟨by simp only[mM,h1,h2,h3,h4,h5,h6];rfl,_,rfl⟩
 | true =>
  simp only[BW,ej,fu fB,fu oD,fu eB,BJ,BK,yf,BM,aR,z9,qz,h1,h2,h3,h4,h5,h6];exact ga rfl ⟨by simp only[mM,h1,h2,h3,h4,h5,h6,sw],_,rfl⟩
theorem zp3(hg:GK gl fK)(e_:fK.any (Nat.beq 153)=false)(e:E):CC 2 prog gl 153 [enc e] (.bool (lB e)):=by
 refine xw hg func153 rfl e_ rfl 1 λn hn bs=>?_;simp only[f153,zi];refine rg ?_;simp only[BW,List.replicate,NR,qg (L3 e),yZ];refine rg ?_;obtain⟨op,pl,s0,s1,s2,s3,text,mn,mx,nl,args⟩:=e;cases h1:pl == 0 with
 | false =>
  simp only[BW,ej,fu fB,aR,h1];exact ga rfl ⟨by simp only[lB,h1];rfl,_,rfl⟩
 | true =>
 cases h2:ot text [] with
 | false =>
  simp only[BW,ej,fu fB,fu oD,BM,aR,h1,h2];exact ga rfl ⟨by simp only[lB,h1,h2];rfl,_,rfl⟩
 | true =>
 have key:∀b:Bool,((op == 2) || (s0 == 0 && (s1 == 0 && (s2 == 0 && s3 == 0))))=b->lB (.mk op pl s0 s1 s2 s3 text mn mx nl args)=(b && (op == 7 || (mn == 0 && mx == 0))):=λb hb=>by simp only[lB,h1,h2,hb,sw]
 cases h3:op == 2 with
 | true =>
  have k1:=key true (by rw[h3];rfl)
  cases h4:op == 7 with
  | true =>
   simp only[BW,ej,fu fB,fu oD,BM,aR,h1,h2,h3,h4];exact ga rfl ⟨by rw[k1,h4];rfl,_,rfl⟩
  | false =>
  cases h5:mn == 0 with
  | false =>
   simp only[BW,ej,fu fB,fu oD,BM,aR,h1,h2,h3,h4,h5];exact ga rfl ⟨by rw[k1,h4,h5];rfl,_,rfl⟩
  | true =>
   simp only[BW,ej,fu fB,fu oD,BM,aR,h1,h2,h3,h4,h5];exact ga rfl ⟨by rw[k1,h4,h5];rfl,_,rfl⟩
 | false =>
 cases h6:s0 == 0 && (s1 == 0 && (s2 == 0 && s3 == 0)) with
 | false =>
  have k1:=key false (by rw[h3,h6];rfl)
  simp only[BW,ej,fu fB,fu oD,BJ,BK,yf,BM,aR,h1,h2,h3,h6];exact ga rfl ⟨by rw[k1];rfl,_,rfl⟩
 | true =>
  have k1:=key true (by rw[h3,h6];rfl)
  cases h4:op == 7 with
  | true =>
   simp only[BW,ej,fu fB,fu oD,BJ,BK,yf,BM,aR,h1,h2,h3,h4,h6];exact ga rfl ⟨by rw[k1,h4];rfl,_,rfl⟩
  | false =>
  cases h5:mn == 0 with
  | false =>
   simp only[BW,ej,fu fB,fu oD,BJ,BK,yf,BM,aR,h1,h2,h3,h4,h5,h6];exact ga rfl ⟨by rw[k1,h4,h5];rfl,_,rfl⟩
  | true =>
   simp only[BW,ej,fu fB,fu oD,BJ,BK,yf,BM,aR,h1,h2,h3,h4,h5,h6];exact ga rfl ⟨by rw[k1,h4,h5];rfl,_,rfl⟩
theorem zp4(hg:GK gl fK)(e_:fK.any (Nat.beq 154)=false)(e:E):CC 2 prog gl 154 [enc e] (.bool (fU e)):=by
 refine xw hg func154 rfl e_ rfl 1 λn hn bs=>?_;simp only[f154,zi];refine rg ?_;simp only[BW,List.replicate,NR,qg (L3 e),yZ];refine rg ?_;obtain⟨op,pl,s0,s1,s2,s3,text,mn,mx,nl,args⟩:=e;simp only[BW,ej,fu fB,aR];refine rg ?_;cases h1:op == 1 with
 | true =>
  simp only[BW,h1];refine rg ?_;simp only[BW,ej,fu eB,z9,qz];exact ga rfl ⟨by simp only[fU,h1];rfl,_,rfl⟩
 | false =>
 simp only[BW,h1];refine rg ?_;cases h2:op == 2 with
 | true =>
  simp only[BW,h2];refine rg ?_;simp only[BW,ej,fu eB,z9,qz];exact ga rfl ⟨by simp only[fU,h1,h2];rfl,_,rfl⟩
 | false =>
 simp only[BW,h2];refine rg ?_;cases h5:op == 5 with
 | true =>
  simp only[BW,h5];refine rg ?_;simp only[BW,ej,fu eB,z9,qz];exact ga rfl ⟨by simp only[fU,h1,h2,h5];rfl,_,rfl⟩
 | false =>
 simp only[BW,h5];refine rg ?_;cases h6:op == 6 with
 | true =>
  simp only[BW,h6];refine rg ?_;simp only[BW,ej,fu eB,z9,qz];exact ga rfl ⟨by simp only[fU,h1,h2,h5,h6];rfl,_,rfl⟩
 | false =>
 simp only[BW,h6];refine rg ?_;cases h7:op == 7 with
 | false =>
  simp only[BW,h7];refine rg ?_;simp only[BW];exact ga rfl ⟨by simp only[fU,h1,h2,h5,h6,h7];rfl,_,rfl⟩
 | true =>
 simp only[BW,h7];refine rg ?_;have hk:fU (.mk op pl s0 s1 s2 s3 text mn mx nl args)=((args.length:Int) == 1 && ((mn == 0 && mx == -1 || mn == 1 && mx == -1) || mn == 0 && mx == 1)):=by simp only[fU,h1,h2,h5,h6,h7];rfl
 rw[hk];cases a1:(args.length:Int) == 1 with
 | false =>
  simp only[BW,ej,fu eB,z9,qz,a1];exact ga rfl ⟨rfl,_,rfl⟩
 | true =>
 cases a2:mn == 0 with
 | true =>
  have a4:(mn == 1)=false:=by rw[eq_of_beq a2];rfl
  cases a3:mx == -1 with
  | true =>
   simp only[BW,ej,fu fB,fu eB,z9,qz,a1,a2,a3];exact ga rfl ⟨rfl,_,rfl⟩
  | false =>
   simp only[BW,ej,fu fB,fu eB,z9,qz,a1,a2,a3,a4];exact ga rfl ⟨rfl,_,rfl⟩
 | false =>
 cases a4:mn == 1 with
 | true =>
  cases a3:mx == -1 with
  | true =>
   simp only[BW,ej,fu fB,fu eB,z9,qz,a1,a2,a3,a4];exact ga rfl ⟨rfl,_,rfl⟩
  | false =>
   simp only[BW,ej,fu fB,fu eB,z9,qz,a1,a2,a3,a4];exact ga rfl ⟨rfl,_,rfl⟩
 | false =>
  simp only[BW,ej,fu fB,fu eB,z9,qz,a1,a2,a4];exact ga rfl ⟨rfl,_,rfl⟩
end
section
variable{gl:Gl}{fK:bO}
def ci(z:Int):bq:=.cells [.int .i64 z] 3
def two(bs:List bq)(b1 b2:Nat)(n s:Int):List bq:=(bs.set b1 (ci n)).set b2 (ci s)
section
variable{bs ls:List bq}{b1 b2:Nat}{n s z:Int}{es:aP}{g:Nat->Nat->cj}{env:aG}{df:bS}{cs:aG}{ty t:aD}{off:Nat}{e:E}
theorem kQ:(two bs b1 b2 n s).length=bs.length:=by simp[two]
theorem zjx(h1:b1<bs.length)(h2:b2<bs.length):two (bs++ls) b1 b2 n s=two bs b1 b2 n s++ls:=by
 unfold two;rw[F_ _ _ h1,F_ _ _ (by simpa using h2)]
theorem NS(h1:b1<bs.length)(h:b1≠b2):zk prog ⟨two bs b1 b2 n s++ls,es⟩ g 3 (.ptr b1 0)=some (.int .i64 n) :=
 zr (cs:=[.int .i64 n]) (ty:=3) fB (by show nth _ _=_;rw[zg,gF (by rw[kQ];exact h1),two,r8 (Ne.symm h),BO h1];rfl) rfl
theorem zjy(h2:b2<bs.length):zk prog ⟨two bs b1 b2 n s++ls,es⟩ g 3 (.ptr b2 0)=some (.int .i64 s) :=
 zr (cs:=[.int .i64 s]) (ty:=3) fB (by show nth _ _=_;rw[zg,gF (by rw[kQ];exact h2),two,BO (by simpa using h2)];rfl) rfl
theorem zjz(h1:b1<bs.length)(h:b1≠b2):qp prog 3 ⟨two bs b1 b2 n s++ls,es⟩ [] df (some (.int .i64 z,env)) (some (.ptr b1 0))=some (.skip,⟨env,⟨two bs b1 b2 z s++ls,es⟩,[],df⟩):=by
 rw[zA (cs:=[.int .i64 n]) (ty:=3) Iu (by show nth _ _=_;rw[zg,gF (by rw[kQ];exact h1),two,r8 (Ne.symm h),BO h1];rfl) rfl rfl (by simp) (wi rfl (by simp)),jV (dP _)]
 simp only[Hp.set];rw[F_ _ _ (by rw[kQ];exact h1)]
 simp only[two];rw[List.set_comm _ _ (Ne.symm h),List.set_set];rfl
theorem zjA(h2:b2<bs.length):qp prog 3 ⟨two bs b1 b2 n s++ls,es⟩ [] df (some (.int .i64 z,env)) (some (.ptr b2 0))=some (.skip,⟨env,⟨two bs b1 b2 n z++ls,es⟩,[],df⟩):=by
 rw[zA (cs:=[.int .i64 s]) (ty:=3) Iu (by show nth _ _=_;rw[zg,gF (by rw[kQ];exact h2),two,BO (by simpa using h2)];rfl) rfl rfl (by simp) (wi rfl (by simp)),jV (dP _)]
 simp only[Hp.set];rw[F_ _ _ (by rw[kQ];exact h2)]
 simp only[two,List.set_set];rfl
theorem zjB(ha:qG prog t=some false):zk prog ⟨two bs b1 b2 n s++(.cells cs ty::ls),es⟩ g t (.ptr bs.length off)=nth cs off:=by
 have hg:(⟨two bs b1 b2 n s++(.cells cs ty::ls),es⟩:Hp).get bs.length=some (.cells cs ty):=by
  show nth _ _=_;rw[zg,fM (by rw[kQ];exact dB _),kQ];simp
 cases h:nth cs off with
 | some v=>exact zr ha hg h
 | none=>simp[zk,qy,ha,hg,h,wP]
theorem y_:zk prog ⟨two bs b1 b2 n s++(.cells (aR e) 53::ls),es⟩ g 53 (.ptr bs.length 0)=some (enc e):=by
 rw[jp Bh uD (cs:=aR e) (ty:=53) (by
  show nth _ _=_
  rw[zg,fM (by rw[kQ];exact dB _),kQ];simp) (by rw[z7];omega),q9,ny,su (by rw[z7];omega)]
theorem zn6{l:aG}(hl:l.length=10)(hu:l.all (λc=>!(locked c))=true):qp prog 53 ⟨two bs b1 b2 n s++(ls++[.cells l 53]),es⟩ [] df (some (.agg (aR e),env)) (some (.ptr (bs.length+ls.length) 0))=some (.skip,⟨env,⟨two bs b1 b2 n s++(ls++[.cells (aR e) 53]),es⟩,[],df⟩):=by
 have h:=Jz (P:=prog) (t:=53) (n:=10) (B:=two bs b1 b2 n s) (ls:=ls++[.cells l 53]) (k:=ls.length) (off:=0) (cs:=l) (ty:=53) (v:=enc e) (env:=env) (lk:=[]) (df:=df) (es:=es) uD (by rw[zg];simp) (L3 e) (by rw[yZ,z7]) (by omega) hu (u6 e)
 rw[kQ] at h;rw[<- q9,h,yZ,wM (by rw[z7,hl])]
 simp
theorem De:zk prog ⟨two bs b1 b2 n s++(ls++[.cells (aR e) 53]),es⟩ g 53 (.ptr (bs.length+ls.length) 0)=some (.agg (aR e)):=by
 have h:=Xy (P:=prog) (t:=53) (n:=10) (B:=two bs b1 b2 n s) (ls:=ls++[.cells (aR e) 53]) (k:=ls.length) (off:=0) (cs:=aR e) (ty:=53) (es:=es) (g:=g) Bh uD (by rw[zg];simp) (by rw[z7];omega)
 rw[kQ] at h;rw[h,ny,su (by rw[z7];omega)]
end
def zE:aG:=[.int .i64 0,.int .i64 0,.int .u64 0,.int .u64 0,.int .u64 0,.int .u64 0,.str [],.int .i64 0,.int .i64 0,.aH]
theorem Yo:qL prog 53=some (.agg zE):=by kernel_rfl
theorem zoK(hG:GK gl fK)(e_:[122,153,154].all (λf=>!fK.any (Nat.beq f))=true):∀(e:E),Wf e->∀(d n s:Int)(N:Nat),hg e+3<=N->∀(bs:List bq)(es:aP)(b1 b2:Nat),b1<bs.length->b2<bs.length->b1≠b2 ->
  zj prog gl N 122 [enc e,.int .i64 d,.ptr b1 0,.ptr b2 0] ⟨two bs b1 b2 n s,es⟩=some (.ret (.bool (cY e d n s).1),⟨two bs b1 b2 (cY e d n s).2.1 (cY e d n s).2.2,es⟩)
 | .mk op pl s0 s1 s2 s3 text mn mx nl args,hw=>by
  intro d n s N hN bs es b1 b2 h1 h2 JM;have Ca:=uC;have hlen:=hw.2.1;simp only[List.all_cons,List.all_nil,Bool.and_true,eF,Gb] at e_;obtain⟨Yp,no2,no3⟩:=e_;simp only[hg] at hN;obtain⟨N,rfl⟩:∃k,N=k+1:=⟨N - 1,by omega⟩
  have fS:∀a,a∈args->∀(d n s:Int)(bs:List bq)(es:aP),b1<bs.length->b2<bs.length ->
    zj prog gl N 122 [enc a,.int .i64 d,.ptr b1 0,.ptr b2 0] ⟨two bs b1 b2 n s,es⟩=some (.ret (.bool (cY a d n s).1),⟨two bs b1 b2 (cY a d n s).2.1 (cY a d n s).2.2,es⟩):=λa ha d n s bs es k1 k2 =>
   zoK hG (by simp[Yp,no2,no3]) a (hw.2.2.mem ha) d n s N (by have:=W6 ha;omega) bs es b1 b2 k1 k2 JM
  generalize he:E.mk op pl s0 s1 s2 s3 text mn mx nl args=e at hw ⊢
  suffices bR:(go ⟨prog,gl,zj prog gl N,nU⟩ N (Fx prog f122.results.toList λw H1=>w=.bool (cY e d n s).1/\∃ls,H1=⟨two bs b1 b2 (cY e d n s).2.1 (cY e d n s).2.2++ls,[]⟩) [.c (f122.body.getD .skip)] .normal ⟨[enc e,.int .i64 d,.ptr b1 0,.ptr b2 0]++List.replicate 53 (.bx []),⟨two bs b1 b2 n s,[]⟩,[],[]⟩) by
   obtain⟨w,H1,h0,rfl,ls,rfl⟩:=zO (es:=es) (hG.no 122 Yp _) (λH=>hG.h2 122 Yp _ _ H) func122 rfl (by rw[show gl.uq=nU from funext hG.uq];exact bR)
   rw[h0];have:=zY (bs:=two bs b1 b2 (cY e d n s).2.1 (cY e d n s).2.2) (ls:=ls) (es:=es) (t:=0) (dP _);rw[kQ] at this;rw[kQ];exact congrArg (λx=>some (Out.ret _,x)) this
  have FC:∀H,Cx.bK ⟨prog,gl.g,zj prog gl N,nU⟩ 153 [enc e] H=some (.val (.bool (lB e)),H):=yl func153 rfl (zp3 hG no2 e N (by omega))
  have Iv:∀H,Cx.bK ⟨prog,gl.g,zj prog gl N,nU⟩ 154 [enc e] H=some (.val (.bool (fU e)),H):=yl func154 rfl (zp4 hG no3 e N (by omega))
  simp only[f122,gm,zi];refine rg ?_;simp only[BW,List.replicate,NR,qg (L3 e),yZ,kQ];refine rg ?_;simp only[BW,NS h1 JM,zjz h1 JM,wa];generalize GD:IntKind.i64.wrap (n+1)=n1;refine rg ?_
  have Yq:∀b,((dV 65536 n1 || dV 4096 d) || (!lB e || !fU e))=b->(b=true->cY e d n s=(false,n1,s))/\(b=false->cY e d n s=iI (IntKind.i64.wrap (d+1)) args n1 (if op == 2 then IntKind.i64.wrap (s+1) else s)):=by
   intro b hb;subst he;simp only[cY,GD];cases k1:(dV 65536 n1 || dV 4096 d) with
   | true=>rw[k1] at hb;subst hb;simp
   | false =>
   rw[k1] at hb;cases k2:lB (.mk op pl s0 s1 s2 s3 text mn mx nl args) with
   | false=>rw[k2] at hb;subst hb;simp
   | true =>
   rw[k2] at hb;cases k3:fU (.mk op pl s0 s1 s2 s3 text mn mx nl args) with
   | false=>rw[k3] at hb;subst hb;simp
   | true=>rw[k3] at hb;subst hb;simp
  have lR:((dV 65536 n1 || dV 4096 d) || (!lB e || !fU e))=true->cY e d n s=(false,n1,s):=λh=>(Yq true h).1 rfl
  by_cases c1:65536<n1
  ·rw[lR (by simp[dV,c1])]
   simp only[BW,NS h1 JM,gt_iff_lt,c1];refine rg ?_;simp only[BW];exact ga rfl ⟨rfl,_,rfl⟩
  by_cases c2:4096<d
  ·rw[lR (by simp[dV,c2])]
   simp only[BW,NS h1 JM,gt_iff_lt,c1,c2];refine rg ?_;simp only[BW];exact ga rfl ⟨rfl,_,rfl⟩
  cases c3:lB e with
  | false =>
   rw[lR (by simp[c3])]
   rw[c3] at FC;simp only[BW,NS h1 JM,gt_iff_lt,c1,c2,y_,Nw,FC,i_];refine rg ?_;simp only[BW];exact ga rfl ⟨rfl,_,rfl⟩
  | true =>
  rw[c3] at FC;cases c4:fU e with
  | false =>
   rw[lR (by simp[c4])]
   rw[c4] at Iv;simp only[BW,NS h1 JM,gt_iff_lt,c1,c2,y_,Nw,FC,Iv,i_];refine rg ?_;simp only[BW];exact ga rfl ⟨rfl,_,rfl⟩
  | true =>
  rw[c4] at Iv;rw[(Yq false (by simp[dV,c1,c2,c3,c4])).2 rfl]
  clear lR Yq;have e0:nth (aR e) 0=some (.int .i64 op):=by rw[<- he];rfl
  have e9:nth (aR e) 9=some (yT nl (fO args)):=by rw[<- he];rfl
  simp only[BW,NS h1 JM,gt_iff_lt,c1,c2,y_,Nw,FC,Iv,i_];refine rg ?_;simp only[BW,ej,zjB fB,e0];generalize AQ:(if op == 2 then IntKind.i64.wrap (s+1) else s)=s1
  refine zqz (λh=>by simpa only[zi] using h) ⟨two bs b1 b2 n1 s1++[.cells (aR e) 53],[]⟩ 57 [(1,.int .i64 d),(2,.ptr b1 0),(3,.ptr b2 0),(4,.ptr bs.length 0)] (λaE=>?_) (λaE=>?_) λenv ⟨j,e⟩=>?_
  ·rw[aE] at AQ;subst AQ;refine rg ?_;simp only[BW,zjy h2,zjA h2,wa];exact⟨_,rfl,mo rfl⟩
  ·rw[aE] at AQ;subst AQ;exact⟨_,rfl,mo rfl⟩
  subst e;simp only[sh,Az,Nat.reduceBEq,Nat.reduceAdd,oo,rB];simp only[zi];refine rg ?_;simp only[BW,ej,zjB eB,e9,z9,qz];generalize hR:iI (IntKind.i64.wrap (d+1)) args n1 s1=R
  refine qx (λm st=>∃i env n' s' ls,m+i=args.length/\st=⟨env,⟨two bs b1 b2 n' s'++ls,[]⟩,[],[]⟩/\Ks 57 [(1,.int .i64 d),(2,.ptr b1 0),(3,.ptr b2 0),(43,yT nl (fO args)),(44,.int .i64 (args.length:Nat)),(45,.int .i64 (i:Nat))] env/\iI (IntKind.i64.wrap (d+1)) (args.drop i) n' s'=R) args.length (by omega) ⟨0,_,_,_,_,rfl,rfl,mo rfl,hR⟩ ?_
  rintro m st ⟨i,env,n',s',ls,A9,rfl,⟨j,rfl⟩,tV⟩;simp only[sh,Az,Nat.reduceBEq,Nat.reduceAdd,oo,rB];simp only[zi];refine rg ?_;simp only[BW,qK]
  by_cases hi:i<args.length
  ·refine .inl ⟨by simp;omega,?_⟩
   obtain⟨a,ha⟩:∃a,args[i]?=some a:=⟨args[i],by simp[hi]⟩
   have fm:args.drop i=a::args.drop (i+1):=by
    rw[F8 hi];rw[gG hi] at ha;cases ha;rfl
   refine rg ?_;simp only[BW,z9,zjr ha,zma,Yo,zR (show dD (.agg zE)=true from rfl),V.cells,kQ,zn6 (l:=zE) rfl rfl];refine rg ?_;have dz:=fS a (pG ha) (IntKind.i64.wrap (d+1)) n' s' (bs++(ls++[.cells (aR a) 53])) [] (by simp;omega) (by simp;omega)
   rw[zjx h1 h2,zjx h1 h2,q9] at dz;rw[fm] at tV;simp only[iI] at tV;generalize cY a (IntKind.i64.wrap (d+1)) n' s'=r at dz tV;obtain⟨r1,r2,r3⟩:=r
   have hc:Cx.bK ⟨prog,gl.g,zj prog gl N,nU⟩ 122 [.agg (aR a),.int .i64 (IntKind.i64.wrap (d+1)),.ptr b1 0,.ptr b2 0] ⟨two bs b1 b2 n' s'++(ls++[.cells (aR a) 53]),[]⟩=some (.val (.bool r1),⟨two bs b1 b2 r2 r3++(ls++[.cells (aR a) 53]),[]⟩):=zu func122 rfl dz;cases r1 with
   | false =>
    simp only[BW,De,wa,hc,i_];refine rg ?_;simp only[BW];simp only[gh,bD] at tV;subst tV;exact ga rfl ⟨rfl,_,rfl⟩
   | true =>
    simp only[BW,De,wa,hc,i_];refine rg ?_;simp only[aI] at tV;have h4:=zpV (i:=i) (by omega)
    simp only[BW,wa,h4];exact⟨m - 1,by omega,i+1,_,_,_,_,by omega,rfl,mo rfl,tV⟩
  ·obtain rfl:i=args.length:=by omega
   refine .inr ⟨by simp,?_⟩
   rw[List.drop_length] at tV;simp only[iI] at tV;subst tV;refine rg ?_;simp only[BW];exact ga rfl ⟨rfl,_,rfl⟩
termination_by e=>hg e
decreasing_by simp only[hg];have:=W6 ha;omega
end
section
variable{gl:Gl}{fK:bO}
section
variable{bs:List bq}{x:bq}{n s z:Int}{es:aP}{g:Nat->Nat->cj}{env:aG}{df:bS}
theorem L4{y w:bq}:two (bs++[x,y,w]) (bs.length+1) (bs.length+2) n s=bs++[x,ci n,ci s]:=by
 unfold two;rw[uN _ _ (by omega),uN _ _ (by omega),show bs.length+1 - bs.length=1 by omega,show bs.length+2 - bs.length=2 by omega]
 rfl
theorem Qr:qp prog 3 ⟨bs++[x,ci n,ci s],es⟩ [] df (some (.int .i64 z,env)) (some (.ptr (bs.length+1) 0))=some (.skip,⟨env,⟨bs++[x,ci z,ci s],es⟩,[],df⟩):=by
 have:=zjz (bs:=bs++[x,ci n,ci s]) (ls:=[]) (b1:=bs.length+1) (b2:=bs.length+2) (n:=n) (s:=s) (z:=z) (es:=es) (env:=env) (df:=df) (by simp) (by omega)
 rwa [L4,L4,nk,nk] at this
theorem Qs:qp prog 3 ⟨bs++[x,ci n,ci s],es⟩ [] df (some (.int .i64 z,env)) (some (.ptr (bs.length+2) 0))=some (.skip,⟨env,⟨bs++[x,ci n,ci z],es⟩,[],df⟩):=by
 have:=zjA (bs:=bs++[x,ci n,ci s]) (ls:=[]) (b1:=bs.length+1) (b2:=bs.length+2) (n:=n) (s:=s) (z:=z) (es:=es) (env:=env) (df:=df) (by simp)
 rwa [L4,L4,nk,nk] at this
theorem Qt:zk prog ⟨bs++[x,ci n,ci s],es⟩ g 3 (.ptr (bs.length+2) 0)=some (.int .i64 s):=by
 have:=zjy (bs:=bs++[x,ci n,ci s]) (ls:=[]) (b1:=bs.length+1) (b2:=bs.length+2) (n:=n) (s:=s) (es:=es) (g:=g) (by simp)
 rwa [L4,nk] at this
theorem Yr{e:E}{ls:List bq}:zk prog ⟨bs++(.cells (aR e) 53::ls),es⟩ g 53 (.ptr bs.length 0)=some (enc e):=by
 rw[jp Bh uD (cs:=aR e) (ty:=53) (by
  show nth _ _=_
  rw[zg,fM (dB _)];simp) (by rw[z7];omega),q9,ny,su (by rw[z7];omega)]
end
theorem Ys:qL prog 3=some (.int .i64 0):=by kernel_rfl
theorem zoL{z:Int}:bq.cells [.int .i64 z] 3=ci z:=rfl
def CG:cj->cj->cj
 | some (.int k a),some (.int _ b)=>some (.int k (if b<a then b else a))
 | _,_=>none
theorem Yt{cx:Cx}{takes:cw}{dst:fz}{type:aD}{pos:String}{after:Array Edge}{guard:oq}{env:aG}{H:Hp}{lk:aP}{df:bS}{x y:a_}{ts:Array aD} :
  cx.op takes ⟨dst,.call ⟨.builtin .min,#[x,y],ts⟩,type,pos,after,guard⟩ env H lk df=iy env H lk df (CG (ak env x) (ak env y)):=by
 simp only[Cx.op,Cx.builtin];cases hx:ak env x with
 | none=>cases ak env y<;>simp[CG,iy]
 | some a=>cases hy:ak env y with
  | none=>cases a<;>simp[CG,iy]
  | some b=>cases a<;>cases b<;>simp[CG,iy]
def TV(fK:bO):Bool:=[122,153,154].all (λf=>!fK.any (Nat.beq f))
theorem zjC(hG:GK gl fK)(e_:TV fK=true){e:E}(hw:Wf e){N:Nat}(hN:hg e+3<=N){bs:List bq}{x:bq}:Cx.bK ⟨prog,gl.g,zj prog gl N,nU⟩ 122 [enc e,.int .i64 1,.ptr (bs.length+1) 0,.ptr (bs.length+2) 0] ⟨bs++[x,ci 0,ci 0],[]⟩=some (.val (.bool (cY e 1 0 0).1),⟨bs++[x,ci (cY e 1 0 0).2.1,ci (cY e 1 0 0).2.2],[]⟩):=by
 have:=zoK hG e_ e hw 1 0 0 N hN (bs++[x,ci 0,ci 0]) [] (bs.length+1) (bs.length+2) (by simp) (by simp) (by omega)
 rw[L4,L4] at this;exact zu func122 rfl this
theorem zqB(hG:GK gl fK)(h0:fK.any (Nat.beq 85)=false)(e_:TV fK=true)(e:E)(hw:Wf e):CC (hg e+4) prog gl 85 [enc e] (.bool (JI e)):=by
 refine xw hG func85 rfl h0 rfl (hg e+3) λn hn bs=>?_;simp only[f85,zi];refine rg ?_;simp only[BW,List.replicate,NR,qg (L3 e),yZ];refine rg ?_;have hz:(V.int .i64 0).cells=[.int .i64 0]:=rfl;simp only[BW,Nat.reduceAdd,Ys,zR (show dD (.int .i64 0)=true from rfl),hz,zoL,Qr,Qs];refine rg ?_
 simp only[BW,Yr,Nw,zjC hG e_ hw hn];exact ga rfl ⟨rfl,_,rfl⟩
theorem zqC(hG:GK gl fK)(h0:fK.any (Nat.beq 87)=false)(e_:TV fK=true)(e:E)(hw:Wf e):CC (hg e+4) prog gl 87 [enc e] (.int .i64 (vw e)):=by
 refine xw hG func87 rfl h0 rfl (hg e+3) λn hn bs=>?_;simp only[f87,zi];refine rg ?_;simp only[BW,List.replicate,NR,qg (L3 e),yZ];refine rg ?_;have hz:(V.int .i64 0).cells=[.int .i64 0]:=rfl;have hc:=zjC hG e_ hw hn (bs:=bs) (x:=.cells (aR e) 53);unfold vw;generalize cY e 1 0 0=r at hc ⊢;obtain⟨r1,r2,r3⟩:=r
 simp only[BW,Nat.reduceAdd,Ys,zR (show dD (.int .i64 0)=true from rfl),hz,zoL,Qr,Qs];refine rg ?_;cases r1 with
 | false =>
  simp only[BW,Yr,Nw,hc,i_];refine rg ?_;simp only[BW];exact ga rfl ⟨rfl,_,rfl⟩
 | true =>
  simp only[BW,Yr,Nw,hc,i_];refine rg ?_
  by_cases h:1001<r3
  ·simp only[BW,Qt,Yt,CG,h];exact ga rfl ⟨by simp[dV,h],_,rfl⟩
  ·simp only[BW,Qt,Yt,CG,h];exact ga rfl ⟨by simp[dV,h],_,rfl⟩
end
section
set_option maxHeartbeats 1000000
variable{gl:Gl}{fK:bO}
def zC:aG:=mT (.mk 0 0 0 0 0 0 [] 0 0 true [],false,.mk 0 0 0 0 0 0 [] 0 0 true [])
section
variable{bs ls:List bq}{es:aP}{g:Nat->Nat->cj}{env:aG}{df:bS}{c:Cr}
theorem Yu{x:bq}:(⟨bs++(ls++[x]),es⟩:Hp).get (bs.length+ls.length)=some x:=by
 show nth _ _=_;rw[zg,fM (by omega),show bs.length+ls.length - bs.length=ls.length by omega,fM (dB _)];simp
theorem Qu:qp prog 55 ⟨bs++(ls++[.cells zC 55]),es⟩ [] df (some (.agg (mT c),env)) (some (.ptr (bs.length+ls.length) 0))=some (.skip,⟨env,⟨bs++(ls++[.cells (mT c) 55]),es⟩,[],df⟩):=by
 have h:=Jz (P:=prog) (t:=55) (n:=21) (B:=bs) (ls:=ls++[.cells zC 55]) (k:=ls.length) (off:=0) (cs:=zC) (ty:=55) (v:=.agg (mT c)) (env:=env) (lk:=[]) (df:=df) (es:=es) Iq (by rw[zg];simp) rfl (by simp only[V.laid,TP,vv]) (by simp[zC,vv]) (zjt _) (by simp[V.top,Yb])
 rw[h];simp only[V.laid,TP];rw[wM (by simp[zC,vv])]
 simp
theorem sU:zH prog 55 0=some 0/\zH prog 55 1=some 10/\zH prog 55 2=some 11:=⟨by kernel_rfl,by kernel_rfl,by kernel_rfl⟩
theorem JN:zk prog ⟨bs++(ls++[.cells (mT c) 55]),es⟩ g 53 (.ptr (bs.length+ls.length) 0)=some (.agg (aR c.1))/\zk prog ⟨bs++(ls++[.cells (mT c) 55]),es⟩ g 53 (.ptr (bs.length+ls.length) 11)=some (.agg (aR c.2.2))/\zk prog ⟨bs++(ls++[.cells (mT c) 55]),es⟩ g 4 (.ptr (bs.length+ls.length) 10)=some (.bool c.2.1):=by
 have h1:=z7 c.1;have h2:=z7 c.2.2;refine⟨?_,?_,?_⟩
 ·rw[jp Bh uD Yu (by rw[vv];omega)]
  simp only[mT,ny,bp];rw[List.take_left' h1]
 ·rw[jp Bh uD Yu (by rw[vv];omega)]
  simp only[mT];rw[List.drop_left' (by simp[h1]),su (by omega)]
 ·refine zr (by kernel_rfl) Yu ?_
  simp only[mT,bp];rw[zg,fM (by omega),h1];rfl
end
theorem Yv:qL prog 55=some (.agg zC):=z47
def zoM(fK:bO):Bool:=TV fK && [85,86,87].all (λf=>!fK.any (Nat.beq f))
theorem Yw(hG:GK gl fK)(h0:fK.any (Nat.beq 54)=false)(e_:zoM fK=true)(nl:Bool)(l:List Cr)(_hl:l.length<=maxLen)(hw:∀c∈l,WfC c):Kn prog gl 54 [jb nl l] (.bx [.int .i64 (xe l).1,.bool (xe l).2]):=by
 have Ca:=uC;obtain⟨K,hK⟩:∃K,∀c∈l,hg c.1<=K/\hg c.2.2<=K:=by
  clear _hl hw
  induction l with
  | nil=>exact⟨0,λc h=>by cases h⟩
  | cons a l ih =>
   obtain⟨K,hK⟩:=ih;refine⟨max K (max (hg a.1) (hg a.2.2)),λc h=>?_⟩;rcases dM.1 h with rfl|h
   ·omega
   ·have:=hK c h;omega
 simp only[zoM,eF,List.all_cons,List.all_nil,Bool.and_true,Gb] at e_;obtain⟨Qv,n85,n86,n87⟩:=e_;refine⟨_,xw hG func54 rfl h0 rfl (l.length+K+5) λn hn bs=>?_⟩;simp only[f54,zi];refine rg ?_;simp only[BW,List.replicate];refine rg ?_
 by_cases c0:(200:Int)<l.length
 ·simp only[BW,vf,TQ,gt_iff_lt,c0];refine rg ?_;simp only[BW];have hm:xe l=(0,false):=by simp[xe,dV,c0]
  rw[hm];exact Qj rfl rfl ⟨rfl,[],by simp⟩
 simp only[BW,vf,TQ,gt_iff_lt,c0];have hm:xe l=nu 0 l:=by simp[xe,dV,c0]
 rw[hm];generalize hR:nu 0 l=R;refine rg ?_;simp only[BW,vf,TQ];refine qx (λm st=>∃i env p ls,m+i=l.length/\st=⟨env,⟨bs++ls,[]⟩,[],[]⟩/\Ks 52 [(2,.int .i64 p),(3,.bool false),(9,jb nl l),(10,.int .i64 (l.length:Nat)),(11,.int .i64 (i:Nat))] env/\nu p (l.drop i)=R) l.length (by omega) ⟨0,_,_,[],rfl,by rw[nk],mo rfl,hR⟩ ?_
 rintro m st ⟨i,env,p,ls,A9,rfl,⟨j,rfl⟩,tV⟩;simp only[sh,Az,Nat.reduceBEq,Nat.reduceAdd,oo,rB];simp only[zi];refine rg ?_;simp only[BW,qK]
 by_cases hi:i<l.length
 ·refine .inl ⟨by simp;omega,?_⟩
  obtain⟨c,hc⟩:∃c,l[i]?=some c:=⟨l[i],by simp[hi]⟩
  have fm:l.drop i=c::l.drop (i+1):=by
   rw[F8 hi];rw[gG hi] at hc;cases hc;rfl
  have sH:=pG hc;obtain⟨w1,w2⟩:=hw c sH;obtain⟨k1,k2⟩:=hK c sH;rw[fm] at tV;have c85:∀e,Wf e->hg e<=K->∀H,Cx.bK ⟨prog,gl.g,zj prog gl n,nU⟩ 85 [.agg (aR e)] H=some (.val (.bool (JI e)),H):=λe w k=>by
   rw[<- q9];exact yl func85 rfl (zqB hG n85 Qv e w n (by omega))
  have c87:∀e,Wf e->hg e<=K->∀H,Cx.bK ⟨prog,gl.g,zj prog gl n,nU⟩ 87 [.agg (aR e)] H=some (.val (.int .i64 (vw e)),H):=λe w k=>by
   rw[<- q9];exact yl func87 rfl (zqC hG n87 Qv e w n (by omega))
  have c86:∀e H,Cx.bK ⟨prog,gl.g,zj prog gl n,nU⟩ 86 [.agg (aR e)] H=some (.val (.bool (mM e)),H):=λe=>by
   rw[<- q9];exact yl func86 rfl (zqA hG n86 e n (by omega))
  refine rg ?_;simp only[BW,vf,zeR hc,zju,Yv,zR (show dD (.agg zC)=true from rfl),V.cells,Qu];have ek:∀b,CB c=b->b=true/\nu p (c::l.drop (i+1))=nu (Fz p c) (l.drop (i+1))\/b=false/\nu p (c::l.drop (i+1))=(0,false):=λb hb=>by
   simp only[nu];cases b with
   | true=>exact .inl ⟨rfl,by rw[hb];rfl⟩
   | false=>exact .inr ⟨rfl,by rw[hb];rfl⟩
  obtain⟨ls',ant⟩:∃ls',ls'=ls++[.cells (mT c) 55]:=⟨_,rfl⟩;refine Qk 52 [(2,.int .i64 p),(3,.bool false),(5,.ptr (bs.length+ls.length) 0),(9,jb nl l),(10,.int .i64 (l.length:Nat)),(11,.int .i64 (i:Nat)),(39,.bool (!CB c))] ?_ λenv ⟨j,e⟩=>?_
  ·refine rg ?_;have L5:=c85 c.1 w1 k1;obtain⟨q1,q2,q3⟩:=(JN (bs:=bs) (ls:=ls) (es:=[]) (g:=gl.g) (c:=c));cases a1:JI c.1 with
   | false =>
    rw[a1] at L5;simp only[BW,sU,q1,L5,i_];exact⟨_,rfl,(show(!CB c)=true by simp[CB,a1]) ▸ mo rfl⟩
   | true =>
   rw[a1] at L5;have Iw:=c85 c.2.2 w2 k2;have TW:=c86 c.2.2;cases a2:c.2.1 with
   | true =>
    rw[a2] at q3;cases a3:JI c.2.2 with
    | false =>
     rw[a3] at Iw;simp only[BW,sU,q1,q2,q3,L5,Iw,i_];exact⟨_,rfl,(show(!CB c)=true by simp[CB,a1,a2,a3]) ▸ mo rfl⟩
    | true =>
     rw[a3] at Iw;simp only[BW,sU,q1,q2,q3,L5,Iw,i_];exact⟨_,rfl,(show(!CB c)=false by simp[CB,a1,a2,a3]) ▸ mo rfl⟩
   | false =>
    rw[a2] at q3;cases a3:mM c.2.2 with
    | false =>
     rw[a3] at TW;simp only[BW,sU,q1,q2,q3,L5,TW,i_];exact⟨_,rfl,(show(!CB c)=true by simp[CB,a1,a2,a3]) ▸ mo rfl⟩
    | true =>
     rw[a3] at TW;simp only[BW,sU,q1,q2,q3,L5,TW,i_];exact⟨_,rfl,(show(!CB c)=false by simp[CB,a1,a2,a3]) ▸ mo rfl⟩
  subst e;simp only[sh,Az,Nat.reduceBEq,Nat.reduceAdd,oo,rB];rcases ek _ rfl with⟨ho,hF⟩|⟨ho,hF⟩
  ·rw[hF] at tV;simp only[BW,ho];obtain⟨q1,q2,q3⟩:=(JN (bs:=bs) (ls:=ls) (es:=[]) (g:=gl.g) (c:=c));have v1:=c87 c.1 w1 k1;have v2:=c87 c.2.2 w2 k2;generalize hq:vw c.1=z1 at v1;generalize Ch:vw c.2.2=z2 at v2;refine vo (tk:=[]) (by kernel_rfl) ?_
   apply Exists.intro;apply And.intro;refine oF 0 (.int .i64 p) (by simp only[BW]) ?_
   dsimp only[aq]
   refine oF 0 (.ptr (bs.length+ls.length) 0) (by simp only[BW,sU]) ?_
   dsimp only[aq]
   refine oL 2 (.agg (aR c.1)) (by simp only[BW,q1]) (λc h=>by cases h) ?_
   dsimp only[aq]
   refine oH 6 8 (.int .i64 z1) (by simp only[BW,v1]) (λc h=>by cases h) (by kernel_rfl) ?_
   dsimp only[aq]
   refine oF 15 (.int .i64 (IntKind.i64.wrap (p+z1))) (by simp only[BW,wa]) ?_
   dsimp only[aq]
   refine oF 0 (.ptr (bs.length+ls.length) 11) (by simp only[BW,sU]) ?_
   dsimp only[aq]
   refine oL 32 (.agg (aR c.2.2)) (by simp only[BW,q2]) (λc h=>by rw[r9.1 h];exact⟨rfl,rfl,rfl⟩) ?_
   dsimp only[aq]
   refine oH 110 136 (.int .i64 z2) (by simp only[BW,v2]) (λc h=>by rw[r9.1 h];kernel_rfl) (by kernel_rfl) ?_
   dsimp only[aq]
   refine oF 255 (.int .i64 (IntKind.i64.wrap (IntKind.i64.wrap (p+z1)+z2))) (by simp only[BW,wa]) ?_
   dsimp only[aq]
   refine oL 511 (.int .i64 (Fz p c)) (by
    simp only[BW,Yt,CG];simp only[Fz,hq,Ch,dV]
    by_cases h:1001<IntKind.i64.wrap (IntKind.i64.wrap (p+z1)+z2)<;>simp[h]) (λc h=>by simp only[dM,uh,tB] at h;rcases h with rfl|rfl<;>exact⟨rfl,rfl,rfl⟩) ?_
   dsimp only[aq]
   refine oF 1023 (.int .i64 (Fz p c)) (by simp only[BW]) vq
   simp only[aq];refine rg ?_;have h4:=zpV (i:=i) (by omega)
   simp only[BW,wa,h4];exact⟨m - 1,by omega,i+1,_,_,ls++[.cells (mT c) 55],by omega,rfl,mo rfl,tV⟩
  ·rw[hF] at tV;subst tV;simp only[BW,ho];refine rg ?_;simp only[BW];exact Qj rfl rfl ⟨rfl,_,rfl⟩
 ·obtain rfl:i=l.length:=by omega
  refine .inr ⟨by simp,?_⟩
  rw[List.drop_length] at tV;simp only[nu] at tV;subst tV;refine rg ?_;simp only[BW];exact Qj rfl rfl ⟨rfl,_,rfl⟩
end
end Go.Proofs.YthohlnmcjkjeiaaGreatDoor.A2
namespace Go.Proofs.YthohlnmcjkjeiaaGreatDoor
open Go Go.Vm
open Go.Proofs.Tryz
set_option maxRecDepth 100000
section
variable{gl:Gl}
def fC(F N:aG):aG:=[.aH,.aH,zm 1 27 F,zm 1 27 N]
structure BI(H:Hp)(F N:aG)(m:Mk):Prop where
 r:H.get 0=some (.cells zF 30)
 f:H.get 2=some (.cells (fC F N) 30)
 Ay:∃i,MK 0 H 1 m i
 len:3<=H.az.length
def Kc(H H':Hp):Prop:=∀d cs ty,d≠1->H.get d=some (.cells cs ty)->H'.get d=some (.cells cs ty)
theorem zml{H H':Hp}{c:V}{i:Option Nat}{xs:List aG}(hu:UL H 19 115 c i xs)(hf:sO H H' (λd=>d=1\/i=some d)):Kc H H':=λd cs ty hd hg=>hf.some hg λhc=>by
 rcases hc with rfl|hc
 ·exact hd rfl
 ·exact LO hu hg hc
variable{H:Hp}{F N:aG}{m:Mk}
theorem BI.made(h:BI H F N m){H':Hp}{m':Mk}{i':Option Nat}(hk:Kc H H')(hl:H.az.length<=H'.az.length)(hm:MK 0 H' 1 m' i'):BI H' F N m' :=
 ⟨hk _ _ _ (by decide) h.r,hk _ _ _ (by decide) h.f,⟨i',hm⟩,cZ h.len hl⟩
theorem BI.push(h:BI H F N m)(x:bq):BI (H.push x) F N m:=by
 have hl:=h.len;obtain⟨i,c,k1,k2,k3⟩:=h.Ay;refine⟨(jI (by omega)).trans h.r,(jI (by omega)).trans h.f,⟨i,c,(jI (by omega)).trans k1,k2.frame λj hj=>jI (by subst hj;exact k2.lt),k3⟩,by rw[jn];omega⟩
theorem zn7(x:bq):Kc H (H.push x):=λ_d _cs _ty _ hg=>(jI (kK hg)).trans hg
theorem BI.Cz(h:BI H F N m){b:Nat}{cs cs':aG}{ty ty':aD}(hb:H.get b=some (.cells cs ty))(h3:3<=b):BI (H.set b (.cells cs' ty')) F N m:=by
 obtain⟨i,c,k1,k2,k3⟩:=h.Ay;refine⟨(qD (by omega)).trans h.r,(qD (by omega)).trans h.f,⟨i,c,(qD (by omega)).trans k1,k2.frame λj hj=>qD λe=>?_,k3⟩,by rw[wl];exact h.len⟩
 subst e;exact LO k2 hb hj
theorem BI.Qw{F' N':aG}(h:BI H F N m):BI (H.set 2 (.cells (fC F' N') 30)) F' N' m:=by
 obtain⟨i,c,k1,k2,k3⟩:=h.Ay;refine⟨(qD (by decide)).trans h.r,wA h.f,⟨i,c,(qD (by decide)).trans k1,k2.frame λj hj=>qD λe=>?_,k3⟩,by rw[wl];exact h.len⟩
 subst e;exact LO k2 h.f hj
theorem zmm{H:Hp}{b:Nat}{v:V}{e:Nat×Nat}(h:e∈H.bJ):e∈(H.bU b v).bJ:=by
 unfold Hp.bU;split
 ·exact h
 ·exact eo _ h
theorem BI.bU(h:BI H F N m)(b:Nat)(v:V):BI (H.bU b v) F N m:=by
 obtain⟨i,c,k1,k2,k3⟩:=h.Ay;exact⟨bZ.trans h.r,bZ.trans h.f,⟨i,c,bZ.trans k1,k2.frame λj hj=>bZ,λj hj hn=>⟨(k3 j hj hn).1,zmm (k3 j hj hn).2⟩⟩,by rw[xn];exact h.len⟩
theorem Yx{H:Hp}{b:Nat}{x y:bq}:(H.set b x).set b y=H.set b y:=by simp[Hp.set,List.set_set]
theorem Yy{t n:aD}{H:Hp}{b:Nat}{v cs:aG}{ty:aD}{env:aG}{lk:aP}{df:bS}(hs:z4 prog t=some n)(hg:H.get b=some (.cells cs ty))(hv:v.length=n)(hc:v.map bg=v)(ht:aL v=0)(hl:cs.length=n)(hu:cs.all (λc=>!(locked c))=true) :
  qp prog t H lk df (some (.agg v,env)) (some (.ptr b 0))=some (.skip,⟨env,H.set b (.cells v ty),lk,df⟩):=by
 rw[zA (v:=.agg v) hs hg rfl (by simp[V.laid,hv]) (by omega) (wi hu (by omega)),jV (by simp[V.top,ht])]
 simp only[V.laid,hc];rw[wM (by rw[hl,hv])]
theorem Yz{t n:aD}{H:Hp}{b:Nat}{cs:aG}{ty:aD}{g:Nat->Nat->cj}(ha:qG prog t=some true)(hs:z4 prog t=some n)(hg:H.get b=some (.cells cs ty))(hl:cs.length=n):zk prog H g t (.ptr b 0)=some (.agg cs):=by
 rw[jp ha hs hg (by omega),ny,su (by omega)]
theorem NU:mY prog 28 27 1 24:=⟨by kernel_rfl,by kernel_rfl,by kernel_rfl,by decide,by kernel_rfl,by kernel_rfl,by kernel_rfl⟩
theorem Qx:qG prog 28=some false:=by kernel_rfl
theorem FD:zH prog 55 0=some 0:=by kernel_rfl
theorem L6:zH prog 55 1=some 10:=by kernel_rfl
theorem L7:zH prog 55 2=some 11:=by kernel_rfl
theorem L8:zH prog 30 0=some 0:=by kernel_rfl
theorem L9:zH prog 30 1=some 1:=by kernel_rfl
theorem FE:zH prog 30 2=some 2:=by kernel_rfl
theorem L_:zH prog 30 3=some 3:=by kernel_rfl
theorem ldC{b:Nat}{c:Cr}{g:Nat->Nat->cj}(hg:H.get b=some (.cells (mT c) 55)) :
  zk prog H g 53 (.ptr b 0)=some (.agg (aR c.1))/\zk prog H g 4 (.ptr b 10)=some (.bool c.2.1)/\zk prog H g 53 (.ptr b 11)=some (.agg (aR c.2.2)):=by
 obtain⟨h,t,tr⟩:=c;have Ck:=z7 h;have t10:=z7 tr;have e1:(mT (h,t,tr)).take 10=aR h:=by
  rw[mT,bp,<- Ck,List.take_left]
 have e2:(mT (h,t,tr)).drop 11=aR tr:=by
  have:(aR h++[V.bool t]).length=11:=by simp[Ck]
  rw[mT,<- this,List.drop_left]
 have e3:(mT (h,t,tr))[10]?=some (.bool t):=by
  rw[mT,bp,fM (by simp only;omega),Ck];rfl
 refine⟨?_,zr ND hg (by rw[zg,e3]),?_⟩
 ·rw[jp Ct tU hg (by rw[vv];decide),ny,e1]
 ·rw[jp Ct tU hg (by rw[vv];decide),e2,su (by omega)]
theorem zp5{x:a_}{env:aG}{h t:E}(hx:ak env x=some (.sl 10 [.agg (aR h),.agg (aR t)] .no)):kw prog 53 #[(0,.const (.int .i64 5)),(6,x)] env=some (.agg (aR (.mk 5 0 0 0 0 0 [] 0 0 false [h,t]))):=by
 have hp:(match prog.underlying 53 with|some (.struct fs)=>Sf prog fs|_=>none)=some [(0,1),(1,1),(2,4),(6,1),(7,1),(8,1),(9,1)]:=by kernel_rfl
 have h5:ak env (.const (.int .i64 5))=some (.int .i64 5):=rfl;unfold kw;rw[Yf];cases hu:prog.underlying 53 with
 | none=>rw[hu] at hp;cases hp
 | some d =>
  rw[hu] at hp;cases d<;>simp only at hp<;>try (cases hp;done)
  simp only[hp];simp[dD,xM,h5,hx,nth,aR,V.cells,Vm.storeCells,yT,fO,q9]
theorem TX(hb:BI H F N m)(cz v:aG)(ty ty':aD):BI ((H.push (.cells cz ty)).set H.az.length (.cells v ty')) F N m/\Kc H ((H.push (.cells cz ty)).set H.az.length (.cells v ty'))/\((H.push (.cells cz ty)).set H.az.length (.cells v ty')).get H.az.length=some (.cells v ty')/\((H.push (.cells cz ty)).set H.az.length (.cells v ty')).az.length=H.az.length+1:=by
 have hg:(H.push (.cells cz ty)).get H.az.length=some (.cells cz ty):=we;refine⟨(hb.push _).Cz hg hb.len,λd cs t hd Ap=>?_,wA hg,by rw[wl,jn]⟩
 have:=kK Ap;rw[qD (by omega),jI this,Ap]
theorem YA(hb:BI H F N m){b:Nat}{cs v:aG}{ty:aD}(hg:H.get b=some (.cells cs ty))(h3:3<=b):BI (H.set b (.cells v ty)) F N m/\(∀d x,d≠b->H.get d=some x->(H.set b (.cells v ty)).get d=some x)/\(H.set b (.cells v ty)).get b=some (.cells v ty)/\(H.set b (.cells v ty)).az.length=H.az.length :=
 ⟨hb.Cz hg h3,λ_d _x hd hx=>(qD hd).trans hx,wA hg,wl⟩
end
section
variable{gl:Gl}
theorem zmp(hg:GW gl){n:Nat}(hn:70<=n){H:Hp}{b off eK:Nat}{pre post:aG}{p:Nat->Bool}(hb:H.get b=some (.ul eK 19 (pre++pv 19 p++post) 115))(ho:pre.length=off) :
  zj prog gl (n+1) 59 [.gk b eK off] H=some (.ret (bg (zm 1 3 (xp p 19))),H):=by
 obtain⟨bs,es⟩:=H;have sn:Hp.get ⟨bs,[]⟩ b=some (.ul eK 19 (pre++pv 19 p++post) 115):=hb;have iG:zX bs.length es 0 ⟨bs,[]⟩=⟨bs,es⟩:=by
  have:=zY (bs:=bs) (ls:=[]) (es:=es) (t:=0) (dP _)
  rwa [nk] at this
 generalize hL:xp p 19=L
 suffices bR:(go ⟨prog,gl,zj prog gl n,eg⟩ n (Fx prog f59.results.toList λw H1=>w=bg (zm 1 3 L)/\H1=⟨bs,[]⟩) [.c (f59.body.getD .skip)] .normal ⟨[.gk b eK off]++List.replicate 28 (.bx []),⟨bs,[]⟩,[],[]⟩) by
  obtain⟨w,H1,h0,h1,h2⟩:=zO (gl:=gl) (f:=59) (bs:=bs) (es:=es) (args:=[.gk b eK off]) (n:=n) (hg.hk _ _ (by decide)) (λH=>hg.fq _ _ _ _) func59 rfl (by rw[hg.uq];exact bR)
  rw[h0,h1,h2];have:(bg (zm 1 3 L)).top=0:=by
   rw[<- hL];exact zcD 19
  rw[this];exact congrArg (λx=>some (Out.ret _,x)) iG
 simp only[f59,gm,zi];refine zh ?_;simp only[qt,aK,zi,z6,qI,aj,aW,z8,aN,aq,bX,bY,List.replicate,br,bt]
 refine zh ?_;simp only[qt,aK,zi,z6,qI,aj,aW,z8,aN,aq,bX,bY]
 refine zh ?_;simp only[qt,aK,zx,zJ,ak,aj,zd,zq,aN,aq,bX,bY,jU]
 refine qx (λm s=>∃i env,m+i=19/\s=⟨env,⟨bs,[]⟩,[],[]⟩/\env.length=29/\nth env 3=some (zm 1 3 (xp p i))/\nth env 6=some (.gk b eK off)/\nth env 7=some (.int .i64 (i:Nat))) 19 (by omega) ⟨0,_,rfl,rfl,rfl,rfl,rfl,rfl⟩ ?_
 rintro m s ⟨i,env,A9,rfl,hlen,h3,h6,h7⟩;simp only[zi];refine zh ?_;simp only[qt,aK,zi,qT,zW,ak,aj,h7,zq,aN,aq,za,hlen,Nat.reduceLT,aI,zS,qR,qV,qK]
 by_cases hi:i<19
 ·refine .inl ⟨by simp;omega,?_⟩
  simp only[bH,zi,zx]
  refine jo (tk:=[]) (by kernel_rfl) (by kernel_rfl) ?_
  have dy:nth (pre++pv 19 p++post) (off+i)=some (.int .u64 (kN p i:Nat)):=by
   rw[zg,<- ho,xE jH hi,yK hi]
  have gy:zk prog ⟨bs,[]⟩ gl.g 48 (.gk b eK (off+i))=some (.int .u64 (kN p i:Nat)):=zeO m_ sn dy;simp only[jY,bu,zx,au,m_,lJ,zJ,zG,zU,qr,z6,zL,ak,h6,h7,zq,aN,aq,za,bI,hlen,Nat.reduceEqDiff,Nat.reduceLT,aI,bD,jU,zS,qo,z8,aW,aV,aa,aF,zg6 hi,gy]
  refine qx (λm s=>∃w acc env,(wh w).length=m/\w<2 ^ 64/\acc++((wh w).map λj=>.int .i64 ((64 * i+j:Nat):Int))=xp p (i+1)/\s=⟨env,⟨bs,[]⟩,[],[]⟩/\env.length=29/\nth env 3=some (zm 1 3 acc)/\nth env 4=some (.int .i64 (i:Nat))/\nth env 5=some (.int .u64 (w:Nat))/\nth env 6=some (.gk b eK off)/\nth env 7=some (.int .i64 (i:Nat))) (wh (kN p i)).length (by have:=WQ (w:=kN p i);omega) ⟨kN p i,xp p i,_,rfl,wd,rfl,rfl,?_,?_,?_,?_,?_,?_⟩ ?_
  ·simp[hlen]
  ·simp[za,h3]
  ·simp[za,hlen]
  ·simp[za,hlen]
  ·simp[za,h6]
  ·simp[za,h7]
  clear h3 h6 h7 hlen;rintro m s ⟨w,acc,env,hm,hw,u7,rfl,hlen,h3,h4,h5,h6,h7⟩;simp only[zi];refine zh ?_;simp only[qt,aK,qT,zJ,zW,ak,aj,h5,zq,aN,aq,za,bI,hlen,Nat.reduceEqDiff,Nat.reduceLT,aI,bD,zS,qR,Pk,qK]
  by_cases BD:w=0
  ·subst BD;rw[sM,bw,nk] at u7;subst u7;refine .inr ⟨by decide,?_⟩
   simp only[qk,zN,zp,bN,zD,iV,aI,qE];refine zh ?_;simp only[qt,aK,zJ,zW,ak,aj,h7,zq,aN,aq,za,bI,hlen,Nat.reduceEqDiff,Nat.reduceLT,aI,bD,zS,qn (show i<2 ^ 60 by omega),zp,aO]
   refine⟨18 - i,by omega,i+1,_,by omega,rfl,?_,?_,?_,?_⟩
   ·simp[hlen]
   ·simp[za,h3]
   ·simp[za,h6]
   ·simp[za,hlen]
  ·refine .inl ⟨by simp;omega,?_⟩
   obtain⟨k,mm,Cm⟩:=A4 w BD;have Gm:=λ(H:Hp)=>zlX hg (n:=n - 1) (H:=H) (k:=k) (m:=mm) (by rw[<- Cm];exact hw)
   rw[<- Cm,show n - 1+1=n by omega] at Gm
   simp only[bH,zi,zx]
   refine wK (tk:=[19]) (by kernel_rfl) ?_
   have dz:Cx.bK ⟨prog,gl.g,zj prog gl n,eg⟩ 96 [.int .u64 (w:Nat)] ⟨bs,[]⟩=some (.val (.int .i64 (k:Nat)),⟨bs,[]⟩):=zu func96 rfl (Gm _);have hk:k<64:=Pt (by rw[<- Cm];exact hw)
   have PD:acc.length+1<=64 * (i+1):=by
    have h1:=congrArg List.length u7;have h2:=xq (p:=p) (i+1);have h3:(wh w).length≠0:=by
     rw[Cm,To (by rw[<- Cm];exact hw)];simp
    simp only[aZ,iK] at h1;omega
   have gj:=jM DS (H:=⟨bs,[]⟩) (xs:=acc) (ys:=[V.int .i64 ((64 * i+k:Nat):Int)]) (o:=.no) (by simp) (j9 (by simp;omega) (by simp;omega))
   have Jx:=DS.BH (v:=.int .i64 ((64 * i+k:Nat):Int)) rfl rfl;have hmul:∀(u v:a_),q0 prog .mul 3 u v (some (.int .i64 64)) (some (.int .i64 (i:Nat)))=some (.int .i64 ((64 * i:Nat):Int)):=λu v=>WW (a:=64) (by omega)
   have Lv:nth (((env.set 13 (V.int .u64 (w:Nat))).set 14 (V.bool ((w:Int) != 0)))) 3=some (zm 1 3 acc):=by simp[za,h3]
   simp only[qt,jD,jx,v6 Lv,zW,kf,av,ql,ne_eq,ug,jS,ky (cx:=⟨prog,gl.g,zj prog gl n,eg⟩) (show rC prog eg 27=false by kernel_rfl),ak,aj,h4,h5,zq,z8,aN,aq,za,bI,hlen,Nat.reduceEqDiff,Nat.reduceLT,aI,bD,zS,wb,qP,bk,bw,aC,dz,hmul,xu (show 64 * i+k<2 ^ 60 by omega),Jx]
   rw[v6 (n:=1) (e:=3) (xs:=acc) (by simp[za,hlen])]
   simp only[BG,aV,gj,aN,aq,qt,aK,qE,z6]
   rw[v6 (n:=1) (e:=3) (xs:=acc++[V.int .i64 ((64 * i+k:Nat):Int)]) (by simp[za,hlen])]
   simp only[z8,aN,aq]
   refine zh ?_;have GG:w - 1<2 ^ 64:=by omega
   simp only[qt,aK,zJ,zW,z6,zL,ak,aj,h5,zq,z8,aN,aq,za,bI,hlen,Nat.reduceEqDiff,Nat.reduceLT,aI,bD,zS,qo,zeM BD hw,Tp hw GG,zp,aO]
   have lM:wh w=k::wh (w &&& (w - 1)):=by
    rw[Cm];exact To (by rw[<- Cm];exact hw)
   refine⟨(wh (w &&& (w - 1))).length,by rw[<- hm,lM];simp,w &&& (w - 1),acc++[V.int .i64 ((64 * i+k:Nat):Int)],_,rfl,Kl Nat.and_le_left hw,?_,rfl,?_,?_,?_,?_,?_,?_⟩
   ·rw[<- u7,lM];simp
   ·simp[hlen]
   ·simp[za,hlen]
   ·simp[za,h4]
   ·simp[za,hlen]
   ·simp[za,h6]
   ·simp[za,h7]
 ·obtain rfl:i=19:=by omega
  refine .inr ⟨by decide,?_⟩
  rw[hL] at h3;simp only[qk,zN,zp,bN,zD,iV,aI,zi];refine zh ?_;have rF:bg (bg (zm 1 3 L))=bg (zm 1 3 L):=by cases L<;>rfl
  have mq:∀e:aG,nth e 28=some (bg (zm 1 3 L))->take e (.tmp 28)=some (bg (zm 1 3 L),e):=λe he=>by
   rw[zL,he];cases L<;>rfl
  simp only[qt,aK,zJ,z6,ak,h3,zq,aN,aq,za,hlen,Nat.reduceEqDiff,Nat.reduceLT,aI,bD]
  rw[mq _ (by simp[za,hlen])]
  simp only[z8,aN,aq,go_ret,zp,Fx]
  refine⟨trivial,[bg (zm 1 3 L)],?_,rfl,trivial⟩;simp[zy,za,hlen]
end
section
variable{gl:Gl}
theorem z3:qL prog 3=some (.int .i64 0):=by kernel_rfl
theorem sz3:z4 prog 3=some 1:=by kernel_rfl
theorem Qy:∃i,prog.info? 3=some i/\i.bytes=8:=by
 have h:=DS.i;cases hi:prog.info? 3 with
 | none=>rw[hi] at h;cases h
 | some i =>
  rw[hi] at h;simp only[aV] at h;cases hz:i.zero with
  | none=>rw[hz] at h;cases h
  | some z =>
   rw[hz] at h;simp only[aW,bz,cq] at h;exact⟨i,rfl,h.2⟩
theorem uF:∀(l:bO),(cg (l.map Fw)).map bg=l.map Fw
 | []=>rfl
 | a::l=>by
  simp only[bk,cg,List.map_append,uF l];rfl
theorem Bi:∀(k:Nat)(z:V),(List.replicate k [z]).flatten=List.replicate k z
 | 0,_=>rfl
 | k+1,z=>by simp[G3,Bi k z]
def FF:Nat->Code->Code
 | 0,c=>c
 | n+1,.seq _ b=>FF n b
 | _+1,c=>c
structure EB(nl:Bool)(l:List Cr)(k:Nat)(env:aG):Prop where
 len:env.length=110
 e2:nth env 2=some (.ptr 0 0)
 e3:nth env 3=some .bP
 e4:nth env 4=some (.int .i64 (k:Int))
 e6:nth env 6=some (.ptr 1 0)
 e7:nth env 7=some (.ptr 2 0)
 AB:nth env 31=some (jb nl l)
 z_:nth env 32=some (.int .i64 (l.length:Int))
def TY(H:Hp)(ns:List (Nat->Bool))(N:aG):Prop:=N.length=ns.length/\∀(j:Nat)(p:Nat->Bool),ns[j]?=some p->∃b,N[j]?=some (.sr b 0 (jl p 19).length (jl p 19).length)/\H.get b=some (.cells ((jl p 19).map Fw) 3)
theorem zn8(hg:GW gl){n:Nat}(hn:4000<=n){nl:Bool}{l:List Cr}{k:Nat}{env:aG}{H:Hp}{m:Mk}{F:List bO}(he:EB nl l k env)(hb:BI H (F.map jJ) [] m)(ek:m.Ok)(hM:m.sets.length<=1200)(cK:∀p∈m.next,jl p 19≠[]) :
  go ⟨prog,gl,zj prog gl n,eg⟩ n (Fx prog f14.results.toList λw H1=>∃N,w=.bx [.agg [bg (zm 4 50 m.lC),bg (zm 1 3 m.fW),bg (zm 1 27 (F.map jJ)),bg (zm 1 27 N)],.bP]/\TY H1 m.next N) [.c (FF 7 (f14.body.getD .skip))] .normal ⟨env,H,[],[]⟩:=by
 have hlen:=he.len;obtain⟨im,cu,u1,u2,u3⟩:=hb.Ay;have B9:bg cu=cu/\qW prog H 111 cu=some (m.next.length:Int):=by
  cases im with
  | none =>
   obtain⟨rfl,h⟩:=u2;have:m.next=[]:=by simpa using h
   exact⟨rfl,by rw[zeN GH.u,this];rfl⟩
  | some j=>obtain⟨v,rfl,_⟩:=u2;exact⟨rfl,by rw[xr GH.u,iK]⟩
 have gy:zk prog H gl.g 111 (.ptr 1 2)=some cu:=zr Fc u1 rfl;simp only[f14,gm,FF,zi];refine zh ?_;simp only[BA,Nat.reduceEqDiff,ak,aj,aq,aa,ah,za,bI,Nat.reduceLT,bD,he.e6,hlen,rq,gy,B9.1,B9.2];have lp:m.next.length<=1200:=by rw[ek.n];exact hM
 refine xb (λenv=>EB nl l k env/\nth env 75=some (.int .i64 (m.next.length:Int))/\nth env 76=some (.int .i64 ((0:Nat):Int))) ⟨⟨by simp[hlen],by simp[za,he.e2],by simp[za,he.e3],by simp[za,he.e4],by simp[za,he.e6],by simp[za,he.e7],by simp[za,he.AB],by simp[za,he.z_]⟩,by simp[za,hlen],by simp[za,hlen]⟩ λenv At=>?_
 clear u1 u2 u3 gy B9 cu im he hlen;refine qx (λj s=>∃q env H N,j+q=m.next.length/\s=⟨env,H,[],[]⟩/\EB nl l k env/\nth env 75=some (.int .i64 (m.next.length:Int))/\nth env 76=some (.int .i64 ((q:Nat):Int))/\BI H (F.map jJ) N m/\TY H (m.next.take q) N) m.next.length (by omega) ⟨0,env,H,[],rfl,rfl,At.1,At.2.1,At.2.2,hb,rfl,λj p hp=>by simp at hp⟩ ?_
 clear At hb env H;rintro j s ⟨q,env,H,N,hjq,rfl,he,NV,Ma,hb,hN⟩;have hlen:=he.len;simp only[zi];refine zh ?_;simp only[BA,ak,aq,za,Nat.reduceLT,NV,Ma,hlen,qV]
 by_cases hq:q<m.next.length
 ·refine .inl ⟨by simpa using hq,?_⟩
  obtain⟨p,hp⟩:∃p,m.next[q]?=some p:=⟨_,gG hq⟩
  have hpg:m.next.getD q (λ_=>false)=p:=by rw[List.getD_eq_getElem?_getD,hp];rfl
  have hpm:p∈m.next:=pG hp
  obtain⟨im,cu,u1,u2,u3⟩:=hb.Ay;obtain⟨jj,rfl⟩:∃jj,im=some jj:=by
   cases im with
   | none =>
    have h:m.next=[]:=by simpa using u2.2
    rw[h] at hq;simp at hq
   | some jj=>exact⟨jj,rfl⟩
  obtain⟨v,rfl,hj⟩:=u2;obtain⟨pr,po,w1,w2,w3⟩:=zgV hq;rw[w2,hpg] at hj;have Au:Cx.bK ⟨prog,gl.g,zj prog gl n,eg⟩ 59 [.gk jj v (q * 19)] H=some (.val (jJ (jl p 19)),H):=by
   have h:=zmp hg (n:=n - 1) (by omega) (H:=H) hj w1
   rw[show n - 1+1=n by omega,xF] at h
   exact zu func59 rfl h
  obtain⟨xs,pE⟩:∃xs,xs=(jl p 19).map Fw:=⟨_,rfl⟩;have Qz:xs≠[]:=by
   intro e;rw[pE] at e;exact cK p hpm (by simpa using e)
  have NW:xs.length=(jl p 19).length:=by rw[pE,iK]
  have anC:xs.length<=1216:=by
   rw[NW];have:=xq (p:=p) 19;rw[xF,iK] at this;omega
  obtain⟨row,cC⟩:∃row,row=V.sl 1 xs .no:=⟨_,rfl⟩;have Vj:jJ (jl p 19)=row:=by
   rw[cC,pE];have:(jl p 19).map Fw≠[]:=by rw[<- pE];exact Qz
   unfold jJ;cases h:(jl p 19).map Fw with
   | nil=>exact absurd h this
   | cons a b=>rfl
  rw[Vj] at Au;have mq:∀env t,jd env t (some row)=some (row,env):=λ_ _=>by rw[cC];rfl
  have Ix:bg row=row:=by rw[cC];rfl
  have Ei:∀H,qW prog H 27 row=some (xs.length:Int):=λH=>by rw[cC];simp[qW,DS.u]
  have gy:zk prog H gl.g 111 (.ptr 1 2)=some (.dF jj v (m.next.map (pv 19)).length):=zr Fc u1 rfl
  have HZ:zt prog 111 (.dF jj v (m.next.map (pv 19)).length) (q:Int)=some (.gk jj v (q * 19)):=by
   rw[Ts GH.u GH.s (by rw[iK];omega),uP]
  refine zh ?_;simp only[BA,Nat.reduceEqDiff,ak,aq,za,bI,Nat.reduceLT,bD,Ma,hlen];refine zh ?_
  simp only[BA,Nat.reduceEqDiff,av,ak,aq,aa,ah,aF,aC,za,bI,Nat.reduceLT,bD,he.e6,hlen,rq,gy,HZ,Au,mq]
  refine xb (λenv=>EB nl l k env/\nth env 75=some (.int .i64 (m.next.length:Int))/\nth env 76=some (.int .i64 ((q:Nat):Int))/\nth env 14=some row) ⟨⟨by simp[hlen],by simp[za,he.e2],by simp[za,he.e3],by simp[za,he.e4],by simp[za,he.e6],by simp[za,he.e7],by simp[za,he.AB],by simp[za,he.z_]⟩,by simp[za,NV],by simp[za,Ma],by simp[za,hlen]⟩ λenv At=>?_
  obtain⟨he,NV,Ma,sV⟩:=At;have hlen:=he.len;refine zh ?_;simp only[BA,ak,aq,za,Nat.reduceLT,sV,hlen,Ix,Ei];obtain⟨inf,Mb,Mc⟩:=Qy;have Lg:xs.length≠0:=λe=>Qz (G0 e)
  rw[WG (k:=xs.length) DS.u sz3 z3 rfl Mb (by decide) rfl rfl (by simp[ak,za,hlen,bg]) (by simp[ak,za,hlen,bg]) (by rw[Mc];exact j9 (by omega) (by omega)) Lg]
  have Dz:aL xs=0:=by rw[pE];exact wo (λ_=>rfl) _
  obtain⟨cz,Bz⟩:∃cz,cz=(List.replicate xs.length (V.int .i64 0).cells).flatten:=⟨_,rfl⟩;have QA:cz=List.replicate xs.length (.int .i64 0):=by rw[Bz];exact Bi _ _
  have YB:cz.length=xs.length:=by rw[QA,List.length_replicate]
  have YC:cz.all (λc=>!(locked c))=true:=by rw[QA];simp[locked]
  rw[<- Bz];obtain⟨b1,k1,g1,n1⟩:=TX hb cz xs 3 3;obtain⟨K,hK⟩:∃K,K=H.az.length:=⟨_,rfl⟩;have hK3:3<=K:=by rw[hK];exact hb.len
  have hgK:(H.push (.cells cz 3)).get K=some (.cells cz 3):=by rw[hK];exact we
  rw[<- hK] at b1 k1 g1 n1 ⊢;have YD:∀env t,jd env t (some (.sr K 0 xs.length xs.length))=some (.sr K 0 xs.length xs.length,env):=λ_ _=>rfl;have QB:bg (.sr K 0 xs.length xs.length)=.sr K 0 xs.length xs.length:=rfl
  simp only[BA,Nat.reduceEqDiff,aq,za,bI,Nat.reduceLT,bD,hlen,YD]
  refine xb (λenv=>EB nl l k env/\nth env 75=some (.int .i64 (m.next.length:Int))/\nth env 76=some (.int .i64 ((q:Nat):Int))/\nth env 14=some row/\nth env 15=some (.sr K 0 xs.length xs.length)) ⟨⟨by simp[hlen],by simp[za,he.e2],by simp[za,he.e3],by simp[za,he.e4],by simp[za,he.e6],by simp[za,he.e7],by simp[za,he.AB],by simp[za,he.z_]⟩,by simp[za,NV],by simp[za,Ma],by simp[za,sV],by simp[za,hlen]⟩ λenv At=>?_
  obtain⟨he,NV,Ma,sV,tW⟩:=At;have hlen:=he.len;refine zh ?_;simp only[BA,Nat.reduceEqDiff,ak,aq,za,Nat.reduceLT,bD,sV,tW,hlen,Ix,QB]
  rw[zh7 (ys:=xs) (o:=.no) (b:=K) (off:=0) (len:=xs.length) (cap:=xs.length) (cs:=cz) (ty:=3) DS.u sz3 (by simp[ak,za,hlen,bg]) (by simp[ak,za,hlen,cC,bg]) hgK rfl (by rw[pE];exact uF _) (by omega) (wi YC (by omega))]
  rw[wM YB,jV (by simp[V.top,Dz])]
  generalize QC:(H.push (bq.cells cz 3)).set K (bq.cells xs 3)=H1 at b1 k1 g1 n1 ⊢;simp only[aN,aq]
  obtain⟨bF,TZ⟩:∃bF,bF=fC (F.map jJ) N:=⟨_,rfl⟩;have f1:=b1.f;rw[<- TZ] at f1;have mZ:∀env,v4 prog 28 env H1 [] [] (some (.ptr 2 3))=some (.val (zm 1 27 N),⟨env,H1.set 2 (.cells (bF.set 3 (oO 1 N)) 30),kD 2 3 N,[]⟩):=λenv=>Tw Qx f1 (by rw[TZ];rfl)
  obtain⟨HL,JO⟩:∃HL,HL=H1.set 2 (.cells (bF.set 3 (oO 1 N)) 30):=⟨_,rfl⟩;rw[<- JO] at mZ;have YE:HL.get 2=some (.cells (bF.set 3 (oO 1 N)) 30):=by rw[JO,wA f1]
  have lM:3<bF.length:=by rw[TZ];simp[fC]
  have QD:N.length=q:=by rw[hN.1,uQ];omega
  have lQ:=NU.BH (v:=.sr K 0 xs.length xs.length) rfl rfl;have gj:∀H,kb prog H 28 (zm 1 27 N) (.sl 1 [.sr K 0 xs.length xs.length] .no)=some (zm 1 27 (N++[.sr K 0 xs.length xs.length])):=λH=>jM NU (by simp) (j9 (by simp;omega) (by simp;omega))
  have fe:∀env,qp prog 28 HL (kD 2 3 N) [] (some (zm 1 27 (N++[.sr K 0 xs.length xs.length]),env)) (some (.ptr 2 3))=some (.skip,⟨env,(HL.set 2 (.cells (bF.set 3 (zm 1 27 (N++[.sr K 0 xs.length xs.length]))) 30)).bU 2 (zm 1 27 (N++[.sr K 0 xs.length xs.length])),kD 2 3 N,[]⟩):=λenv=>by
   rw[zA NU.st YE Pw (by rw[vt];rfl) (by rw[bI];omega) (Pv lM)]
   simp only[vt,Vm.storeCells,List.set_set]
  refine wK (tk:=[93]) (by kernel_rfl) ?_
  simp only[BA,Nat.reduceEqDiff,ak,aq,ah,za,bI,Nat.reduceLT,bD,he.e7,tW,hlen,L_,mZ,QB,lQ,BG,gj,fe,ky (cx:=⟨prog,gl.g,zj prog gl n,eg⟩) (show rC prog eg 28=false by kernel_rfl)]
  refine zh ?_;simp only[BA,Nat.reduceEqDiff,ak,aj,aq,za,bI,Nat.reduceLT,bD,Ma,hlen,qn (show q<2 ^ 60 by omega)]
  simp only[zp,aO]
  have Aa:bF.set 3 (zm 1 27 (N++[.sr K 0 xs.length xs.length]))=fC (F.map jJ) (N++[.sr K 0 xs.length xs.length]):=by rw[TZ];rfl
  have mX:=(b1.Qw (F':=F.map jJ) (N':=N++[.sr K 0 xs.length xs.length])).bU 2 (zm 1 27 (N++[.sr K 0 xs.length xs.length]));rw[JO,Yx,Aa]
  refine⟨j - 1,by omega,q+1,_,_,N++[.sr K 0 xs.length xs.length],by omega,rfl,⟨by simp[hlen],by simp[za,he.e2],by simp[za,he.e3],by simp[za,he.e4],by simp[za,he.e6],by simp[za,he.e7],by simp[za,he.AB],by simp[za,he.z_]⟩,by simp[za,NV],by simp[za,hlen],mX,by simp[QD];omega,λi p' Gs=>?_⟩
  have hiq:i<q+1:=by
   have:=(dA.1 Gs).1;rw[uQ] at this;omega
  rw[Ak,if_pos hiq] at Gs;have um:∀d x,d≠2->H1.get d=some x->((H1.set 2 (.cells (fC (F.map jJ) (N++[.sr K 0 xs.length xs.length])) 30)).bU 2 (zm 1 27 (N++[.sr K 0 xs.length xs.length]))).get d=some x:=λd x hd hx=>(kg hd).trans hx
  by_cases hi:i<q
  ·obtain⟨b,e1,e2⟩:=hN.2 i p' (by rw[Ak,if_pos hi];exact Gs)
   have YF:b≠2:=by
    intro e;subst e;have Md:=hb.f;rw[e2] at Md;injection Md with h1;injection h1 with h2 h3;cases h3
   have YG:b≠1:=by
    intro e;subst e;obtain⟨_,_,y1,_⟩:=hb.Ay;rw[e2] at y1;injection y1 with h1;injection h1 with h2 h3;cases h3
   exact⟨b,by rw[gF (by omega)];exact e1,um b _ YF (k1 _ _ _ YG e2)⟩
  ·obtain rfl:i=q:=by omega
   rw[hp] at Gs;cases Gs;refine⟨K,?_,um K _ (by omega) (by rw[<- pE];exact g1)⟩
   rw[fM (by omega),QD,Dt,<- NW]
   rfl
 ·obtain rfl:q=m.next.length:=by omega
  refine .inr ⟨by simp,?_⟩
  rw[Gc] at hN;obtain⟨im,cu,u1,u2,u3⟩:=hb.Ay;have YH:∀H',(∀x,H.get 1=some x->H'.get 1=some x)->zk prog H' gl.g 26 (.ptr 1 0)=some (zm 4 50 m.lC):=λH' h=>zr Fg (h _ u1) rfl;have Me:∀H',(∀x,H.get 1=some x->H'.get 1=some x)->zk prog H' gl.g 27 (.ptr 1 1)=some (zm 1 3 m.fW):=λH' h=>zr Ie (h _ u1) rfl;obtain⟨X1,hX1⟩:∃X1,X1=bg (zm 4 50 m.lC):=⟨_,rfl⟩
  obtain⟨X2,T1⟩:∃X2,X2=bg (zm 1 3 m.fW):=⟨_,rfl⟩;have JP:∀n e (xs:aG),aL xs=0->bg (bg (zm n e xs))=bg (zm n e xs)/\(∀env t,jd env t (some (bg (zm n e xs)))=some (bg (zm n e xs),env))/\(bg (zm n e xs)).laid=[bg (zm n e xs)]/\dD (bg (zm n e xs))=true/\(bg (zm n e xs)).top=0/\locked (bg (zm n e xs))=false:=λn e xs ht=>by
   refine⟨qU,λ_ _=>jm,?_,?_,by rw[jq];exact PM ht,?_⟩<;>cases xs<;>rfl
  obtain⟨YI,x1b,YJ,x1d,x1e,x1f⟩:=JP 4 50 m.lC (wo (λ_=>rfl) _);obtain⟨YK,x2b,YL,x2d,x2e,x2f⟩:=JP 1 3 m.fW (wo (λ_=>rfl) _);rw[<- hX1] at YI x1b YJ x1d x1e x1f;rw[<- T1] at YK x2b YL x2d x2e x2f;have f2:=hb.f
  have Mf:∀env,qp prog 26 H [] [] (some (X1,env)) (some (.ptr 2 0))=some (.skip,⟨env,H.set 2 (.cells [X1,.aH,zm 1 27 (F.map jJ),zm 1 27 N] 30),[],[]⟩):=λenv=>by
   rw[zA PO f2 x1d (by rw[YJ];rfl) (by simp[fC]) rfl,jV (by rw[x1e];omega)]
   simp only[YJ,Vm.storeCells,fC,bX]
  have Cv:∀env,qp prog 27 (H.set 2 (.cells [X1,.aH,zm 1 27 (F.map jJ),zm 1 27 N] 30)) [] [] (some (X2,env)) (some (.ptr 2 1))=some (.skip,⟨env,H.set 2 (.cells [X1,X2,zm 1 27 (F.map jJ),zm 1 27 N] 30),[],[]⟩):=λenv=>by
   rw[zA PN (wA f2) x2d (by rw[YL];rfl) (by simp) rfl,jV (by rw[x2e];omega),Yx]
   simp only[YL,Vm.storeCells,bX,bY]
  simp only[qk,zN,zD,zp,bN,zi,iV,aI]
  refine Te [7] [(false,false),(false,false),(false,false),(false,false),(false,false),(false,false),(false,false),(true,false),(false,false),(false,true),(false,false),(false,true)] (tk:=[]) (by kernel_rfl) (by kernel_rfl) ?_
  simp only[BA,Nat.reduceEqDiff,ak,aq,aa,ah,au,za,bI,Nat.reduceLT,bD,sk,u0,Tf,WC,Th,Ti,Fg,Ie,he.e6,he.e7,hlen,v_,Ff,L8,L9,YH H (λ_ h=>h),Me H (λ_ h=>h),<- hX1,<- T1,x1b,x2b,Mf,Cv]
  refine⟨λ_=>vG (p:=.ptr 1 1) (by simp[ak,za,hlen,bg]) (Me _ λ_ h=>(qD (by decide)).trans h) T1.symm,λ_=>vG (p:=.ptr 1 1) (by simp[ak,za,hlen,bg]) (Me _ λ_ h=>(qD (by decide)).trans h) T1.symm,?_⟩
  obtain⟨H2,Fu⟩:∃H2,H2=H.set 2 (.cells [X1,X2,zm 1 27 (F.map jJ),zm 1 27 N] 30):=⟨_,rfl⟩;have g2:H2.get 2=some (.cells [X1,X2,zm 1 27 (F.map jJ),zm 1 27 N] 30):=by rw[Fu,wA f2]
  have g0:H2.get 0=some (.cells zF 30):=by rw[Fu,qD (by decide)];exact hb.r
  rw[<- Fu];obtain⟨VA,QF⟩:∃VA,VA=V.agg [X1,X2,zm 1 27 (F.map jJ),zm 1 27 N]:=⟨_,rfl⟩;have YM:zk prog H2 gl.g 30 (.ptr 2 0)=some VA:=by rw[QF];exact Yz LX Fy g2 rfl
  have hcA:bg VA=VA:=by rw[QF];rfl
  have htA:∀env t,jd env t (some VA)=some (VA,env):=λ_ _=>by rw[QF];rfl
  have hlA:VA.laid=[X1,X2,bg (zm 1 27 (F.map jJ)),bg (zm 1 27 N)]:=by
   rw[QF];simp only[V.laid,bk,bw,YI,YK]
  have Fi:∀env,qp prog 30 H2 [] [] (some (VA,env)) (some (.ptr 0 0))=some (.skip,⟨env,(H2.set 0 (.cells [X1,X2,bg (zm 1 27 (F.map jJ)),bg (zm 1 27 N)] 30)).bU 0 VA,[],[]⟩):=λenv=>by
   rw[zA Fy g0 (by rw[QF];rfl) (by rw[hlA];rfl) (by simp[zF]) rfl,hlA]
   rfl
  refine zh ?_;simp only[BA,Nat.reduceEqDiff,ak,aj,aq,za,bI,Nat.reduceLT,bD,he.e7,he.e2,hlen,YM,hcA,htA,Fi];simp only[go_ret,zp,Fx]
  refine⟨trivial,[.agg [X1,X2,bg (zm 1 27 (F.map jJ)),bg (zm 1 27 N)],.bP],?_,N,?_,hN.1,λi p hp=>?_⟩
  ·have hr:zk prog ((H2.set 0 (.cells [X1,X2,bg (zm 1 27 (F.map jJ)),bg (zm 1 27 N)] 30)).bU 0 VA) (λ_ _=>none) 30 (.ptr 0 0)=some (.agg [X1,X2,bg (zm 1 27 (F.map jJ)),bg (zm 1 27 N)]):=Yz LX Fy (by rw[bZ,wA g0]) rfl
   simp only[zy,za,bI,hlen,Nat.reduceEqDiff,Nat.reduceLT,aI,bD,he.e2];rw[hr];rfl
  ·rfl
  ·obtain⟨b,e1,e2⟩:=hN.2 i p hp;have h0:b≠0:=λe=>by
    subst e;have:=hb.r;rw[e2] at this;injection this with h1;injection h1 with h2 h3;cases h3
   have h2:b≠2:=λe=>by
    subst e;have:=hb.f;rw[e2] at this;injection this with h1;injection h1 with h2 h3;cases h3
   exact⟨b,e1,by rw[bZ,qD h0,Fu,qD h2];exact e2⟩
end
section
variable{gl:Gl}
theorem zkz(hg:GW gl){n:Nat}{nl:Bool}{l:List Cr}{k:Nat}(hm:gl.hk 54 [jb nl l]=some (.bx [.int .i64 (k:Int),.bool true]))(hk:k<=1000)(hl:l.length<=200)
  (hM:(qq k 0 (l.map fh) m0).2.sets.length<=1200) (cK:∀p∈(qq k 0 (l.map fh) m0).2.next,jl p 19≠[]) (hw:∀c∈l,wE (fh c)+4000<=n/\wE (fh c)+2<=2 ^ 31) (hn:4000<=n) :
  ∃H' N,zj prog gl (n+1) 14 [jb nl l] ⟨[],[]⟩=some (.ret (.bx [.agg [bg (zm 4 50 (qq k 0 (l.map fh) m0).2.lC),bg (zm 1 3 (qq k 0 (l.map fh) m0).2.fW),bg (zm 1 27 ((qq k 0 (l.map fh) m0).1.map jJ)),bg (zm 1 27 N)],.bP]),H')/\TY H' (qq k 0 (l.map fh) m0).2.next N:=by
 obtain⟨FT,MT,hT⟩:∃FT MT,qq k 0 (l.map fh) m0=(FT,MT):=⟨_,_,rfl⟩;rw[hT] at hM cK ⊢;simp only at hM cK ⊢
 suffices bR:(go ⟨prog,gl,zj prog gl n,eg⟩ n (Fx prog f14.results.toList λw H1=>∃N,w=.bx [.agg [bg (zm 4 50 MT.lC),bg (zm 1 3 MT.fW),bg (zm 1 27 (FT.map jJ)),bg (zm 1 27 N)],.bP]/\TY H1 MT.next N) [.c (f14.body.getD .skip)] .normal ⟨[jb nl l]++List.replicate 109 (.bx []),⟨[],[]⟩,[],[]⟩) by
  obtain⟨w,H1,h0,N,rfl,hN⟩:=zO (gl:=gl) (f:=14) (bs:=[]) (es:=[]) (args:=[jb nl l]) (n:=n) (hg.hk _ _ (by decide)) (λH=>hg.fq _ _ _ _) func14 rfl (by rw[hg.uq];exact bR)
  refine⟨_,N,h0,hN.1,λj p hp=>?_⟩;obtain⟨b,h1,h2⟩:=hN.2 j p hp;refine⟨b,h1,?_⟩;have hb:b+1<=(V.bx [.agg [bg (zm 4 50 MT.lC),bg (zm 1 3 MT.fW),bg (zm 1 27 (FT.map jJ)),bg (zm 1 27 N)],.bP]).top:=by
   have hNt:b+1<=aL N:=zn (x:=.sr b 0 (jl p 19).length (jl p 19).length) (pG h1);have hN2:(bg (zm 1 27 N)).top=aL N:=by
    rw[jq];cases N<;>rfl
   simp only[V.top,aL,hN2];omega
  unfold zX;have lM:Nat.ble (V.bx [.agg [bg (zm 4 50 MT.lC),bg (zm 1 3 MT.fW),bg (zm 1 27 (FT.map jJ)),bg (zm 1 27 N)],.bP]).top ([]:List bq).length=false:=by
   cases hx:Nat.ble (V.bx [.agg [bg (zm 4 50 MT.lC),bg (zm 1 3 MT.fW),bg (zm 1 27 (FT.map jJ)),bg (zm 1 27 N)],.bP]).top ([]:List bq).length with
   | false=>rfl
   | true=>have:=rA hx;simp only[List.length_nil] at this;omega
  rw[lM];exact h2
 have dz:Cx.bK ⟨prog,gl.g,zj prog gl n,eg⟩ 54 [jb nl l] ⟨[.cells zF 30],[]⟩=some (.val (.bx [.int .i64 (k:Int),.bool true]),⟨[.cells zF 30],[]⟩):=by
  have:=yN (P:=prog) (n:=n - 1) (H:=⟨[.cells zF 30],[]⟩) hm;rw[show n - 1+1=n by omega] at this
  exact zu func54 rfl this
 have hz:dD (V.agg zF)=true:=rfl;have Cq:dD (V.agg [.aH,.aH,.aH])=true:=rfl;simp only[f14,gm,zi];refine zh ?_;simp only[BA,aj,aq,zc,bX,bY,Ye,zR hz,V.cells,List.replicate];refine zh ?_
 simp only[BA,av,ak,aq,aC,zd,ze,bX,bY,vf,dz,kZ,eT];refine zh ?_;simp only[BA,ak,aq,zd,ze,bX,bY,i_]
 refine .inr ⟨rfl,?_⟩;refine zh ?_;simp only[BA,ak,aj,aq,zd,ze,bX,bY,wW];refine .inr ⟨by simpa using by omega,?_⟩
 refine zh ?_;simp only[BA,aq,zc,zd,ze,bX,bY,zp1,qg Cq,V.laid];refine zh ?_
 simp only[BA,aq,zc,Nat.reduceAdd,bX,bY,Ye,zR hz,V.cells];refine zh ?_;simp only[BA,ak,aj,aq,zd,ze,bX,bY,vf,TQ]
 generalize Ft:Hp.mk [bq.cells zF 30,bq.cells [V.aH,V.aH,V.aH] 113,bq.cells zF 30] []=H0;have sn:BI H0 [] [] m0:=by
  subst Ft;exact⟨rfl,rfl,⟨none,.aH,rfl,⟨rfl,rfl⟩,λj hj=>by cases hj⟩,by simp⟩
 refine xb (λenv=>EB nl l k env/\nth env 33=some (.int .i64 ((0:Nat):Int))) ⟨⟨rfl,rfl,rfl,rfl,rfl,rfl,rfl,rfl⟩,rfl⟩ λenv he=>?_
 refine qx (λj s=>∃r env H m F,j+r=l.length/\s=⟨env,H,[],[]⟩/\EB nl l k env/\nth env 33=some (.int .i64 ((r:Nat):Int))/\BI H (F.map jJ) [] m/\m.Ok/\F.length=r/\∃F',qq k r ((l.drop r).map fh) m=(F',MT)/\F++F'=FT) l.length (by omega) ⟨0,env,H0,m0,[],rfl,rfl,he.1,he.2,sn,⟨rfl,rfl⟩,rfl,FT,hT,rfl⟩ ?_
 clear he sn Ft env H0;rintro j s ⟨r,env,H,m,F,hjr,rfl,he,Df,hb,ek,hFr,F',hR,hF⟩;have hlen:=he.len;simp only[zi];refine zh ?_;simp only[BA,ak,aq,za,Nat.reduceLT,he.z_,Df,hlen,qV]
 by_cases hr:r<l.length
 ·refine .inl ⟨by simpa using hr,?_⟩
  obtain⟨c,hc⟩:∃c,l[r]?=some c:=⟨_,gG hr⟩;have gI:c∈l:=pG hc;have fm:l.drop r=c::l.drop (r+1):=by
   obtain⟨h1,h2⟩:=dA.1 hc;rw[F8 h1,h2]
  rw[fm] at hR;simp only[bk,qq,cq] at hR;obtain⟨hF',hR⟩:=hR;have YN:dD (V.agg (mT (.mk 0 0 0 0 0 0 [] 0 0 true [],false,.mk 0 0 0 0 0 0 [] 0 0 true [])))=true:=rfl;refine zh ?_
  simp only[BA,Nat.reduceEqDiff,ak,aq,aF,za,bI,Nat.reduceLT,bD,he.AB,Df,hlen,vf,zeR hc,zju,z47,zR YN,V.cells];rw[Yy (t:=55) Iq we (vv c) (TP c) (Yb c) (vv _) (zjt _)]
  obtain⟨b1,k1,g1,n1⟩:=TX hb (mT (.mk 0 0 0 0 0 0 [] 0 0 true [],false,.mk 0 0 0 0 0 0 [] 0 0 true [])) (mT c) 55 55;obtain⟨K,hK⟩:∃K,K=H.az.length:=⟨_,rfl⟩;have hK3:3<=K:=by rw[hK];exact hb.len
  rw[<- hK] at b1 k1 g1 n1 ⊢;generalize QC:(H.push (bq.cells (mT (.mk 0 0 0 0 0 0 [] 0 0 true [],false,.mk 0 0 0 0 0 0 [] 0 0 true [])) 55)).set K (bq.cells (mT c) 55)=H1 at b1 k1 g1 n1 ⊢;simp only[bB,aq]
  refine xb (λenv=>EB nl l k env/\nth env 33=some (.int .i64 ((r:Nat):Int))/\nth env 8=some (.int .i64 ((r:Nat):Int))/\nth env 9=some (.ptr K 0)) ⟨⟨by simp[hlen],by simp[za,he.e2],by simp[za,he.e3],by simp[za,he.e4],by simp[za,he.e6],by simp[za,he.e7],by simp[za,he.AB],by simp[za,he.z_]⟩,by simp[za,Df],by simp[za,hlen],by simp[za,hlen]⟩ λenv At=>?_
  clear he Df hlen;obtain⟨he,Df,e8,e9⟩:=At;have hlen:=he.len;obtain⟨l1,l2,l3⟩:=ldC (g:=gl.g) g1;have QG:dD (V.agg (aR (.mk 0 0 0 0 0 0 [] 0 0 true [])))=true:=rfl;refine zh ?_
  simp only[BA,Nat.reduceEqDiff,ak,aq,ah,za,bI,Nat.reduceLT,bD,e9,hlen,FD,l1,Yf,zR QG,V.cells];rw[Yy (t:=53) tU we (z7 _) (ja _) (v7 _) (z7 _) (XL _)];obtain⟨b2,k2,g2,n2⟩:=TX b1 (aR (.mk 0 0 0 0 0 0 [] 0 0 true [])) (aR c.1) 53 53
  generalize Fu:(H1.push (bq.cells (aR (.mk 0 0 0 0 0 0 [] 0 0 true [])) 53)).set H1.az.length (bq.cells (aR c.1) 53)=H2 at b2 k2 g2 n2 ⊢;have g12:=k2 _ _ _ (by omega) g1
  rw[n1] at g2 n2 ⊢;simp only[bB,aq]
  obtain⟨l1,l2,l3⟩:=ldC (g:=gl.g) g12;refine zh ?_;simp only[BA,Nat.reduceEqDiff,ak,aq,ah,za,bI,Nat.reduceLT,bD,e9,hlen,L6,l2];have QH:(V.agg (aR (.mk 0 0 0 0 0 0 [] 0 0 true []))).cells.length=10:=rfl;rcases Ny:c.2.1 with _|_
  refine .inr ⟨rfl,?_⟩;have BB:fh c=c.1:=by simp[fh,Ny]
  rw[<- BB] at g2
  refine mj (λs=>∃env H3,s=⟨env,H3,[],[]⟩/\EB nl l k env/\nth env 33=some (.int .i64 ((r:Nat):Int))/\nth env 8=some (.int .i64 ((r:Nat):Int))/\nth env 10=some (.ptr (K+1) 0)/\BI H3 (F.map jJ) [] m/\H3.get (K+1)=some (.cells (aR (fh c)) 53)) ⟨_,_,rfl,⟨by simp[hlen],by simp[za,he.e2],by simp[za,he.e3],by simp[za,he.e4],by simp[za,he.e6],by simp[za,he.e7],by simp[za,he.AB],by simp[za,he.z_]⟩,by simp[za,Df],by simp[za,e8],by simp[za,hlen],b2,g2⟩ ?_
  rotate_left
  refine .inl ⟨rfl,?_⟩;have BB:fh c=.mk 5 0 0 0 0 0 [] 0 0 false [c.1,c.2.2]:=by simp[fh,Ny]
  refine zh ?_;simp only[BA,Nat.reduceEqDiff,ak,aq,ah,za,bI,Nat.reduceLT,bD,e9,hlen,FD,L7,l1,l3]
  rw[znF (v:=.agg (aR c.1)) (u:=.agg (aR c.2.2)) TK tU Yf (by decide) QH QG (by simp[ak,za,hlen,bg]) (by simp[ak,za,hlen,bg]) rfl rfl (z7 _) (z7 _)]
  simp only[BA,aq];rw[zp5 (h:=c.1) (t:=c.2.2) (by simp[ak,za,hlen,bg])]
  simp only[BA,Nat.reduceEqDiff,ak,aq,za,bI,Nat.reduceLT,bD,hlen];rw[Yy (t:=53) tU g2 (z7 _) (ja _) (v7 _) (z7 _) (XL _)];obtain⟨b3,k3,g3,n3⟩:=YA b2 (v:=aR (.mk 5 0 0 0 0 0 [] 0 0 false [c.1,c.2.2])) g2 (by omega)
  simp only[bB,aq]
  rw[<- BB] at g3 b3 ⊢
  refine mj (λs=>∃env H3,s=⟨env,H3,[],[]⟩/\EB nl l k env/\nth env 33=some (.int .i64 ((r:Nat):Int))/\nth env 8=some (.int .i64 ((r:Nat):Int))/\nth env 10=some (.ptr (K+1) 0)/\BI H3 (F.map jJ) [] m/\H3.get (K+1)=some (.cells (aR (fh c)) 53)) ⟨_,_,rfl,⟨by simp[hlen],by simp[za,he.e2],by simp[za,he.e3],by simp[za,he.e4],by simp[za,he.e6],by simp[za,he.e7],by simp[za,he.AB],by simp[za,he.z_]⟩,by simp[za,Df],by simp[za,e8],by simp[za,hlen],b3,g3⟩ ?_
  all_goals
   rintro s ⟨env,H3,rfl,he,Df,e8,sq,b3,g3⟩;have hlen:=he.len;obtain⟨i3,k3⟩:=b3.Ay;obtain⟨P,M1,hP⟩:∃P M1,iT (r:Int) (fh c) m=(P,M1):=⟨_,_,rfl⟩;have hMs:M1.sets.length<=1200:=by
    have h1:=zcF (n:=k) (r:=r+1) (es:=(l.drop (r+1)).map fh) (m:=(jW k r (fh c) m).2);rw[hR,Ya,hP] at h1;exact cZ h1 hM
   obtain⟨anQ,YO⟩:=hw c gI;obtain⟨H4,i4,c4,k4,n4,f4,ok4,p4⟩:=zmb hg (n:=n - 1) k3 (dP _) hP ek hMs (by omega) YO
   rw[show n - 1+1=n by omega,q9] at c4
   have Qb:Cx.bK ⟨prog,gl.g,zj prog gl n,eg⟩ 55 _ H3=_:=zu func55 rfl c4;have kc4:Kc H3 H4:=by obtain⟨_,_,u,_⟩:=k3;exact zml u f4
   have b4:=b3.made kc4 f4.len k4;refine zh ?_;simp only[BA,Nat.reduceEqDiff,av,ak,aq,aC,za,bI,Nat.reduceLT,bD,he.e6,sq,e8,hlen,Yz Ct tU g3 (z7 _),Qb,LH,zR (show dD (V.agg (zo ⟨false,c_,c_⟩))=true from rfl),V.cells];rw[TL we]
   obtain⟨b5,k5,g5,n5⟩:=TX b4 (zo ⟨false,c_,c_⟩) (zo P) 117 117;obtain⟨K4,hK4⟩:∃K4,K4=H4.az.length:=⟨_,rfl⟩;have anS:3<=K4:=by rw[hK4];exact b4.len
   rw[<- hK4] at b5 k5 g5 n5 ⊢;generalize NO:(H4.push (bq.cells (zo ⟨false,c_,c_⟩) 117)).set K4 (bq.cells (zo P) 117)=H5 at b5 k5 g5 n5 ⊢;simp only[bB,aq]
   refine zh ?_;simp only[BA,aq,z60,zR (show dD (V.agg (pv 19 c_))=true from rfl),V.cells,n5]
   refine xb (λenv=>EB nl l k env/\nth env 33=some (.int .i64 ((r:Nat):Int))/\nth env 8=some (.int .i64 ((r:Nat):Int))/\nth env 11=some (.ptr K4 0)/\nth env 12=some (.ptr (K4+1) 0)) ⟨⟨by simp[hlen],by simp[za,he.e2],by simp[za,he.e3],by simp[za,he.e4],by simp[za,he.e6],by simp[za,he.e7],by simp[za,he.AB],by simp[za,he.z_]⟩,by simp[za,Df],by simp[za,e8],by simp[za,hlen],by simp[za,hlen]⟩ λenv At=>?_
   obtain⟨he,Df,e8,iZ,oE⟩:=At;have hlen:=he.len;have b6:=b5.push (.cells (pv 19 c_) 115);have g6:=(zn7 (H:=H5) (.cells (pv 19 c_) 115)) K4 _ _ (by omega) g5
   have YP:(H5.push (.cells (pv 19 c_) 115)).get (K4+1)=some (.cells (pv 19 c_) 115):=by rw[<- n5];exact we
   generalize hH6:H5.push (bq.cells (pv 19 c_) 115)=H6 at b6 g6 YP ⊢;obtain⟨YQ,D2⟩:=H6;have AR:k+r<1216:=by omega
   have c7:=zjl hg (n:=n - 1) (bs:=YQ) (es:=D2) (b:=K4+1) (off:=0) (pre:=[]) (post:=[]) (p:=c_) (ty:=115) (k:=k+r) (by rw[bt,nk];exact YP) rfl AR
   rw[show n - 1+1=n by omega,bt,nk] at c7
   have JH:Cx.bK ⟨prog,gl.g,zj prog gl n,eg⟩ 56 _ ⟨YQ,D2⟩=_:=zu func56 rfl c7;obtain⟨b7,k7,T4,n7⟩:=YA b6 (v:=pv 19 (jT c_ (k+r))) YP (by omega)
   have g7:=k7 _ _ (by omega) g6
   simp only[Hp.set] at b7 k7 T4 n7 g7;have oC:∀u w,q0 prog .add 3 u w (some (.int .i64 (k:Int))) (some (.int .i64 (r:Int)))=some (.int .i64 ((k+r:Nat):Int)):=λu w=>xu (by omega)
   refine zh ?_;simp only[BA,Nat.reduceEqDiff,av,ak,aq,aC,za,bI,Nat.reduceLT,bD,oE,he.e4,e8,hlen,oC,JH];generalize anT:YQ.set (K4+1) (bq.cells (pv 19 (jT c_ (k+r))) 115)=NX at b7 k7 T4 n7 g7 ⊢;obtain⟨i7,cu,u1,u2,u3⟩:=b7.Ay
   have c8:=Xt hg (n:=n - 1) (by omega) (es:=D2) (bm:=1) (bl:=K4) (ol:=20) (bf:=K4+1) (ob:=0) (ns:=M1.next) (p:=P.last) (q:=jT c_ (k+r)) (pre:=.bool P.null::pv 19 P.first) (post:=[]) (pre':=[]) (post':=[]) (ty:=117) (ty':=115) u1 u2 (by rw[<- P6];exact g7) (by simp[jH]) (by rw[bt,nk];exact T4) rfl p4.2
   rw[show n - 1+1=n by omega] at c8
   have X9:Cx.bK ⟨prog,gl.g,zj prog gl n,eg⟩ 57 _ ⟨NX,D2⟩=_:=zu func57 rfl c8;have C5:(jW k r (fh c) m).2={ M1 with next:=mL (jT c_ (k+r)) (jl P.last 19) M1.next }:=by simp only[jW,hP]
   have NM:(jW k r (fh c) m).1=jl (if P.null then jG P.first (jT c_ (k+r)) else P.first) 19:=by simp only[jW,hP]
   have YR:Kc ⟨NX,D2⟩ ⟨ef NX i7 (mL (jT c_ (k+r)) (jl P.last 19) M1.next),D2⟩:=zml u2 XP
   have b8:=b7.made YR (by show NX.length<=(ef NX i7 _).length;rw[yL];exact dB _) (MK.ef (es:=D2) ⟨cu,u1,u2,u3⟩ wm)
   rw[<- C5] at b8;have g8:=YR _ _ _ (by omega) g7
   have g8b:=YR _ _ _ (by omega) T4
   have ok8:(jW k r (fh c) m).2.Ok:=by rw[C5];exact⟨ok4.r,by simp only[wm];exact ok4.n⟩
   refine zh ?_;simp only[BA,Nat.reduceEqDiff,av,ak,aq,ah,aC,za,bI,Nat.reduceLT,bD,he.e6,iZ,oE,hlen,o_,X9];generalize anV:ef NX i7 (mL (jT c_ (k+r)) (jl P.last 19) M1.next)=YS at b8 g8 g8b ⊢
   have hl8:zk prog ⟨YS,D2⟩ gl.g 4 (.ptr K4 0)=some (.bool P.null):=zr ND g8 rfl;refine zh ?_;simp only[BA,Nat.reduceEqDiff,ak,aq,ah,za,bI,Nat.reduceLT,bD,iZ,hlen,iq,hl8];rcases hpn:P.null with _|_
   refine .inr ⟨rfl,?_⟩
   refine mj (λs=>∃env H9,s=⟨env,H9,[],[]⟩/\EB nl l k env/\nth env 33=some (.int .i64 ((r:Nat):Int))/\nth env 11=some (.ptr K4 0)/\BI H9 (F.map jJ) [] (jW k r (fh c) m).2/\∃fp,(jW k r (fh c) m).1=jl fp 19/\H9.get K4=some (.cells (zo ⟨P.null,fp,P.last⟩) 117)) ⟨_,_,rfl,⟨by simp[hlen],by simp[za,he.e2],by simp[za,he.e3],by simp[za,he.e4],by simp[za,he.e6],by simp[za,he.e7],by simp[za,he.AB],by simp[za,he.z_]⟩,by simp[za,Df],by simp[za,iZ],b8,P.first,by rw[NM,hpn];rfl,g8⟩ ?_
   rotate_left
   refine .inl ⟨rfl,?_⟩;have c9:=Xb hg (n:=n - 1) (by omega) (bs:=YS) (es:=D2) (b:=K4) (off:=1) (b':=K4+1) (off':=0) (pre:=[.bool P.null]) (post:=pv 19 P.last) (pre':=[]) (post':=[]) (p:=P.first) (q:=jT c_ (k+r)) (ty:=117) (ty':=115) (by rw[<- NG];exact g8) rfl (by rw[bt,nk];exact g8b) rfl (by omega)
   rw[show n - 1+1=n by omega] at c9
   have hc9:Cx.bK ⟨prog,gl.g,zj prog gl n,eg⟩ 58 _ ⟨YS,D2⟩=_:=zu func58 rfl c9;obtain⟨b9,k9,g9,n9⟩:=YA b8 (v:=zo ⟨P.null,jG P.first (jT c_ (k+r)),P.last⟩) g8 (by omega)
   simp only[Hp.set] at b9 g9;refine zh ?_;simp only[BA,Nat.reduceEqDiff,av,ak,aq,ah,aC,za,bI,Nat.reduceLT,bD,iZ,oE,hlen,o8,hc9]
   refine mj (λs=>∃env H9,s=⟨env,H9,[],[]⟩/\EB nl l k env/\nth env 33=some (.int .i64 ((r:Nat):Int))/\nth env 11=some (.ptr K4 0)/\BI H9 (F.map jJ) [] (jW k r (fh c) m).2/\∃fp,(jW k r (fh c) m).1=jl fp 19/\H9.get K4=some (.cells (zo ⟨P.null,fp,P.last⟩) 117)) ⟨_,_,rfl,⟨by simp[hlen],by simp[za,he.e2],by simp[za,he.e3],by simp[za,he.e4],by simp[za,he.e6],by simp[za,he.e7],by simp[za,he.AB],by simp[za,he.z_]⟩,by simp[za,Df],by simp[za,iZ],b9,jG P.first (jT c_ (k+r)),by rw[NM,hpn];rfl,g9⟩ ?_
   all_goals
    rintro s ⟨env,H9,rfl,he,Df,iZ,b9,fp,hfp,g9⟩;have hlen:=he.len;obtain⟨bF,T5⟩:∃bF,bF=fC (F.map jJ) []:=⟨_,rfl⟩;have f9:=b9.f;rw[<- T5] at f9;have mZ:∀env,v4 prog 28 env H9 [] [] (some (.ptr 2 2))=some (.val (zm 1 27 (F.map jJ)),⟨env,H9.set 2 (.cells (bF.set 2 (oO 1 (F.map jJ))) 30),kD 2 2 (F.map jJ),[]⟩):=λenv=>Tw Qx f9 (by rw[T5];rfl)
    obtain⟨HL,JO⟩:∃HL,HL=H9.set 2 (.cells (bF.set 2 (oO 1 (F.map jJ))) 30):=⟨_,rfl⟩;rw[<- JO] at mZ;obtain⟨LK,hLK⟩:∃LK,LK=kD 2 2 (F.map jJ):=⟨_,rfl⟩;rw[<- hLK] at mZ;have gL:HL.get K4=some (.cells (zo ⟨P.null,fp,P.last⟩) 117):=by rw[JO,qD (by omega)];exact g9
    have YE:HL.get 2=some (.cells (bF.set 2 (oO 1 (F.map jJ))) 30):=by rw[JO,wA f9]
    have cC:bg (zm 1 3 (xp fp 19))=jJ (jW k r (fh c) m).1:=by rw[hfp,xF];rfl
    have Au:∀H,H.get K4=some (.cells (zo ⟨P.null,fp,P.last⟩) 117)->Cx.bK ⟨prog,gl.g,zj prog gl n,eg⟩ 59 [.ptr K4 1] H=some (.val (jJ (jW k r (fh c) m).1),H):=λH hH=>by
     have h:=zg5 hg (n:=n - 1) (by omega) (H:=H) (b:=K4) (off:=1) (pre:=[.bool P.null]) (post:=pv 19 P.last) (p:=fp) (ty:=117) (by rw[<- NG ⟨P.null,fp,P.last⟩];exact hH) rfl
     rw[show n - 1+1=n by omega,cC] at h
     exact zu func59 rfl h
    obtain⟨row,Mg⟩:∃row,row=jJ (jW k r (fh c) m).1:=⟨_,rfl⟩;rw[<- Mg] at Au;have Ix:bg row=row:=by rw[Mg];exact qU
    have QI:dD row=true/\row.cells.length=1/\row.top=0:=by
     rw[Mg];have:aL ((jW k r (fh c) m).1.map Fw)=0:=wo (λ_=>rfl) _;unfold jJ;cases h:(jW k r (fh c) m).1.map Fw with
     | nil=>exact⟨rfl,rfl,rfl⟩
     | cons x xs =>
      rw[h] at this;exact⟨rfl,rfl,this⟩
    have lQ:=NU.BH (v:=row) QI.1 QI.2.1;have gj:∀H,kb prog H 28 (zm 1 27 (F.map jJ)) (.sl 1 [row] .no)=some (zm 1 27 (F.map jJ++[row])):=λH=>jM NU (by simp) (j9 (by rw[iK];simp;omega) (by rw[iK];simp;omega))
    have fe:∀env,qp prog 28 HL LK [] (some (zm 1 27 (F.map jJ++[row]),env)) (some (.ptr 2 2))=some (.skip,⟨env,HL.set 2 (.cells (bF.set 2 (zm 1 27 (F.map jJ++[row]))) 30),LK,[]⟩):=λenv=>by
     have lM:2<bF.length:=by rw[T5];simp[fC]
     have Nc:(zm 1 27 (F.map jJ++[row])).top=0:=PM (gE (wo (λx=>by
      unfold jJ;rw[jq]
      exact PM (wo (λ_=>rfl) _)) _) (by simp[aL,QI.2.2]))
     rw[zA NU.st YE Pw (by rw[vt];rfl) (by rw[bI];omega) (by rw[hLK];exact Pv lM),jV (by rw[Nc];omega)]
     simp only[vt,Vm.storeCells,List.set_set]
    refine vo (tk:=[64]) (by kernel_rfl) ?_
    apply Exists.intro;apply And.intro;refine qu (m:=0) (v:=.ptr 2 2) (by kernel_rfl) rfl (by simp only[BA,ak,ah,he.e7,FE];rfl) (by kernel_rfl) (by kernel_rfl) (by kernel_rfl) ?_
    dsimp only[aq]
    refine yw (m:=1) (v:=zm 1 27 (F.map jJ)) (cs':=[⟨2,HL,LK,[]⟩,⟨0,H9,[],[]⟩]) (by kernel_rfl) rfl (by simp only[BA,ak,za,Nat.reduceLT,hlen,mZ];rfl) (by kernel_rfl) (by kernel_rfl) (by kernel_rfl) (λK=>?_) ?_
    rotate_left
    dsimp only[aq]
    refine qu (m:=0) (v:=.ptr K4 1) (by kernel_rfl) rfl (by simp only[BA,Nat.reduceEqDiff,ak,ah,za,bI,Nat.reduceLT,bD,iZ,hlen,o8];rfl) (by kernel_rfl) (by kernel_rfl) (by kernel_rfl) ?_
    dsimp only[aq]
    refine yw (m:=4) (v:=row) (cs':=[⟨10,HL,LK,[]⟩,⟨8,H9,[],[]⟩,⟨2,HL,LK,[]⟩,⟨0,H9,[],[]⟩]) (by kernel_rfl) rfl (by simp only[BA,Nat.reduceEqDiff,av,ak,aC,za,bI,Nat.reduceLT,bD,hlen,Au HL gL];rfl) (by kernel_rfl) (by kernel_rfl) (by kernel_rfl) (λK=>?_) ?_
    rotate_left
    dsimp only[aq]
    refine qu (m:=12) (v:=.sl 1 [row] (.yes 27)) (by kernel_rfl) rfl (by simp only[BA,Nat.reduceEqDiff,ak,za,bI,Nat.reduceLT,bD,hlen,Ix,lQ];rfl) (by kernel_rfl) (by kernel_rfl) (by kernel_rfl) ?_
    dsimp only[aq]
    refine ki (m:=31) (v:=zm 1 27 (F.map jJ++[row])) (by kernel_rfl) rfl (by simp only[BA,Nat.reduceEqDiff,ak,za,bI,Nat.reduceLT,bD,hlen,BG,gj,ky (cx:=⟨prog,gl.g,zj prog gl n,eg⟩) (show rC prog eg 28=false by kernel_rfl)];rfl) (by kernel_rfl) (by kernel_rfl) (by kernel_rfl) (by kernel_rfl) ?_
    dsimp only[aq]
    refine qu (m:=63) (v:=.ptr 2 2) (by kernel_rfl) rfl (by simp only[BA,Nat.reduceEqDiff,ak,ah,za,bI,Nat.reduceLT,bD,he.e7,hlen,FE];rfl) (by kernel_rfl) (by kernel_rfl) (by kernel_rfl) ?_
    dsimp only[aq]
    refine w4 (m:=127) (cs':=[⟨138,HL.set 2 (.cells (bF.set 2 (zm 1 27 (F.map jJ++[row]))) 30),LK,[]⟩,⟨10,HL,LK,[]⟩,⟨8,H9,[],[]⟩,⟨2,HL,LK,[]⟩,⟨0,H9,[],[]⟩]) (by kernel_rfl) rfl (by simp only[BA,Nat.reduceEqDiff,ak,za,bI,Nat.reduceLT,bD,hlen,fe];rfl) (by kernel_rfl) (by kernel_rfl) (λK=>?_) vq
    ·refine j8 ?_ ?_ ?_ ?_
     ·kernel_rfl
     ·rfl
     ·intro c hc;simp only[dM,uh,tB] at hc;rcases hc with rfl|rfl|rfl<;>kernel_rfl
     ·kernel_rfl
    rotate_left
    ·refine j8 ?_ ?_ ?_ ?_
     ·kernel_rfl
     ·rfl
     ·intro c hc;simp at hc
     ·kernel_rfl
    ·refine zh8 (e:=⟨0,HL,LK,[]⟩) ?_ ?_ ?_ ?_ ?_ ?_ ?_ ?_ ?_ ?_ ?_ ?_ ?_ ?_
     ·kernel_rfl
     ·rfl
     ·rfl
     ·rfl
     ·rfl
     ·rfl
     ·rfl
     ·kernel_rfl
     rotate_left
     ·kernel_rfl
     ·kernel_rfl
     rotate_left
     ·kernel_rfl
     ·exact zdv
     ·simp only[Cx.d_,jy];simp only[BA,Nat.reduceEqDiff,av,ak,aC,Nat.reduceAdd,za,bI,Nat.reduceLT,bD,hlen,Au H9 g9];rfl
     ·simp only[Cx.d_,jy];simp only[BA,ak,za,Nat.reduceLT,hlen,mZ]
    simp only[aq];simp only[qE]
    refine zh ?_;simp only[BA,Nat.reduceEqDiff,ak,aj,aq,za,bI,Nat.reduceLT,bD,Df,hlen,qn (show r<2 ^ 60 by omega)]
    simp only[zp,aO]
    refine⟨j - 1,by omega,r+1,_,_,(jW k r (fh c) m).2,F++[(jW k r (fh c) m).1],by omega,rfl,⟨by simp[hlen],by simp[za,he.e2],by simp[za,he.e3],by simp[za,he.e4],by simp[za,he.e6],by simp[za,he.e7],by simp[za,he.AB],by simp[za,he.z_]⟩,by simp[za,hlen],?_,ok8,by simp[hFr],_,Prod.ext rfl hR,?_⟩
    ·rw[JO,Yx];have:=b9.Qw (F':=(F++[(jW k r (fh c) m).1]).map jJ) (N':=[]);rw[T5,Mg];simpa[fC] using this
    ·rw[<- hF,<- hF',bp];rfl
 ·obtain rfl:r=l.length:=by omega
  refine .inr ⟨by simp,?_⟩
  rw[List.drop_length] at hR;simp only[bw,qq,cq] at hR;obtain⟨rfl,rfl⟩:=hR;rw[nk] at hF;subst hF;simp only[qk,zN];exact zn8 hg hn (nl:=nl) (l:=l) (k:=k) (F:=F) (m:=m) ⟨by simp[hlen],by simp[za,he.e2],by simp[za,he.e3],by simp[za,he.e4],by simp[za,he.e6],by simp[za,he.e7],by simp[za,he.AB],by simp[za,he.z_]⟩ hb ek hM cK
end
end Go.Proofs.YthohlnmcjkjeiaaGreatDoor
