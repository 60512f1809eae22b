/- Seat 8: an expression, walked. Conditions: none but those named. -/
import Derived.Test.YthohlnmcjkjeiaaGreatDoorVmL
set_option linter.defProp false
namespace Go.Proofs.YthohlnmcjkjeiaaGreatDoor
open Go Go.Vm
open Go.Proofs.Tryz
set_option maxRecDepth 100000
section
variable{gl:Gl}
def z92:kf prog 157=some (.agg [.int .i64 0,.int .i64 0,.int .u64 0,.int .u64 0,.int .u64 0,.int .u64 0,.str [],.int .i64 0,.int .i64 0,.aJ,.int .i64 0]):=by kernel_rfl
def z86:kf prog 151=some (.agg [.aJ]):=by kernel_rfl
def z89:kf prog 154=some (.agg [.aJ]):=by kernel_rfl
def zsO:(match prog.underlying 157 with|some (.struct fs)=>P5 prog fs|_=>none)=some [(0,10),(10,1)]:=by kernel_rfl
def zro{x:aO}{env:aA}{e:E}(h:aB env x=some (.agg (bQ e))):wx prog 157 #[(0,x)] env=some (.agg (sO (e,0))):=by
 have hp:=zsO;unfold wx;rw[z92];cases hu:prog.underlying 157 with
 | none=>rw[hu] at hp;cases hp
 | some d =>
  rw[hu] at hp;cases d<;>simp only at hp<;>try (cases hp;done)
  simp only[hp];obtain⟨op,pl,s0,s1,s2,s3,text,mn,mx,nl,args⟩:=e;simp[fH,xJ,h,nth,bQ,V.cells,Vm.storeCells,sO]
def zsd{x y:aO}{env:aA}{e:E}{d:Nat}(h:aB env x=some (.agg (bQ e)))(h':aB env y=some (.int .i64 (d:Int))):wx prog 157 #[(0,x),(1,y)] env=some (.agg (sO (e,d))):=by
 have hp:=zsO;unfold wx;rw[z92];cases hu:prog.underlying 157 with
 | none=>rw[hu] at hp;cases hp
 | some d =>
  rw[hu] at hp;cases d<;>simp only at hp<;>try (cases hp;done)
  simp only[hp];obtain⟨op,pl,s0,s1,s2,s3,text,mn,mx,nl,args⟩:=e;simp[fH,xJ,h,h',nth,bQ,V.cells,Vm.storeCells,sO]
def zsP{env:aA}:wx prog 117 #[] env=some (.agg (ql p0)):=by kernel_rfl
def abD:ka prog 51=some false:=by kernel_rfl
def Wz:prog.underlying 51=some (.slice 53):=by kernel_rfl
def n_:jD prog 157 0=some 0:=by kernel_rfl
def oW:jD prog 157 1=some 10:=by kernel_rfl
def Dg:jD prog 53 6=some 9:=by kernel_rfl
def zj6{H:Hp}{nl:Bool}{l:List E}:kU prog H 51 (yH nl (fy l))=some (l.length:Int):=by
 rcases vv nl (fy l) with h|⟨h0,h⟩<;>rw[h]
 ·simp[kU,di]
 ·have:l=[]:=by
   have:=congrArg List.length h0;rw[di] at this;exact Kh this
  subst this;simp[kU]
def WA{H:Hp}{b:Nat}{p q:Part}{env:aA}{lk:bk}{df:bH}(hg:H.get b=some (.cells (ql q) 117)):kI prog 117 H lk df (some (.agg (ql p),env)) (some (.ptr b 0))=some (.skip,⟨env,H.set b (.cells (ql p) 117),lk,df⟩):=by
 rw[jt (v:=.agg (ql p)) sM hg rfl (by simp[V.laid,jO]) (by rw[jO];decide) (vZ y9 (by rw[jO];decide)),vY (by simp[V.top,xB])]
 simp only[V.laid,vd];rw[yY (by rw[jO,jO])]
def zse{H:Hp}{b:Nat}{p:Part}{g:Nat->Nat->cP}(hg:H.get b=some (.cells (ql p) 117)):qJ prog H g 117 (.ptr b 0)=some (.agg (ql p)):=by
 rw[wc uO sM hg (by rw[jO];decide),IJ,En (by rw[jO];decide)]
def E.args:E->List E
 | .mk _ _ _ _ _ _ _ _ _ _ a=>a
structure EF(bs:List br)(bm:Nat)(r:Int)(env:aA):Prop where
 len:env.length=86
 e0:nth env 0=some (.ptr bm 0)
 e2:nth env 2=some (.int .i64 r)
 e6:nth env 6=some (.ptr (bs.length+1) 0)
 e7:nth env 7=some (.ptr (bs.length+2) 0)
 e8:nth env 8=some (.ptr (bs.length+3) 0)
structure WI(bs:List br)(bm:Nat)(i0:Option Nat)(r:Int)(P:Part)(M:Mk)(Wm:Nat)(H:Hp)(S:List (E×Nat))(ps:List Part)(m:Mk):Prop where
 ws:WS bs bm i0 H S ps m
 dn:den r S ps m=some ([P],M)
 PJ:∀p∈ps,D9 m.next.length p
 ok:m.Ok
 wf:∀f∈S,f.2<=f.1.args.length/\wE f.1<=2 ^ 31
 bd:S.length+ps.length+wS S<=Wm
 res:∃q,H.get (bs.length+1)=some (.cells (ql q) 117)
def ztg{H:Hp}{b:Nat}{f:E×Nat}{cs:aA}{ty:aq}{env:aA}{lk:bk}{df:bH}(hg:H.get b=some (.cells cs ty))(hl:cs.length=11)(hu:cs.all (λc=>!(locked c))=true):kI prog 157 H lk df (some (.agg (sO f),env)) (some (.ptr b 0))=some (.skip,⟨env,H.set b (.cells (sO f) ty),lk,df⟩):=by
 rw[jt (v:=.agg (sO f)) AR hg rfl (by simp[V.laid,PI]) (by rw[hl];decide) (vZ hu (by rw[hl];decide)),vY (by simp[V.top,zj3])]
 simp only[V.laid,zig];rw[yY (by rw[hl,PI])]
def Lo{H:Hp}{b d:Nat}{op pl s0 s1 s2 s3 mn mx:Int}{tx:bR}{nl:Bool}{args:List E}{g:Nat->Nat->cP}(hg:H.get b=some (.cells (sO (.mk op pl s0 s1 s2 s3 tx mn mx nl args,d)) 157)) :
  qJ prog H g 3 (.ptr b 0)=some (.int .i64 op)/\qJ prog H g 51 (.ptr b 9)=some (yH nl (fy args))/\qJ prog H g 3 (.ptr b 10)=some (.int .i64 (d:Int))/\qJ prog H g 53 (.ptr b 0)=some (.agg (bQ (.mk op pl s0 s1 s2 s3 tx mn mx nl args))) :=
 ⟨jy PA hg rfl,jy abD hg rfl,jy PA hg rfl,by rw[wc Da uP hg (by rw[PI];decide)];rfl⟩
def zqU{nl:Bool}{args:List E}{D:Nat}{c:E}(h:args[D]?=some c):q7 prog 51 (yH nl (fy args)) (D:Int)=some (.vp (bQ c)):=by
 have cG:yH nl (fy args)=.sl 10 (fy args) .no:=by
  rcases vv nl (fy args) with h'|⟨h0,h'⟩
  ·exact h'
  ·have:=congrArg List.length h0;rw[di] at this;rw[Kh this] at h;simp at h
 have hn:nth (fy args) D=some (enc c):=by rw[zV,tQ,h];rfl
 have hD:¬((D:Int)<0):=by omega
 simp[cG,q7,uP,hD,hn,wv,V.cells]
def zsf{H:Hp}{g:Nat->Nat->cP}{c:E}:qJ prog H g 53 (.vp (bQ c))=some (.agg (bQ c)):=by
 have:(bQ c).take 10=bQ c:=En (by rw[jS];decide)
 simp[qJ,wX,Da,uP,Rd,jS,this]
structure WB(bs:List br)(bm:Nat)(r:Int)(L:Nat)(env:aA):Prop extends EF bs bm r env where
 e9:nth env 9=some (.ptr L 0)
def zmb{c:E}:∀{l:List E},c∈l->wE c+2<=E2 l
 | a::l,h=>by
  simp only[E2];rcases dh.1 h with rfl|h
  ·omega
  ·have:=zmb h;omega
def AX:∀{l:List E},l.length<=E2 l
 | []=>ek _
 | a::l=>by have:=AX (l:=l);simp only[E2,bq];omega
def zij(e:E):wE e=3+E2 e.args:=by cases e;simp only[wE,E.args]
def zqV{r op pl s0 s1 s2 s3 mn mx:Int}{tx:bR}{nl:Bool}{a:E}{tl:List E}{d:Nat}{S:List (E×Nat)}{ps:List Part}{m:Mk}{y:List Part×Mk}(h:den r ((.mk op pl s0 s1 s2 s3 tx mn mx nl (a::tl),d+1)::S) ps m=some y):∃b x ps',ps=b::x::ps':=by
 cases ps with
 | nil=>simp[den,FI] at h
 | cons b ps =>
  cases ps with
  | nil=>simp[den,FI] at h
  | cons x ps=>exact⟨b,x,ps,rfl⟩
def Mid(bs:List br)(bm:Nat)(i0:Option Nat)(r:Int)(P:Part)(M:Mk)(Wm L:Nat)(e:E)(d:Nat)(S:List (E×Nat))(s:St):Prop :=
 ∃env H ps m q,s=⟨env,H,[],[]⟩/\WB bs bm r L env/\WS bs bm i0 H S ps m/\(∀p∈ps,D9 m.next.length p)/\m.Ok/\H.get L=some (.cells (sO (e,d)) 157)/\H.get (bs.length+1)=some (.cells (ql q) 117) /\
  (∀c,e.args[d]?=some c->den r ((c,0)::(e,d+1)::S) ps m=some ([P],M)/\S.length+2+ps.length+wS ((c,0)::(e,d+1)::S)<=Wm/\wS ((c,0)::(e,d+1)::S)<wS ((e,d)::S)) /\
  (d=e.args.length->match e with|.mk op _ _ _ _ _ _ mn mx _ _=>∃p ps',ps=p::ps'/\den r S ((yl op mn mx (p,m)).1::ps') (yl op mn mx (p,m)).2=some ([P],M)/\S.length+ps.length+wS S<=Wm)
def zpm(hg:GW gl){n n0:Nat}{H:Hp}{bm:Nat}{m:Mk}{i:Option Nat}{e:E}{r:Int}{P:Part}{M:Mk}
  (hm:MK n0 H bm m i) (Bf:n0<=H.aj.length) (hP:gF r e m=(P,M)) (dP:m.Ok) (hM:M.bw.length<=1200) (hn:wE e+2000<=n) (hw:wE e+2<=2 ^ 31) :
  ∃H' i',qt prog gl (n+1) 55 [.ptr bm 0,enc e,.int .i64 r] H=some (.ret (.agg (ql P)),H')/\MK n0 H' bm M i'/\Lj H.aj.length i i'/\rT H H' (λd=>d=bm\/i=some d)/\M.Ok/\D9 M.next.length P:=by
 obtain⟨bs,es⟩:=H;have I4:=hm.start
 suffices d_:(go ⟨prog,gl,qt prog gl n,gE⟩ n (Fx prog f55.results.toList λw H1=>w=.agg (ql P)/\∃i',MK bs.length H1 bm M i'/\Lj bs.length i i'/\rT ⟨bs,[]⟩ H1 (λd=>d=bm\/i=some d)/\M.Ok/\D9 M.next.length P) [.c (f55.body.getD .skip)] .normal ⟨[.ptr bm 0,enc e,.int .i64 r]++List.replicate 83 (.bz []),⟨bs,[]⟩,[],[]⟩) by
  obtain⟨w,H1,h0,rfl,i',h1,h2,h3,h4,h5⟩:=jZ (gl:=gl) (f:=55) (bs:=bs) (es:=es) (args:=[.ptr bm 0,enc e,.int .i64 r]) (n:=n) (hg.hk _ _ (by decide)) (λH=>hg.iA _ _ _ _) func55 rfl (by rw[hg.uq];exact d_)
  exact⟨_,i',h0,hm.finish Bf h2 h1,h2,zf0 h3,h4,h5⟩
 obtain⟨c,hc,hu,hed⟩:=I4;have bD:bm<bs.length:=wg hc;have oT:fH (.agg (bQ e))=true:=rfl;simp only[f55,t_,zD,wv];refine qx ?_
 simp only[qi,ah,zD,qf,zl,zu,zy,au,qb,z9,bY,bq,List.length_nil,cK,b_,cF,cq,zR,z6,dJ,dM,wn oT,Ns,jQ (show fH (V.agg (ql ⟨false,cI,cI⟩))=true from rfl),V.laid,V.cells,xC,List.replicate]
 refine qx ?_
 simp only[qi,ah,zD,zl,au,qb,z9,bY,bq,List.length_nil,cK,Nat.reduceAdd,b_,cF,cq,dJ,dM,z86,jQ (show fH (V.agg [V.aJ])=true from rfl),V.cells]
 refine qx ?_
 simp only[qi,ah,zD,zl,au,qb,z9,bY,bq,List.length_nil,cK,Nat.reduceAdd,b_,cF,cq,dJ,dM,z89,jQ (show fH (V.agg [V.aJ])=true from rfl),V.cells]
 generalize Hg:Hp.mk (bs++[br.cells (bQ e) 53,.cells (ql ⟨false,cI,cI⟩) 117,.cells [.aJ] 151,.cells [.aJ] 154]) []=H0;have WC:WS bs bm i H0 [] [] m:=by
  subst Hg;refine⟨by simp,bD,⟨.aJ,none,gN (k:=2),⟨rfl,rfl⟩,by simp⟩,⟨.aJ,none,gN (k:=3),⟨rfl,rfl⟩,by simp⟩,⟨i,⟨c,(gB bD).trans hc,hu.frame λj hj=>gB (by subst hj;exact hu.lt),λj hj hn=>?_⟩,.inl rfl⟩,λd hd _ _=>gB hd⟩
  subst hj;exact absurd hu.lt (by simpa using hn)
 have B6:qJ prog H0 gl.g 53 (.ptr bs.length 0)=some (.agg (bQ e)):=by
  subst Hg;rw[zrn Da uP rfl (by simp[jS])]
  rw[IJ,En (by rw[jS];decide)]
 have pJ:H0.get (bs.length+1)=some (.cells (ql p0) 117):=by subst Hg;exact gN (k:=1)
 obtain⟨H1,o6,FE,HW⟩:=WC.G_ hg (show 1<=n by omega) (e,0) (by decide)
 refine qx ?_
 simp only[qi,zI,zO,aB,zk,au,qb,zp,zS,bC,bG,zR,z6,dJ,dM,B6]
 rw[zro (e:=e) (by rfl)]
 simp only[qi,ah,zD,zx,zW,aL,qd,aB,zk,au,qb,zp,zS,zi,qp,bW,cM,zR,z6,dJ,dM,o6]
 refine Iq (EF bs bm r) ⟨rfl,rfl,rfl,rfl,rfl,rfl⟩ λenv mW=>?_;have Gf:WI bs bm i r P M (wE e+2) H1 [(e,0)] [] m:=⟨FE,by simp only[den,Wu,hP],λp hp=>by simp at hp,dP,λf hf=>by simp at hf;subst hf;exact⟨ga _,by simp only;omega⟩,by simp[wS,wF];omega,⟨p0,HW _ _ _ (by omega) (by omega) (by omega) pJ⟩⟩
 refine vo (λj s=>∃S ps m H env,wS S=j/\s=⟨env,H,[],[]⟩/\EF bs bm r env/\WI bs bm i r P M (wE e+2) H S ps m) (wS [(e,0)]) (by simp[wS,wF];omega) ⟨_,_,_,_,_,rfl,rfl,mW,Gf⟩ ?_
 clear Gf WC B6 pJ o6 FE HW Hg mW env H0 H1;rintro j s ⟨S,ps,m1,H,env,rfl,rfl,he,hi⟩;simp only[zD];refine qx ?_;have abG:=hi.ws.emp hg (show 1<=n by omega)
 have hlen:=he.len
 simp only[qi,ah,zD,aC,zx,z4,zW,Nat.reduceEqDiff,aL,qd,aB,zk,au,qb,zf,zS,bC,zi,qp,bW,cM,zJ,zU,aU,zb,ee,Nat.reduceLT,aU,bZ,he.e7,hlen,abG,FU]
 cases S with
 | nil =>
  refine .inr ⟨rfl,?_⟩;have hd:=hi.dn;simp only[den,aR,bS] at hd;obtain⟨rfl,rfl⟩:=hd;obtain⟨H2,uV,MM,iA⟩:=hi.ws.JX hg (show 1<=n by omega) (by decide)
  obtain⟨q,hq⟩:=hi.res;have NB:=iA _ _ _ (by have:=hi.ws.lt;omega) (by omega) (by omega) hq
  simp only[ky,jC,jc,dr,jm,dW,aU,zD];refine qx ?_
  simp only[qi,ah,zh,zW,Nat.reduceEqDiff,aL,qd,aB,zu,zy,au,qb,zS,zi,qp,bW,cM,aU,zb,ee,Nat.reduceLT,aU,bZ,he.e8,he.e6,hlen,uV]
  rw[WA NB];simp only[az,qb,go_ret,jc,Fx]
  have JY:=MM.Df (cs':=ql P) (ty':=117) NB (by omega) (by omega) (by omega)
  obtain⟨i',k1,k2⟩:=JY.Bm;refine⟨trivial,[.agg (ql P)],?_,rfl,i',k1,k2,⟨by have:=JY.len;show bs.length<=_;omega,λd hd uX=>JY.fr d hd (λe=>uX (.inl e)) (λe=>uX (.inr e))⟩,hi.ok,hi.PJ P (by simp)⟩
  simp only[ja,zb,ee,Nat.reduceEqDiff,bZ,he.e6];rw[zse (w8 NB)];simp[aT]
 | cons f S =>
  refine .inl ⟨rfl,?_⟩;have PK:=hi.bd;have JT:S.length<2 ^ 32:=by simp only[bq] at PK;omega
  have oN:ps.length<2 ^ 31:=by simp only[bq] at PK;omega
  obtain⟨H1,o6,FE,HW⟩:=hi.ws.abw hg (show 1<=n by omega) JT
  refine qx ?_
  simp only[qi,ah,zD,zx,zl,zh,zW,Nat.reduceEqDiff,aL,qd,aB,zu,zy,au,qb,zS,zi,qp,bW,cM,aU,zb,ee,Nat.reduceLT,aU,bZ,he.e7,hlen,o6,z92,jQ (show fH (V.agg [.int .i64 0,.int .i64 0,.int .u64 0,.int .u64 0,.int .u64 0,.int .u64 0,.str [],.int .i64 0,.int .i64 0,.aJ,.int .i64 0])=true from rfl),V.cells]
  rw[ztg wA rfl rfl];obtain⟨L,hL⟩:∃L,L=H1.aj.length:=⟨_,rfl⟩;obtain⟨z,hz⟩:∃z,z=br.cells [.int .i64 0,.int .i64 0,.int .u64 0,.int .u64 0,.int .u64 0,.int .u64 0,.str [],.int .i64 0,.int .i64 0,.aJ,.int .i64 0] 157:=⟨_,rfl⟩;rw[<- hz,<- hL];obtain⟨H2,Hh⟩:∃H2,H2=(H1.push z).set L (.cells (sO f) 157):=⟨_,rfl⟩;rw[<- Hh];have hLn:bs.length+4<=L:=by rw[hL];exact FE.len
  have hgL:(H1.push z).get L=some z:=by rw[hL];exact wA
  have KZ:H2.get L=some (.cells (sO f) 157):=by rw[Hh,w8 hgL]
  have MM:WS bs bm i H2 S ps m1:=by rw[Hh];exact FE.push.1.Df (by rw[hgL,hz]) (by omega) (by omega) (by omega)
  obtain⟨q,hq⟩:=hi.res;have NB:H2.get (bs.length+1)=some (.cells (ql q) 117):=by
   rw[Hh,ju (by omega),kz (by omega)]
   exact HW _ _ _ (by omega) (by omega) (by omega) hq
  clear Hh hgL hz z HW hq o6 FE;simp only[az,qb]
  refine Iq (WB bs bm r L) ⟨⟨by simp[hlen],by simp[zb,he.e0],by simp[zb,he.e2],by simp[zb,he.e6],by simp[zb,he.e7],by simp[zb,he.e8]⟩,by simp[zb,hlen]⟩ λenv he=>?_
  have hlen:=he.len;obtain⟨⟨op,pl,s0,s1,s2,s3,tx,mn,mx,nl,args⟩,d⟩:=f;obtain⟨l1,l2,l3,l4⟩:=Lo (g:=gl.g) KZ;refine qx ?_
  simp only[qi,ah,zD,aC,zI,zA,zq,za,qc,Nat.reduceEqDiff,aB,zu,aH,zo,zk,zH,au,qb,zg,zf,zS,bC,bG,ze,qa,cK,cL,zJ,zU,aU,zb,ee,Nat.reduceLT,aU,bZ,he.e9,hlen,n_,Dg,l2,jW,zj6,yq]
  cases args with
  | nil =>
   refine .inl ⟨rfl,?_⟩;have JZ:=hi.dn;rw[Hf] at JZ;have Mv:=B8 JZ;have mg:=zj5 (op:=op) (r:=r) (q:=(s0,s1,s2,s3)) hi.ok;have abI:=zcw (op:=op) (r:=r) (q:=(s0,s1,s2,s3)) (m:=m1);have Tc:m1.next.length<=(kF op (s0,s1,s2,s3) r m1).2.next.length:=by rw[hi.ok.n,mg.1.n];exact abI
   simp only at Mv;obtain⟨H3,Cp,JY,ue⟩:=MM.leaf hg (show 2<=n by omega) hi.ok (by omega) (op:=op) (pl:=pl) (s0:=s0) (s1:=s1) (s2:=s2) (s3:=s3) (mn:=mn) (mx:=mx) (r:=r) (text:=tx) (nl:=nl) (args:=[])
   obtain⟨H4,Td,WD,Nx⟩:=JY.D8 hg (show 1<=n by omega) (kF op (s0,s1,s2,s3) r m1).1 (by omega)
   rw[wv] at Cp;simp only[ky,jC,jm,zD,dW,aU]
   refine qx ?_
   simp only[qi,ah,zw,zI,za,zW,Nat.reduceEqDiff,aL,qd,aB,zk,au,qb,zg,zp,zS,bC,bG,ze,qa,zi,qp,bW,cM,List.length_nil,cL,aU,zb,ee,Nat.reduceLT,aU,bZ,he.e0,he.e2,he.e8,he.e9,hlen,n_,l4,Cp,Td]
   simp only[ky,jC,jm,jc,bT,qm,dW,rL,rM,aU,dF,bZ]
   refine⟨_,?_,S,_,_,H4,_,rfl,rfl,⟨by simp[hlen],by simp[zb,he.e0],by simp[zb,he.e2],by simp[zb,he.e6],by simp[zb,he.e7],by simp[zb,he.e8]⟩,WD,JZ,λp hp=>?_,mg.1,λf hf=>hi.wf f (dB _ hf),?_,⟨q,Nx _ _ _ (by have:=hi.ws.lt;omega) (by omega) (by omega) (ue _ _ _ (by have:=hi.ws.lt;omega) (by omega) (by omega) NB)⟩⟩
   ·simp only[wS];have:=Wy (.mk op pl s0 s1 s2 s3 tx mn mx nl [],d);omega
   ·rcases dh.1 hp with rfl|hp
    ·exact mg.2
    ·exact(hi.PJ p hp).mono Tc
   ·simp only[wS,bq] at PK ⊢;have:=Wy (.mk op pl s0 s1 s2 s3 tx mn mx nl [],d);omega
  | cons a tl =>
   refine .inr ⟨by simp;omega,?_⟩
   refine Iq (WB bs bm r L) ⟨⟨by simp[hlen],by simp[zb,he.e0],by simp[zb,he.e2],by simp[zb,he.e6],by simp[zb,he.e7],by simp[zb,he.e8]⟩,by simp[zb,he.e9]⟩ λenv he=>?_
   have hlen:=he.len;have sI:=hi.ws.lt;refine qx ?_
   simp only[qi,ah,aC,zI,zA,zq,za,Nat.reduceEqDiff,aB,zu,aH,zo,zk,zH,au,qb,zg,zf,zS,bC,bG,ze,qa,cK,zJ,zU,aU,zb,ee,Nat.reduceLT,aU,bZ,he.e9,hlen,oW,l3,yq]
   have Ey:=hi.wf _ (eS ..);have JZ:=hi.dn;rcases d with _|d
   refine .inl ⟨rfl,?_⟩;rw[zpi] at JZ;obtain⟨H3,Cp,JY,ue⟩:=MM.D8 hg (show 1<=n by omega) p0 (by omega)
   have hf3:=ue _ _ _ (by omega) (by omega) (by omega) KZ
   have hq3:=ue _ _ _ (by omega) (by omega) (by omega) NB
   obtain⟨l1,l2,l3,l4⟩:=Lo (g:=gl.g) hf3;simp only[ky,jC,jm,dW,rH,aU,dF,bZ]
   refine qx ?_
   simp only[qi,ah,zD,qm,zO,zW,Nat.reduceEqDiff,aL,qd,aB,zk,au,qb,zp,zS,zi,qp,bW,cM,aU,zb,ee,Nat.reduceLT,aU,bZ,he.e8,hlen,zsP,Cp]
   refine qx ?_
   simp only[qi,ah,zD,aC,zI,zA,za,Nat.reduceEqDiff,aB,aH,zk,au,qb,zg,zf,zS,bC,bG,ze,qa,cK,zJ,zU,aU,zb,ee,Nat.reduceLT,aU,bZ,he.e9,hlen,oW,l3,UX]
   refine .inr ⟨rfl,?_⟩
   refine Pt (λs=>∃D,D<=(a::tl).length/\(∀k,k<wS ((.mk op pl s0 s1 s2 s3 tx mn mx nl (a::tl),D)::S)->k<wS ((.mk op pl s0 s1 s2 s3 tx mn mx nl (a::tl),0)::S))/\Mid bs bm i r P M (wE e+2) L (.mk op pl s0 s1 s2 s3 tx mn mx nl (a::tl)) D S s) ⟨0,ga _,λ_ h=>h,_,_,_,_,_,rfl,⟨⟨by simp[hlen],by simp[zb,he.e0],by simp[zb,he.e2],by simp[zb,he.e6],by simp[zb,he.e7],by simp[zb,he.e8]⟩,by simp[zb,he.e9]⟩,JY,λp hp=>?_,hi.ok,hf3,hq3,λc hc=>?_,λh=>by simp[E.args] at h⟩ ?_
   ·rcases dh.1 hp with rfl|hp
    ·exact zpl
    ·exact hi.PJ p hp
   ·simp only[E.args,Ba,aR] at hc;subst hc;refine⟨JZ,?_,?_⟩ <;>
    ·have:=zqR (op:=op) (pl:=pl) (s0:=s0) (s1:=s1) (s2:=s2) (s3:=s3) (tx:=tx) (mn:=mn) (mx:=mx) (nl:=nl) (a:=a) (tl:=tl) (S:=S);simp only[bq,cK] at PK ⊢;omega
   rotate_left
   refine .inr ⟨by simp;omega,?_⟩
   obtain⟨b,x,ps,rfl⟩:=zqV JZ;have hpx:=hi.PJ x (by simp)
   have Se:=hi.PJ b (by simp)
   have hla:(a::tl).length<=2 ^ 31:=by
    have h1:=Ey.2;rw[zij] at h1;have h2:=AX (l:=a::tl);simp only[E.args] at h1;omega
   have Uh:d<2 ^ 40:=by have h1:=Ey.1;simp only[E.args] at h1;omega
   simp only[bq] at oN;obtain⟨H3,Cp,JY,ue⟩:=MM.JX hg (show 1<=n by omega) (by simp only[bq];omega)
   obtain⟨H4,Td,WD,Nx⟩:=JY.JX hg (show 1<=n by omega) (by omega)
   have hf4:=Nx _ _ _ (by omega) (by omega) (by omega) (ue _ _ _ (by omega) (by omega) (by omega) KZ)
   have hq4:=Nx _ _ _ (by omega) (by omega) (by omega) (ue _ _ _ (by omega) (by omega) (by omega) NB)
   simp only[ky,jC,jm,zD,dW,rI,rJ,aU,dF,bZ]
   refine qx ?_
   simp only[qi,ah,zD,aC,zI,zA,za,Nat.reduceEqDiff,aB,aH,zk,au,qb,zg,zf,zS,bC,bG,ze,qa,cK,zJ,zU,aU,zb,ee,Nat.reduceLT,aU,bZ,he.e9,hlen,oW,l3,UX]
   refine .inl ⟨by simp,?_⟩
   refine qx ?_
   simp only[qi,zl,zh,zW,Nat.reduceEqDiff,aL,qd,aB,zu,zy,au,qb,zS,zi,qp,bW,cM,aU,zb,ee,Nat.reduceLT,aU,bZ,he.e8,hlen,Cp,Td,Ns,jQ (show fH (V.agg (ql ⟨false,cI,cI⟩))=true from rfl),V.cells,j6]
   obtain⟨Z,hZ⟩:∃Z,Z=br.cells (ql ⟨false,cI,cI⟩) 117:=⟨_,rfl⟩;rw[<- hZ];obtain⟨L2,Te⟩:∃L2,L2=H4.aj.length:=⟨_,rfl⟩;have WE:((H4.push Z).push Z).get L2=some Z:=by rw[kz (by rw[j6,Te];omega),Te];exact wA
   have PE:((H4.push Z).push Z).get (L2+1)=some Z:=by rw[Te,<- j6 (x:=Z)];exact wA
   rw[<- Te,WA (WE.trans (by rw[hZ]))]
   simp only[az,qb,qi];rw[zh]
   simp only[ah,Nat.reduceEqDiff,aB,zu,zy,zS,aU,zb,ee,Nat.reduceLT,aU,bZ,hlen]
   rw[WA (((ju (show L2+1≠L2 by omega)).trans PE).trans (by rw[hZ]))]
   simp only[az,qb]
   obtain⟨H5,PL⟩:∃H5,H5=(((H4.push Z).push Z).set L2 (.cells (ql b) 117)).set (L2+1) (.cells (ql x) 117):=⟨_,rfl⟩;rw[<- PL];have apn:bs.length+4<=L2:=by rw[Te];exact WD.len
   have hb5:H5.get L2=some (.cells (ql b) 117):=by rw[PL,ju (by omega),w8 WE]
   have hx5:H5.get (L2+1)=some (.cells (ql x) 117):=by rw[PL,w8 ((ju (by omega)).trans PE)]
   have hk5:∀d y,H4.get d=some y->H5.get d=some y:=λd y hy=>by
    have hl:=wg hy;rw[PL,ju (by omega),ju (by omega),kz (by rw[j6];omega),kz hl,hy]
   have Tf:WS bs bm i H5 S ps m1:=by
    rw[PL];exact((WD.push.1.push.1).Df (WE.trans (by rw[hZ])) (by omega) (by omega) (by omega)).Df (((ju (show L2+1≠L2 by omega)).trans PE).trans (by rw[hZ])) (by omega) (by omega) (by omega)
   have PM:=hk5 _ _ hf4;have Tg:=hk5 _ _ hq4;refine Iq (λenv=>WB bs bm r L env/\nth env 10=some (.ptr L2 0)/\nth env 11=some (.ptr (L2+1) 0)) ⟨⟨⟨by simp[hlen],by simp[zb,he.e0],by simp[zb,he.e2],by simp[zb,he.e6],by simp[zb,he.e7],by simp[zb,he.e8]⟩,by simp[zb,he.e9]⟩,by simp[zb,hlen],by simp[zb,hlen]⟩ λenv Cz=>?_
   obtain⟨he,abJ,abK⟩:=Cz;have hlen:=he.len;obtain⟨l1,l2,l3,l4⟩:=Lo (g:=gl.g) PM;obtain⟨H6,Th,Ti,Lp⟩:=Tf.NA hg (show 1302<=n by omega) (op:=op) (k:=d) (a:=x) (b:=b) (by omega) hpx.2
   obtain⟨H7,Lq,Tj,NC⟩:=Ti.D8 hg (show 1<=n by omega) (qL op d x b m1.next).1 (by omega)
   have dS:∀u w,jY prog .sub 3 u w (some (.int .i64 ((d+1:Nat):Int))) (some (.int .i64 1))=some (.int .i64 (d:Int)):=λu w=>zo2 (a:=d+1) (b:=1) (by omega) (by omega)
   refine qx ?_
   simp only[qi,ah,zD,zw,zI,zA,za,zW,Nat.reduceEqDiff,aL,qd,aB,aH,zk,au,qb,zg,zp,zS,bC,bG,ze,qa,zi,qp,bW,cM,cK,cL,aU,zb,ee,Nat.reduceLT,aU,bZ,he.e0,he.e9,he.e8,abJ,abK,hlen,n_,Db,oW,l1,l3,dS,zse hx5,zse hb5,Th,Lq]
   have WG:=NC _ _ _ (by omega) (by omega) (by omega) (Lp _ _ _ (by omega) (by omega) (by omega) PM)
   have hq7:=NC _ _ _ (by omega) (by omega) (by omega) (Lp _ _ _ (by omega) (by omega) (by omega) Tg)
   have Ah:(qL op d x b m1.next).2.length=m1.next.length:=zbs
   refine Pt (λs=>∃D,D<=(a::tl).length/\(∀k,k<wS ((.mk op pl s0 s1 s2 s3 tx mn mx nl (a::tl),D)::S)->k<wS ((.mk op pl s0 s1 s2 s3 tx mn mx nl (a::tl),d+1)::S))/\Mid bs bm i r P M (wE e+2) L (.mk op pl s0 s1 s2 s3 tx mn mx nl (a::tl)) D S s) ⟨d+1,Ey.1,λ_ h=>h,_,_,_,_,_,rfl,⟨⟨by simp[hlen],by simp[zb,he.e0],by simp[zb,he.e2],by simp[zb,he.e6],by simp[zb,he.e7],by simp[zb,he.e8]⟩,by simp[zb,he.e9]⟩,Tj,λp hp=>?_,⟨hi.ok.r,by rw[Ah];exact hi.ok.n⟩,WG,hq7,λc hc=>?_,λh=>?_⟩ ?_
   ·rw[Ah];rcases dh.1 hp with rfl|hp
    ·exact zk2 hpx Se
    ·exact hi.PJ p (by simp[hp])
   ·simp only[E.args] at hc;have ND:=zpj (r:=r) (op:=op) (pl:=pl) (s0:=s0) (s1:=s1) (s2:=s2) (s3:=s3) (tx:=tx) (mn:=mn) (mx:=mx) (nl:=nl) (S:=S) (ps:=ps) (m:=m1) (x:=x) (b:=b) hc;have WC:=zqS (op:=op) (pl:=pl) (s0:=s0) (s1:=s1) (s2:=s2) (s3:=s3) (tx:=tx) (mn:=mn) (mx:=mx) (nl:=nl) (S:=S) hc;rw[show d+2=d+1+1 from rfl] at WC;refine⟨ND ▸ JZ,?_,?_⟩ <;>
    ·simp only[bq] at PK ⊢;omega
   ·have ND:=zqP (r:=r) (op:=op) (pl:=pl) (s0:=s0) (s1:=s1) (s2:=s2) (s3:=s3) (tx:=tx) (mn:=mn) (mx:=mx) (nl:=nl) (S:=S) (ps:=ps) (m:=m1) (x:=x) (b:=b) (a:=a) (tl:=tl) (d:=d) (by simp only[E.args] at h;omega)
    refine⟨_,_,rfl,ND ▸ JZ,?_⟩;simp only[bq,wS] at PK ⊢;omega
   all_goals
    rintro s ⟨D,hDl,hJ,env,H5,ps2,m2,q2,rfl,he,Tf,J0,uQ,PM,Tg,hmo,LZ⟩;have hlen:=he.len;obtain⟨l1,l2,l3,l4⟩:=Lo (g:=gl.g) PM;have hDb:D<2 ^ 40:=by
     have h1:=Ey.2;rw[zij] at h1;have h2:=AX (l:=a::tl);simp only[E.args] at h1;omega
    refine qx ?_
    simp only[qi,ah,zD,aC,zI,zA,za,qc,Nat.reduceEqDiff,aB,zk,au,qb,zg,zf,zS,bC,bG,ze,qa,bq,cK,cL,zJ,zU,aU,zb,ee,Nat.reduceLT,aU,bZ,he.e9,hlen,n_,oW,Dg,l2,l3,jW,zj6,yq]
    rcases lP D (a::tl).length with hD|hD
    ·refine .inr ⟨by simp;simp only[bq] at hD;omega,?_⟩
     obtain⟨c,uC⟩:∃c,(a::tl)[D]?=some c:=⟨_,mq hD⟩;obtain⟨I9,DL,hm3⟩:=hmo c uC;have nr:c∈a::tl:=nF uC;have WH:=zmb nr;have oD:∀u w,jY prog .add 3 u w (some (.int .i64 (D:Int))) (some (.int .i64 1))=some (.int .i64 ((D+1:Nat):Int)):=λu w=>vj (by omega)
     obtain⟨H6,Th,Ti,Lp⟩:=Tf.G_ hg (show 1<=n by omega) (.mk op pl s0 s1 s2 s3 tx mn mx nl (a::tl),D+1) JT
     have WJ:=Lp _ _ _ (by omega) (by omega) (by omega) PM
     have hq6:=Lp _ _ _ (by omega) (by omega) (by omega) Tg
     obtain⟨H7,Lq,Tj,NC⟩:=Ti.G_ hg (show 1<=n by omega) (c,0) (by simp only[bq];omega)
     have hq7:=NC _ _ _ (by omega) (by omega) (by omega) hq6
     refine qx ?_
     simp only[qi,zI,zA,zO,za,Nat.reduceEqDiff,aB,aH,zk,au,qb,zg,zp,zS,bC,bG,ze,qa,cK,cL,aU,zb,ee,Nat.reduceLT,aU,bZ,he.e9,hlen,n_,oW,l4,l3,oD]
     rw[zsd (e:=.mk op pl s0 s1 s2 s3 tx mn mx nl (a::tl)) (d:=D+1) (by simp[aB,zb,hlen,aT]) (by simp[aB,zb,hlen,aT])]
     simp only[qi,ah,zW,Nat.reduceEqDiff,aL,qd,aB,zk,au,qb,zp,zS,zi,qp,bW,cM,aU,zb,ee,Nat.reduceLT,aU,bZ,he.e7,hlen,Th]
     obtain⟨m1',m2',m3',m4'⟩:=Lo (g:=gl.g) WJ;refine qx ?_
     simp only[qi,zI,zO,za,zc,Nat.reduceEqDiff,aB,zk,au,qb,zg,zp,zS,qh,bC,bG,ze,qa,qM,cK,cL,aU,zb,ee,Nat.reduceLT,aU,bZ,he.e9,hlen,n_,oW,Dg,m2',m3',jW,zqU uC,zsf]
     rw[zro (e:=c) (by simp[aB,zb,hlen,aT])]
     simp only[qi,ah,zW,Nat.reduceEqDiff,aL,qd,aB,zk,au,qb,zp,zS,zi,qp,bW,cM,aU,zb,ee,Nat.reduceLT,aU,bZ,he.e7,hlen,Lq]
     simp only[ky,jm,jc,bT,qm,dW,aU]
     refine⟨_,hJ _ hm3,_,_,_,H7,_,rfl,rfl,⟨by simp[hlen],by simp[zb,he.e0],by simp[zb,he.e2],by simp[zb,he.e6],by simp[zb,he.e7],by simp[zb,he.e8]⟩,Tj,I9,J0,uQ,λf hf=>?_,DL,⟨_,hq7⟩⟩
     rcases dh.1 hf with rfl|hf
     ·refine⟨ga _,?_⟩;have h1:=Ey.2;rw[zij] at h1;simp only[E.args] at h1 ⊢;omega
     ·rcases dh.1 hf with rfl|hf
      ·exact⟨hD,Ey.2⟩
      ·exact hi.wf f (dB _ hf)
    ·obtain rfl:D=(a::tl).length:=by omega
     refine .inl ⟨by simp,?_⟩
     obtain⟨p,ps3,rfl,J1,NF⟩:=LZ rfl;refine qx ?_
     simp only[qi,ah,aC,zI,zA,za,Nat.reduceEqDiff,aB,aH,zk,au,qb,zg,zf,zS,bC,bG,ze,qa,bq,cL,zJ,zU,aU,zb,ee,Nat.reduceLT,aU,bZ,he.e9,hlen,n_,Db,l1,yq]
     by_cases h7:op=7
     ·refine .inl ⟨by simp[h7],?_⟩
      rw[yl,if_pos h7] at J1;have OA:=J0 p (eS ..);have hp3:ps3.length<2 ^ 32:=by simp only[bq] at NF;omega
      obtain⟨H6,Th,Ti,Lp⟩:=Tf.JX hg (show 1<=n by omega) hp3
      obtain⟨H7,Lq,Tj,NC⟩:=Ti.He hg (show 1302<=n by omega) (op:=op) (pl:=pl) (s0:=s0) (s1:=s1) (s2:=s2) (s3:=s3) (mn:=mn) (mx:=mx) (text:=tx) (nl:=nl) (args:=a::tl) OA.2
      rw[wv] at Lq;obtain⟨H8,hc8,hw8,hk8⟩:=Tj.D8 hg (show 1<=n by omega) (yO mn mx p m2.next).1 hp3
      have WJ:=Lp _ _ _ (by omega) (by omega) (by omega) PM
      have WG:=NC _ _ _ (by omega) (by omega) (by omega) WJ
      have hf8:=hk8 _ _ _ (by omega) (by omega) (by omega) WG
      have hq8:=hk8 _ _ _ (by omega) (by omega) (by omega) (NC _ _ _ (by omega) (by omega) (by omega) (Lp _ _ _ (by omega) (by omega) (by omega) Tg))
      refine VT [2] [(false,false),(false,false),(true,false),(false,true),(false,true),(false,true)] (tk:=[]) (by kernel_rfl) (by kernel_rfl) ?_
      simp only[zw,zI,za,zW,Nat.reduceEqDiff,aL,qd,aB,zk,qb,zp,zS,bC,bG,ze,qa,zi,qp,bW,cM,cg,cL,qj,aU,zb,ee,Nat.reduceLT,aU,bZ,s4,AL,VU,VV,VW,VX,he.e0,he.e9,he.e8,hlen,n_,l4,Th,Lq,hc8,Da,List.all_nil]
      refine⟨yj (p:=.ptr L 0) (by simp[aB,zb,hlen,aT]) (Lo WJ).2.2.2 rfl,yj (p:=.ptr L 0) (by simp[aB,zb,hlen,aT]) (Lo WG).2.2.2 rfl,yj (p:=.ptr L 0) (by simp[aB,zb,hlen,aT]) (Lo hf8).2.2.2 rfl,?_⟩
      simp only[ky,jC,jm,jc,bT,dW,rN,aU,dF,bZ]
      have AJ:(yO mn mx p m2.next).2.length=m2.next.length:=zj4
      refine⟨_,hJ _ (show wS S<_ by simp only[wS];have:=Wy (.mk op pl s0 s1 s2 s3 tx mn mx nl (a::tl),(a::tl).length);omega),S,_,_,H8,_,rfl,rfl,⟨by simp[hlen],by simp[zb,he.e0],by simp[zb,he.e2],by simp[zb,he.e6],by simp[zb,he.e7],by simp[zb,he.e8]⟩,hw8,J1,λy hy=>?_,⟨uQ.r,by rw[AJ];exact uQ.n⟩,λf hf=>hi.wf f (dB _ hf),NF,⟨_,hq8⟩⟩
      rw[AJ];rcases dh.1 hy with rfl|hy
      ·exact zqQ OA
      ·exact J0 y (dB _ hy)
     ·refine .inr ⟨by simp[h7],?_⟩
      simp only[ky,jC,jm,jc,bT,dW,rN,aU,dF,bZ]
      rw[yl,if_neg h7] at J1;refine⟨_,hJ _ (show wS S<_ by simp only[wS];have:=Wy (.mk op pl s0 s1 s2 s3 tx mn mx nl (a::tl),(a::tl).length);omega),S,_,_,H5,_,rfl,rfl,⟨by simp[hlen],by simp[zb,he.e0],by simp[zb,he.e2],by simp[zb,he.e6],by simp[zb,he.e7],by simp[zb,he.e8]⟩,Tf,J1,J0,uQ,λf hf=>hi.wf f (dB _ hf),NF,⟨_,Tg⟩⟩
end
section
variable{gl:Gl}
abbrev Cr:=E×Bool×E
def q_(c:Cr):aA:=bQ c.1++[.bool c.2.1]++bQ c.2.2
def Bn(c:Cr):V:=.agg (q_ c)
def jk(nl:Bool)(l:List Cr):V:=if nl && l.isEmpty then .aJ else .sl 21 (l.map Bn) .no
def dX(c:Cr):E:=if c.2.1 then .mk 5 0 0 0 0 0 [] 0 0 false [c.1,c.2.2] else c.1
def j9(n r:Nat)(e:E)(m:Mk):bR×Mk :=
 (jo (if (gF r e m).1.null then jn (gF r e m).1.first (jz cI (n+r)) else (gF r e m).1.first) 19,
  {(gF r e m).2 with next:=iF (jz cI (n+r)) (jo (gF r e m).1.last 19) (gF r e m).2.next })
def WK{n r:Nat}{e:E}{m:Mk}:(j9 n r e m).2.bw=(gF r e m).2.bw:=by simp only[j9]
def q5(n:Nat):Nat->List E->Mk->List bR×Mk
 | _,[],m=>([],m)
 | r,e::es,m=>((j9 n r e m).1::(q5 n (r+1) es (j9 n r e m).2).1,(q5 n (r+1) es (j9 n r e m).2).2)
def m0:Mk:=⟨[],[],[]⟩
def zeu{n:Nat}:∀{r:Nat}{es:List E}{m:Mk},m.bw.length<=(q5 n r es m).2.bw.length
 | _,[],_=>ek _
 | r,e::es,m=>by
  simp only[q5];refine cZ ?_ (zeu (m:=(j9 n r e m).2));rw[WK];exact pY e m
def Hj(k:Nat):V:=.int .i64 (k:Int)
def kB(l:bR):V:=aT (qu 1 3 (l.map Hj))
def PN(c:Cr):(q_ c).length=21:=by simp[q_,jS]
def zqW(c:Cr):(q_ c).map aT=q_ c:=by simp[q_,xC,zf]
def zj7(c:Cr):aI (q_ c)=0:=ko (ko (yJ _) rfl) (yJ _)
def zqX(c:Cr):(q_ c).all (λc=>!(locked c))=true:=by simp only[q_,List.all_append,zcu];rfl
def WL{nl:Bool}{l:List Cr}:aT (jk nl l)=jk nl l:=by unfold jk;split<;>rfl
def u22:prog.underlying 24=some (.slice 55):=by kernel_rfl
def NG:jh prog 55=some 21:=by kernel_rfl
def abO:ka prog 55=some true:=by kernel_rfl
def znp{H:Hp}{nl:Bool}{l:List Cr}:kU prog H 24 (jk nl l)=some (l.length:Int):=by
 unfold jk;split
 ·rename_i h;have:l=[]:=by simp at h;exact h.2
  subst this;simp[kU]
 ·simp[kU]
def znq{nl:Bool}{l:List Cr}{k:Nat}{c:Cr}(h:l[k]?=some c):q7 prog 24 (jk nl l) (k:Int)=some (.vp (q_ c)):=by
 have cG:jk nl l=.sl 21 (l.map Bn) .no:=by
  unfold jk;rw[if_neg];intro h';have:l=[]:=by simp at h';exact h'.2
  rw[this] at h;simp at h
 have hn:nth (l.map Bn) k=some (Bn c):=by rw[zV,mS,h];rfl
 have hk:¬((k:Int)<0):=by omega
 simp[cG,q7,NG,hk,hn,Bn,V.cells]
def zqY{H:Hp}{g:Nat->Nat->cP}{c:Cr}:qJ prog H g 55 (.vp (q_ c))=some (.agg (q_ c)):=by
 have:(q_ c).take 21=q_ c:=En (by rw[PN];decide)
 simp[qJ,wX,abO,NG,Rd,PN,this]
def zj8{P:aM}{n:Nat}{f:FuncId}{args:aA}{v:V}{H:Hp}(h:gl.hk f args=some v):qt P gl (n+1) f args H=some (.ret v,H):=by
 obtain⟨b,e⟩:=H;simp only[qt,h]
def zF:aA:=[.aJ,.aJ,.aJ,.aJ]
def z32:kf prog 30=some (.agg zF):=by kernel_rfl
def zrp{env:aA}:wx prog 30 #[] env=some (.agg zF):=by kernel_rfl
def zsQ{env:aA}:wx prog 113 #[] env=some (.agg [.aJ,.aJ,.aJ]):=by kernel_rfl
def z47:kf prog 55=some (.agg (q_ (.mk 0 0 0 0 0 0 [] 0 0 true [],false,.mk 0 0 0 0 0 0 [] 0 0 true []))):=by kernel_rfl
def z45:kf prog 53=some (.agg (bQ (.mk 0 0 0 0 0 0 [] 0 0 true []))):=by kernel_rfl
def z60:kf prog 115=some (.agg (pv 19 cI)):=by kernel_rfl
def Hl:jh prog 30=some 4:=by kernel_rfl
def NH:ka prog 30=some true:=by kernel_rfl
def J2:ka prog 37=some false:=by kernel_rfl
def znr(hg:GW gl){n:Nat}(hn:1<=n){nl:Bool}{l:List Cr}{k:Int}{ok:Bool}{e0 e1:V}(hm:gl.hk 54 [jk nl l]=some (.bz [.int .i64 k,.bool ok]))(h0:gl.g 0 0=some e0)(h1:gl.g 1 0=some e1)(uz:e0.top=0)(L1:e1.top=0)
  (Ct:∃t v,e0=.fq t v) (o6:∃t v,e1=.fq t v) (BX:ok=false\/1000<k):qt prog gl (n+1) 14 [jk nl l] ⟨[],[]⟩=some (.ret (.bz [.agg zF,if ok then e1 else e0]),⟨[],[]⟩):=by
 have fN:Cx.dZ ⟨prog,gl.g,qt prog gl n,gE⟩ 54 [jk nl l] ⟨[.cells zF 30],[]⟩=some (.val (.bz [.int .i64 k,.bool ok]),⟨[.cells zF 30],[]⟩):=by
  have:=zj8 (P:=prog) (n:=n - 1) (H:=⟨[.cells zF 30],[]⟩) hm;rw[show n - 1+1=n by omega] at this
  exact ji func54 rfl this
 suffices d_:(go ⟨prog,gl,qt prog gl n,gE⟩ n (Fx prog f14.results.toList λw H1=>w=.bz [.agg zF,if ok then e1 else e0]/\H1=⟨[.cells zF 30],[]⟩) [.c (f14.body.getD .skip)] .normal ⟨[jk nl l]++List.replicate 109 (.bz []),⟨[],[]⟩,[],[]⟩) by
  obtain⟨w,H1,h0,rfl,rfl⟩:=jZ (gl:=gl) (f:=14) (bs:=[]) (es:=[]) (args:=[jk nl l]) (n:=n) (hg.hk _ _ (by decide)) (λH=>hg.iA _ _ _ _) func14 rfl (by rw[hg.uq];exact d_)
  rw[h0];have:(V.bz [.agg zF,if ok then e1 else e0]).top=0:=by
   cases ok<;>simp[V.top,aI,zF,uz,L1]
  rw[this];rfl
 have hz:fH (V.agg zF)=true:=rfl;simp only[f14,t_,zD];refine qx ?_
 simp only[qi,ah,zD,zl,zq,zj,aH,zH,au,qb,bG,z9,List.length_nil,cF,cq,dJ,dM,z32,jQ hz,V.cells,List.replicate,List.length_nil]
 refine qx ?_
 simp only[qi,ah,zD,zw,zq,zW,aL,qd,aB,zu,zt,zo,zk,zH,au,qb,zg,zf,bC,bG,zi,qp,bW,cM,zR,z6,dJ,dM,WL,fN,Y5,qw]
 refine qx ?_
 simp only[qi,ah,zD,aC,zw,z4,aB,zk,au,qb,zf,bC,zJ,zU,zR,z6,dJ,dM,FU]
 have eM:∀env,kI prog 30 ⟨[.cells zF 30],[]⟩ [] [] (some (.agg zF,env)) (some (.ptr 0 0))=some (.skip,⟨env,⟨[.cells zF 30],[]⟩,[],[]⟩):=λenv=>by
  rw[jt (cs:=zF) (ty:=30) Hl rfl rfl rfl (by decide) rfl]
  rfl
 have Om:∀g,qJ prog ⟨[.cells zF 30],[]⟩ g 30 (.ptr 0 0)=some (.agg zF):=λg=>by
  rw[wc (cs:=zF) (ty:=30) NH Hl rfl (by decide)]
  rfl
 cases ok with
 | false =>
  refine .inl ⟨rfl,?_⟩;refine VT [1] [(false,false),(true,false),(false,true),(false,false)] (tk:=[]) (by kernel_rfl) (by kernel_rfl) ?_
  have hl:∀H,qJ prog H gl.g 37 (.gI 0 0)=some e0:=λH=>by simp[qJ,J2,h0]
  obtain⟨t,v,rfl⟩:=Ct
  simp only[zI,zh,zO,zq,aB,zu,zy,zk,zH,qb,zS,bC,bG,cg,qj,zR,z6,dJ,dM,s4,AL,VU,zfT,VW,VX,J2,zrp,hl,zlz,zgJ,eM]
  refine⟨λ_=>yj (p:=.gI 0 0) rfl (hl _) rfl,?_⟩;simp only[go_ret,jc,Sm,Fx]
  refine⟨trivial,[.agg zF,.fq t v],?_,by simp[iI,aT],trivial⟩
  simp only[ja,zR,z6,Om];rfl
 | true =>
  have hk:1000<k:=by rcases BX with h|h;cases h;exact h
  refine .inr ⟨rfl,?_⟩;refine qx ?_
  simp only[qi,ah,zD,aC,zw,zA,aB,aH,zk,au,qb,zg,zf,zJ,zU,aU,zR,z6,dJ,dM,UX]
  refine .inl ⟨by simpa using hk,?_⟩
  refine VT [1] [(false,false),(true,false),(false,true),(false,false)] (tk:=[]) (by kernel_rfl) (by kernel_rfl) ?_
  have hl:∀H,qJ prog H gl.g 37 (.gI 1 0)=some e1:=λH=>by simp[qJ,J2,h1]
  obtain⟨t,v,rfl⟩:=o6
  simp only[zI,zh,zO,zq,aB,zu,zy,zk,zH,qb,zS,bC,bG,cg,qj,zR,z6,dJ,dM,s4,AL,VU,zfT,VW,VX,J2,zrp,hl,zlz,zgJ,eM]
  refine⟨λ_=>yj (p:=.gI 1 0) rfl (hl _) rfl,?_⟩;simp only[go_ret,jc,Sm,Fx]
  refine⟨trivial,[.agg zF,.fq t v],?_,by simp[iI,aT],trivial⟩
  simp only[ja,zR,z6,Om];rfl
end
section
open Go.Vm.Sx
variable{gl:Gl}[mw gl]
def Lr(e:E):Bool:=(ew e 1 0 0).1
def wD(e:E):Int:=bif (ew e 1 0 0).1 then (bif gx 1001 (ew e 1 0 0).2.2 then 1001 else (ew e 1 0 0).2.2) else 0
def zsR(ez:GL gl):∀(e:E),Wf e->Ev prog gl 85 [.d (enc e)] [] (.bool (Lr e)) []
 | .mk op pl s0 s1 s2 s3 text mn mx nl args,hw=>by
  refine kR (xs:=[enc (.mk op pl s0 s1 s2 s3 text mn mx nl args)]) ez.top (ez.no 85 rfl) EV func85 (by kernel_rfl) SD (by simp[aI,l7]) (N:=1) ?_
  have hc:=ke (zo7 ez (.mk op pl s0 s1 s2 s3 text mn mx nl args) hw 1 0 0);simp only[Bl,s5,Nat.reduceAdd,GY,enc,Lr,JK,Ir,Lf] at hc ⊢
  simp only[qV,qD,a_,qX,qF,jG,jH,qz,jI,jJ,jf,aX,fo,jd,qo,qy,qH,bL,qk,bB,qq,jq,fF,qK,jp,aV,aP,zg,zr,dW,bq,List.length_nil,yI,jW,hc]
def zsS(ez:GL gl):∀(e:E),Wf e->Ev prog gl 87 [.d (enc e)] [] (.int .i64 (wD e)) []
 | .mk op pl s0 s1 s2 s3 text mn mx nl args,hw=>by
  refine kR (xs:=[enc (.mk op pl s0 s1 s2 s3 text mn mx nl args)]) ez.top (ez.no 87 rfl) EW func87 (by kernel_rfl) SD (by simp[aI,l7]) (N:=1) ?_
  have hc:=ke (zo7 ez (.mk op pl s0 s1 s2 s3 text mn mx nl args) hw 1 0 0);simp only[Bl,s5,Nat.reduceAdd,GZ,enc,wD,JK,Ir,Lf] at hc ⊢;generalize ew (.mk op pl s0 s1 s2 s3 text mn mx nl args) 1 0 0=q at hc ⊢;obtain⟨b,n',s'⟩:=q;cases b with
  | false=>simp only[jM,qV,qD,a_,qX,qF,jG,jH,qz,jI,jJ,jf,aX,fo,fz,jd,je,qo,qy,qH,bt,bL,qk,bB,qq,jq,fF,qK,jp,qA,aV,aP,zg,zr,dW,bq,List.length_nil,yI,jW,hc]
  | true =>
   cases h2:gx 1001 s' with
   | false=>simp only[jN,qV,qD,a_,qX,qF,jG,jH,qz,jI,jJ,jf,aX,fo,eU,jd,je,qo,qy,qH,bt,bL,qk,bB,qq,jq,fF,qK,jp,qT,qA,qN,aV,aP,zg,zr,dW,bq,List.length_nil,yI,jW,hc,h2]
   | true=>simp only[jN,qV,qD,a_,qX,qF,jG,jH,qz,jI,jJ,jf,aX,fo,eU,jd,qo,qy,qH,bt,bL,qk,bB,qq,jq,fF,qK,jp,qT,qA,qN,aV,aP,zg,zr,dW,bq,List.length_nil,yI,jW,hc,h2]
def Ai:E->Bool
 | .mk op pl s0 s1 s2 s3 text mn mx _ args=>(((((((op == 0) && (pl == 0)) && (s0 == 0 && (s1 == 0 && (s2 == 0 && s3 == 0)))) && rZ text []) && (mn == 0)) && (mx == 0)) && ((args.length:Int) == 0))
def zth(ez:GL gl):∀(e:E),Ev prog gl 86 [.d (enc e)] [] (.bool (Ai e)) []
 | .mk op pl s0 s1 s2 s3 text mn mx nl args=>by
  refine kR (xs:=[enc (.mk op pl s0 s1 s2 s3 text mn mx nl args)]) ez.top (ez.no 86 rfl) EX func86 (by kernel_rfl) SD (by simp[aI,l7]) (N:=1) ?_
  simp only[Bl,G0,enc]
  simp only[qV,qD,a_,jG,jH,qz,jI,jJ,aX,fo,jd,qo,qy,bt,bL,dH,cj,qk,bB,qq,jp,qT,qU,qR,fI,yI,wu,Ai,di]
def vH(nl:Bool)(l:List Cr):jk nl l=lv 21 nl (l.map Bn):=by cases l<;>cases nl<;>rfl
def zsg(op pl s0 s1 s2 s3 mn mx:Int)(text:bR)(nl:Bool)(args:List E)(t:Bool)(Cv Is Iu Iv Iw Iy Iz IA:Int)(pW:bR)(AP:Bool)(lI:List E) :
  Bn (.mk op pl s0 s1 s2 s3 text mn mx nl args,t,.mk Cv Is Iu Iv Iw Iy pW Iz IA AP lI)=.agg [.int .i64 op,.int .i64 pl,.int .u64 s0,.int .u64 s1,.int .u64 s2,.int .u64 s3,.str text,.int .i64 mn,.int .i64 mx,yH nl (fy args),.bool t,.int .i64 Cv,.int .i64 Is,.int .u64 Iu,.int .u64 Iv,.int .u64 Iw,.int .u64 Iy,.str pW,.int .i64 Iz,.int .i64 IA,yH AP (fy lI)]:=rfl
def zsh{l:List Cr}{i:Nat}{c:Cr}(h:l[i]?=some c):nth (l.map Bn) i=some (Bn c):=by rw[zV,mS,h];rfl
def zmc(nl:Bool)(l:List Cr):fh (.sl 21) (jk nl l)=true:=by rw[vH];exact M6 ..
def vk(nl:Bool)(l:List Cr):vL (jk nl l)=l.map Bn:=by rw[vH];exact M7 ..
def zsi(c:Cr):(Bn c).top=0:=zj7 c
def Tk(nl:Bool)(l:List Cr):(jk nl l).top=0:=by
 rw[vH,M5];exact wP zsi _
def zti{x:V}:vG prog [24] [.d x] 0:=by
 refine⟨λe=>?_,trivial⟩;rw[underlying24];simp
def WfC(c:Cr):Prop:=Wf c.1/\Wf c.2.2
def Ls(c:Cr):Bool:=Lr c.1 && (bif c.2.1 then Lr c.2.2 else Ai c.2.2)
def AY(p:Int)(c:Cr):Int:=bif gx 1001 (IntKind.i64.wrap (IntKind.i64.wrap (p+wD c.1)+wD c.2.2)) then 1001 else IntKind.i64.wrap (IntKind.i64.wrap (p+wD c.1)+wD c.2.2)
def lV:Int->List Cr->Int×Bool
 | p,[]=>(p,true)
 | p,c::l=>bif Ls c then lV (AY p c) l else (0,false)
def ym(l:List Cr):Int×Bool:=bif gx 200 (l.length:Int) then (0,false) else lV 0 l
def ztj(ez:GL gl)(nl:Bool)(l:List Cr)(hl:l.length<=maxLen)(hw:∀c∈l,WfC c):Ev prog gl 54 [.d (jk nl l)] [] (.bz [.int .i64 (ym l).1,.bool (ym l).2]) []:=by
 have Gg:=Ag;refine kR (xs:=[jk nl l]) ez.top (ez.no 54 rfl) EY func54 (by kernel_rfl) zti (by simp[aI,Tk]) (N:=l.length+1) ?_
 have key:∀(r:List Cr)(i:Nat)(p:Int),l.drop i=r->∀k,r.length<k->K8 (sA prog gl) gl (l.length+1) C0 [jk nl l] k [.int .i64 p,.int .i64 (i:Int)]=some (0,[.bz [.int .i64 (lV p r).1,.bool (lV p r).2]]):=by
  simp only[s5,Nat.reduceAdd,C0];intro r
  induction r with
  | nil =>
   intro i p hd k hk;obtain⟨k,rfl⟩:∃k',k=k'+1:=⟨k - 1,by omega⟩
   refine y7 ?_;have h1:=K7 (zgZ hd)
   simp only[jN,qV,aZ,qD,jG,jH,qo,qy,bt,bL,cj,qk,bB,qq,q0,jp,qT,qN,zg,vk,h1,eF,lV]
  | cons c r ih =>
   intro i p hd k hk;obtain⟨k,rfl⟩:∃k',k=k'+1:=⟨k - 1,by omega⟩
   obtain⟨hc,hi,Cq⟩:=zgY hd;have h1:=K6 hi;have h2:=zsh hc;have h4:=We (i:=i) (by omega)
   have nr:=hw c (nF hc);have e1:=ke (zsR ez c.1 nr.1);have e2:=ke (zsR ez c.2.2 nr.2);have e3:=ke (zsS ez c.1 nr.1);have e4:=ke (zsS ez c.2.2 nr.2);have e5:=ke (zth ez c.2.2);have CJ:Ls c=true->lV p (c::r)=lV (AY p c) r:=λh=>by simp only[lV,h,uT]
   have mu:Ls c=false->lV p (c::r)=(0,false):=λh=>by simp only[lV,h,cond_false]
   have hih:=ih (i+1) (AY p c) Cq k (by simp at hk;omega)
   obtain⟨⟨op,pl,s0,s1,s2,s3,text,mn,mx,nl1,args⟩,t,⟨Cv,Is,Iu,Iv,Iw,Iy,pW,Iz,IA,AP,lI⟩⟩:=c;simp only[Ls,AY] at CJ mu hih;simp only[enc] at e1 e2 e3 e4 e5;rw[zsg] at h2;cases hA:Lr (.mk op pl s0 s1 s2 s3 text mn mx nl1 args) with
   | false =>
    rw[mu (by rw[hA];rfl)]
    refine y7 ?_
    cases t<;>simp only[jM,jN,qV,aZ,qD,qE,a_,qX,qF,jG,jH,qz,jI,jJ,jf,aX,fo,fR,eU,fz,jd,je,qo,qy,bt,bL,cj,qk,bB,qq,q0,jq,fF,qK,jp,qT,qA,qN,jb,aV,aP,zg,zr,vk,jW,yI,h1,h2,e1,hA,eF,l9]
   | true =>
    cases t with
    | true =>
     cases hB:Lr (.mk Cv Is Iu Iv Iw Iy pW Iz IA AP lI) with
     | false =>
      rw[mu (by rw[hA,hB];rfl)]
      refine y7 ?_
      simp only[jM,qV,aZ,qD,qE,a_,qX,qF,jG,jH,qz,jI,jJ,jf,aX,fo,fz,jd,je,qo,qy,bt,bL,cj,qk,bB,qq,q0,jq,fF,qK,jp,qT,qA,qN,jb,aV,aP,zg,zr,vk,jW,yI,h1,h2,e1,e2,hA,hB,eF,l9]
     | true =>
      rw[CJ (by rw[hA,hB];rfl)]
      refine zfM (vs:=[.int .i64 _,.int .i64 ((i+1:Nat):Int)]) ?_ hih;cases h9:gx 1001 (IntKind.i64.wrap (IntKind.i64.wrap (p+wD (.mk op pl s0 s1 s2 s3 text mn mx nl1 args))+wD (.mk Cv Is Iu Iv Iw Iy pW Iz IA AP lI))) <;>
      simp only[jM,jN,qV,qE,a_,qX,qF,jG,jH,qz,jI,jJ,jf,aX,fo,eU,jd,je,qo,qy,bt,bL,cj,qk,bB,qq,jq,fF,qK,qT,qA,qN,fK,jb,aV,aP,zg,zr,vk,jW,yI,h1,h2,h4,e1,e2,e3,e4,hA,hB,h9,eF,l9]
    | false =>
     cases hB:Ai (.mk Cv Is Iu Iv Iw Iy pW Iz IA AP lI) with
     | false =>
      rw[mu (by rw[hA,hB];rfl)]
      refine y7 ?_
      simp only[jM,jN,qV,aZ,qD,qE,a_,qX,qF,jG,jH,qz,jI,jJ,jf,aX,fo,fY,fz,jd,je,qo,qy,bt,bL,cj,qk,bB,qq,q0,jq,fF,qK,jp,qT,qA,qN,jb,aV,aP,zg,zr,vk,jW,yI,h1,h2,e1,e5,hA,hB,eF,l9]
     | true =>
      rw[CJ (by rw[hA,hB];rfl)]
      refine zfM (vs:=[.int .i64 _,.int .i64 ((i+1:Nat):Int)]) ?_ hih;cases h9:gx 1001 (IntKind.i64.wrap (IntKind.i64.wrap (p+wD (.mk op pl s0 s1 s2 s3 text mn mx nl1 args))+wD (.mk Cv Is Iu Iv Iw Iy pW Iz IA AP lI))) <;>
      simp only[jM,jN,qV,qE,a_,qX,qF,jG,jH,qz,jI,jJ,jf,aX,fo,fY,eU,fz,jd,je,qo,qy,bt,bL,cj,qk,bB,qq,jq,fF,qK,qT,qA,qN,fK,jb,aV,aP,zg,zr,vk,jW,yI,h1,h2,h4,e1,e5,e3,e4,hA,hB,h9,eF,l9]
 simp only[G1];cases h0:gx 200 (l.length:Int) with
 | true=>simp only[jM,qV,qD,qX,jG,jH,jd,qo,qy,bt,bL,cj,qk,bB,qq,q0,jp,qP,zmc,vk,h0,ym,eF]
 | false =>
  simp only[jN,qX,qB,jG,je,bt,bL,cj,qk,bB,qP,zmc,vk,h0,ym,eF]
  exact zh5 (key l 0 0 (by simp) _ (by omega))
end
section
open Go.Vm.Sx
variable{gl:Gl}[mw gl]
def nv(l:List Int):V:=lv 1 true (l.map (.int .i64))
def sP(l:List (List Int)):V:=lv 1 true (l.map nv)
def lJ(l:List (Int×Int×Int×Int)):V:=lv 4 true (l.map SM)
structure Fo where
 s:List (Int×Int×Int×Int)
 r:List Int
 f:List (List Int)
 n:List (List Int)
def Bo(F:Fo):aA:=[lJ F.s,nv F.r,sP F.f,sP F.n]
def uh(F:Fo):V:=.agg (Bo F)
def WM(l:List Int):fh (.sl 1) (nv l)=true:=M6 ..
def zpn(l:List (List Int)):fh (.sl 1) (sP l)=true:=M6 ..
def zrq(l:List (Int×Int×Int×Int)):fh (.sl 4) (lJ l)=true:=M6 ..
def zsT(l:List Int):vL (nv l)=l.map (.int .i64):=M7 ..
def WN(l:List (List Int)):vL (sP l)=l.map nv:=M7 ..
def zpo(l:List (Int×Int×Int×Int)):vL (lJ l)=l.map SM:=M7 ..
def Lt(l:List Int):aT (nv l)=nv l:=Pg ..
def v6(l:List (List Int)):aT (sP l)=sP l:=Pg ..
def PO(l:List (Int×Int×Int×Int)):aT (lJ l)=lJ l:=Pg ..
def WO(l:List Int):(nv l).top=0:=by unfold nv;rw[M5];exact wP (λ_=>rfl) _
def zim(l:List (List Int)):(sP l).top=0:=by unfold sP;rw[M5];exact wP WO _
def zmd(l:List (Int×Int×Int×Int)):(lJ l).top=0:=by unfold lJ;rw[M5];exact wP (λ_=>rfl) _
def zpp(F:Fo):(uh F).top=0:=by simp[uh,Bo,V.top,aI,zmd,WO,zim]
def zk3{α:Type}{h:α->V}{l:List α}{i:Nat}{a:α}(ha:l[i]?=some a):nth (l.map h) i=some (h a):=by rw[zV,mS,ha];rfl
structure abW(F:Fo):Prop where
 s:F.s.length<=maxLen
 r:F.r.length<=maxLen
 f:F.f.length<=maxLen/\∀l∈F.f,l.length<=maxLen
 n:F.n.length<=maxLen/\∀l∈F.n,l.length<=maxLen
def D_:E:=.mk 0 0 0 0 0 0 [] 0 0 true []
end
section
open Go.Vm.Sx
mutual
def nodes:E->Nat
 | .mk _ _ _ _ _ _ _ _ _ _ args=>1+gK args
def gK:List E->Nat
 | []=>0
 | a::l=>nodes a+gK l
end
mutual
def ey:E->Nat
 | .mk op _ _ _ _ _ _ _ _ _ args=>(if op == 2 then 1 else 0)+lf args
def lf:List E->Nat
 | []=>0
 | a::l=>ey a+lf l
end
mutual
def good:E->Int->Bool
 | .mk op pl s0 s1 s2 s3 text mn mx nl args,d=>decide (d<=4096) && (sC (.mk op pl s0 s1 s2 s3 text mn mx nl args) && (n6 (.mk op pl s0 s1 s2 s3 text mn mx nl args) && sD args (d+1)))
def sD:List E->Int->Bool
 | [],_=>true
 | a::l,d=>good a d && sD l d
end
mutual
def om:∀e,ey e<=nodes e
 | .mk op _ _ _ _ _ _ _ _ _ args=>by
  have:=B9 args;simp only[ey,nodes];split<;>omega
def B9:∀l,lf l<=gK l
 | []=>by simp[lf]
 | a::l=>by have:=om a;have:=B9 l;simp only[lf,gK];omega
end
mutual
def oX:∀(e:E)(d n s:Int),0<=d->d<=4097->0<=n->n+(nodes e:Int)<=65536->0<=s->s+(nodes e:Int)<=65536->(ew e d n s).1=good e d/\(good e d=true->(ew e d n s).2.1=n+nodes e/\(ew e d n s).2.2=s+ey e)
 | .mk op pl s0 s1 s2 s3 text mn mx nl args,d,n,s,h0,h1,h2,h3,h4,h5=>by
  simp only[nodes] at h3 h5;simp only[ew,good];rw[Ld (x:=n+1) (by omega) (by omega),Io (x:=65536) (by omega),eI]
  cases hd:gx 4096 d with
  | true =>
   have:=Sf.1 hd;simp only[aU];rw[decide_eq_false (by omega)]
   simp
  | false =>
   have Cq:d<=4096:=by
    rcases Int.lt_or_le 4096 d with h|h
    ·rw[ER h] at hd;cases hd
    ·exact h
   rw[decide_eq_true Cq,eH];simp only[dF,bZ];cases hl:sC (.mk op pl s0 s1 s2 s3 text mn mx nl args) with
   | false=>simp
   | true =>
   cases hk:n6 (.mk op pl s0 s1 s2 s3 text mn mx nl args) with
   | false=>simp
   | true =>
   simp only[aU,eH];rw[Ld (x:=d+1) (by omega) (by omega),Ld (x:=s+1) (by omega) (by omega)]
   cases ho:op == 2 with
   | true =>
    simp only[aU];obtain⟨g1,g2⟩:=oc args (d+1) (n+1) (s+1) (by omega) (by omega) (by omega) (by omega) (by omega) (by omega)
    refine⟨g1,λhg=>?_⟩;obtain⟨g3,g4⟩:=g2 hg;rw[g3,g4];simp only[nodes,ey,ho,aU];omega
   | false =>
    simp only[dF,bZ];obtain⟨g1,g2⟩:=oc args (d+1) (n+1) s (by omega) (by omega) (by omega) (by omega) (by omega) (by omega)
    refine⟨g1,λhg=>?_⟩;obtain⟨g3,g4⟩:=g2 hg;rw[g3,g4];simp only[nodes,ey,ho,dF,bZ];omega
def oc:∀(l:List E)(d n s:Int),0<=d->d<=4097->0<=n->n+(gK l:Int)<=65536->0<=s->s+(gK l:Int)<=65536->(ir d l n s).1=sD l d/\(sD l d=true->(ir d l n s).2.1=n+gK l/\(ir d l n s).2.2=s+lf l)
 | [],d,n,s,_,_,_,_,_,_=>by simp[ir,sD,gK,lf]
 | a::l,d,n,s,h0,h1,h2,h3,h4,h5=>by
  simp only[gK] at h3 h5;obtain⟨g1,g2⟩:=oX a d n s h0 h1 h2 (by omega) h4 (by omega)
  simp only[ir,sD];cases hg:good a d with
  | false =>
   rw[hg] at g1;simp[g1]
  | true =>
   rw[hg] at g1;obtain⟨g3,g4⟩:=g2 hg;have:=om a;simp only[g1,aU,eH,g3,g4];obtain⟨f1,f2⟩:=oc l d (n+nodes a) (s+ey a) h0 h1 (by omega) (by omega) (by omega) (by omega)
   refine⟨f1,λhh=>?_⟩;obtain⟨f3,f4⟩:=f2 hh;rw[f3,f4];simp only[gK,lf];omega
end
mutual
def gd:E->Bool
 | .mk op pl s0 s1 s2 s3 text mn mx nl args=>sC (.mk op pl s0 s1 s2 s3 text mn mx nl args) && (n6 (.mk op pl s0 s1 s2 s3 text mn mx nl args) && Lu args)
def Lu:List E->Bool
 | []=>true
 | a::l=>gd a && Lu l
end
mutual
def AZ:∀(e:E)(d:Int),d+nodes e<=4097->good e d=gd e
 | .mk op pl s0 s1 s2 s3 text mn mx nl args,d,h=>by
  simp only[nodes] at h;simp only[good,gd];rw[decide_eq_true (by omega),eH,B_ args (d+1) (by omega)]
def B_:∀(l:List E)(d:Int),d+gK l<=4097->sD l d=Lu l
 | [],_,_=>rfl
 | a::l,d,h=>by
  simp only[gK] at h;simp only[sD,Lu];rw[AZ a d (by omega),B_ l d (by omega)]
end
def zpq{e:E}(h:nodes e<=4000):Lr e=gd e:=by
 obtain⟨h1,_⟩:=oX e 1 0 0 (by omega) (by omega) (by omega) (by omega) (by omega) (by omega)
 rw[Lr,h1,AZ e 1 (by omega)]
def Tl{e:E}(h:nodes e<=4000):wD e=if gd e then (if 1001<(ey e:Int) then 1001 else (ey e:Int)) else 0:=by
 obtain⟨h1,h2⟩:=oX e 1 0 0 (by omega) (by omega) (by omega) (by omega) (by omega) (by omega)
 have hg:=AZ e 1 (by omega)
 rw[wD,h1,hg];cases h3:gd e with
 | false=>rfl
 | true =>
  rw[(h2 (by rw[hg,h3])).2]
  simp only[uT,aU,Int.zero_add]
  by_cases h4:1001<(ey e:Int)
  ·rw[if_pos h4,ER h4];rfl
  ·rw[if_neg h4,Io (by omega)];rfl
def zpr{e:E}(h:Ai e=true):gd e=false:=by
 obtain⟨op,pl,s0,s1,s2,s3,text,mn,mx,nl,args⟩:=e;simp only[Ai,cR,beq_iff_eq] at h;obtain⟨⟨⟨⟨⟨⟨rfl,_⟩,_⟩,_⟩,_⟩,_⟩,_⟩:=h;simp[gd,n6]
end
section
open Go.Vm.Sx
def ri(ns:List (Nat->Bool))(x:Nat):Nat->Bool:=ns.getD x cI
def zq0{ns:List (Nat->Bool)}{k x:Nat}{p:Nat->Bool}(hx:x<ns.length):ri (ns.set k p) x=if k=x then p else ri ns x:=by
 unfold ri;rw[HP,HP,s7]
 by_cases h:k=x
 ·subst h;simp[hx]
 ·simp[h]
def WQ{q:Nat->Bool}{x:Nat}:∀{ks:bR}{ns:List (Nat->Bool)},x<ns.length->∀y,ri (iF q ks ns) x y=(ri ns x y || (decide (x∈ks) && q y))
 | [],ns,_,y=>by simp[iF]
 | k::ks,ns,hx,y=>by
  rw[iF,WQ (by rw[ee];exact hx),zq0 hx]
  by_cases h:k=x
  ·subst h;simp only[aU,jn,dh,true_or,decide_true,eH];show(ri ns k y || q y || (decide (k∈ks) && q y))=(ri ns k y || q y)
   cases ri ns k y<;>cases q y<;>simp
  ·have:decide (x∈k::ks)=decide (x∈ks):=by simp[Ne.symm h]
   rw[if_neg h,this]
def Lv(ns:List (Nat->Bool))(x:Nat):Prop:=∃y,y<1216/\ri ns x y=true
structure lW(ns ns':List (Nat->Bool)):Prop where
 len:ns.length<=ns'.length
 row:∀x,x<ns.length->∀y,ri ns x y=true->ri ns' x y=true
def lW.refl{ns:List (Nat->Bool)}:lW ns ns:=⟨ek _,λ_ _ _ h=>h⟩
def lW.trans{a b c:List (Nat->Bool)}(h:lW a b)(k:lW b c):lW a c:=⟨cZ h.len k.len,λx hx y hy=>k.row x (oY hx h.len) y (h.row x hx y hy)⟩
def lW.Ca{a b:List (Nat->Bool)}(h:lW a b){x:Nat}(hx:x<a.length)(hr:Lv a x):Lv b x:=by
 obtain⟨y,h1,h2⟩:=hr;exact⟨y,h1,h.row x hx y h2⟩
def lO{q:Nat->Bool}{ks:bR}{ns:List (Nat->Bool)}:lW ns (iF q ks ns):=⟨by rw[wb];exact ek _,λx hx y hy=>by rw[WQ hx,hy];rfl⟩
def zps{ns:List (Nat->Bool)}{p:Nat->Bool}:lW ns (ns++[p]):=⟨by simp,λx hx y hy=>by
 unfold ri at hy ⊢;rw[HP] at hy ⊢
 rw[mz hx];exact hy⟩
structure Inv(n0:Nat)(P:Part)(ns:List (Nat->Bool)):Prop where
 nn:P.null=true\/∃y,y<1216/\P.first y=true
 lv:∀x,n0<=x->x<ns.length->P.last x=true\/Lv ns x
def zkc{q:Nat->Bool}{p:Nat->Bool}{ns:List (Nat->Bool)}{x:Nat}(hx:x<ns.length)(uG:x<1216)(hp:p x=true)(hq:∃y,y<1216/\q y=true):Lv (iF q (jo p 19) ns) x:=by
 obtain⟨y,h1,h2⟩:=hq;refine⟨y,h1,?_⟩;rw[WQ hx,h2];have:x∈jo p 19:=iU.2 ⟨by omega,hp⟩
 simp[this]
def zkd{op:Int}{k:Nat}{a b:Part}{ns:List (Nat->Bool)}:lW ns (qL op k a b ns).2:=by
 unfold qL;split
 ·exact lW.refl
 ·split
  ·exact lW.refl
  ·simp only;exact lO
def zk4{op:Int}{k:Nat}{n0:Nat}{a b:Part}{DV ns:List (Nat->Bool)}(hk:0<k)(ha:Inv n0 a DV)(hb:Inv DV.length b ns)(hg:lW DV ns)(hl:ns.length<=1200):Inv n0 (qL op k a b ns).1 (qL op k a b ns).2:=by
 unfold qL;rw[if_neg (by omega)]
 split
 ·refine⟨?_,λx h0 hx=>?_⟩
  ·rcases ha.nn with h|⟨y,h1,h2⟩
   ·left;simp[h]
   ·right;exact⟨y,h1,by simp[jn,h2]⟩
  ·by_cases ud:x<DV.length
   ·rcases ha.lv x h0 ud with h|h
    ·left;simp[jn,h]
    ·right;exact hg.Ca ud h
   ·rcases hb.lv x (by omega) hx with h|h
    ·left;simp[jn,h]
    ·right;exact h
 ·refine⟨?_,λx h0 hx=>?_⟩
  ·simp only;rcases ha.nn with h|⟨y,h1,h2⟩
   ·rcases hb.nn with h'|⟨y,h1,h2⟩
    ·left;simp[h,h']
    ·right;exact⟨y,h1,by simp[h,jn,h2]⟩
   ·right
    refine⟨y,h1,?_⟩;split
    ·simp[jn,h2]
    ·exact h2
  ·simp only[wb] at hx ⊢
   by_cases ud:x<DV.length
   ·rcases ha.lv x h0 ud with h|h
    ·rcases hb.nn with h'|h'
     ·left;simp[h',jn,h]
     ·right;exact zkc hx (by omega) h h'
    ·right;exact lO.Ca hx (hg.Ca ud h)
   ·rcases hb.lv x (by omega) hx with h|h
    ·left
     split
     ·simp[jn,h]
     ·exact h
    ·right;exact lO.Ca hx h
variable{r:Int}
def zpt{op:Int}{q:Int×Int×Int×Int}{m:Mk}(dP:m.Ok)(aF:op=1\/op=2)(hl:m.bw.length<=1200):Inv m.next.length (kF op q r m).1 (kF op q r m).2.next/\lW m.next (kF op q r m).2.next/\(kF op q r m).2.bw.length=m.bw.length+(if op == 2 then 1 else 0)/\(kF op q r m).2.Ok:=by
 refine⟨?_,?_,?_,(zj5 dP).1⟩
 ·unfold kF;split
  ·exact⟨.inl rfl,λx h0 hx=>by simp only at hx;omega⟩
  ·refine⟨.inr ⟨m.bw.length,by omega,by simp[jz,cI]⟩,λx h0 hx=>.inl ?_⟩
   simp only[bY,Ds] at hx;have:x=m.bw.length:=by rw[<- dP.n];omega
   simp[jz,cI,this]
 ·unfold kF;split
  ·exact lW.refl
  ·exact zps
 ·unfold kF;rcases aF with rfl|rfl
  ·simp
  ·simp
def zpu{op mn mx:Int}{n0:Nat}{x:Part×Mk}(h:Inv n0 x.1 x.2.next)(dP:x.2.Ok):Inv n0 (yl op mn mx x).1 (yl op mn mx x).2.next/\lW x.2.next (yl op mn mx x).2.next/\(yl op mn mx x).2.Ok:=by
 unfold yl;split
 ·unfold yO;simp only;split
  ·refine⟨⟨?_,λy h0 hy=>?_⟩,lO,⟨dP.r,by simp only[wb];exact dP.n⟩⟩
   ·rcases h.nn with h1|h1
    ·left;simp[h1]
    ·right;exact h1
   ·rw[wb] at hy;rcases h.lv y h0 hy with h1|h1
    ·left;exact h1
    ·right;exact lO.Ca hy h1
  ·refine⟨⟨?_,h.lv⟩,lW.refl,⟨dP.r,dP.n⟩⟩;rcases h.nn with h1|h1
   ·left;simp[h1]
   ·right;exact h1
 ·exact⟨h,lW.refl,dP⟩
mutual
def A0:∀(e:E)(m:Mk),gd e=true->m.Ok->m.bw.length+ey e<=1200->Inv m.next.length (gF r e m).1 (gF r e m).2.next/\lW m.next (gF r e m).2.next/\(gF r e m).2.bw.length=m.bw.length+ey e/\(gF r e m).2.Ok
 | .mk op pl s0 s1 s2 s3 tx mn mx nl [],m,hg,dP,hl=>by
  have aF:op=1\/op=2:=by
   simp only[gd,n6,cR] at hg
   by_cases h1:op=1
   ·exact .inl h1
   ·by_cases h2:op=2
    ·exact .inr h2
    ·have:=hg.2.1;simp[h1,h2] at this;exfalso;revert this;simp[gx]
  obtain⟨g1,g2,g3,g4⟩:=zpt (op:=op) (q:=(s0,s1,s2,s3)) (r:=r) dP aF (by omega)
  simp only[gF];refine⟨g1,g2,?_,g4⟩;rw[g3];simp only[ey,lf];rfl
 | .mk op pl s0 s1 s2 s3 tx mn mx nl (a::tl),m,hg,dP,hl=>by
  have aF:(op == 2)=false:=by
   simp only[gd,n6,cR] at hg;cases h2:op == 2 with
   | false=>rfl
   | true =>
    have:=hg.2.1;have e2:=beq_iff_eq.1 h2;subst e2;simp at this;omega
  have hgF:Lu (a::tl)=true:=by
   simp only[gd,cR] at hg;exact hg.2.2
  have CH:ey (.mk op pl s0 s1 s2 s3 tx mn mx nl (a::tl))=lf (a::tl):=by simp only[ey,aF,dF,bZ,cK]
  rw[CH] at hl ⊢;obtain⟨g1,g2,g3,g4⟩:=Ea (a::tl) op 0 p0 m m.next.length hgF dP (.inl ⟨rfl,rfl,by simp⟩) hl
  rw[Ww];obtain⟨f1,f2,f3⟩:=zpu (op:=op) (mn:=mn) (mx:=mx) g1 g4;exact⟨f1,g2.trans f2,by rw[Tb];exact g3,f3⟩
def Ea:∀(es:List E)(op:Int)(k:Nat)(a:Part)(m:Mk)(n0:Nat),Lu es=true->m.Ok->((k=0/\m.next.length=n0/\es≠[])\/(0<k/\Inv n0 a m.next))->m.bw.length+lf es<=1200 ->
  Inv n0 (pX r op k a es m).1 (pX r op k a es m).2.next/\lW m.next (pX r op k a es m).2.next/\(pX r op k a es m).2.bw.length=m.bw.length+lf es/\(pX r op k a es m).2.Ok
 | [],op,k,a,m,n0,hg,dP,hi,hl=>by
  rw[zih];rcases hi with⟨_,_,h⟩|⟨_,h⟩
  ·exact absurd rfl h
  ·exact⟨h,lW.refl,by simp[lf],dP⟩
 | e::es,op,k,a,m,n0,hg,dP,hi,hl=>by
  simp only[Lu,cR] at hg;simp only[lf] at hl;obtain⟨g1,g2,g3,g4⟩:=A0 e m hg.1 dP (by omega)
  rw[Ta];obtain⟨x,hx⟩:∃x,x=gF r e m:=⟨_,rfl⟩;rw[<- hx] at g1 g2 g3 g4 ⊢;have Ah:(qL op k a x.1 x.2.next).2.length=x.2.next.length:=zbs
  have uQ:Mk.Ok { x.2 with next:=(qL op k a x.1 x.2.next).2 }:=⟨g4.r,by simp only[Ah];exact g4.n⟩
  have hinv:Inv n0 (qL op k a x.1 x.2.next).1 (qL op k a x.1 x.2.next).2:=by
   rcases hi with⟨rfl,h,_⟩|⟨hk,h⟩
   ·subst h;simpa[qL] using g1
   ·exact zk4 hk h g1 g2 (by rw[g4.n];omega)
  obtain⟨f1,f2,f3,f4⟩:=Ea es op (k+1) (qL op k a x.1 x.2.next).1 { x.2 with next:=(qL op k a x.1 x.2.next).2 } n0 hg.2 uQ (.inr ⟨by omega,hinv⟩) (by simp only;omega)
  refine⟨f1,(g2.trans zkd).trans f2,?_,f4⟩;rw[f3];simp only[lf];omega
end
def eG:List E->Nat
 | []=>0
 | e::es=>ey e+eG es
def WT{n:Nat}:∀(es:List E)(r:Nat)(m:Mk),(∀e∈es,gd e=true)->m.Ok->m.bw.length+eG es<=1200->n+r+es.length<=1216->(∀x,x<m.next.length->Lv m.next x) ->
  (q5 n r es m).2.bw.length=m.bw.length+eG es/\(∀x,x<(q5 n r es m).2.next.length->Lv (q5 n r es m).2.next x)/\(q5 n r es m).2.Ok
 | [],r,m,hg,dP,hl,hn,hr=>⟨by simp[q5,eG],hr,dP⟩
 | e::es,r,m,hg,dP,hl,hn,hr=>by
  simp only[eG] at hl;simp only[bq] at hn;obtain⟨g1,g2,g3,g4⟩:=A0 (r:=r) e m (hg e (eS ..)) dP (by omega)
  have uQ:(j9 n r e m).2.Ok:=by
   simp only[j9];exact⟨g4.r,by simp only[wb];exact g4.n⟩
  have hs:(j9 n r e m).2.bw.length=m.bw.length+ey e:=by rw[WK];exact g3
  have Ho:∀x,x<(j9 n r e m).2.next.length->Lv (j9 n r e m).2.next x:=λx hx=>by
   simp only[j9,wb] at hx ⊢;have rA:∃y,y<1216/\jz cI (n+r) y=true:=⟨n+r,by omega,by simp[jz]⟩
   have uG:x<1216:=by rw[g4.n,g3] at hx;omega
   by_cases Fp:x<m.next.length
   ·exact lO.Ca hx (g2.Ca Fp (hr x Fp))
   ·rcases g1.lv x (by omega) hx with h|h
    ·exact zkc hx uG h rA
    ·exact lO.Ca hx h
  obtain⟨f1,f2,f3⟩:=WT (n:=n) es (r+1) (j9 n r e m).2 (λe he=>hg e (dB _ he)) uQ (by rw[hs];omega) (by omega) Ho
  simp only[q5];exact⟨by rw[f1,hs,eG];omega,f2,f3⟩
def zme{ns:List (Nat->Bool)}(h:∀x,x<ns.length->Lv ns x):∀p∈ns,jo p 19≠[]:=by
 intro p hp e;obtain⟨x,hx,rfl⟩:=List.getElem_of_mem hp;obtain⟨y,h1,h2⟩:=h x hx
 have:y∈jo ns[x] 19:=iU.2 ⟨by omega,by
  unfold ri at h2;rw[HP,mq hx] at h2
  exact h2⟩
 rw[e] at this;cases this
end
section
variable{gl:Gl}
def fC(F N:aA):aA:=[.aJ,.aJ,qu 1 27 F,qu 1 27 N]
structure BI(H:Hp)(F N:aA)(m:Mk):Prop where
 r:H.get 0=some (.cells zF 30)
 f:H.get 2=some (.cells (fC F N) 30)
 Bm:∃i,MK 0 H 1 m i
 len:3<=H.aj.length
def Kc(H H':Hp):Prop:=∀d cs ty,d≠1->H.get d=some (.cells cs ty)->H'.get d=some (.cells cs ty)
def Kc.trans{A B C:Hp}(h:Kc A B)(k:Kc B C):Kc A C:=λd cs ty h1 h2=>k d cs ty h1 (h d cs ty h1 h2)
def zpv{H H':Hp}{c:V}{i:Option Nat}{xs:List aA}(hu:UL H 19 115 c i xs)(hf:rT H H' (λd=>d=1\/i=some d)):Kc H H':=λd cs ty hd hg=>hf.some hg λhc=>by
 rcases hc with rfl|hc
 ·exact hd rfl
 ·exact Nz hu hg hc
variable{H:Hp}{F N:aA}{m:Mk}
def BI.made(h:BI H F N m){H':Hp}{m':Mk}{i':Option Nat}(hk:Kc H H')(hl:H.aj.length<=H'.aj.length)(hm:MK 0 H' 1 m' i'):BI H' F N m' :=
 ⟨hk _ _ _ (by decide) h.r,hk _ _ _ (by decide) h.f,⟨i',hm⟩,cZ h.len hl⟩
def BI.push(h:BI H F N m)(x:br):BI (H.push x) F N m:=by
 have hl:=h.len;obtain⟨i,c,k1,k2,k3⟩:=h.Bm;refine⟨(kz (by omega)).trans h.r,(kz (by omega)).trans h.f,⟨i,c,(kz (by omega)).trans k1,k2.frame λj hj=>kz (by subst hj;exact k2.lt),k3⟩,by rw[j6];omega⟩
def zq1(x:br):Kc H (H.push x):=λ_d _cs _ty _ hg=>(kz (wg hg)).trans hg
def BI.Df(h:BI H F N m){b:Nat}{cs cs':aA}{ty ty':aq}(hb:H.get b=some (.cells cs ty))(h3:3<=b):BI (H.set b (.cells cs' ty')) F N m:=by
 obtain⟨i,c,k1,k2,k3⟩:=h.Bm;refine⟨(ju (by omega)).trans h.r,(ju (by omega)).trans h.f,⟨i,c,(ju (by omega)).trans k1,k2.frame λj hj=>ju λe=>?_,k3⟩,by rw[wO];exact h.len⟩
 subst e;exact Nz k2 hb hj
def BI.Tm{F' N':aA}(h:BI H F N m):BI (H.set 2 (.cells (fC F' N') 30)) F' N' m:=by
 obtain⟨i,c,k1,k2,k3⟩:=h.Bm;refine⟨(ju (by decide)).trans h.r,w8 h.f,⟨i,c,(ju (by decide)).trans k1,k2.frame λj hj=>ju λe=>?_,k3⟩,by rw[wO];exact h.len⟩
 subst e;exact Nz k2 h.f hj
def zpw{H:Hp}{b:Nat}{v:V}{e:Nat×Nat}(h:e∈H.aW):e∈(H.bI b v).aW:=by
 unfold Hp.bI;split
 ·exact h
 ·exact dB _ h
def BI.bI(h:BI H F N m)(b:Nat)(v:V):BI (H.bI b v) F N m:=by
 obtain⟨i,c,k1,k2,k3⟩:=h.Bm;exact⟨bX.trans h.r,bX.trans h.f,⟨i,c,bX.trans k1,k2.frame λj hj=>bX,λj hj hn=>⟨(k3 j hj hn).1,zpw (k3 j hj hn).2⟩⟩,by rw[Pn];exact h.len⟩
def zf4{H:Hp}{b:Nat}{x y:br}:(H.set b x).set b y=H.set b y:=by simp[Hp.set,List.set_set]
def zpx{t n:aq}{H:Hp}{b:Nat}{v cs:aA}{ty:aq}{env:aA}{lk:bk}{df:bH}(hs:jh prog t=some n)(hg:H.get b=some (.cells cs ty))(hv:v.length=n)(hc:v.map aT=v)(ht:aI v=0)(hl:cs.length=n)(hu:cs.all (λc=>!(locked c))=true) :
  kI prog t H lk df (some (.agg v,env)) (some (.ptr b 0))=some (.skip,⟨env,H.set b (.cells v ty),lk,df⟩):=by
 rw[jt (v:=.agg v) hs hg rfl (by simp[V.laid,hv]) (by omega) (vZ hu (by omega)),vY (by simp[V.top,ht])]
 simp only[V.laid,hc];rw[yY (by rw[hl,hv])]
def zpy{t n:aq}{H:Hp}{b:Nat}{cs:aA}{ty:aq}{g:Nat->Nat->cP}(ha:ka prog t=some true)(hs:jh prog t=some n)(hg:H.get b=some (.cells cs ty))(hl:cs.length=n):qJ prog H g t (.ptr b 0)=some (.agg cs):=by
 rw[wc ha hs hg (by omega),IJ,En (by omega)]
def NI:rU prog 28 27 1 24:=⟨by kernel_rfl,by kernel_rfl,by kernel_rfl,by decide,by kernel_rfl,by kernel_rfl,by kernel_rfl⟩
def Hq:ka prog 28=some false:=by kernel_rfl
def Hr:jD prog 55 0=some 0:=by kernel_rfl
def NJ:jD prog 55 1=some 10:=by kernel_rfl
def NK:jD prog 55 2=some 11:=by kernel_rfl
def A1:jD prog 30 0=some 0:=by kernel_rfl
def Dh:jD prog 30 1=some 1:=by kernel_rfl
def A3:jD prog 30 2=some 2:=by kernel_rfl
def A4:jD prog 30 3=some 3:=by kernel_rfl
def ldC{b:Nat}{c:Cr}{g:Nat->Nat->cP}(hg:H.get b=some (.cells (q_ c) 55)) :
  qJ prog H g 53 (.ptr b 0)=some (.agg (bQ c.1))/\qJ prog H g 4 (.ptr b 10)=some (.bool c.2.1)/\qJ prog H g 53 (.ptr b 11)=some (.agg (bQ c.2.2)):=by
 obtain⟨h,t,tr⟩:=c;have B7:=jS h;have t10:=jS tr;have e1:(q_ (h,t,tr)).take 10=bQ h:=by
  rw[q_,b_,<- B7,List.take_left]
 have e2:(q_ (h,t,tr)).drop 11=bQ tr:=by
  have:(bQ h++[V.bool t]).length=11:=by simp[B7]
  rw[q_,<- this,List.drop_left]
 have e3:(q_ (h,t,tr))[10]?=some (.bool t):=by
  rw[q_,b_,oe (by simp only;omega),B7];rfl
 refine⟨?_,jy PD hg (by rw[zV,e3]),?_⟩
 ·rw[wc Da uP hg (by rw[PN];decide),IJ,e1]
 ·rw[wc Da uP hg (by rw[PN];decide),e2,En (by omega)]
def zsU{x:aO}{env:aA}{h t:E}(hx:aB env x=some (.sl 10 [.agg (bQ h),.agg (bQ t)] .no)):wx prog 53 #[(0,.const (.int .i64 5)),(6,x)] env=some (.agg (bQ (.mk 5 0 0 0 0 0 [] 0 0 false [h,t]))):=by
 have hp:(match prog.underlying 53 with|some (.struct fs)=>P5 prog fs|_=>none)=some [(0,1),(1,1),(2,4),(6,1),(7,1),(8,1),(9,1)]:=by kernel_rfl
 have h5:aB env (.const (.int .i64 5))=some (.int .i64 5):=rfl;unfold wx;rw[z45];cases hu:prog.underlying 53 with
 | none=>rw[hu] at hp;cases hp
 | some d =>
  rw[hu] at hp;cases d<;>simp only at hp<;>try (cases hp;done)
  simp only[hp];simp[fH,xJ,h5,hx,nth,bQ,V.cells,Vm.storeCells,yH,fy,wv]
def WU(hb:BI H F N m)(cz v:aA)(ty ty':aq):BI ((H.push (.cells cz ty)).set H.aj.length (.cells v ty')) F N m/\Kc H ((H.push (.cells cz ty)).set H.aj.length (.cells v ty'))/\((H.push (.cells cz ty)).set H.aj.length (.cells v ty')).get H.aj.length=some (.cells v ty')/\((H.push (.cells cz ty)).set H.aj.length (.cells v ty')).aj.length=H.aj.length+1:=by
 have hg:(H.push (.cells cz ty)).get H.aj.length=some (.cells cz ty):=wA;refine⟨(hb.push _).Df hg hb.len,λd cs t hd Gi=>?_,w8 hg,by rw[wO,j6]⟩
 have:=wg Gi;rw[ju (by omega),kz this,Gi]
def zf5(hb:BI H F N m){b:Nat}{cs v:aA}{ty:aq}(hg:H.get b=some (.cells cs ty))(h3:3<=b):BI (H.set b (.cells v ty)) F N m/\(∀d x,d≠b->H.get d=some x->(H.set b (.cells v ty)).get d=some x)/\(H.set b (.cells v ty)).get b=some (.cells v ty)/\(H.set b (.cells v ty)).aj.length=H.aj.length :=
 ⟨hb.Df hg h3,λ_d _x hd hx=>(ju hd).trans hx,w8 hg,wO⟩
end
section
variable{gl:Gl}
def zpz(hg:GW gl){n:Nat}(hn:70<=n){H:Hp}{b off fE:Nat}{pre post:aA}{p:Nat->Bool}(hb:H.get b=some (.ul fE 19 (pre++pv 19 p++post) 115))(ho:pre.length=off) :
  qt prog gl (n+1) 59 [.gY b fE off] H=some (.ret (aT (qu 1 3 (Ad p 19))),H):=by
 obtain⟨bs,es⟩:=H;have m8:Hp.get ⟨bs,[]⟩ b=some (.ul fE 19 (pre++pv 19 p++post) 115):=hb;have iX:jl bs.length es 0 ⟨bs,[]⟩=⟨bs,es⟩:=by
  have:=kg (bs:=bs) (ls:=[]) (es:=es) (t:=0) (ga _)
  rwa [oZ] at this
 generalize hL:Ad p 19=L
 suffices d_:(go ⟨prog,gl,qt prog gl n,gE⟩ n (Fx prog f59.results.toList λw H1=>w=aT (qu 1 3 L)/\H1=⟨bs,[]⟩) [.c (f59.body.getD .skip)] .normal ⟨[.gY b fE off]++List.replicate 28 (.bz []),⟨bs,[]⟩,[],[]⟩) by
  obtain⟨w,H1,h0,h1,h2⟩:=jZ (gl:=gl) (f:=59) (bs:=bs) (es:=es) (args:=[.gY b fE off]) (n:=n) (hg.hk _ _ (by decide)) (λH=>hg.iA _ _ _ _) func59 rfl (by rw[hg.uq];exact d_)
  rw[h0,h1,h2];have:(aT (qu 1 3 L)).top=0:=by
   rw[<- hL];exact zet 19
  rw[this];exact congrArg (λx=>some (Out.ret _,x)) iX
 simp only[f59,t_,zD];refine qx ?_;simp only[qi,ah,zD,zq,zj,aH,bG,zH,au,qb,dJ,dM,List.replicate,cF,cq]
 refine qx ?_;simp only[qi,ah,zD,zq,zj,aH,bG,zH,au,qb,dJ,dM]
 refine qx ?_;simp only[qi,ah,zx,zw,aB,aH,zR,zk,au,qb,dJ,dM,zY]
 refine vo (λm s=>∃i env,m+i=19/\s=⟨env,⟨bs,[]⟩,[],[]⟩/\env.length=29/\nth env 3=some (qu 1 3 (Ad p i))/\nth env 6=some (.gY b fE off)/\nth env 7=some (.int .i64 (i:Nat))) 19 (by omega) ⟨0,_,rfl,rfl,rfl,rfl,rfl,rfl⟩ ?_
 rintro m s ⟨i,env,Wj,rfl,hlen,h3,h6,h7⟩;simp only[zD];refine qx ?_;simp only[qi,ah,zD,zJ,zA,aB,aH,h7,zk,au,qb,zb,hlen,Nat.reduceLT,aU,zg,zf,vU,zU]
 by_cases hi:i<19
 ·refine .inl ⟨by simp;omega,?_⟩
  simp only[aC,zD,zx]
  refine wt (tk:=[]) (by kernel_rfl) (by kernel_rfl) ?_
  have eC:nth (pre++pv 19 p++post) (off+i)=some (.int .u64 (wi p i:Nat)):=by
   rw[zV,<- ho,M_ kw hi,xy hi]
  have lR:qJ prog ⟨bs,[]⟩ gl.g 48 (.gY b fE (off+i))=some (.int .u64 (wi p i:Nat)):=zha nu m8 eC;simp only[qn,ak,zx,qj,nu,cg,zw,zd,zc,zI,zq,zu,aB,h6,h7,zk,au,qb,zb,ee,hlen,Nat.reduceEqDiff,Nat.reduceLT,aU,bZ,zY,zg,zt,zH,bG,bC,aG,qM,zjY hi,lR]
  refine vo (λm s=>∃w acc env,(wK w).length=m/\w<2 ^ 64/\acc++((wK w).map λj=>.int .i64 ((64 * i+j:Nat):Int))=Ad p (i+1)/\s=⟨env,⟨bs,[]⟩,[],[]⟩/\env.length=29/\nth env 3=some (qu 1 3 acc)/\nth env 4=some (.int .i64 (i:Nat))/\nth env 5=some (.int .u64 (w:Nat))/\nth env 6=some (.gY b fE off)/\nth env 7=some (.int .i64 (i:Nat))) (wK (wi p i)).length (by have:=zdZ (w:=wi p i);omega) ⟨wi p i,Ad p i,_,rfl,wz,rfl,rfl,?_,?_,?_,?_,?_,?_⟩ ?_
  ·simp[hlen]
  ·simp[zb,h3]
  ·simp[zb,hlen]
  ·simp[zb,hlen]
  ·simp[zb,h6]
  ·simp[zb,h7]
  clear h3 h6 h7 hlen;rintro m s ⟨w,acc,env,hm,hw,AQ,rfl,hlen,h3,h4,h5,h6,h7⟩;simp only[zD];refine qx ?_;simp only[qi,ah,zJ,zw,zA,aB,aH,h5,zk,au,qb,zb,ee,hlen,Nat.reduceEqDiff,Nat.reduceLT,aU,bZ,zg,zf,UW,zU]
  by_cases DI:w=0
  ·subst DI;rw[tM,cM,oZ] at AQ;subst AQ;refine .inr ⟨by decide,?_⟩
   simp only[ky,jC,jc,dr,jm,dW,aU,qm];refine qx ?_;simp only[qi,ah,zw,zA,aB,aH,h7,zk,au,qb,zb,ee,hlen,Nat.reduceEqDiff,Nat.reduceLT,aU,bZ,zg,vj (show i<2 ^ 60 by omega),jc,bT]
   refine⟨18 - i,by omega,i+1,_,by omega,rfl,?_,?_,?_,?_⟩
   ·simp[hlen]
   ·simp[zb,h3]
   ·simp[zb,h6]
   ·simp[zb,hlen]
  ·refine .inl ⟨by simp;omega,?_⟩
   obtain⟨k,mm,C4⟩:=B1 w DI;have Kt:=λ(H:Hp)=>zo8 hg (n:=n - 1) (H:=H) (k:=k) (m:=mm) (by rw[<- C4];exact hw)
   rw[<- C4,show n - 1+1=n by omega] at Kt
   simp only[aC,zD,zx]
   refine Pr (tk:=[19]) (by kernel_rfl) ?_
   have fN:Cx.dZ ⟨prog,gl.g,qt prog gl n,gE⟩ 96 [.int .u64 (w:Nat)] ⟨bs,[]⟩=some (.val (.int .i64 (k:Nat)),⟨bs,[]⟩):=ji func96 rfl (Kt _);have hk:k<64:=Sv (by rw[<- C4];exact hw)
   have SF:acc.length+1<=64 * (i+1):=by
    have h1:=congrArg List.length AQ;have h2:=Pu (p:=p) (i+1);have h3:(wK w).length≠0:=by
     rw[C4,V4 (by rw[<- C4];exact hw)];simp
    simp only[bY,eF] at h1;omega
   have lU:=vu FF (H:=⟨bs,[]⟩) (xs:=acc) (ys:=[V.int .i64 ((64 * i+k:Nat):Int)]) (o:=.no) (by simp) (eP (by simp;omega) (by simp;omega))
   have Lg:=FF.JI (v:=.int .i64 ((64 * i+k:Nat):Int)) rfl rfl;have hmul:∀(u v:aO),jY prog .mul 3 u v (some (.int .i64 64)) (some (.int .i64 (i:Nat)))=some (.int .i64 ((64 * i:Nat):Int)):=λu v=>zjU (a:=64) (by omega)
   have Nf:nth (((env.set 13 (V.int .u64 (w:Nat))).set 14 (V.bool ((w:Int) != 0)))) 3=some (qu 1 3 acc):=by simp[zb,h3]
   simp only[qi,zL,zC,xz Nf,zA,zW,aL,qd,ne_eq,cY,zX,vC (cx:=⟨prog,gl.g,qt prog gl n,gE⟩) (show sS prog gE 27=false by kernel_rfl),aB,aH,h4,h5,zk,zH,au,qb,zb,ee,hlen,Nat.reduceEqDiff,Nat.reduceLT,aU,bZ,zg,zK,zi,bW,cM,qp,fN,hmul,V_ (show 64 * i+k<2 ^ 60 by omega),Lg]
   rw[xz (n:=1) (e:=3) (xs:=acc) (by simp[zb,hlen])]
   simp only[Fz,bC,lU,au,qb,qi,ah,qm,zq]
   rw[xz (n:=1) (e:=3) (xs:=acc++[V.int .i64 ((64 * i+k:Nat):Int)]) (by simp[zb,hlen])]
   simp only[zH,au,qb]
   refine qx ?_;have FE:w - 1<2 ^ 64:=by omega
   simp only[qi,ah,zw,zA,zq,zu,aB,aH,h5,zk,zH,au,qb,zb,ee,hlen,Nat.reduceEqDiff,Nat.reduceLT,aU,bZ,zg,zt,zg8 DI hw,zdY hw FE,jc,bT]
   have lz:wK w=k::wK (w &&& (w - 1)):=by
    rw[C4];exact V4 (by rw[<- C4];exact hw)
   refine⟨(wK (w &&& (w - 1))).length,by rw[<- hm,lz];simp,w &&& (w - 1),acc++[V.int .i64 ((64 * i+k:Nat):Int)],_,rfl,Nat.lt_of_le_of_lt Nat.and_le_left hw,?_,rfl,?_,?_,?_,?_,?_,?_⟩
   ·rw[<- AQ,lz];simp
   ·simp[hlen]
   ·simp[zb,hlen]
   ·simp[zb,h4]
   ·simp[zb,hlen]
   ·simp[zb,h6]
   ·simp[zb,h7]
 ·obtain rfl:i=19:=by omega
  refine .inr ⟨by decide,?_⟩
  rw[hL] at h3;simp only[ky,jC,jc,dr,jm,dW,aU,zD];refine qx ?_;have pz:aT (aT (qu 1 3 L))=aT (qu 1 3 L):=by cases L<;>rfl
  have iu:∀e:aA,nth e 28=some (aT (qu 1 3 L))->take e (.tmp 28)=some (aT (qu 1 3 L),e):=λe he=>by
   rw[zu,he];cases L<;>rfl
  simp only[qi,ah,zw,zq,aB,h3,zk,au,qb,zb,hlen,Nat.reduceEqDiff,Nat.reduceLT,aU,bZ]
  rw[iu _ (by simp[zb,hlen])]
  simp only[zH,au,qb,go_ret,jc,Fx]
  refine⟨trivial,[aT (qu 1 3 L)],?_,rfl,trivial⟩;simp[ja,zb,hlen]
end
section
variable{gl:Gl}
def z3:kf prog 3=some (.int .i64 0):=by kernel_rfl
def sz3:jh prog 3=some 1:=by kernel_rfl
def Tn:∃i,prog.info? 3=some i/\i.bytes=8:=by
 have h:=FF.i;cases hi:prog.info? 3 with
 | none=>rw[hi] at h;cases h
 | some i =>
  rw[hi] at h;simp only[bC] at h;cases hz:i.zero with
  | none=>rw[hz] at h;cases h
  | some z =>
   rw[hz] at h;simp only[bG,aR,bS] at h;exact⟨i,rfl,h.2⟩
def Aj:∀(l:bR),(dz (l.map Hj)).map aT=l.map Hj
 | []=>rfl
 | a::l=>by
  simp only[bW,dz,List.map_append,Aj l];rfl
def Cb:∀(k:Nat)(z:V),(List.replicate k [z]).flatten=List.replicate k z
 | 0,_=>rfl
 | k+1,z=>by simp[List.replicate_succ,Cb k z]
def Hs:Nat->Code->Code
 | 0,c=>c
 | n+1,.seq _ b=>Hs n b
 | _+1,c=>c
structure EB(nl:Bool)(l:List Cr)(k:Nat)(env:aA):Prop where
 len:env.length=110
 e2:nth env 2=some (.ptr 0 0)
 e3:nth env 3=some .cV
 e4:nth env 4=some (.int .i64 (k:Int))
 e6:nth env 6=some (.ptr 1 0)
 e7:nth env 7=some (.ptr 2 0)
 E3:nth env 31=some (jk nl l)
 E4:nth env 32=some (.int .i64 (l.length:Int))
def WV(H:Hp)(ns:List (Nat->Bool))(N:aA):Prop:=N.length=ns.length/\∀(j:Nat)(p:Nat->Bool),ns[j]?=some p->∃b,N[j]?=some (.sr b 0 (jo p 19).length (jo p 19).length)/\H.get b=some (.cells ((jo p 19).map Hj) 3)
def zq2(hg:GW gl){n:Nat}(hn:4000<=n){nl:Bool}{l:List Cr}{k:Nat}{env:aA}{H:Hp}{m:Mk}{F:List bR}(he:EB nl l k env)(hb:BI H (F.map kB) [] m)(dP:m.Ok)(hM:m.bw.length<=1200)(cG:∀p∈m.next,jo p 19≠[]) :
  go ⟨prog,gl,qt prog gl n,gE⟩ n (Fx prog f14.results.toList λw H1=>∃N,w=.bz [.agg [aT (qu 4 50 m.lN),aT (qu 1 3 m.gU),aT (qu 1 27 (F.map kB)),aT (qu 1 27 N)],.cV]/\WV H1 m.next N) [.c (Hs 7 (f14.body.getD .skip))] .normal ⟨env,H,[],[]⟩:=by
 have hlen:=he.len;obtain⟨im,cu,u1,u2,u3⟩:=hb.Bm;have sW:aT cu=cu/\kU prog H 111 cu=some (m.next.length:Int):=by
  cases im with
  | none =>
   obtain⟨rfl,h⟩:=u2;have:m.next=[]:=by simpa using h
   exact⟨rfl,by rw[zg9 IB.u,this];rfl⟩
  | some j=>obtain⟨v,rfl,_⟩:=u2;exact⟨rfl,by rw[Pw IB.u,eF]⟩
 have lR:qJ prog H gl.g 111 (.ptr 1 2)=some cu:=jy G3 u1 rfl;simp only[f14,t_,Hs,zD];refine qx ?_
 simp only[qi,ah,zx,zw,zI,zd,za,qc,Nat.reduceEqDiff,aB,aH,zk,au,qb,zS,bC,bG,aG,ze,qa,cK,aU,zb,ee,Nat.reduceLT,aU,bZ,he.e6,hlen,rW,lR,sW.1,sW.2]
 have gX:m.next.length<=1200:=by rw[dP.n];exact hM
 refine Iq (λenv=>EB nl l k env/\nth env 75=some (.int .i64 (m.next.length:Int))/\nth env 76=some (.int .i64 ((0:Nat):Int))) ⟨⟨by simp[hlen],by simp[zb,he.e2],by simp[zb,he.e3],by simp[zb,he.e4],by simp[zb,he.e6],by simp[zb,he.e7],by simp[zb,he.E3],by simp[zb,he.E4]⟩,by simp[zb,hlen],by simp[zb,hlen]⟩ λenv Cz=>?_
 clear u1 u2 u3 lR sW cu im he hlen;refine vo (λj s=>∃q env H N,j+q=m.next.length/\s=⟨env,H,[],[]⟩/\EB nl l k env/\nth env 75=some (.int .i64 (m.next.length:Int))/\nth env 76=some (.int .i64 ((q:Nat):Int))/\BI H (F.map kB) N m/\WV H (m.next.take q) N) m.next.length (by omega) ⟨0,env,H,[],rfl,rfl,Cz.1,Cz.2.1,Cz.2.2,hb,rfl,λj p hp=>by simp at hp⟩ ?_
 clear Cz hb env H;rintro j s ⟨q,env,H,N,hjq,rfl,he,PR,NL,hb,hN⟩;have hlen:=he.len;simp only[zD];refine qx ?_
 simp only[qi,ah,zD,aC,zx,zA,aB,zk,au,qb,zg,zf,zJ,zU,aU,zb,Nat.reduceLT,aU,PR,NL,hlen,vU]
 by_cases hq:q<m.next.length
 ·refine .inl ⟨by simpa using hq,?_⟩
  obtain⟨p,hp⟩:∃p,m.next[q]?=some p:=⟨_,mq hq⟩
  have hpg:m.next.getD q (λ_=>false)=p:=by rw[HP,hp];rfl
  have hpm:p∈m.next:=nF hp
  obtain⟨im,cu,u1,u2,u3⟩:=hb.Bm;obtain⟨jj,rfl⟩:∃jj,im=some jj:=by
   cases im with
   | none =>
    have h:m.next=[]:=by simpa using u2.2
    rw[h] at hq;simp at hq
   | some jj=>exact⟨jj,rfl⟩
  obtain⟨v,rfl,hj⟩:=u2;obtain⟨pr,po,w1,w2,w3⟩:=zjO hq;rw[w2,hpg] at hj;have PS:Cx.dZ ⟨prog,gl.g,qt prog gl n,gE⟩ 59 [.gY jj v (q * 19)] H=some (.val (kB (jo p 19)),H):=by
   have h:=zpz hg (n:=n - 1) (by omega) (H:=H) hj w1
   rw[show n - 1+1=n by omega,Nb] at h
   exact ji func59 rfl h
  obtain⟨xs,lu⟩:∃xs,xs=(jo p 19).map Hj:=⟨_,rfl⟩;have To:xs≠[]:=by
   intro e;rw[lu] at e;exact cG p hpm (by simpa using e)
  have hxl:xs.length=(jo p 19).length:=by rw[lu,eF]
  have ap5:xs.length<=1216:=by
   rw[hxl];have:=Pu (p:=p) 19;rw[Nb,eF] at this;omega
  obtain⟨row,eN⟩:∃row,row=V.sl 1 xs .no:=⟨_,rfl⟩;have Qg:kB (jo p 19)=row:=by
   rw[eN,lu];have:(jo p 19).map Hj≠[]:=by rw[<- lu];exact To
   unfold kB;cases h:(jo p 19).map Hj with
   | nil=>exact absurd h this
   | cons a b=>rfl
  rw[Qg] at PS;have iu:∀env t,vA env t (some row)=some (row,env):=λ_ _=>by rw[eN];rfl
  have J3:aT row=row:=by rw[eN];rfl
  have Om:∀H,kU prog H 27 row=some (xs.length:Int):=λH=>by rw[eN];simp[kU,FF.u]
  have lR:qJ prog H gl.g 111 (.ptr 1 2)=some (.eo jj v (m.next.map (pv 19)).length):=jy G3 u1 rfl
  have JM:q7 prog 111 (.eo jj v (m.next.map (pv 19)).length) (q:Int)=some (.gY jj v (q * 19)):=by
   rw[V7 IB.u IB.s (by rw[eF];omega),l9]
  refine qx ?_
  simp only[qi,ah,zD,zw,zq,Nat.reduceEqDiff,aB,zu,zt,zk,zH,au,qb,zg,aU,zb,ee,Nat.reduceLT,aU,bZ,NL,hlen]
  refine qx ?_
  simp only[qi,ah,zD,zw,zI,zq,zd,za,zc,zW,Nat.reduceEqDiff,aL,qd,aB,zu,zk,zH,au,qb,zg,zS,zT,zY,bC,bG,aG,ze,qa,qM,zi,qp,bW,cM,cK,aU,zb,ee,Nat.reduceLT,aU,bZ,he.e6,hlen,rW,lR,JM,PS,iu]
  refine Iq (λenv=>EB nl l k env/\nth env 75=some (.int .i64 (m.next.length:Int))/\nth env 76=some (.int .i64 ((q:Nat):Int))/\nth env 14=some row) ⟨⟨by simp[hlen],by simp[zb,he.e2],by simp[zb,he.e3],by simp[zb,he.e4],by simp[zb,he.e6],by simp[zb,he.e7],by simp[zb,he.E3],by simp[zb,he.E4]⟩,by simp[zb,PR],by simp[zb,NL],by simp[zb,hlen]⟩ λenv Cz=>?_
  obtain⟨he,PR,NL,WW⟩:=Cz;have hlen:=he.len;refine qx ?_
  simp only[qi,zw,qc,aB,zk,au,qb,bC,bG,aU,zb,Nat.reduceLT,aU,WW,hlen,J3,Om]
  obtain⟨inf,ab1,ab2⟩:=Tn;have Mx:xs.length≠0:=λe=>To (Kh e);rw[zqH (k:=xs.length) FF.u sz3 z3 rfl ab1 (by decide) rfl rfl (by simp[aB,zb,hlen,aT]) (by simp[aB,zb,hlen,aT]) (by rw[ab2];exact eP (by omega) (by omega)) Mx]
  have Eu:aI xs=0:=by rw[lu];exact wP (λ_=>rfl) _
  obtain⟨cz,Dz⟩:∃cz,cz=(List.replicate xs.length (V.int .i64 0).cells).flatten:=⟨_,rfl⟩;have Tp:cz=List.replicate xs.length (.int .i64 0):=by rw[Dz];exact Cb _ _
  have ab3:cz.length=xs.length:=by rw[Tp,LI]
  have ab4:cz.all (λc=>!(locked c))=true:=by rw[Tp];simp[locked]
  rw[<- Dz];obtain⟨b1,k1,g1,n1⟩:=WU hb cz xs 3 3;obtain⟨K,hK⟩:∃K,K=H.aj.length:=⟨_,rfl⟩;have hK3:3<=K:=by rw[hK];exact hb.len
  have hgK:(H.push (.cells cz 3)).get K=some (.cells cz 3):=by rw[hK];exact wA
  rw[<- hK] at b1 k1 g1 n1 ⊢;have ab5:∀env t,vA env t (some (.sr K 0 xs.length xs.length))=some (.sr K 0 xs.length xs.length,env):=λ_ _=>rfl;have Tq:aT (.sr K 0 xs.length xs.length)=.sr K 0 xs.length xs.length:=rfl
  simp only[qi,ah,zD,zq,Nat.reduceEqDiff,zu,zH,au,qb,aU,zb,ee,Nat.reduceLT,aU,bZ,hlen,ab5]
  refine Iq (λenv=>EB nl l k env/\nth env 75=some (.int .i64 (m.next.length:Int))/\nth env 76=some (.int .i64 ((q:Nat):Int))/\nth env 14=some row/\nth env 15=some (.sr K 0 xs.length xs.length)) ⟨⟨by simp[hlen],by simp[zb,he.e2],by simp[zb,he.e3],by simp[zb,he.e4],by simp[zb,he.e6],by simp[zb,he.e7],by simp[zb,he.E3],by simp[zb,he.E4]⟩,by simp[zb,PR],by simp[zb,NL],by simp[zb,WW],by simp[zb,hlen]⟩ λenv Cz=>?_
  obtain⟨he,PR,NL,WW,e15⟩:=Cz;have hlen:=he.len;refine qx ?_
  simp only[qi,ah,zw,Nat.reduceEqDiff,aB,zk,au,qb,aU,zb,Nat.reduceLT,aU,bZ,WW,e15,hlen,J3,Tq]
  rw[zkX (ys:=xs) (o:=.no) (b:=K) (off:=0) (len:=xs.length) (cap:=xs.length) (cs:=cz) (ty:=3) FF.u sz3 (by simp[aB,zb,hlen,aT]) (by simp[aB,zb,hlen,eN,aT]) hgK rfl (by rw[lu];exact Aj _) (by omega) (vZ ab4 (by omega))]
  rw[yY ab3,vY (by simp[V.top,Eu])]
  generalize hH1:(H.push (br.cells cz 3)).set K (br.cells xs 3)=H1 at b1 k1 g1 n1 ⊢;simp only[au,qb]
  obtain⟨bF,WX⟩:∃bF,bF=fC (F.map kB) N:=⟨_,rfl⟩;have f1:=b1.f;rw[<- WX] at f1;have AW:∀env,BY prog 28 env H1 [] [] (some (.ptr 2 3))=some (.val (qu 1 27 N),⟨env,H1.set 2 (.cells (bF.set 3 (uL 1 N)) 30),uM 2 3 N,[]⟩):=λenv=>zfX Hq f1 (by rw[WX];rfl)
  obtain⟨HL,Lw⟩:∃HL,HL=H1.set 2 (.cells (bF.set 3 (uL 1 N)) 30):=⟨_,rfl⟩;rw[<- Lw] at AW;have gL2:HL.get 2=some (.cells (bF.set 3 (uL 1 N)) 30):=by rw[Lw,w8 f1]
  have lz:3<bF.length:=by rw[WX];simp[fC]
  have PT:N.length=q:=by rw[hN.1,Bb];omega
  have AT:=NI.JI (v:=.sr K 0 xs.length xs.length) rfl rfl;have lU:∀H,kG prog H 28 (qu 1 27 N) (.sl 1 [.sr K 0 xs.length xs.length] .no)=some (qu 1 27 (N++[.sr K 0 xs.length xs.length])):=λH=>vu NI (by simp) (eP (by simp;omega) (by simp;omega))
  have eM:∀env,kI prog 28 HL (uM 2 3 N) [] (some (qu 1 27 (N++[.sr K 0 xs.length xs.length]),env)) (some (.ptr 2 3))=some (.skip,⟨env,(HL.set 2 (.cells (bF.set 3 (qu 1 27 (N++[.sr K 0 xs.length xs.length]))) 30)).bI 2 (qu 1 27 (N++[.sr K 0 xs.length xs.length])),uM 2 3 N,[]⟩):=λenv=>by
   rw[jt NI.st gL2 zid (by rw[Px];rfl) (by rw[ee];omega) (zfY lz)]
   simp only[Px,Vm.storeCells,List.set_set]
  refine Pr (tk:=[93]) (by kernel_rfl) ?_
  simp only[qi,ah,qm,zL,zB,zh,za,zX,ne_eq,Nat.reduceEqDiff,cY,aB,zu,zG,zk,au,az,qb,zS,zK,bC,ze,qa,cK,aU,zb,ee,Nat.reduceLT,aU,bZ,he.e7,e15,hlen,A4,AW,Tq,AT,Fz,lU,eM,vC (cx:=⟨prog,gl.g,qt prog gl n,gE⟩) (show sS prog gE 28=false by kernel_rfl)]
  refine qx ?_
  simp only[qi,ah,zw,zA,Nat.reduceEqDiff,aB,aH,zk,au,qb,zg,aU,zb,ee,Nat.reduceLT,aU,bZ,NL,hlen,vj (show q<2 ^ 60 by omega)]
  simp only[jc,bT]
  have hfc:bF.set 3 (qu 1 27 (N++[.sr K 0 xs.length xs.length]))=fC (F.map kB) (N++[.sr K 0 xs.length xs.length]):=by rw[WX];rfl
  have pH:=(b1.Tm (F':=F.map kB) (N':=N++[.sr K 0 xs.length xs.length])).bI 2 (qu 1 27 (N++[.sr K 0 xs.length xs.length]));rw[Lw,zf4,hfc]
  refine⟨j - 1,by omega,q+1,_,_,N++[.sr K 0 xs.length xs.length],by omega,rfl,⟨by simp[hlen],by simp[zb,he.e2],by simp[zb,he.e3],by simp[zb,he.e4],by simp[zb,he.e6],by simp[zb,he.e7],by simp[zb,he.E3],by simp[zb,he.E4]⟩,by simp[zb,PR],by simp[zb,hlen],pH,by simp[PT];omega,λi p' tu=>?_⟩
  have hiq:i<q+1:=by
   have:=(eE.1 tu).1;rw[Bb] at this;omega
  rw[um,if_pos hiq] at tu;have DC:∀d x,d≠2->H1.get d=some x->((H1.set 2 (.cells (fC (F.map kB) (N++[.sr K 0 xs.length xs.length])) 30)).bI 2 (qu 1 27 (N++[.sr K 0 xs.length xs.length]))).get d=some x:=λd x hd hx=>(kM hd).trans hx
  by_cases hi:i<q
  ·obtain⟨b,e1,e2⟩:=hN.2 i p' (by rw[um,if_pos hi];exact tu)
   have ab7:b≠2:=by
    intro e;subst e;have Tr:=hb.f;rw[e2] at Tr;injection Tr with h1;injection h1 with h2 h3;cases h3
   have ab8:b≠1:=by
    intro e;subst e;obtain⟨_,_,y1,_⟩:=hb.Bm;rw[e2] at y1;injection y1 with h1;injection h1 with h2 h3;cases h3
   exact⟨b,by rw[mz (by omega)];exact e1,DC b _ ab7 (k1 _ _ _ ab8 e2)⟩
  ·obtain rfl:i=q:=by omega
   rw[hp] at tu;cases tu;refine⟨K,?_,DC K _ (by omega) (by rw[<- lu];exact g1)⟩
   rw[oe (by omega),PT,Nat.sub_self,<- hxl]
   rfl
 ·obtain rfl:q=m.next.length:=by omega
  refine .inr ⟨by simp,?_⟩
  rw[List.take_length] at hN;obtain⟨im,cu,u1,u2,u3⟩:=hb.Bm;have ab9:∀H',(∀x,H.get 1=some x->H'.get 1=some x)->qJ prog H' gl.g 26 (.ptr 1 0)=some (qu 4 50 m.lN):=λH' h=>jy Dd (h _ u1) rfl;have NM:∀H',(∀x,H.get 1=some x->H'.get 1=some x)->qJ prog H' gl.g 27 (.ptr 1 1)=some (qu 1 3 m.gU):=λH' h=>jy Dc (h _ u1) rfl
  obtain⟨X1,hX1⟩:∃X1,X1=aT (qu 4 50 m.lN):=⟨_,rfl⟩;obtain⟨X2,WY⟩:∃X2,X2=aT (qu 1 3 m.gU):=⟨_,rfl⟩
  have Lx:∀n e (xs:aA),aI xs=0->aT (aT (qu n e xs))=aT (qu n e xs)/\(∀env t,vA env t (some (aT (qu n e xs)))=some (aT (qu n e xs),env))/\(aT (qu n e xs)).laid=[aT (qu n e xs)]/\fH (aT (qu n e xs))=true/\(aT (qu n e xs)).top=0/\locked (aT (qu n e xs))=false:=λn e xs ht=>by
   refine⟨zN,λ_ _=>zn,?_,?_,by rw[dx];exact SN ht,?_⟩<;>cases xs<;>rfl
  obtain⟨x1a,x1b,x1c,x1d,x1e,x1f⟩:=Lx 4 50 m.lN (wP (λ_=>rfl) _);obtain⟨x2a,x2b,x2c,x2d,x2e,x2f⟩:=Lx 1 3 m.gU (wP (λ_=>rfl) _);rw[<- hX1] at x1a x1b x1c x1d x1e x1f;rw[<- WY] at x2a x2b x2c x2d x2e x2f;have f2:=hb.f
  have acf:∀env,kI prog 26 H [] [] (some (X1,env)) (some (.ptr 2 0))=some (.skip,⟨env,H.set 2 (.cells [X1,.aJ,qu 1 27 (F.map kB),qu 1 27 N] 30),[],[]⟩):=λenv=>by
   rw[jt SO f2 x1d (by rw[x1c];rfl) (by simp[fC]) rfl,vY (by rw[x1e];omega)]
   simp only[x1c,Vm.storeCells,fC,dJ]
  have Nv:∀env,kI prog 27 (H.set 2 (.cells [X1,.aJ,qu 1 27 (F.map kB),qu 1 27 N] 30)) [] [] (some (X2,env)) (some (.ptr 2 1))=some (.skip,⟨env,H.set 2 (.cells [X1,X2,qu 1 27 (F.map kB),qu 1 27 N] 30),[],[]⟩):=λenv=>by
   rw[jt Nu (w8 f2) x2d (by rw[x2c];rfl) (by simp) rfl,vY (by rw[x2e];omega),zf4]
   simp only[x2c,Vm.storeCells,dJ,dM]
  simp only[ky,jC,jm,jc,dr,zD,dW,aU]
  refine VT [7] [(false,false),(false,false),(false,false),(false,false),(false,false),(false,false),(false,false),(true,false),(false,false),(false,true),(false,false),(false,true)] (tk:=[]) (by kernel_rfl) (by kernel_rfl) ?_
  simp only[zD,zw,zI,zh,zd,za,Nat.reduceEqDiff,aB,zu,zk,qb,zS,bC,bG,aG,ze,qa,cg,cK,cL,qj,aU,zb,ee,Nat.reduceLT,aU,bZ,s4,AL,VU,zfT,VW,VX,Dd,Dc,he.e6,he.e7,hlen,AU,G5,A1,Dh,ab9 H (λ_ h=>h),NM H (λ_ h=>h),<- hX1,<- WY,x1b,x2b,acf,Nv]
  refine⟨λ_=>yj (p:=.ptr 1 1) (by simp[aB,zb,hlen,aT]) (NM _ λ_ h=>(ju (by decide)).trans h) WY.symm,λ_=>yj (p:=.ptr 1 1) (by simp[aB,zb,hlen,aT]) (NM _ λ_ h=>(ju (by decide)).trans h) WY.symm,?_⟩
  obtain⟨H2,Hh⟩:∃H2,H2=H.set 2 (.cells [X1,X2,qu 1 27 (F.map kB),qu 1 27 N] 30):=⟨_,rfl⟩;have g2:H2.get 2=some (.cells [X1,X2,qu 1 27 (F.map kB),qu 1 27 N] 30):=by rw[Hh,w8 f2]
  have g0:H2.get 0=some (.cells zF 30):=by rw[Hh,ju (by decide)];exact hb.r
  rw[<- Hh];obtain⟨VA,Ts⟩:∃VA,VA=V.agg [X1,X2,qu 1 27 (F.map kB),qu 1 27 N]:=⟨_,rfl⟩;have acg:qJ prog H2 gl.g 30 (.ptr 2 0)=some VA:=by rw[Ts];exact zpy NH Hl g2 rfl
  have hcA:aT VA=VA:=by rw[Ts];rfl
  have htA:∀env t,vA env t (some VA)=some (VA,env):=λ_ _=>by rw[Ts];rfl
  have hlA:VA.laid=[X1,X2,aT (qu 1 27 (F.map kB)),aT (qu 1 27 N)]:=by
   rw[Ts];simp only[V.laid,bW,cM,x1a,x2a]
  have G6:∀env,kI prog 30 H2 [] [] (some (VA,env)) (some (.ptr 0 0))=some (.skip,⟨env,(H2.set 0 (.cells [X1,X2,aT (qu 1 27 (F.map kB)),aT (qu 1 27 N)] 30)).bI 0 VA,[],[]⟩):=λenv=>by
   rw[jt Hl g0 (by rw[Ts];rfl) (by rw[hlA];rfl) (by simp[zF]) rfl,hlA]
   rfl
  refine qx ?_
  simp only[qi,ah,zI,zh,zq,Nat.reduceEqDiff,aB,zu,zj,aH,zk,zH,au,az,qb,zS,bC,bG,aU,zb,ee,Nat.reduceLT,aU,bZ,he.e7,he.e2,hlen,acg,hcA,htA,G6]
  simp only[go_ret,jc,Fx]
  refine⟨trivial,[.agg [X1,X2,aT (qu 1 27 (F.map kB)),aT (qu 1 27 N)],.cV],?_,N,?_,hN.1,λi p hp=>?_⟩
  ·have hr:qJ prog ((H2.set 0 (.cells [X1,X2,aT (qu 1 27 (F.map kB)),aT (qu 1 27 N)] 30)).bI 0 VA) (λ_ _=>none) 30 (.ptr 0 0)=some (.agg [X1,X2,aT (qu 1 27 (F.map kB)),aT (qu 1 27 N)]):=zpy NH Hl (by rw[bX,w8 g0]) rfl
   simp only[ja,zb,ee,hlen,Nat.reduceEqDiff,Nat.reduceLT,aU,bZ,he.e2];rw[hr];rfl
  ·rfl
  ·obtain⟨b,e1,e2⟩:=hN.2 i p hp;have h0:b≠0:=λe=>by
    subst e;have:=hb.r;rw[e2] at this;injection this with h1;injection h1 with h2 h3;cases h3
   have h2:b≠2:=λe=>by
    subst e;have:=hb.f;rw[e2] at this;injection this with h1;injection h1 with h2 h3;cases h3
   exact⟨b,e1,by rw[bX,ju h0,Hh,ju h2];exact e2⟩
end
section
variable{gl:Gl}
def zns(hg:GW gl){n:Nat}{nl:Bool}{l:List Cr}{k:Nat}(hm:gl.hk 54 [jk nl l]=some (.bz [.int .i64 (k:Int),.bool true]))(hk:k<=1000)(hl:l.length<=200)
  (hM:(q5 k 0 (l.map dX) m0).2.bw.length<=1200) (cG:∀p∈(q5 k 0 (l.map dX) m0).2.next,jo p 19≠[]) (hw:∀c∈l,wE (dX c)+4000<=n/\wE (dX c)+2<=2 ^ 31) (hn:4000<=n) :
  ∃H' N,qt prog gl (n+1) 14 [jk nl l] ⟨[],[]⟩=some (.ret (.bz [.agg [aT (qu 4 50 (q5 k 0 (l.map dX) m0).2.lN),aT (qu 1 3 (q5 k 0 (l.map dX) m0).2.gU),aT (qu 1 27 ((q5 k 0 (l.map dX) m0).1.map kB)),aT (qu 1 27 N)],.cV]),H')/\WV H' (q5 k 0 (l.map dX) m0).2.next N:=by
 obtain⟨FT,MT,hT⟩:∃FT MT,q5 k 0 (l.map dX) m0=(FT,MT):=⟨_,_,rfl⟩;rw[hT] at hM cG ⊢;simp only at hM cG ⊢
 suffices d_:(go ⟨prog,gl,qt prog gl n,gE⟩ n (Fx prog f14.results.toList λw H1=>∃N,w=.bz [.agg [aT (qu 4 50 MT.lN),aT (qu 1 3 MT.gU),aT (qu 1 27 (FT.map kB)),aT (qu 1 27 N)],.cV]/\WV H1 MT.next N) [.c (f14.body.getD .skip)] .normal ⟨[jk nl l]++List.replicate 109 (.bz []),⟨[],[]⟩,[],[]⟩) by
  obtain⟨w,H1,h0,N,rfl,hN⟩:=jZ (gl:=gl) (f:=14) (bs:=[]) (es:=[]) (args:=[jk nl l]) (n:=n) (hg.hk _ _ (by decide)) (λH=>hg.iA _ _ _ _) func14 rfl (by rw[hg.uq];exact d_)
  refine⟨_,N,h0,hN.1,λj p hp=>?_⟩;obtain⟨b,h1,h2⟩:=hN.2 j p hp;refine⟨b,h1,?_⟩;have hb:b+1<=(V.bz [.agg [aT (qu 4 50 MT.lN),aT (qu 1 3 MT.gU),aT (qu 1 27 (FT.map kB)),aT (qu 1 27 N)],.cV]).top:=by
   have hNt:b+1<=aI N:=qg (x:=.sr b 0 (jo p 19).length (jo p 19).length) (nF h1);have hN2:(aT (qu 1 27 N)).top=aI N:=by
    rw[dx];cases N<;>rfl
   simp only[V.top,aI,hN2];omega
  unfold jl;have lz:Nat.ble (V.bz [.agg [aT (qu 4 50 MT.lN),aT (qu 1 3 MT.gU),aT (qu 1 27 (FT.map kB)),aT (qu 1 27 N)],.cV]).top ([]:List br).length=false:=by
   cases hx:Nat.ble (V.bz [.agg [aT (qu 4 50 MT.lN),aT (qu 1 3 MT.gU),aT (qu 1 27 (FT.map kB)),aT (qu 1 27 N)],.cV]).top ([]:List br).length with
   | false=>rfl
   | true=>have:=sE hx;simp only[List.length_nil] at this;omega
  rw[lz];exact h2
 have fN:Cx.dZ ⟨prog,gl.g,qt prog gl n,gE⟩ 54 [jk nl l] ⟨[.cells zF 30],[]⟩=some (.val (.bz [.int .i64 (k:Int),.bool true]),⟨[.cells zF 30],[]⟩):=by
  have:=zj8 (P:=prog) (n:=n - 1) (H:=⟨[.cells zF 30],[]⟩) hm;rw[show n - 1+1=n by omega] at this
  exact ji func54 rfl this
 have hz:fH (V.agg zF)=true:=rfl;have C8:fH (V.agg [.aJ,.aJ,.aJ])=true:=rfl;simp only[f14,t_,zD];refine qx ?_
 simp only[qi,ah,zD,zl,zq,zj,aH,zH,au,qb,bG,z9,List.length_nil,cF,cq,dJ,dM,z32,jQ hz,V.cells,List.replicate,List.length_nil]
 refine qx ?_
 simp only[qi,ah,zD,zw,zq,zW,aL,qd,aB,zu,zt,zo,zk,zH,au,qb,zg,zf,bC,bG,zi,qp,bW,cM,zR,z6,dJ,dM,WL,fN,Y5,qw]
 refine qx ?_
 simp only[qi,ah,zD,aC,zw,z4,aB,zk,au,qb,zf,bC,zJ,zU,zR,z6,dJ,dM,FU]
 refine .inr ⟨rfl,?_⟩;refine qx ?_
 simp only[qi,ah,zD,aC,zw,zA,aB,aH,zk,au,qb,zg,zf,zJ,zU,zR,z6,dJ,dM,UX]
 refine .inr ⟨by simpa using by omega,?_⟩
 refine qx ?_
 simp only[qi,ah,zD,qf,zO,zq,zu,zy,zE,zk,zH,au,qb,ai,bW,cM,z9,bq,List.length_nil,cK,cF,cq,zR,z6,dJ,dM,zsQ,wn C8,V.laid]
 refine qx ?_
 simp only[qi,ah,zD,zl,au,qb,z9,bq,List.length_nil,cK,Nat.reduceAdd,cF,cq,dJ,dM,z32,jQ hz,V.cells]
 refine qx ?_
 simp only[qi,ah,zx,zw,qc,aB,aH,zk,au,qb,bC,bG,zR,z6,dJ,dM,WL,znp]
 generalize Hg:Hp.mk [br.cells zF 30,br.cells [V.aJ,V.aJ,V.aJ] 113,br.cells zF 30] []=H0;have m8:BI H0 [] [] m0:=by
  subst Hg;exact⟨rfl,rfl,⟨none,.aJ,rfl,⟨rfl,rfl⟩,λj hj=>by cases hj⟩,by simp⟩
 refine Iq (λenv=>EB nl l k env/\nth env 33=some (.int .i64 ((0:Nat):Int))) ⟨⟨rfl,rfl,rfl,rfl,rfl,rfl,rfl,rfl⟩,rfl⟩ λenv he=>?_
 refine vo (λj s=>∃r env H m F,j+r=l.length/\s=⟨env,H,[],[]⟩/\EB nl l k env/\nth env 33=some (.int .i64 ((r:Nat):Int))/\BI H (F.map kB) [] m/\m.Ok/\F.length=r/\∃F',q5 k r ((l.drop r).map dX) m=(F',MT)/\F++F'=FT) l.length (by omega) ⟨0,env,H0,m0,[],rfl,rfl,he.1,he.2,m8,⟨rfl,rfl⟩,rfl,FT,hT,rfl⟩ ?_
 clear he m8 Hg env H0;rintro j s ⟨r,env,H,m,F,hjr,rfl,he,Eb,hb,dP,hFr,F',hR,hF⟩;have hlen:=he.len;simp only[zD];refine qx ?_
 simp only[qi,ah,zD,aC,zx,zA,aB,zk,au,qb,zg,zf,zJ,zU,aU,zb,Nat.reduceLT,aU,he.E4,Eb,hlen,vU]
 by_cases hr:r<l.length
 ·refine .inl ⟨by simpa using hr,?_⟩
  obtain⟨c,hc⟩:∃c,l[r]?=some c:=⟨_,mq hr⟩;have iL:c∈l:=nF hc;have gC:l.drop r=c::l.drop (r+1):=by
   obtain⟨h1,h2⟩:=eE.1 hc;rw[List.drop_eq_getElem_cons h1,h2]
  rw[gC] at hR;simp only[bW,q5,bS] at hR;obtain⟨hF',hR⟩:=hR;have ach:fH (V.agg (q_ (.mk 0 0 0 0 0 0 [] 0 0 true [],false,.mk 0 0 0 0 0 0 [] 0 0 true [])))=true:=rfl;refine qx ?_
  simp only[qi,ah,zD,zw,zI,zl,zh,zq,zc,Nat.reduceEqDiff,aB,zu,zt,zy,zk,zH,au,qb,zg,zp,zS,qh,bC,bG,qM,aU,zb,ee,Nat.reduceLT,aU,bZ,he.E3,Eb,hlen,WL,znq hc,zqY,z47,jQ ach,V.cells]
  rw[zpx (t:=55) NG wA (PN c) (zqW c) (zj7 c) (PN _) (zqX _)];obtain⟨b1,k1,g1,n1⟩:=WU hb (q_ (.mk 0 0 0 0 0 0 [] 0 0 true [],false,.mk 0 0 0 0 0 0 [] 0 0 true [])) (q_ c) 55 55;obtain⟨K,hK⟩:∃K,K=H.aj.length:=⟨_,rfl⟩;have hK3:3<=K:=by rw[hK];exact hb.len
  rw[<- hK] at b1 k1 g1 n1 ⊢;generalize hH1:(H.push (br.cells (q_ (.mk 0 0 0 0 0 0 [] 0 0 true [],false,.mk 0 0 0 0 0 0 [] 0 0 true [])) 55)).set K (br.cells (q_ c) 55)=H1 at b1 k1 g1 n1 ⊢;simp only[az,qb]
  refine Iq (λenv=>EB nl l k env/\nth env 33=some (.int .i64 ((r:Nat):Int))/\nth env 8=some (.int .i64 ((r:Nat):Int))/\nth env 9=some (.ptr K 0)) ⟨⟨by simp[hlen],by simp[zb,he.e2],by simp[zb,he.e3],by simp[zb,he.e4],by simp[zb,he.e6],by simp[zb,he.e7],by simp[zb,he.E3],by simp[zb,he.E4]⟩,by simp[zb,Eb],by simp[zb,hlen],by simp[zb,hlen]⟩ λenv Cz=>?_
  clear he Eb hlen;obtain⟨he,Eb,e8,e9⟩:=Cz;have hlen:=he.len;obtain⟨l1,l2,l3⟩:=ldC (g:=gl.g) g1;have Tt:fH (V.agg (bQ (.mk 0 0 0 0 0 0 [] 0 0 true [])))=true:=rfl;refine qx ?_
  simp only[qi,ah,zD,zI,zl,zh,za,Nat.reduceEqDiff,aB,zu,zy,zk,au,qb,zp,zS,bC,bG,ze,qa,cL,aU,zb,ee,Nat.reduceLT,aU,bZ,e9,hlen,Hr,l1,z45,jQ Tt,V.cells]
  rw[zpx (t:=53) uP wA (jS _) (xC _) (yJ _) (jS _) (zcu _)];obtain⟨b2,k2,g2,n2⟩:=WU b1 (bQ (.mk 0 0 0 0 0 0 [] 0 0 true [])) (bQ c.1) 53 53;generalize Hh:(H1.push (br.cells (bQ (.mk 0 0 0 0 0 0 [] 0 0 true [])) 53)).set H1.aj.length (br.cells (bQ c.1) 53)=H2 at b2 k2 g2 n2 ⊢;have g12:=k2 _ _ _ (by omega) g1
  rw[n1] at g2 n2 ⊢;simp only[az,qb]
  obtain⟨l1,l2,l3⟩:=ldC (g:=gl.g) g12;refine qx ?_
  simp only[qi,ah,zD,aC,zI,za,Nat.reduceEqDiff,aB,zk,au,qb,zf,zS,bC,bG,ze,qa,cK,zJ,zU,aU,zb,ee,Nat.reduceLT,aU,bZ,e9,hlen,NJ,l2]
  have Tu:(V.agg (bQ (.mk 0 0 0 0 0 0 [] 0 0 true []))).cells.length=10:=rfl;rcases Pz:c.2.1 with _|_
  refine .inr ⟨rfl,?_⟩;have s_:dX c=c.1:=by simp[dX,Pz]
  rw[<- s_] at g2
  refine Pt (λs=>∃env H3,s=⟨env,H3,[],[]⟩/\EB nl l k env/\nth env 33=some (.int .i64 ((r:Nat):Int))/\nth env 8=some (.int .i64 ((r:Nat):Int))/\nth env 10=some (.ptr (K+1) 0)/\BI H3 (F.map kB) [] m/\H3.get (K+1)=some (.cells (bQ (dX c)) 53)) ⟨_,_,rfl,⟨by simp[hlen],by simp[zb,he.e2],by simp[zb,he.e3],by simp[zb,he.e4],by simp[zb,he.e6],by simp[zb,he.e7],by simp[zb,he.E3],by simp[zb,he.E4]⟩,by simp[zb,Eb],by simp[zb,e8],by simp[zb,hlen],b2,g2⟩ ?_
  rotate_left
  refine .inl ⟨rfl,?_⟩;have s_:dX c=.mk 5 0 0 0 0 0 [] 0 0 false [c.1,c.2.2]:=by simp[dX,Pz]
  refine qx ?_
  simp only[qi,zI,za,Nat.reduceEqDiff,aB,zk,au,qb,zp,zS,bC,bG,ze,qa,cK,cL,aU,zb,ee,Nat.reduceLT,aU,bZ,e9,hlen,Hr,NK,l1,l3]
  rw[zqG (v:=.agg (bQ c.1)) (u:=.agg (bQ c.2.2)) Wz uP z45 (by decide) Tu Tt (by simp[aB,zb,hlen,aT]) (by simp[aB,zb,hlen,aT]) rfl rfl (jS _) (jS _)]
  simp only[qi,zO,au,qb]
  rw[zsU (h:=c.1) (t:=c.2.2) (by simp[aB,zb,hlen,aT])]
  simp only[qi,ah,zD,zh,Nat.reduceEqDiff,aB,zu,zy,zk,au,qb,zS,aU,zb,ee,Nat.reduceLT,aU,bZ,hlen]
  rw[zpx (t:=53) uP g2 (jS _) (xC _) (yJ _) (jS _) (zcu _)];obtain⟨b3,k3,g3,n3⟩:=zf5 b2 (v:=bQ (.mk 5 0 0 0 0 0 [] 0 0 false [c.1,c.2.2])) g2 (by omega)
  simp only[az,qb]
  rw[<- s_] at g3 b3 ⊢
  refine Pt (λs=>∃env H3,s=⟨env,H3,[],[]⟩/\EB nl l k env/\nth env 33=some (.int .i64 ((r:Nat):Int))/\nth env 8=some (.int .i64 ((r:Nat):Int))/\nth env 10=some (.ptr (K+1) 0)/\BI H3 (F.map kB) [] m/\H3.get (K+1)=some (.cells (bQ (dX c)) 53)) ⟨_,_,rfl,⟨by simp[hlen],by simp[zb,he.e2],by simp[zb,he.e3],by simp[zb,he.e4],by simp[zb,he.e6],by simp[zb,he.e7],by simp[zb,he.E3],by simp[zb,he.E4]⟩,by simp[zb,Eb],by simp[zb,e8],by simp[zb,hlen],b3,g3⟩ ?_
  all_goals
   rintro s ⟨env,H3,rfl,he,Eb,e8,ID,b3,g3⟩;have hlen:=he.len;obtain⟨i3,k3⟩:=b3.Bm;obtain⟨P,M1,hP⟩:∃P M1,gF (r:Int) (dX c) m=(P,M1):=⟨_,_,rfl⟩;have hMs:M1.bw.length<=1200:=by
    have h1:=zeu (n:=k) (r:=r+1) (es:=(l.drop (r+1)).map dX) (m:=(j9 k r (dX c) m).2);rw[hR,WK,hP] at h1;exact cZ h1 hM
   obtain⟨aqj,aci⟩:=hw c iL;obtain⟨H4,i4,c4,k4,n4,f4,ok4,p4⟩:=zpm hg (n:=n - 1) k3 (ga _) hP dP hMs (by omega) aci
   rw[show n - 1+1=n by omega,wv] at c4
   have Td:Cx.dZ ⟨prog,gl.g,qt prog gl n,gE⟩ 55 _ H3=_:=ji func55 rfl c4;have kc4:Kc H3 H4:=by obtain⟨_,_,u,_⟩:=k3;exact zpv u f4
   have b4:=b3.made kc4 f4.len k4;refine qx ?_
   simp only[qi,ah,zD,zw,zI,zl,zh,zW,Nat.reduceEqDiff,aL,qd,aB,zu,zy,zk,au,qb,zg,zp,zS,bC,bG,zi,qp,bW,cM,aU,zb,ee,Nat.reduceLT,aU,bZ,he.e6,ID,e8,hlen,zpy Da uP g3 (jS _),Td,Ns,jQ (show fH (V.agg (ql ⟨false,cI,cI⟩))=true from rfl),V.cells]
   rw[WA wA];obtain⟨b5,k5,g5,n5⟩:=WU b4 (ql ⟨false,cI,cI⟩) (ql P) 117 117;obtain⟨K4,hK4⟩:∃K4,K4=H4.aj.length:=⟨_,rfl⟩;have aql:3<=K4:=by rw[hK4];exact b4.len
   rw[<- hK4] at b5 k5 g5 n5 ⊢;generalize PL:(H4.push (br.cells (ql ⟨false,cI,cI⟩) 117)).set K4 (br.cells (ql P) 117)=H5 at b5 k5 g5 n5 ⊢;simp only[az,qb]
   refine qx ?_
   simp only[qi,ah,zD,zl,au,qb,z60,jQ (show fH (V.agg (pv 19 cI))=true from rfl),V.cells,n5]
   refine Iq (λenv=>EB nl l k env/\nth env 33=some (.int .i64 ((r:Nat):Int))/\nth env 8=some (.int .i64 ((r:Nat):Int))/\nth env 11=some (.ptr K4 0)/\nth env 12=some (.ptr (K4+1) 0)) ⟨⟨by simp[hlen],by simp[zb,he.e2],by simp[zb,he.e3],by simp[zb,he.e4],by simp[zb,he.e6],by simp[zb,he.e7],by simp[zb,he.E3],by simp[zb,he.E4]⟩,by simp[zb,Eb],by simp[zb,e8],by simp[zb,hlen],by simp[zb,hlen]⟩ λenv Cz=>?_
   obtain⟨he,Eb,e8,Di,e12⟩:=Cz;have hlen:=he.len;have b6:=b5.push (.cells (pv 19 cI) 115);have g6:=(zq1 (H:=H5) (.cells (pv 19 cI) 115)) K4 _ _ (by omega) g5
   have g6b:(H5.push (.cells (pv 19 cI) 115)).get (K4+1)=some (.cells (pv 19 cI) 115):=by rw[<- n5];exact wA
   generalize hH6:H5.push (br.cells (pv 19 cI) 115)=H6 at b6 g6 g6b ⊢;obtain⟨bs6,IE⟩:=H6;have rA:k+r<1216:=by omega
   have c7:=zl7 hg (n:=n - 1) (bs:=bs6) (es:=IE) (b:=K4+1) (off:=0) (pre:=[]) (post:=[]) (p:=cI) (ty:=115) (k:=k+r) (by rw[cq,oZ];exact g6b) rfl rA
   rw[show n - 1+1=n by omega,cq,oZ] at c7
   have Lq:Cx.dZ ⟨prog,gl.g,qt prog gl n,gE⟩ 56 _ ⟨bs6,IE⟩=_:=ji func56 rfl c7;obtain⟨b7,k7,WZ,n7⟩:=zf5 b6 (v:=pv 19 (jz cI (k+r))) g6b (by omega)
   have g7:=k7 _ _ (by omega) g6
   simp only[Hp.set] at b7 k7 WZ n7 g7;have oD:∀u w,jY prog .add 3 u w (some (.int .i64 (k:Int))) (some (.int .i64 (r:Int)))=some (.int .i64 ((k+r:Nat):Int)):=λu w=>V_ (by omega)
   refine qx ?_
   simp only[qi,ah,zD,zw,zA,zW,Nat.reduceEqDiff,aL,qd,aB,zk,au,qb,zg,zS,zi,qp,bW,cM,aU,zb,ee,Nat.reduceLT,aU,bZ,e12,he.e4,e8,hlen,oD,Lq]
   generalize aqm:bs6.set (K4+1) (br.cells (pv 19 (jz cI (k+r))) 115)=PU at b7 k7 WZ n7 g7 ⊢;obtain⟨i7,cu,u1,u2,u3⟩:=b7.Bm
   have c8:=zbq hg (n:=n - 1) (by omega) (es:=IE) (bm:=1) (bl:=K4) (ol:=20) (bf:=K4+1) (ob:=0) (ns:=M1.next) (p:=P.last) (q:=jz cI (k+r)) (pre:=.bool P.null::pv 19 P.first) (post:=[]) (pre':=[]) (post':=[]) (ty:=117) (ty':=115) u1 u2 (by rw[<- S6];exact g7) (by simp[kw]) (by rw[cq,oZ];exact WZ) rfl p4.2
   rw[show n - 1+1=n by omega] at c8
   have hc8:Cx.dZ ⟨prog,gl.g,qt prog gl n,gE⟩ 57 _ ⟨PU,IE⟩=_:=ji func57 rfl c8;have DL:(j9 k r (dX c) m).2={ M1 with next:=iF (jz cI (k+r)) (jo P.last 19) M1.next }:=by simp only[j9,hP]
   have KZ:(j9 k r (dX c) m).1=jo (if P.null then jn P.first (jz cI (k+r)) else P.first) 19:=by simp only[j9,hP]
   have kc8:Kc ⟨PU,IE⟩ ⟨eW PU i7 (iF (jz cI (k+r)) (jo P.last 19) M1.next),IE⟩:=zpv u2 zf1
   have b8:=b7.made kc8 (by show PU.length<=(eW PU i7 _).length;rw[xA];exact ek _) (MK.eW (es:=IE) ⟨cu,u1,u2,u3⟩ wb)
   rw[<- DL] at b8;have g8:=kc8 _ _ _ (by omega) g7
   have g8b:=kc8 _ _ _ (by omega) WZ
   have ok8:(j9 k r (dX c) m).2.Ok:=by rw[DL];exact⟨ok4.r,by simp only[wb];exact ok4.n⟩
   refine qx ?_
   simp only[qi,ah,zD,zw,za,zW,Nat.reduceEqDiff,aL,qd,aB,zk,au,qb,zS,bC,ze,qa,zi,qp,bW,cM,cK,aU,zb,ee,Nat.reduceLT,aU,bZ,he.e6,Di,e12,hlen,oV,hc8]
   generalize aqo:eW PU i7 (iF (jz cI (k+r)) (jo P.last 19) M1.next)=bs8 at b8 g8 g8b ⊢
   have hl8:qJ prog ⟨bs8,IE⟩ gl.g 4 (.ptr K4 0)=some (.bool P.null):=jy PD g8 rfl;refine qx ?_
   simp only[qi,ah,aC,zI,za,Nat.reduceEqDiff,aB,zk,au,qb,zf,zS,bC,bG,ze,qa,cL,zJ,zU,aU,zb,ee,Nat.reduceLT,aU,bZ,Di,hlen,iG,hl8]
   rcases hpn:P.null with _|_
   refine .inr ⟨rfl,?_⟩
   refine Pt (λs=>∃env H9,s=⟨env,H9,[],[]⟩/\EB nl l k env/\nth env 33=some (.int .i64 ((r:Nat):Int))/\nth env 11=some (.ptr K4 0)/\BI H9 (F.map kB) [] (j9 k r (dX c) m).2/\∃fp,(j9 k r (dX c) m).1=jo fp 19/\H9.get K4=some (.cells (ql ⟨P.null,fp,P.last⟩) 117)) ⟨_,_,rfl,⟨by simp[hlen],by simp[zb,he.e2],by simp[zb,he.e3],by simp[zb,he.e4],by simp[zb,he.e6],by simp[zb,he.e7],by simp[zb,he.E3],by simp[zb,he.E4]⟩,by simp[zb,Eb],by simp[zb,Di],b8,P.first,by rw[KZ,hpn];rfl,g8⟩ ?_
   rotate_left
   refine .inl ⟨rfl,?_⟩;have c9:=zfZ hg (n:=n - 1) (by omega) (bs:=bs8) (es:=IE) (b:=K4) (off:=1) (b':=K4+1) (off':=0) (pre:=[.bool P.null]) (post:=pv 19 P.last) (pre':=[]) (post':=[]) (p:=P.first) (q:=jz cI (k+r)) (ty:=117) (ty':=115) (by rw[<- PF];exact g8) rfl (by rw[cq,oZ];exact g8b) rfl (by omega)
   rw[show n - 1+1=n by omega] at c9
   have hc9:Cx.dZ ⟨prog,gl.g,qt prog gl n,gE⟩ 58 _ ⟨bs8,IE⟩=_:=ji func58 rfl c9;obtain⟨b9,k9,g9,n9⟩:=zf5 b8 (v:=ql ⟨P.null,jn P.first (jz cI (k+r)),P.last⟩) g8 (by omega)
   simp only[Hp.set] at b9 g9;refine qx ?_
   simp only[qi,ah,za,zW,Nat.reduceEqDiff,aL,qd,aB,zk,au,qb,zS,bC,ze,qa,zi,qp,bW,cM,cK,cF,cq,aU,zb,ee,Nat.reduceLT,aU,bZ,Di,e12,hlen,oU,hc9]
   refine Pt (λs=>∃env H9,s=⟨env,H9,[],[]⟩/\EB nl l k env/\nth env 33=some (.int .i64 ((r:Nat):Int))/\nth env 11=some (.ptr K4 0)/\BI H9 (F.map kB) [] (j9 k r (dX c) m).2/\∃fp,(j9 k r (dX c) m).1=jo fp 19/\H9.get K4=some (.cells (ql ⟨P.null,fp,P.last⟩) 117)) ⟨_,_,rfl,⟨by simp[hlen],by simp[zb,he.e2],by simp[zb,he.e3],by simp[zb,he.e4],by simp[zb,he.e6],by simp[zb,he.e7],by simp[zb,he.E3],by simp[zb,he.E4]⟩,by simp[zb,Eb],by simp[zb,Di],b9,jn P.first (jz cI (k+r)),by rw[KZ,hpn];rfl,g9⟩ ?_
   all_goals
    rintro s ⟨env,H9,rfl,he,Eb,Di,b9,fp,hfp,g9⟩;have hlen:=he.len;obtain⟨bF,W0⟩:∃bF,bF=fC (F.map kB) []:=⟨_,rfl⟩;have f9:=b9.f;rw[<- W0] at f9;have AW:∀env,BY prog 28 env H9 [] [] (some (.ptr 2 2))=some (.val (qu 1 27 (F.map kB)),⟨env,H9.set 2 (.cells (bF.set 2 (uL 1 (F.map kB))) 30),uM 2 2 (F.map kB),[]⟩):=λenv=>zfX Hq f9 (by rw[W0];rfl)
    obtain⟨HL,Lw⟩:∃HL,HL=H9.set 2 (.cells (bF.set 2 (uL 1 (F.map kB))) 30):=⟨_,rfl⟩;rw[<- Lw] at AW;obtain⟨LK,hLK⟩:∃LK,LK=uM 2 2 (F.map kB):=⟨_,rfl⟩;rw[<- hLK] at AW;have gL:HL.get K4=some (.cells (ql ⟨P.null,fp,P.last⟩) 117):=by rw[Lw,ju (by omega)];exact g9
    have gL2:HL.get 2=some (.cells (bF.set 2 (uL 1 (F.map kB))) 30):=by rw[Lw,w8 f9]
    have eN:aT (qu 1 3 (Ad fp 19))=kB (j9 k r (dX c) m).1:=by rw[hfp,Nb];rfl
    have PS:∀H,H.get K4=some (.cells (ql ⟨P.null,fp,P.last⟩) 117)->Cx.dZ ⟨prog,gl.g,qt prog gl n,gE⟩ 59 [.ptr K4 1] H=some (.val (kB (j9 k r (dX c) m).1),H):=λH hH=>by
     have h:=zjX hg (n:=n - 1) (by omega) (H:=H) (b:=K4) (off:=1) (pre:=[.bool P.null]) (post:=pv 19 P.last) (p:=fp) (ty:=117) (by rw[<- PF ⟨P.null,fp,P.last⟩];exact hH) rfl
     rw[show n - 1+1=n by omega,eN] at h
     exact ji func59 rfl h
    obtain⟨row,W4⟩:∃row,row=kB (j9 k r (dX c) m).1:=⟨_,rfl⟩;rw[<- W4] at PS;have J3:aT row=row:=by rw[W4];exact zN
    have hrk:fH row=true/\row.cells.length=1/\row.top=0:=by
     rw[W4];have:aI ((j9 k r (dX c) m).1.map Hj)=0:=wP (λ_=>rfl) _;unfold kB;cases h:(j9 k r (dX c) m).1.map Hj with
     | nil=>exact⟨rfl,rfl,rfl⟩
     | cons x xs =>
      rw[h] at this;exact⟨rfl,rfl,this⟩
    have AT:=NI.JI (v:=row) hrk.1 hrk.2.1;have lU:∀H,kG prog H 28 (qu 1 27 (F.map kB)) (.sl 1 [row] .no)=some (qu 1 27 (F.map kB++[row])):=λH=>vu NI (by simp) (eP (by rw[eF];simp;omega) (by rw[eF];simp;omega))
    have eM:∀env,kI prog 28 HL LK [] (some (qu 1 27 (F.map kB++[row]),env)) (some (.ptr 2 2))=some (.skip,⟨env,HL.set 2 (.cells (bF.set 2 (qu 1 27 (F.map kB++[row]))) 30),LK,[]⟩):=λenv=>by
     have lz:2<bF.length:=by rw[W0];simp[fC]
     have uz:(qu 1 27 (F.map kB++[row])).top=0:=SN (ko (wP (λx=>by
      unfold kB;rw[dx]
      exact SN (wP (λ_=>rfl) _)) _) (by simp[aI,hrk.2.2]))
     rw[jt NI.st gL2 zid (by rw[Px];rfl) (by rw[ee];omega) (by rw[hLK];exact zfY lz),vY (by rw[uz];omega)]
     simp only[Px,Vm.storeCells,List.set_set]
    refine zjH (tk:=[64]) (by kernel_rfl) ?_
    apply Exists.intro;apply And.intro
    refine yk (m:=0) (v:=.ptr 2 2) (by kernel_rfl) rfl (by simp only[za,aB,zk,zS,bC,ze,qa,cK,he.e7,A3];rfl) (by kernel_rfl) (by kernel_rfl) (by kernel_rfl) ?_
    dsimp only[qb]
    refine zdW (m:=1) (v:=qu 1 27 (F.map kB)) (cs':=[⟨2,HL,LK,[]⟩,⟨0,H9,[],[]⟩]) (by kernel_rfl) rfl (by simp only[zB,aB,zS,aU,zb,Nat.reduceLT,aU,hlen,AW];rfl) (by kernel_rfl) (by kernel_rfl) (by kernel_rfl) (λK=>?_) ?_
    rotate_left
    dsimp only[qb]
    refine yk (m:=0) (v:=.ptr K4 1) (by kernel_rfl) rfl (by simp only[za,Nat.reduceEqDiff,aB,zk,zS,bC,ze,qa,cK,aU,zb,ee,Nat.reduceLT,aU,bZ,Di,hlen,oU];rfl) (by kernel_rfl) (by kernel_rfl) (by kernel_rfl) ?_
    dsimp only[qb]
    refine zdW (m:=4) (v:=row) (cs':=[⟨10,HL,LK,[]⟩,⟨8,H9,[],[]⟩,⟨2,HL,LK,[]⟩,⟨0,H9,[],[]⟩]) (by kernel_rfl) rfl (by simp only[zW,Nat.reduceEqDiff,aL,qd,aB,zS,zi,qp,bW,cM,aU,zb,ee,Nat.reduceLT,aU,bZ,hlen,PS HL gL];rfl) (by kernel_rfl) (by kernel_rfl) (by kernel_rfl) (λK=>?_) ?_
    rotate_left
    dsimp only[qb]
    refine yk (m:=12) (v:=.sl 1 [row] (.yes 27)) (by kernel_rfl) rfl (by simp only[zX,Nat.reduceEqDiff,aB,zk,aU,zb,ee,Nat.reduceLT,aU,bZ,hlen,J3,AT];rfl) (by kernel_rfl) (by kernel_rfl) (by kernel_rfl) ?_
    dsimp only[qb]
    refine VZ (m:=31) (v:=qu 1 27 (F.map kB++[row])) (by kernel_rfl) rfl (by simp only[Nat.reduceEqDiff,aB,zu,zG,zK,bC,aU,zb,ee,Nat.reduceLT,aU,bZ,hlen,Fz,lU,vC (cx:=⟨prog,gl.g,qt prog gl n,gE⟩) (show sS prog gE 28=false by kernel_rfl)];rfl) (by kernel_rfl) (by kernel_rfl) (by kernel_rfl) (by kernel_rfl) ?_
    dsimp only[qb]
    refine yk (m:=63) (v:=.ptr 2 2) (by kernel_rfl) rfl (by simp only[za,Nat.reduceEqDiff,aB,zk,zS,bC,ze,qa,cK,aU,zb,ee,Nat.reduceLT,aU,bZ,he.e7,hlen,A3];rfl) (by kernel_rfl) (by kernel_rfl) (by kernel_rfl) ?_
    dsimp only[qb]
    refine zkY (m:=127) (cs':=[⟨138,HL.set 2 (.cells (bF.set 2 (qu 1 27 (F.map kB++[row]))) 30),LK,[]⟩,⟨10,HL,LK,[]⟩,⟨8,H9,[],[]⟩,⟨2,HL,LK,[]⟩,⟨0,H9,[],[]⟩]) (by kernel_rfl) rfl (by simp only[zh,Nat.reduceEqDiff,aB,zu,zG,zS,aU,zb,ee,Nat.reduceLT,aU,bZ,hlen,eM];rfl) (by kernel_rfl) (by kernel_rfl) (λK=>?_) zjI
    ·refine zcs ?_ ?_ ?_ ?_
     ·kernel_rfl
     ·rfl
     ·intro c hc;simp only[dh,List.not_mem_nil,or_false] at hc;rcases hc with rfl|rfl|rfl<;>kernel_rfl
     ·kernel_rfl
    rotate_left
    ·refine zcs ?_ ?_ ?_ ?_
     ·kernel_rfl
     ·rfl
     ·intro c hc;simp at hc
     ·kernel_rfl
    ·refine zkZ (e:=⟨0,HL,LK,[]⟩) ?_ ?_ ?_ ?_ ?_ ?_ ?_ ?_ ?_ ?_ ?_ ?_ ?_ ?_
     ·kernel_rfl
     ·rfl
     ·rfl
     ·rfl
     ·rfl
     ·rfl
     ·rfl
     ·kernel_rfl
     rotate_left
     ·kernel_rfl
     ·kernel_rfl
     rotate_left
     ·kernel_rfl
     ·exact m_
     ·simp only[Cx.dO,yS]
      simp only[zW,Nat.reduceEqDiff,aL,qd,aB,zS,zi,qp,bW,cM,cK,Nat.reduceAdd,aU,zb,ee,Nat.reduceLT,aU,bZ,hlen,PS H9 g9]
      rfl
     ·simp only[Cx.dO,yS]
      simp only[zB,aB,zS,aU,zb,Nat.reduceLT,aU,hlen,AW]
    simp only[qb];simp only[qm]
    refine qx ?_
    simp only[qi,ah,zw,zA,Nat.reduceEqDiff,aB,aH,zk,au,qb,zg,aU,zb,ee,Nat.reduceLT,aU,bZ,Eb,hlen,vj (show r<2 ^ 60 by omega)]
    simp only[jc,bT]
    refine⟨j - 1,by omega,r+1,_,_,(j9 k r (dX c) m).2,F++[(j9 k r (dX c) m).1],by omega,rfl,⟨by simp[hlen],by simp[zb,he.e2],by simp[zb,he.e3],by simp[zb,he.e4],by simp[zb,he.e6],by simp[zb,he.e7],by simp[zb,he.E3],by simp[zb,he.E4]⟩,by simp[zb,hlen],?_,ok8,by simp[hFr],_,Prod.ext rfl hR,?_⟩
    ·rw[Lw,zf4];have:=b9.Tm (F':=(F++[(j9 k r (dX c) m).1]).map kB) (N':=[]);rw[W0,W4];simpa[fC] using this
    ·rw[<- hF,<- hF',b_];rfl
 ·obtain rfl:r=l.length:=by omega
  refine .inr ⟨by simp,?_⟩
  rw[List.drop_length] at hR;simp only[cM,q5,bS] at hR;obtain⟨rfl,rfl⟩:=hR;rw[oZ] at hF;subst hF;simp only[ky,jC];exact zq2 hg hn (nl:=nl) (l:=l) (k:=k) (F:=F) (m:=m) ⟨by simp[hlen],by simp[zb,he.e2],by simp[zb,he.e3],by simp[zb,he.e4],by simp[zb,he.e6],by simp[zb,he.e7],by simp[zb,he.E3],by simp[zb,he.E4]⟩ hb dP hM cG
end
end Go.Proofs.YthohlnmcjkjeiaaGreatDoor
