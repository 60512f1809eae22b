/- Seat 8, subset: newMaker, walked. Conditions: none but those named. -/
import Derived.Test.YthohlnmcjkjeiaaGreatDoorVmP
namespace Go.Proofs.YthohlnmcjkjeiaaGreatDoor
open Go Go.Vm
open Go.Proofs.Tryz
set_option maxRecDepth 100000
section
variable{gl:Gl}
def m4(f:A2.F)(xs cls:aD)(ld:V):aD:=A2.qv f.s::A2.iv f.r::A2.rv f.f::A2.rv f.n::zl 1 205 xs::(cls++[ld])
def vg(es:aN)(b:Nat)(v:V):aN:=if v.top<=b+1 then es else (b,v.top)::es
theorem gy{B:List aV}{es:aN}{b:Nat}{v:V}:Hp.bQ ⟨B,es⟩ b v=⟨B,vg es b v⟩:=by
 unfold Hp.bQ vg;split<;>rfl
section
variable{P:aQ}{t n:aB}{B:List aV}{off bm:Nat}{cs:aD}{ty e:aB}{xs ys:aD}{env:aD}{df:bO}{es:aN}
theorem RD(ha:qD P t=some false)(hb:nth B bm=some (.cells cs ty))(hn:nth cs off=some (zl n e xs)) :
  vW P t env ⟨B,es⟩ [] df (some (.ptr bm off))=some (.val (zl n e xs),⟨env,⟨B.set bm (.cells (cs.set off (oh n xs)) ty),es⟩,kD bm off xs,df⟩):=by
 rw[TM ha (show Hp.get ⟨B,es⟩ bm=_ from hb) hn];rfl
theorem UK(hs:z4 P t=some 1)(bR:bm<B.length)(ho:off<cs.length) :
  qr P t ⟨B.set bm (.cells (cs.set off (oh n xs)) ty),es⟩ (kD bm off xs) df (some (zl n e ys,env)) (some (.ptr bm off))=some (.skip,⟨env,⟨B.set bm (.cells (cs.set off (zl n e ys)) ty),vg es bm (zl n e ys)⟩,kD bm off xs,df⟩):=by
 rw[zy hs (show Hp.get ⟨_,es⟩ bm=some (.cells (cs.set off (oh n xs)) ty) by show nth _ _=_;simp[zg,bR]) PX (by rw[vt];rfl) (by rw[bD];omega) (PW ho)]
 simp only[Hp.set,List.set_set,vt,Vm.storeCells,gy]
end
theorem F7:qD prog 30=some true:=by kernel_rfl
theorem F8:z4 prog 30=some 4:=by kernel_rfl
theorem ML:zB prog 30 3=some 3:=by kernel_rfl
theorem CX:mN prog 201 205 1 24:=⟨by kernel_rfl,by kernel_rfl,by kernel_rfl,by decide,by kernel_rfl,by kernel_rfl,by kernel_rfl⟩
theorem zmD(f:A2.F):(A2.fc f).map aW=A2.fc f:=by
 simp[A2.fc,A2.ey,A2.bB,A2.bH]
theorem zpO{f:A2.F}{env:aD}(h:nth env 17=some (A2.fv f)):ky prog 204 #[(0,.tmp 17)] env=some (.agg (m4 f [] (List.replicate 256 (.int .i64 0)) .aG)):=by
 rw[zbw (bI:=List.replicate 17 .dW++[A2.fv f]) (xs:=[.tmp 17]) (λt ht=>?_) (by simp)]
 ·kernel_rfl
 ·have:t=17:=by simpa using ht
  subst this;rw[<- zg,h];rfl
theorem zop{f:A2.F}{a0 a1 a2 a3 a4 a5 a6 a7 a8 a9 a10 a11 a12 a13 a14 a15 a16:V}{r:aD}:ky prog 204 #[(0,.tmp 17)] (a0::a1::a2::a3::a4::a5::a6::a7::a8::a9::a10::a11::a12::a13::a14::a15::a16::A2.fv f::r)=some (.agg (m4 f [] (List.replicate 256 (.int .i64 0)) .aG)):=zpO rfl
theorem zoq{f:A2.F}:(m4 f [] (List.replicate 256 (.int .i64 0)) .aG).map aW=m4 f [] (List.replicate 256 (.int .i64 0)) .aG:=by
 simp only[m4,zl,aY,List.map_append,List.map_replicate,bp,A2.ey,A2.bB,A2.bH,di,zR]
def xx(r:A2.cE):Nat:=wT r.2 0
def eL(bs:List aV)(f:A2.F)(xs cls:aD)(ld:V)(rest:List aV):List aV:=bs++(.cells (A2.fc f) 30::.cells (m4 f xs cls ld) 204::rest)
def yN(m:Nat)(rows:List A2.cE):List aV:=rows.map λr=>.cells (dM m (xx r)) 5
def yP(m b k:Nat):aD:=(List.range k).map λj=>cG m (b+j)
section
variable{bs:List aV}{f:A2.F}{xs cls Ci RE:aD}{ld G4:V}{rest:List aV}{x:aV}{i:Nat}
theorem Ol:(eL bs f xs cls ld rest).length=bs.length+2+rest.length:=by simp[eL];omega
theorem F9:nth (eL bs f xs cls ld rest) bs.length=some (.cells (A2.fc f) 30):=by
 rw[eL,zg,fE (dI _)];simp
theorem Dy:nth (eL bs f xs cls ld rest) (bs.length+1)=some (.cells (m4 f xs cls ld) 204):=by
 rw[eL,zg,fE (by omega)];simp
theorem uF:nth (eL bs f xs cls ld rest) (bs.length+2+i)=nth rest i:=by
 rw[eL,zg,zg,fE (by omega),show bs.length+2+i - bs.length=i+1+1 by omega];simp
theorem Z0:(eL bs f xs cls ld rest).set (bs.length+1) (.cells (m4 f Ci RE G4) 204)=eL bs f Ci RE G4 rest:=by
 rw[eL,uM _ _ (by omega)];simp[eL]
theorem pG:eL bs f xs cls ld rest++[x]=eL bs f xs cls ld (rest++[x]):=by simp[eL]
theorem UM:(eL bs f xs cls ld rest).set (bs.length+2+i) x=eL bs f xs cls ld (rest.set i x):=by
 rw[eL,uM _ _ (by omega),show bs.length+2+i - bs.length=i+1+1 by omega];simp[eL]
end
theorem UN{rs:List aV}{x y:aV}{i:Nat}(h:rs.length=i):(rs++[x]).set i y=rs++[y]/\nth (rs++[x]) i=some x:=by
 subst h;constructor
 ·rw[uM _ _ (dI _)];simp
 ·rw[zg,fE (dI _)];simp
theorem Z1{env:aD}{t:Nat}{r:A2.cE}:qK env t (some (A2.iv r))=some (A2.iv r,env):=by
 rcases Sx.cH 1 r.1 (r.2.map A2.ie) with e|⟨_,e⟩<;>rw[A2.iv,e]<;>rfl
theorem zkL{m b k:Nat}:yP m b (k+1)=yP m b k++[cG m (b+k)]:=by simp[yP,List.range_succ]
theorem zkM{m k:Nat}{rows:List A2.cE}{r:A2.cE}(h:rows[k]?=some r):yN m (rows.take (k+1))=yN m (rows.take k)++[.cells (dM m (xx r)) 5]:=by
 rw[List.take_add_one,h];simp[yN]
def oW(ss:List A2.Q4)(y:Nat):Nat->Nat
 | 0=>0
 | k+1=>match ss[k]? with
  | some s=>if Ec s y then oW ss y k ||| 2 ^ k else oW ss y k
  | none=>oW ss y k
def fJ(w:Nat->Nat):Nat->bN×bN×bN
 | 0=>([],[],[])
 | y+1=>match ku (w y) 0 (fJ w y).1 with
  | some i=>((fJ w y).1,(fJ w y).2.1++[i],(fJ w y).2.2)
  | none=>((fJ w y).1++[w y],(fJ w y).2.1++[(fJ w y).1.length],(fJ w y).2.2++[y])
def xb(w:Nat->Nat)(y:Nat):aD:=(fJ w y).2.1.map (λi=>.int .i64 (i:Nat))++List.replicate (256 - y) (.int .i64 0)
def tW(w:Nat->Nat)(y:Nat):V:=zl 1 5 ((fJ w y).2.2.map λb=>.int .u8 (b:Nat))
theorem Om{w:Nat->Nat}:∀y,(fJ w y).2.1.length=y
 | 0=>rfl
 | y+1=>by
  simp only[fJ];split<;>simp[Om y]
theorem UO{w:Nat->Nat}{y:Nat}(h:y<=256):(xb w y).length=256:=by simp[xb,Om];omega
theorem zmE{ss:List A2.Q4}{y m:Nat}:∀k,k<=8 * m->oW ss y k<2 ^ (8 * m)
 | 0,_=>Nat.pow_pos (by decide)
 | k+1,h=>by
  have h0:=zmE (ss:=ss) (y:=y) (m:=m) k (by omega)
  simp only[oW];split
  ·split
   ·exact Jm h0 (Hf (by decide) (by omega))
   ·exact h0
  ·exact h0
theorem RF{rs js:List aV}{x y:aV}{i:Nat}(h:rs.length=i):(rs++(x::js)).set i y=rs++(y::js)/\nth (rs++(x::js)) i=some x:=by
 subst h;constructor
 ·rw[uM _ _ (dI _)];simp
 ·rw[zg,fE (dI _)];simp
theorem Z2{env:aD}{t b:Nat}:qK env t (some (.map b))=some (.map b,env):=rfl
theorem vy{b:Nat}:aW (.map b)=.map b:=rfl
theorem zhL{w:Nat->Nat}{y c:Nat}(h:y<256)(hc:(fJ w (y+1)).2.1=(fJ w y).2.1++[c]):(xb w y).set y (.int .i64 (c:Nat))=xb w (y+1):=by
 unfold xb;rw[hc,List.map_append,uM _ _ (by simp[Om]),show 256 - y=(256 - (y+1))+1 by omega,Hh]
 simp[Om]
theorem RG:prog.underlying 202=some (.array 256 3):=by kernel_rfl
theorem Z3{b y:Nat}(h:y<256):zt prog 202 (.ptr b 5) ((y:Nat):Int)=some (.ptr b (5+y)):=by
 simp only[zt,RG,tU];rw[if_pos (by omega),uP,Jp]
theorem zor{f:A2.F}{xs cls:aD}{ld v:V}{y:Nat}(h:y<cls.length):(m4 f xs cls ld).set (5+y) v=m4 f xs (cls.set y v) ld:=by
 rw[Jo 5 y];simp only[m4,bT];rw[Gp _ _ h]
theorem zjS{f:A2.F}{xs cls:aD}{ld:V}{y:Nat}(h:y<cls.length):(m4 f xs cls ld)[5+y]?=cls[y]?:=by
 rw[Jo 5 y];simp only[m4,List.getElem?_cons_succ];rw[gb h]
theorem zmG{w:Nat->Nat}{y i:Nat}(h:i<(xb w y).length):∃z,(xb w y)[i]?=some (.int .i64 z):=by
 have dF:∀v∈xb w y,∃z,v=.int .i64 z:=by
  intro v hv;unfold xb at hv;rcases rK.1 hv with hv|hv
  ·obtain⟨a,_,ha⟩:=mj.1 hv;exact⟨_,ha.symm⟩
  ·exact⟨0,(List.mem_replicate.1 hv).2⟩
 obtain⟨z,hz⟩:=dF _ (List.getElem_mem h);exact⟨z,by rw[gh h,hz]⟩
theorem zmH{f:A2.F}{xs cls:aD}{ld:V}(h:cls.length=256):nth (m4 f xs cls ld) 261=some ld:=by
 rw[zg,show 261=5+256 from rfl,Jo];simp only[m4,List.getElem?_cons_succ];rw[fE (by omega),h];rfl
theorem zmI{f:A2.F}{xs cls:aD}{ld v:V}(h:cls.length=256):(m4 f xs cls ld).set 261 v=m4 f xs cls v:=by
 rw[show 261=256+5 from rfl];simp only[m4,bT];rw[uM _ _ (by omega),h];rfl
theorem Z4:mN prog 78 5 1 1:=⟨by kernel_rfl,by kernel_rfl,by kernel_rfl,by decide,by kernel_rfl,by kernel_rfl,by kernel_rfl⟩
theorem Dz:qD prog 78=some false:=by kernel_rfl
theorem zcO{w:Nat->Nat}:∀y,(fJ w y).2.2.length<=y/\(fJ w y).1.length<=y
 | 0=>by simp[fJ]
 | y+1=>by
  have:=zcO (w:=w) y;simp only[fJ];split
  ·exact⟨KM this.1,KM this.2⟩
  ·simp only[aU,Jk];omega
theorem dA{l:aD}:aW (.bq l)=.bq l:=rfl
theorem RH:z4 prog 50=some 4:=by kernel_rfl
theorem Z5:qQ prog 50=some (.agg [.int .u64 0,.int .u64 0,.int .u64 0,.int .u64 0]):=by kernel_rfl
theorem Z6{y:Nat}(h:y<256):vz prog 3 5 (.int .i64 (y:Nat))=some (.int .u8 (y:Nat)):=by
 simp only[vz,u3',Zv,Option.bind_eq_bind,aT,P0 h]
theorem zb0(hg:GS gl){n m:Nat}{f:A2.F}(ov:f.s.2.length<2 ^ 30)(hnf:f.f.2.length<2 ^ 30)(hnn:f.n.2.length<2 ^ 30)(HO:m=(f.s.2.length+f.f.2.length) / 8+1)(hln:f.n.2.length<n+1)(AF:f.s.2.length<n+1)(hn:300<=n)
  (hr:∀row∈f.n.2,row.2.length<n+1/\row.2.length<2 ^ 60/\∀z∈row.2,0<=z/\z.toNat<f.s.2.length+f.f.2.length) (hs:∀q∈f.s.2,BX q) {bs:List aV} {es:aN} :
  ∃dW iD,zj prog gl (n+1+1) 73 [A2.fv f] ⟨bs,es⟩=some (.ret (.ptr (bs.length+1) 0),⟨eL bs f (yP m (bs.length+2) f.n.2.length) (xb (λy=>oW f.s.2 y f.s.2.length) 256) (tW (λy=>oW f.s.2 y f.s.2.length) 256) (yN m f.n.2++dW),iD⟩):=by
 suffices bL:(go ⟨prog,gl,zj prog gl (n+1),eA⟩ (n+1) (Fx prog f73.results.toList λw H1=>w=.ptr (bs.length+1) 0/\∃dW iD,H1=⟨eL bs f (yP m (bs.length+2) f.n.2.length) (xb (λy=>oW f.s.2 y f.s.2.length) 256) (tW (λy=>oW f.s.2 y f.s.2.length) 256) (yN m f.n.2++dW),iD⟩) [.c (f73.body.getD .skip)] .normal ⟨[A2.fv f]++List.replicate 112 (.bq []),⟨bs,[]⟩,[],[]⟩) by
  obtain⟨w,H1,h0,rfl,dW,iD,rfl⟩:=zQ (gl:=gl) (f:=73) (bs:=bs) (es:=es) (args:=[A2.fv f]) (n:=n+1) (hg.hk _ _ (by decide)) (λH=>hg.fG _ _ _ _ (by decide)) func73 rfl (by rw[hg.uq];exact bL)
  exact⟨dW,iD++es,by rw[h0,yK (by simp only[V.top];omega)]⟩
 have JL:dz (A2.fv f)=true:=rfl;have GF:∀env t,qK env t (some (A2.fv f))=some (A2.fv f,env):=λ_ _=>rfl;have m5:V.laid (A2.fv f)=A2.fc f:=zmD f;have Ab:aW (A2.fv f)=A2.fv f:=rfl;simp only[f73,fQ,zh];refine zi ?_
 simp only[BA,aj,aq,zc,zd,bS,bT,List.replicate,GF,z7 JL,m5];refine zi ?_;have UP:(⟨bs++[.cells (A2.fc f) 30],[]⟩:Hp).get bs.length=some (.cells (A2.fc f) 30):=by
  show nth _ _=_;rw[zg,fE (dI _)];simp
 have Ef:zk prog ⟨bs++[.cells (A2.fc f) 30],[]⟩ gl.g 30 (.ptr bs.length 0)=some (A2.fv f):=by
  rw[jW,UP,jv,qy,F7,F8];simp[wW,A2.fv,A2.fc]
 have Rd:∀env t,qK env t (some (.agg (m4 f [] (List.replicate 256 (.int .i64 0)) .aG)))=some (.agg (m4 f [] (List.replicate 256 (.int .i64 0)) .aG),env):=λ_ _=>rfl;have BO:V.laid (.agg (m4 f [] (List.replicate 256 (.int .i64 0)) .aG))=m4 f [] (List.replicate 256 (.int .i64 0)) .aG:=zoq;have De:dz (V.agg (m4 f [] (List.replicate 256 (.int .i64 0)) .aG))=true:=rfl
 have hmc:aW (V.agg (m4 f [] (List.replicate 256 (.int .i64 0)) .aG))=V.agg (m4 f [] (List.replicate 256 (.int .i64 0)) .aG):=rfl;simp only[BA,ak,aq,zc,zd,ze,bS,bT,Ef,Ab,zop,Rd,z7 De,BO]
 obtain⟨lU,F_⟩:∃c:aD,c=List.replicate 256 (.int .i64 0):=⟨_,rfl⟩;rw[<- F_];have apN:lU.length=256:=by rw[F_];simp
 have FI:bs++[aV.cells (A2.fc f) 30,.cells (m4 f [] lU .aG) 204]=eL bs f [] lU .aG []:=rfl;rw[FI];have lS:∀xs cls ld rest e,zk prog ⟨eL bs f xs cls ld rest,e⟩ gl.g 26 (.ptr bs.length 0)=some (A2.qv f.s):=λ_ _ _ _ _=>zq mY F9 rfl
 have lF:∀xs cls ld rest e,zk prog ⟨eL bs f xs cls ld rest,e⟩ gl.g 28 (.ptr bs.length 2)=some (A2.rv f.f):=λ_ _ _ _ _=>zq om F9 rfl;have lN:∀xs cls ld rest e,zk prog ⟨eL bs f xs cls ld rest,e⟩ gl.g 28 (.ptr bs.length 3)=some (A2.rv f.n):=λ_ _ _ _ _=>zq om F9 rfl;refine zi ?_
 simp only[BA,ak,aq,ah,zd,ze,bS,bT,lS,lF,mQ,Af,A2.ey,A2.bH,xK,Rk,xp (show f.s.2.length+f.f.2.length<2 ^ 60 by omega)]
 refine zi ?_;simp only[BA,ak,aj,aq,ah,zd,ze,bS,bT,lN,ML,A2.bH,Rk];have mZ:∀c,aW (cG m c)=cG m c:=λ_=>rfl;have e_:∀c env t,qK env t (some (cG m c))=some (cG m c,env):=λ_ _ _=>rfl
 refine qh (λk s=>∃i env e,k+i=f.n.2.length/\s=⟨env,⟨eL bs f (yP m (bs.length+2) i) lU .aG (yN m (f.n.2.take i)),e⟩,[],[]⟩/\env.length=113/\nth env 1=some (.ptr bs.length 0)/\nth env 3=some (.ptr (bs.length+1) 0)/\nth env 4=some (.int .i64 ((f.s.2.length+f.f.2.length:Nat):Int))/\nth env 28=some (A2.rv f.n)/\nth env 29=some (.int .i64 (f.n.2.length:Nat))/\nth env 30=some (.int .i64 (i:Nat))) f.n.2.length hln ⟨0,_,_,rfl,rfl,rfl,rfl,rfl,rfl,rfl,rfl,rfl⟩ ?_
 rintro k s ⟨i,env,e,hki,rfl,hlen,h1,h3,h4,On,G3,rV⟩;simp only[zh];refine zi ?_;simp only[BA,ak,aq,za,Nat.reduceLT,G3,rV,hlen,qU]
 by_cases hi:i<f.n.2.length
 ·refine .inl ⟨by simp;omega,?_⟩
  obtain⟨row,b_⟩:∃row,f.n.2[i]?=some row:=⟨_,gh hi⟩;obtain⟨so,GA,hz⟩:=hr row (m_ b_);refine zi ?_;simp only[BA,Nat.reduceEqDiff,ak,aq,aE,za,bD,Nat.reduceLT,bw,On,rV,hlen,A2.bH,A2.bB,UG b_,UH,Z1];refine zi ?_
  have JK:(yN m (f.n.2.take i)).length=i:=by simp[yN];omega
  obtain⟨bi,H_⟩:∃x,x=bs.length+2+i:=⟨_,rfl⟩;have uT:Cx.bC ⟨prog,gl.g,zj prog gl (n+1),eA⟩ 108 [.int .i64 ((f.s.2.length+f.f.2.length:Nat):Int)] ⟨eL bs f (yP m (bs.length+2) i) lU .aG (yN m (f.n.2.take i)),e⟩=some (.val (cG m bi),⟨eL bs f (yP m (bs.length+2) i) lU .aG (yN m (f.n.2.take i)++[.cells (dM m 0) 5]),e⟩):=by
   refine zu func108 rfl ?_;have:=xw hg (n:=n) (k:=f.s.2.length+f.f.2.length) (by omega) (bs:=eL bs f (yP m (bs.length+2) i) lU .aG (yN m (f.n.2.take i))) (es:=e)
   rw[<- HO,pG,Ol,JK,<- H_] at this;exact this
  simp only[BA,Nat.reduceEqDiff,av,ak,aq,aA,za,bD,Nat.reduceLT,bw,h4,hlen,uT,e_];refine zi ?_
  simp only[BA,Nat.reduceEqDiff,ak,aj,aq,za,bD,Nat.reduceLT,bw,hlen,A2.bB,ZT]
  have nY:∀q (z:Int),0<=z->z.toNat<f.s.2.length+f.f.2.length->Cx.bC ⟨prog,gl.g,zj prog gl (n+1),eA⟩ 109 [cG m bi,.int .i64 z] ⟨eL bs f (yP m (bs.length+2) i) lU .aG (yN m (f.n.2.take i)++[.cells (dM m q) 5]),e⟩=some (.val (.bq []),⟨eL bs f (yP m (bs.length+2) i) lU .aG (yN m (f.n.2.take i)++[.cells (dM m (q ||| 2 ^ z.toNat)) 5]),e⟩):=λq z h0 h1=>by
   refine zu func109 rfl ?_;rw[H_];have:=Zq hg (n:=n) (k:=z.toNat) (m:=m) (p:=q) (b:=bs.length+2+i) (by omega) (by omega) (bs:=eL bs f (yP m (bs.length+2) i) lU .aG (yN m (f.n.2.take i)++[.cells (dM m q) 5])) (es:=e) (by rw[uF];exact(UN (y:=.cells (dM m q) 5) JK).2)
   rw[show((z.toNat:Nat):Int)=z by omega,UM,(UN JK).1] at this
   exact this
  refine qh (λk2 s=>∃j env,k2+j=row.2.length/\s=⟨env,⟨eL bs f (yP m (bs.length+2) i) lU .aG (yN m (f.n.2.take i)++[.cells (dM m (wT (row.2.take j) 0)) 5]),e⟩,[],[]⟩/\env.length=113/\nth env 1=some (.ptr bs.length 0)/\nth env 3=some (.ptr (bs.length+1) 0)/\nth env 4=some (.int .i64 ((f.s.2.length+f.f.2.length:Nat):Int))/\nth env 28=some (A2.rv f.n)/\nth env 29=some (.int .i64 (f.n.2.length:Nat))/\nth env 30=some (.int .i64 (i:Nat))/\nth env 7=some (cG m bi)/\nth env 36=some (A2.iv row)/\nth env 37=some (.int .i64 (row.2.length:Nat))/\nth env 38=some (.int .i64 (j:Nat))) row.2.length so ?_ ?_
  ·refine⟨0,_,rfl,rfl,?_,?_,?_,?_,?_,?_,?_,?_,?_,?_,?_⟩<;>simp[za,hlen,h1,h3,h4,On,G3,rV]
  rintro k2 s ⟨j,bI,hkj,rfl,cJ,e1,e3,e4,Oo,Oq,Ga,e7,UQ,I7,I8⟩;simp only[zh];refine zi ?_;simp only[BA,ak,aq,za,Nat.reduceLT,I7,I8,cJ,qU]
  by_cases hj:j<row.2.length
  ·refine .inl ⟨by simp;omega,?_⟩
   obtain⟨z,MI⟩:∃z,row.2[j]?=some z:=⟨_,gh hj⟩;obtain⟨Ki,GM⟩:=hz z (m_ MI);have MJ:row.2.take (j+1)=row.2.take j++[z]:=by rw[List.take_add_one,MI];rfl
   have gG:=λq=>nY q z Ki GM;refine zi ?_;simp only[BA,Nat.reduceEqDiff,ak,aq,aE,za,bD,Nat.reduceLT,bw,UQ,I8,cJ,A2.bB,ZU MI,ZV];refine zi ?_
   simp only[BA,Nat.reduceEqDiff,av,ak,aq,aA,za,bD,Nat.reduceLT,bw,e7,cJ,mZ,gG];refine zi ?_
   simp only[BA,Nat.reduceEqDiff,ak,aj,aq,za,bD,Nat.reduceLT,bw,I8,cJ,qc (show j<2 ^ 60 by omega),zp,aM]
   rw[show wT (row.2.take j) 0 ||| 2 ^ z.toNat=wT (row.2.take (j+1)) 0 by rw[MJ,zd3]]
   refine⟨row.2.length - 1 - j,by omega,j+1,_,by omega,rfl,?_,?_,?_,?_,?_,?_,?_,?_,?_,?_,?_⟩
   all_goals simp[za,cJ,e1,e3,e4,Oo,Oq,Ga,e7,UQ,I7]
  ·refine .inr ⟨by simp;omega,?_⟩
   obtain rfl:j=row.2.length:=by omega
   simp only[ql,zN,zD,zp,bJ,iN,aF]
   rw[DF,show wT row.2 0=xx row from rfl,<- zkM b_];obtain⟨xs,oU⟩:∃xs,xs=yP m (bs.length+2) i:=⟨_,rfl⟩;obtain⟨rb,HZ⟩:∃rb,rb=yN m (f.n.2.take (i+1)):=⟨_,rfl⟩;have RJ:xs.length=i:=by rw[oU];simp[yP]
   rw[<- oU,<- HZ];have Rx:bs.length+1<(eL bs f xs lU .aG rb).length:=by rw[Ol];omega
   have mO:∀env,vW prog 201 env ⟨eL bs f xs lU .aG rb,e⟩ [] [] (some (.ptr (bs.length+1) 4))=some (.val (zl 1 205 xs),⟨env,⟨(eL bs f xs lU .aG rb).set (bs.length+1) (.cells ((m4 f xs lU .aG).set 4 (oh 1 xs)) 204),e⟩,kD (bs.length+1) 4 xs,[]⟩):=λenv=>RD iq Dy rfl;have lR:=CX.BQ (v:=cG m bi) rfl rfl
   have fz:∀H,j9 prog H 201 (zl 1 205 xs) (.sl 1 [cG m bi] .no)=some (zl 1 205 (xs++[cG m bi])):=λH=>jC CX (by simp) (dG (by simp[RJ];omega) (by simp[RJ];omega))
   have BB:∀env,qr prog 201 ⟨(eL bs f xs lU .aG rb).set (bs.length+1) (.cells ((m4 f xs lU .aG).set 4 (oh 1 xs)) 204),e⟩ (kD (bs.length+1) 4 xs) [] (some (zl 1 205 (xs++[cG m bi]),env)) (some (.ptr (bs.length+1) 4))=some (.skip,⟨env,⟨eL bs f (xs++[cG m bi]) lU .aG rb,vg e (bs.length+1) (zl 1 205 (xs++[cG m bi]))⟩,kD (bs.length+1) 4 xs,[]⟩):=λenv=>by
    rw[UK CX.st Rx (by simp[m4])]
    rw[show(m4 f xs lU .aG).set 4 (zl 1 205 (xs++[cG m bi]))=m4 f (xs++[cG m bi]) lU .aG from rfl,Z0]
   refine wo (tk:=[50]) (by kernel_rfl) ?_
   simp only[BA,Nat.reduceEqDiff,ak,aq,aa,ah,za,bD,Nat.reduceLT,bw,e3,e7,cJ,Du,mZ,mO,lR,xS,fz,BB,jV (cx:=⟨prog,gl.g,zj prog gl (n+1),eA⟩) (show pN prog eA 201=false by kernel_rfl)]
   have Db:xs++[cG m bi]=yP m (bs.length+2) (i+1):=by rw[zkL,oU,H_]
   rw[Db,HZ];refine zi ?_;simp only[BA,Nat.reduceEqDiff,ak,aj,aq,za,bD,Nat.reduceLT,bw,Ga,cJ,qc (show i<2 ^ 60 by omega),zp,aM]
   refine⟨f.n.2.length - 1 - i,by omega,i+1,_,_,by omega,rfl,?_,?_,?_,?_,?_,?_,?_⟩
   all_goals simp[za,cJ,e1,e3,e4,Oo,Oq]
 ·obtain rfl:i=f.n.2.length:=by omega
  refine .inr ⟨by simp,?_⟩
  simp only[ql,zN,zD,zp,bJ,zh,iN,aF]
  have HZ:f.n.2.take f.n.2.length=f.n.2:=DF;rw[HZ];obtain⟨X,hX⟩:∃X,X=yP m (bs.length+2) f.n.2.length:=⟨_,rfl⟩;obtain⟨R,hR⟩:∃R,R=yN m f.n.2:=⟨_,rfl⟩;obtain⟨mi,sG⟩:∃x,x=bs.length+2+R.length:=⟨_,rfl⟩;rw[<- hX,<- hR];obtain⟨w,hw⟩:∃w:Nat->Nat,w=λy=>oW f.s.2 y f.s.2.length:=⟨_,rfl⟩;have UR:∀y,w y<2 ^ (8 * m):=λy=>by rw[hw];exact zmE _ (by omega)
  have RK:∀y,∀x∈(fJ w y).1,x<2 ^ (8 * m):=by
   intro y
   induction y with
   | zero=>intro x hx;simp[fJ] at hx
   | succ y ih =>
    intro x hx;simp only[fJ] at hx;split at hx
    ·exact ih x hx
    ·rcases rK.1 hx with hx|hx
     ·exact ih x hx
     ·rw[oX.1 hx];exact UR y
  refine zi ?_;have RL:(eL bs f X lU .aG R).length=mi:=by rw[Ol,sG]
  simp only[BA,Nat.reduceEqDiff,aq,zc,za,bD,Nat.reduceLT,bw,hlen,zd4,RL,pG,Z2];refine zi ?_
  simp only[BA,ak,aj,aq];have RM:eL bs f X lU .aG (R++[.map []])=eL bs f X (xb w 0) (tW w 0) (R++(.map (vb m 0 (fJ w 0).1)::[])):=by
   rw[F_];rfl
  rw[RM];have MN:∀cls ld es j0 e,(⟨eL bs f X cls ld (R++(.map es::j0)),e⟩:Hp).get mi=some (.map es):=λcls ld es j0 e=>by
   show nth _ _=_;rw[sG,uF];exact(RF (y:=.map es) rfl).2
  refine qh (λk s=>∃y env e j0,k+y=256/\s=⟨env,⟨eL bs f X (xb w y) (tW w y) (R++(.map (vb m 0 (fJ w y).1)::j0)),e⟩,[],[]⟩/\env.length=113/\nth env 1=some (.ptr bs.length 0)/\nth env 3=some (.ptr (bs.length+1) 0)/\nth env 4=some (.int .i64 ((f.s.2.length+f.f.2.length:Nat):Int))/\nth env 10=some (.map mi)/\nth env 58=some (.int .i64 (y:Nat))) 256 (by omega) ?_ ?_
  ·refine⟨0,_,_,[],rfl,rfl,?_,?_,?_,?_,?_,?_⟩<;>simp[za,hlen,h1,h3,h4]
  clear RM h1 h3 h4 On G3 rV hlen lN;rintro k s ⟨y,env,e,j0,hky,rfl,hlen,h1,h3,h4,BR,RN⟩;simp only[zh];refine zi ?_;simp only[BA,ak,aj,aq,za,Nat.reduceLT,RN,hlen,qU]
  by_cases hy:y<256
  ·refine .inl ⟨by simp;omega,?_⟩
   obtain⟨cls,Gb⟩:∃c,c=xb w y:=⟨_,rfl⟩;obtain⟨ld,gw⟩:∃c,c=tW w y:=⟨_,rfl⟩;obtain⟨pre,gq⟩:∃p,p=R++(.map (vb m 0 (fJ w y).1)::j0):=⟨_,rfl⟩;obtain⟨pc,O6⟩:∃x,x=bs.length+2+pre.length:=⟨_,rfl⟩;rw[<- Gb,<- gw,<- gq];refine zi ?_
   simp only[BA,Nat.reduceEqDiff,ak,aq,za,bD,Nat.reduceLT,bw,RN,hlen]
   have uT:Cx.bC ⟨prog,gl.g,zj prog gl (n+1),eA⟩ 108 [.int .i64 ((f.s.2.length+f.f.2.length:Nat):Int)] ⟨eL bs f X cls ld pre,e⟩=some (.val (cG m pc),⟨eL bs f X cls ld (pre++(.cells (dM m 0) 5::[])),e⟩):=by
    refine zu func108 rfl ?_;have:=xw hg (n:=n) (k:=f.s.2.length+f.f.2.length) (by omega) (bs:=eL bs f X cls ld pre) (es:=e)
    rw[<- HO,pG,Ol,<- O6] at this;exact this
   refine zi ?_;simp only[BA,Nat.reduceEqDiff,av,ak,aq,aA,za,bD,Nat.reduceLT,bw,h4,hlen,uT,e_];refine zi ?_
   simp only[BA,Nat.reduceEqDiff,ak,aj,aq,ah,za,bD,Nat.reduceLT,bw,h1,hlen,lS,mQ,A2.ey,xK]
   refine qh (λk2 s=>∃i env j1,k2+i=f.s.2.length/\s=⟨env,⟨eL bs f X cls ld (pre++(.cells (dM m (oW f.s.2 y i)) 5::j1)),e⟩,[],[]⟩/\env.length=113/\nth env 1=some (.ptr bs.length 0)/\nth env 3=some (.ptr (bs.length+1) 0)/\nth env 4=some (.int .i64 ((f.s.2.length+f.f.2.length:Nat):Int))/\nth env 10=some (.map mi)/\nth env 58=some (.int .i64 (y:Nat))/\nth env 11=some (.int .i64 (y:Nat))/\nth env 12=some (cG m pc)/\nth env 64=some (A2.qv f.s)/\nth env 65=some (.int .i64 (f.s.2.length:Nat))/\nth env 66=some (.int .i64 (i:Nat))) f.s.2.length AF ?_ ?_
   ·refine⟨0,_,[],rfl,rfl,?_,?_,?_,?_,?_,?_,?_,?_,?_,?_,?_⟩<;>simp[za,hlen,h1,h3,h4,BR,RN]
   rintro k2 s ⟨i,bI,j1,apO,rfl,cJ,e1,e3,e4,sg,tX,iX,n6,Ot,Ou,Ov⟩;simp only[zh];refine zi ?_;simp only[BA,ak,aq,za,Nat.reduceLT,Ou,Ov,cJ,qU]
   by_cases Wx:i<f.s.2.length
   ·refine .inl ⟨by simp;omega,?_⟩
    obtain⟨q,hq⟩:∃q,f.s.2[i]?=some q:=⟨_,gh Wx⟩;have ZA:=hs q (m_ hq);obtain⟨rest,oe⟩:∃p,p=pre++(.cells (dM m (oW f.s.2 y i)) 5::j1):=⟨_,rfl⟩;obtain⟨ai,Z7⟩:∃x,x=bs.length+2+rest.length:=⟨_,rfl⟩;rw[<- oe];have rN:(eL bs f X cls ld rest).length=ai:=by rw[Ol,Z7]
    have hgz:∀cs,(⟨eL bs f X cls ld (rest++[.cells cs 50]),e⟩:Hp).get ai=some (.cells cs 50):=λcs=>by
     show nth _ _=_;rw[Z7,uF];exact(UN (y:=.cells cs 50) rfl).2
    have tG:∀env t,qK env t (some (A2.qe q))=some (A2.qe q,env):=λ_ _=>rfl;have Ut:aW (A2.qe q)=A2.qe q:=rfl;have hzc:V.cells (.agg [.int .u64 0,.int .u64 0,.int .u64 0,.int .u64 0])=[.int .u64 0,.int .u64 0,.int .u64 0,.int .u64 0]:=rfl
    have BB:∀env,qr prog 50 ⟨eL bs f X cls ld (rest++[.cells [.int .u64 0,.int .u64 0,.int .u64 0,.int .u64 0] 50]),e⟩ [] [] (some (A2.qe q,env)) (some (.ptr ai 0))=some (.skip,⟨env,⟨eL bs f X cls ld (rest++[.cells (A2.qe q).laid 50]),e⟩,[],[]⟩):=λenv=>by
     rw[zy RH (hgz _) rfl rfl (by simp) rfl,jT (by simp[A2.qe,V.top,aI])]
     simp only[Hp.set];rw[Z7,UM,(UN rfl).1];rfl
    refine zi ?_
    simp only[qw,aH,zh,zK,qu,qO,zU,z6,zT,Nat.reduceEqDiff,ak,zL,qq,zr,z9,aL,bu,aq,zR,qk,wV,aT,aS,aE,zc,aF,za,bD,Nat.reduceLT,aF,bw,Ot,Ov,cJ,A2.ey,zmt hq,zoY,Ut,tG,Z5,zH (show dz (V.agg [.int .u64 0,.int .u64 0,.int .u64 0,.int .u64 0])=true from rfl),hzc,rN,pG,BB]
    have RO:zk prog ⟨eL bs f X cls ld (rest++[.cells (A2.qe q).laid 50]),e⟩ gl.g 50 (.ptr ai 0)=some (A2.qe q):=by
     rw[jW,hgz,jv,qy,Dt,F1];rfl
    have Mz:Cx.bC ⟨prog,gl.g,zj prog gl (n+1),eA⟩ 110 [A2.qe q,.int .u8 (y:Nat)] ⟨eL bs f X cls ld (rest++[.cells (A2.qe q).laid 50]),e⟩=some (.val (.bool (Ec q y)),⟨eL bs f X cls ld (rest++[.cells (A2.qe q).laid 50]),e⟩):=zu func110 rfl (zjF hg ZA hy);refine zi ?_
    simp only[BA,Nat.reduceEqDiff,av,ak,aq,aA,za,bD,Nat.reduceLT,bw,iX,cJ,RO,Ut,vV (a:=3) (b:=5) (hm:=rfl),show eA (vd 3)=false from rfl,Z6 hy,Mz];obtain⟨Z,hZ⟩:∃Z,Z=aV.cells (A2.qe q).laid 50:=⟨_,rfl⟩
    have SO:∀x,pre++(x::j1)++[Z]=pre++(x::(j1++[Z])):=λx=>by simp
    rw[<- hZ];cases hh:Ec q y with
    | true =>
     have RP:oW f.s.2 y (i+1)=oW f.s.2 y i ||| 2 ^ i:=by simp[oW,hq,hh]
     refine .inl ⟨by first|rfl|trivial,?_⟩
     have nY:Cx.bC ⟨prog,gl.g,zj prog gl (n+1),eA⟩ 109 [cG m pc,.int .i64 (i:Nat)] ⟨eL bs f X cls ld (rest++[Z]),e⟩=some (.val (.bq []),⟨eL bs f X cls ld (pre++(.cells (dM m (oW f.s.2 y (i+1))) 5::(j1++[Z]))),e⟩):=by
      refine zu func109 rfl ?_;rw[oe,SO,O6,RP];have:=Zq hg (n:=n) (k:=i) (m:=m) (p:=oW f.s.2 y i) (b:=bs.length+2+pre.length) (by omega) (by omega) (bs:=eL bs f X cls ld (pre++(.cells (dM m (oW f.s.2 y i)) 5::(j1++[Z])))) (es:=e) (by rw[uF];exact(RF (y:=.cells (dM m 0) 5) rfl).2)
      rw[UM,(RF rfl).1] at this;exact this
     refine zi ?_;simp only[BA,Nat.reduceEqDiff,av,ak,aq,aA,za,bD,Nat.reduceLT,bw,n6,cJ,mZ,nY];refine zi ?_
     simp only[BA,Nat.reduceEqDiff,ak,aj,aq,za,bD,Nat.reduceLT,bw,Ov,cJ,qc (show i<2 ^ 60 by omega),zp,aM]
     refine⟨f.s.2.length - 1 - i,by omega,i+1,_,_,by omega,rfl,?_,?_,?_,?_,?_,?_,?_,?_,?_,?_,?_⟩
     all_goals simp[za,cJ,e1,e3,e4,sg,tX,iX,n6,Ot,Ou]
    | false =>
     have RP:oW f.s.2 y (i+1)=oW f.s.2 y i:=by simp[oW,hq,hh]
     refine .inr ⟨by first|rfl|trivial,?_⟩
     rw[oe,SO,<- RP];refine zi ?_;simp only[BA,Nat.reduceEqDiff,ak,aj,aq,za,bD,Nat.reduceLT,bw,Ov,cJ,qc (show i<2 ^ 60 by omega),zp,aM]
     refine⟨f.s.2.length - 1 - i,by omega,i+1,_,_,by omega,rfl,?_,?_,?_,?_,?_,?_,?_,?_,?_,?_,?_⟩
     all_goals simp[za,cJ,e1,e3,e4,sg,tX,iX,n6,Ot,Ou]
   ·obtain rfl:i=f.s.2.length:=by omega
    refine .inr ⟨by simp,?_⟩
    simp only[ql,zN,zD,zp,bJ,zh,iN,aF]
    have RP:oW f.s.2 y f.s.2.length=w y:=by rw[hw]
    rw[RP];have SQ:pre++(.cells (dM m (w y)) 5::j1)=R++(.map (vb m 0 (fJ w y).1)::(j0++(.cells (dM m (w y)) 5::j1))):=by rw[gq];simp
    obtain⟨j2,X8⟩:∃j,j=j0++(aV.cells (dM m (w y)) 5::j1):=⟨_,rfl⟩;rw[SQ,<- X8];have gP:∀xs cls ld es e,(⟨eL bs f xs cls ld (R++(.map es::j2)),e⟩:Hp).get pc=some (.cells (dM m (w y)) 5):=λxs cls ld es e=>by
     show nth _ _=_;rw[O6,uF,gq,X8];have:=(RF (rs:=R++(.map es::j0)) (js:=j1) (x:=.cells (dM m (w y)) 5) (y:=.cells (dM m (w y)) 5) (i:=(R++(.map (vb m 0 (fJ w y).1)::j0)).length) (by simp)).2
     rw[<- this];simp
    have pO:=ZZ (UR y) (RK y) (MN cls ld (vb m 0 (fJ w y).1) j2 e);have gG:cls.length=256:=by rw[Gb];exact UO (by omega)
    refine zi ?_
    simp only[BA,Nat.reduceEqDiff,ak,aq,za,bD,Nat.reduceLT,bw,sg,n6,cJ,mZ,vy,v4 (cx:=⟨prog,gl.g,zj prog gl (n+1),eA⟩) (a:=205) (b:=9) (show eA (vd 205)=true from rfl) rfl,xL (gP X cls ld (vb m 0 (fJ w y).1) e),pO,ZW,kX,dA,zd,ze]
    have RQ:∀G4,(m4 f X cls G4).length=262:=λG4=>by simp[m4,gG]
    have Kr:∀G4 iD e' env (c:Int),qr prog 3 ⟨eL bs f X cls G4 (R++(.map iD::j2)),e'⟩ [] [] (some (.int .i64 c,env)) (some (.ptr (bs.length+1) (5+y)))=some (.skip,⟨env,⟨eL bs f X (cls.set y (.int .i64 c)) G4 (R++(.map iD::j2)),e'⟩,[],[]⟩):=λG4 iD e' env c=>by
     rw[zy tU (show Hp.get ⟨eL bs f X cls G4 (R++(.map iD::j2)),e'⟩ (bs.length+1)=_ from Dy) rfl rfl (by rw[RQ];omega) (yp λk hk=>by
      obtain rfl:k=0:=by omega
      obtain⟨z,hz⟩:=zmG (w:=w) (y:=y) (i:=y) (by rw[UO (by omega)];omega)
      exact⟨_,by rw[nP,zjS (by rw[gG];omega),Gb,hz],rfl⟩),jT (by simp[V.top])]
     simp only[V.laid,Vm.storeCells,Hp.set];rw[zor (by rw[gG];omega),Z0]
    refine zi ?_;cases hx:ku (w y) 0 (fJ w y).1 with
    | some ix =>
     have Df:fJ w (y+1)=((fJ w y).1,(fJ w y).2.1++[ix],(fJ w y).2.2):=by simp only[fJ,hx]
     simp only[BA,Nat.reduceEqDiff,ak,aq,za,bD,Nat.reduceLT,bw,cJ,Option.isSome_some,fQ,iz,mh];refine .inr ?_;refine zi ?_
     simp only[BA,Nat.reduceEqDiff,ak,aq,aa,ah,aE,za,bD,Nat.reduceLT,bw,e3,iX,cJ,Ae,Z3 hy,Kr];refine zi ?_
     simp only[BA,Nat.reduceEqDiff,ak,aj,aq,za,bD,Nat.reduceLT,bw,tX,cJ,qc (show y<2 ^ 60 by omega),zp,aM]
     rw[Gb,zhL hy (by rw[Df]),gw,show tW w y=tW w (y+1) by unfold tW;rw[Df],show(fJ w y).1=(fJ w (y+1)).1 by rw[Df]]
     refine⟨256 - 1 - y,by omega,y+1,_,_,_,by omega,rfl,?_,?_,?_,?_,?_,?_⟩
     all_goals simp[za,cJ,e1,e3,e4,sg]
    | none =>
     have Df:fJ w (y+1)=((fJ w y).1++[w y],(fJ w y).2.1++[(fJ w y).1.length],(fJ w y).2.2++[y]):=by simp only[fJ,hx]
     simp only[BA,Nat.reduceEqDiff,ak,aq,za,bD,Nat.reduceLT,bw,cJ,Option.isSome_none,Option.getD_none,iz,oo];refine .inl ?_;obtain⟨HE,K3⟩:=zcO (w:=w) y
     have Pd:jb prog ⟨eL bs f X cls ld (R++(.map (vb m 0 (fJ w y).1)::j2)),e⟩ 207 (.map mi)=some (((fJ w y).1.length:Nat):Int):=by
      rw[zjQ (MN cls ld (vb m 0 (fJ w y).1) j2 e),ZY]
     refine zi ?_;simp only[BA,Nat.reduceEqDiff,ak,aq,za,bD,Nat.reduceLT,bw,sg,cJ,vy,Pd];refine zi ?_
     simp only[BA,Nat.reduceEqDiff,ak,aq,za,bD,Nat.reduceLT,bw,sg,n6,cJ,vy,mZ,v4 (cx:=⟨prog,gl.g,zj prog gl (n+1),eA⟩) (a:=205) (b:=9) (show eA (vd 205)=true from rfl) rfl,xL (gP X cls ld (vb m 0 (fJ w y).1) e)]
     have CY:=ZX (k:=0) (UR y) (RK y) hx;rw[nO] at CY;rw[zbX (b:=mi) (kv:=.str (pX m (w y))) (xv:=.int .i64 ((fJ w y).1.length:Nat)) (by simp[ak,za,cJ,aW]) (by simp[ak,za,cJ,aW]) (by simp[ak,za,cJ,aW]) zmC (MN cls ld (vb m 0 (fJ w y).1) j2 e) CY (by simp[V.top,aI])]
     have hHm:(⟨eL bs f X cls ld (R++(.map (vb m 0 (fJ w y).1)::j2)),e⟩:Hp).set mi (.map (vb m 0 ((fJ w y).1++[w y])))=⟨eL bs f X cls ld (R++(.map (vb m 0 ((fJ w y).1++[w y]))::j2)),e⟩:=by
      simp only[Hp.set];rw[sG,UM,(RF rfl).1]
     rw[hHm];simp only[bu,aq]
     obtain⟨DA,MO⟩:∃l:aD,l=(fJ w y).2.2.map λb=>.int .u8 (b:Nat):=⟨_,rfl⟩;have agw:DA.length<=256:=by rw[MO];simp;omega
     have Z8:ld=zl 1 5 DA:=by rw[gw,MO];rfl
     obtain⟨rr,NC⟩:∃rr,rr=R++(aV.map (vb m 0 ((fJ w y).1++[w y]))::j2):=⟨_,rfl⟩;rw[<- NC];have Rx:bs.length+1<(eL bs f X cls ld rr).length:=by rw[Ol];omega
     have mO:∀env,vW prog 78 env ⟨eL bs f X cls ld rr,e⟩ [] [] (some (.ptr (bs.length+1) 261))=some (.val (zl 1 5 DA),⟨env,⟨(eL bs f X cls ld rr).set (bs.length+1) (.cells ((m4 f X cls ld).set 261 (oh 1 DA)) 204),e⟩,kD (bs.length+1) 261 DA,[]⟩):=λenv=>RD Dz Dy (by rw[zmH gG,Z8])
     have lR:=Z4.BQ (v:=.int .u8 (y:Nat)) rfl rfl;have fz:∀H,j9 prog H 78 (zl 1 5 DA) (.sl 1 [.int .u8 (y:Nat)] .no)=some (zl 1 5 (DA++[.int .u8 (y:Nat)])):=λH=>jC Z4 (by simp) (dG (by simp;omega) (by simp;omega))
     have BB:∀env,qr prog 78 ⟨(eL bs f X cls ld rr).set (bs.length+1) (.cells ((m4 f X cls ld).set 261 (oh 1 DA)) 204),e⟩ (kD (bs.length+1) 261 DA) [] (some (zl 1 5 (DA++[.int .u8 (y:Nat)]),env)) (some (.ptr (bs.length+1) 261))=some (.skip,⟨env,⟨eL bs f X cls (zl 1 5 (DA++[.int .u8 (y:Nat)])) rr,vg e (bs.length+1) (zl 1 5 (DA++[.int .u8 (y:Nat)]))⟩,kD (bs.length+1) 261 DA,[]⟩):=λenv=>by
      rw[UK Z4.st Rx (by rw[RQ];omega),zmI gG,Z0]
     refine wo (tk:=[98]) (by kernel_rfl) ?_
     simp only[BA,Nat.reduceEqDiff,ak,aq,aa,ah,za,bD,Nat.reduceLT,bw,e3,iX,cJ,Dv,mO,lR,xS,fz,BB,vV (a:=3) (b:=5) (hm:=rfl),show eA (vd 3)=false from rfl,Z6 hy,jV (cx:=⟨prog,gl.g,zj prog gl (n+1),eA⟩) (show pN prog eA 78=false by kernel_rfl)]
     rw[NC];refine zi ?_;simp only[BA,Nat.reduceEqDiff,ak,aq,aa,ah,aE,za,bD,Nat.reduceLT,bw,e3,iX,cJ,Ae,Z3 hy,Kr];refine zi ?_
     simp only[BA,Nat.reduceEqDiff,ak,aj,aq,za,bD,Nat.reduceLT,bw,tX,cJ,qc (show y<2 ^ 60 by omega),zp,aM]
     have so:zl 1 5 (DA++[.int .u8 (y:Nat)])=tW w (y+1):=by unfold tW;rw[Df,MO];simp
     rw[Gb,zhL hy (by rw[Df]),so,show(fJ w y).1++[w y]=(fJ w (y+1)).1 by rw[Df]]
     refine⟨256 - 1 - y,by omega,y+1,_,_,_,by omega,rfl,?_,?_,?_,?_,?_,?_⟩
     all_goals simp[za,cJ,e1,e3,e4,sg]
  ·obtain rfl:y=256:=by omega
   refine .inr ⟨by simp,?_⟩
   simp only[ql,zN,zD,zp,bJ,zh,iN,aF]
   refine zi ?_;simp only[BA,Nat.reduceEqDiff,ak,aq,za,bD,Nat.reduceLT,bw,h3,hlen,go_ret,zp,Fx]
   first|refine⟨rfl,[.ptr (bs.length+1) 0],?_,rfl,?_⟩|refine⟨trivial,[.ptr (bs.length+1) 0],?_,rfl,?_⟩|refine⟨[.ptr (bs.length+1) 0],?_,rfl,?_⟩
   ·simp[zx,za,hlen]
   ·exact⟨_,_,by rw[<- hw]⟩
end
section
variable{gl:Gl}
theorem Gc:qD prog 207=some false:=by kernel_rfl
theorem zkN(hg:GS gl){n a1 a2 a3 a4 a5 mp m w c i:Nat}{ws:bN}{t1:aB}(hw:w<2 ^ (8 * m))(Dn:∀x∈ws,x<2 ^ (8 * m)){B:List aV}{es:aN}(h1:nth B a1=some (.cells [.map mp] t1))(hm:nth B mp=some (.map (vb m 0 ws)))(hc:nth B c=some (.cells (dM m w) 5))(hx:ku w 0 ws=some i) :
  zj prog gl (n+1) 111 [cG m c,.ptr a1 0,.ptr a2 0,.ptr a3 0,.ptr a4 0,.ptr a5 0] ⟨B,es⟩=some (.ret (.int .i64 (i:Nat)),⟨B,es⟩):=by
 suffices bL:(go ⟨prog,gl,zj prog gl n,eA⟩ n (Fx prog f111.results.toList λw H1=>w=.int .i64 (i:Nat)/\H1=⟨B,[]⟩) [.c (f111.body.getD .skip)] .normal ⟨[cG m c,.ptr a1 0,.ptr a2 0,.ptr a3 0,.ptr a4 0,.ptr a5 0]++List.replicate 43 (.bq []),⟨B,[]⟩,[],[]⟩) by
  obtain⟨w,H1,h0,rfl,rfl⟩:=zQ (gl:=gl) (f:=111) (bs:=B) (es:=es) (args:=[cG m c,.ptr a1 0,.ptr a2 0,.ptr a3 0,.ptr a4 0,.ptr a5 0]) (n:=n) (hg.hk _ _ (by decide)) (λH=>hg.fG _ _ _ _ (by decide)) func111 rfl (by rw[hg.uq];exact bL)
  rw[h0];have:=z8 (bs:=B) (ls:=[]) (es:=es) (t:=0) (eg _);rw[mT] at this;exact congrArg (λx=>some (Out.ret _,x)) this
 have l1:zk prog ⟨B,[]⟩ gl.g 207 (.ptr a1 0)=some (.map mp):=zq Gc h1 rfl;have iV:=xL (H:=⟨B,[]⟩) (m:=m) (w:=w) (c:=c) hc;have pO:=ZZ (H:=⟨B,[]⟩) (d:=mp) hw Dn hm;rw[hx] at pO;have mZ:∀c,aW (cG m c)=cG m c:=λ_=>rfl;simp only[f111,fQ,zh];refine zi ?_
 simp only[BA,aj,aq,bS,bT,List.replicate];refine zi ?_
 simp only[BA,ak,aq,zd,ze,bS,bT,l1,vy,mZ,v4 (cx:=⟨prog,gl.g,zj prog gl n,eA⟩) (a:=205) (b:=9) (show eA (vd 205)=true from rfl) rfl,iV,ZW,pO,kX,dA,fQ,Option.isSome_some];refine zi ?_
 simp only[BA,ak,aq,zd,ze,bS,bT,iz,mh];refine .inr ?_
 try simp only[bz]
 refine zi ?_;simp only[BA,ak,aq,zd,ze,bS,bT,go_ret,zp,Fx]
 refine⟨[.int .i64 (i:Nat)],?_,rfl,trivial⟩;simp only[zx,zd,ze]
end
section
variable{gl:Gl}
theorem iQ{cx:Cx}{takes:bY}{o:Oper}{env:aD}{v:V}{c:ei}{s:St}(h:cx.op takes o env c.H c.lk c.df=some (.val v,s)):cx.eM takes o env v c=true:=by
 simp only[Cx.eM,Cx.dK,h,V.cN]
theorem Ow{a b:Bool}(h:b=true):(a || b)=true:=by rw[h,Bool.or_true]
theorem zmJ{P:aQ}{t:aB}{x y:aX}{b:Nat}(h:8 * b<2 ^ 60)(h1:0<b):qP P .sub t x y (some (.int .i64 ((8 * b:Nat):Int))) (some (.int .i64 8))=some (.int .i64 ((8 * b - 8:Nat):Int)):=Xn (a:=8 * b) (b:=8) h (by omega)
theorem l_{cx:Cx}{n:Nat}{Q:Ex->St->Prop}{k:List It}{Bo:aD}{B0:List aV}{e0:aN}{GL:aN}{P:aD->List aV->Prop}(h:∀env B lk,P env B->go cx n Q k .normal ⟨env,⟨B,e0⟩,lk,[]⟩)(h0:P Bo B0):go cx n Q k .normal ⟨Bo,⟨B0,e0⟩,GL,[]⟩:=h _ _ _ h0
def mR(z:Bool)(n e:Nat)(xs:aD):V:=match z with|true=>.sl n xs (.yes e)|false=>zl n e xs
def G5(z:Bool)(n:Nat)(xs:aD):V:=match z with|true=>.sl n xs .lock|false=>oh n xs
def EE(z:Bool)(b off:Nat)(xs:aD):aN:=match z with|true=>[(b,off)]|false=>kD b off xs
section
variable{P:aQ}{t n:aB}{B:List aV}{off bm:Nat}{cs:aD}{ty e:aB}{xs ys:aD}{env:aD}{df:bO}{es:aN}{z:Bool}{v:V}
theorem zqA(ha:qD P t=some false)(hb:nth B bm=some (.cells cs ty))(hn:nth cs off=some (mR z n e xs)) :
  vW P t env ⟨B,es⟩ [] df (some (.ptr bm off))=some (.val (mR z n e xs),⟨env,⟨B.set bm (.cells (cs.set off (G5 z n xs)) ty),es⟩,EE z bm off xs,df⟩):=by
 cases z with
 | false=>exact RD ha hb hn
 | true =>
  simp only[mR] at hn;simp only[vW,ha,show Hp.get ⟨B,es⟩ bm=_ from hb,hn,mR,G5,EE];rfl
theorem zqB(hs:z4 P t=some 1)(bR:bm<B.length)(ho:off<cs.length)(h1:dz v=true)(h2:v.laid=[v]) :
  qr P t ⟨B.set bm (.cells (cs.set off (G5 z n xs)) ty),es⟩ (EE z bm off xs) df (some (v,env)) (some (.ptr bm off))=some (.skip,⟨env,⟨B.set bm (.cells (cs.set off v) ty),vg es bm v⟩,EE z bm off xs,df⟩):=by
 have hm:wv (EE z bm off xs) bm off 1 ((cs.set off (G5 z n xs)).drop off)=true:=by
  cases z with
  | false=>exact PW ho
  | true =>
   have h3:(cs.set off (V.sl n xs .lock)).drop off=.sl n xs .lock::cs.drop (off+1):=by
    rw[EL (by rw[bD];exact ho)]
    simp[List.drop_set]
   simp only[G5,EE,h3];simp[wv,locked]
 rw[zy hs (show Hp.get ⟨_,es⟩ bm=some (.cells (cs.set off (G5 z n xs)) ty) by show nth _ _=_;simp[zg,bR]) h1 (by rw[h2];rfl) (by rw[bD];omega) hm]
 simp only[Hp.set,List.set_set,h2,Vm.storeCells,gy]
theorem zq2{Cy:Nat}(h:mN P t e n Cy)(hy:ys≠[])(hr:kx (xs.length+ys.length) Cy=true){H:Hp}:j9 P H t (mR z n e xs) (.sl n ys .no)=some (zl n e (xs++ys)):=by
 cases z with
 | false=>exact jC h hy hr
 | true =>
  cases xs with
  | cons x xs=>exact jC (xs:=x::xs) h hy hr
  | nil =>
   have hi:=h.i;cases uX:P.info? e with
   | none=>rw[uX] at hi;cases hi
   | some ti =>
    rw[uX] at hi;simp only[aT] at hi;cases hz:ti.zero with
    | none=>rw[hz] at hi;cases hi
    | some z =>
     rw[hz] at hi;simp only[aS,br,cg] at hi;have AU:Nat.beq n 0=false:=by
      have:=h.n0.1;cases n with
      | zero=>exact absurd rfl this
      | succ n=>rfl
     obtain⟨y,ys,rfl⟩:∃y l,ys=y::l:=by
      cases ys with
      | nil=>exact absurd rfl hy
      | cons y l=>exact⟨y,l,rfl⟩
     simp only[mR,j9,h.u,h.s,uX,hz,hi.1,ww,Option.bind_eq_bind,aT,iN,mh,fP,bw,aF];simp only[zl,bg];rw[hi.2,AU];simp only[List.length_nil,nO,aZ] at hr;simp[hr]
def zq3(env:aD)(t:Nat)(v:V):Option (V×aD):=qK env t (some v)
open Classical in
theorem ze4{t:Nat}:qK env t (some (mR z n e xs))=if nth env t=some (mR z n e xs) then some (mR z n e xs,env.set t (aW (mR z n e xs))) else zq3 env t (mR z n e xs):=by
 split
 ·rename_i h;cases z with
  | false=>rw[<- h,<- zL];exact vY h
  | true=>rfl
 ·rfl
theorem sV:aW (aW (mR z n e xs))=aW (mR z n e xs):=by cases z<;>cases xs<;>rfl
theorem zmK{x:V}:mR z n e (x::xs)=zl n e (x::xs):=by cases z<;>rfl
theorem zos{x:V}:mR z n e (xs++[x])=zl n e (xs++[x]):=by cases z<;>cases xs<;>rfl
theorem Z9{H:Hp}(hu:P.underlying t=some (.slice e)):jb P H t (aW (mR z n e xs))=some ((xs.length:Nat):Int):=by
 cases z with
 | false=>exact TL hu
 | true=>simp[mR,aW,jb,hu]
end
theorem ziB{cx:Cx}{takes:bY}{rs:List Rec}{r1 R:Rec}{c0 c1 lM d c2 e:ei}{k:List ei->Option (Ex×St)}(j:Nat)(_hj:rs[j]?=some r1)(e1:c1=lM)(hp:R.hp=true)(ho:∀q∈rs,q=r1\/(q.hp=false/\(q.free=true\/bit R.m q.idx=true)))(h1:r1.hp=true)
  (hs:vA (Nat.land R.m (ep rs)) d.D=true) (hr:cx.dK takes R.o R.env d (Nat.lor d.D (Nat.pow 2 R.idx))=some (R.v,c2)) (Ir:bit lM.D r1.idx=true) (nA:bit c2.D r1.idx=false)
  (hq:cx.dK takes r1.o r1.env c2 0=some (r1.v,e)) (hf:vI (Nat.lor c2.D (Nat.pow 2 r1.idx)) [lM,c2,c0,d]=some lM) (he:vH e lM=true) :
  cx.fj takes rs R c0 c1 [d] k=k [lM,c2,c0,d]:=zii e1 hp ho h1 hs hr Ir nA hq hf he
theorem v5{n e:Nat}{xs:aD}:(zl n e xs).top=aI xs:=by
 cases xs<;>rfl
theorem MP:mN prog 27 3 1 8:=⟨by kernel_rfl,by kernel_rfl,by kernel_rfl,by decide,by kernel_rfl,by kernel_rfl,by kernel_rfl⟩
theorem Gd:zB prog 66 1=some 1:=by kernel_rfl
def MR(B:List aV)(_a1 a2 a3 a4 mp m c w:Nat)(sum:Int)(ws:bN)(wait:aD)(aO:V)(dU:aD)(lab:Int)(t2 t3 t4:aB):List aV :=
 ((((B.set mp (.map (vb m 0 (ws++[w])))).set a2 (.cells [.int .i64 (if w=0 then sum else sum+1)] t2)).set a3 (.cells [zl 1 205 (wait++[cG m c])] t3)).set a4 (.cells [aO,zl 1 3 (dU++[.int .i64 lab])] t4))
theorem zmL{B ls:List aV}{es p6:aN}(he:∀e∈p6,e.2<=B.length):∃iD,zW B.length es 0 ⟨B++ls,p6⟩=⟨B,iD⟩:=by
 unfold zW;have h1:(Nat.ble 0 B.length && p6.all λe=>Nat.ble B.length e.1 || Nat.ble e.2 B.length)=true:=by
  rw[eo];exact⟨KH (eg _),B_.2 λe h=>by rw[tn];exact .inr (KH (he e h))⟩
 rw[if_pos h1,List.take_left];exact⟨_,rfl⟩
theorem zkO(hg:GS gl){z:Bool}{n a1 a2 a3 a4 a5 bm mp m w c:Nat}{sum:Int}{ws:bN}{wait:aD}{aO:V}{dU:aD}{mc:aD}{t1 t2 t3 t4 t5 tM:aB}{f:A2.F}(hn:m+400<=n)(tc:wait.length<2 ^ 40)(ZE:dU.length<2 ^ 40)(Dd:0<m)(ur:m<2 ^ 36)(hw:w<2 ^ (8 * m))(Dn:∀x∈ws,x<2 ^ (8 * m))(ap0:-1<=sum/\sum<2 ^ 40)(ov:f.s.2.length<2 ^ 40)(Z_:aI dU=0){B:List aV}{es:aN}
  (h1:nth B a1=some (.cells [.map mp] t1)) (h2:nth B a2=some (.cells [.int .i64 sum] t2)) (h3:nth B a3=some (.cells [mR z 1 205 wait] t3)) (h4:nth B a4=some (.cells [aO,zl 1 3 dU] t4)) (h5:nth B a5=some (.cells [.ptr bm 0] t5)) (hM:nth B bm=some (.cells mc tM)) (Dw:nth mc 0=some (A2.qv f.s))
  (hm:nth B mp=some (.map (vb m 0 ws))) (hc:nth B c=some (.cells (dM m w) 5)) (rY:[a1,a2,a3,a4,a5,bm,mp,c].Nodup) (hx:ku w 0 ws=none) (MS:aI wait<=B.length) :
  ∃iD,zj prog gl (n+1) 111 [cG m c,.ptr a1 0,.ptr a2 0,.ptr a3 0,.ptr a4 0,.ptr a5 0] ⟨B,es⟩=some (.ret (.int .i64 (ws.length:Nat)),⟨MR B a1 a2 a3 a4 mp m c w sum ws wait aO dU (wj f.s.2.length (wi m w) (-1)) t2 t3 t4,iD⟩):=by
 suffices bL:(go ⟨prog,gl,zj prog gl n,eA⟩ n (Fx prog f111.results.toList λx H1=>x=.int .i64 (ws.length:Nat)/\∃p6,H1=⟨MR B a1 a2 a3 a4 mp m c w sum ws wait aO dU (wj f.s.2.length (wi m w) (-1)) t2 t3 t4++[.cells (dM m 0) 5],p6⟩/\∀e∈p6,e.2<=B.length) [.c (f111.body.getD .skip)] .normal ⟨[cG m c,.ptr a1 0,.ptr a2 0,.ptr a3 0,.ptr a4 0,.ptr a5 0]++List.replicate 43 (.bq []),⟨B,[]⟩,[],[]⟩) by
  obtain⟨x,H1,h0,rfl,p6,rfl,Aw⟩:=zQ (gl:=gl) (f:=111) (bs:=B) (es:=es) (args:=[cG m c,.ptr a1 0,.ptr a2 0,.ptr a3 0,.ptr a4 0,.ptr a5 0]) (n:=n) (hg.hk _ _ (by decide)) (λH=>hg.fG _ _ _ _ (by decide)) func111 rfl (by rw[hg.uq];exact bL)
  have m5:(MR B a1 a2 a3 a4 mp m c w sum ws wait aO dU (wj f.s.2.length (wi m w) (-1)) t2 t3 t4).length=B.length:=by simp[MR]
  obtain⟨iD,he⟩:=zmL (B:=MR B a1 a2 a3 a4 mp m c w sum ws wait aO dU (wj f.s.2.length (wi m w) (-1)) t2 t3 t4) (ls:=[.cells (dM m 0) 5]) (es:=es) (p6:=p6) (by rw[m5];exact Aw)
  rw[m5] at he;exact⟨iD,by rw[h0,show(V.int .i64 (ws.length:Nat)).top=0 from rfl,he]⟩
 have l1:zk prog ⟨B,[]⟩ gl.g 207 (.ptr a1 0)=some (.map mp):=zq Gc h1 rfl;have iV:=xL (H:=⟨B,[]⟩) (m:=m) (w:=w) (c:=c) hc;have pO:=ZZ (H:=⟨B,[]⟩) (d:=mp) hw Dn hm;rw[hx] at pO;have mZ:∀c,aW (cG m c)=cG m c:=λ_=>rfl;have Pd:jb prog ⟨B,[]⟩ 207 (.map mp)=some ((ws.length:Nat):Int):=by
  rw[zjQ (H:=⟨B,[]⟩) (d:=mp) hm,ZY]
 have ap1:mp<B.length:=by rw[zg] at hm;exact(c_.1 hm).1
 have gG:c<B.length:=by rw[zg] at hc;exact(c_.1 hc).1
 have pQ:mp≠c:=by
  simp only[List.nodup_cons,dH,not_or] at rY;exact rY.2.2.2.2.2.2.1.1
 simp only[f111,fQ,zh];refine zi ?_;simp only[BA,aj,aq,bS,bT,List.replicate];refine zi ?_
 simp only[BA,ak,aq,zd,ze,bS,bT,l1,vy,mZ,v4 (cx:=⟨prog,gl.g,zj prog gl n,eA⟩) (a:=205) (b:=9) (show eA (vd 205)=true from rfl) rfl,iV,ZW,pO,kX,dA,Option.getD_none,Option.isSome_none];refine zi ?_
 simp only[BA,ak,aq,zd,ze,bS,bT,iz,oo];refine .inl ?_;refine zi ?_
 simp only[BA,ak,aq,zd,ze,bS,bT,l1,vy,Pd];refine zi ?_
 simp only[BA,ak,aq,zd,ze,bS,bT,l1,vy,mZ,v4 (cx:=⟨prog,gl.g,zj prog gl n,eA⟩) (a:=205) (b:=9) (show eA (vd 205)=true from rfl) rfl,iV];have CY:=ZX (k:=0) hw Dn hx;rw[nO] at CY
 rw[zbX (b:=mp) (kv:=.str (pX m w)) (xv:=.int .i64 (ws.length:Nat)) rfl rfl rfl zmC (show Hp.get ⟨B,[]⟩ mp=_ from hm) CY (by simp[V.top,aI])]
 obtain⟨B1,AH⟩:∃B1,B1=B.set mp (.map (vb m 0 (ws++[w]))):=⟨_,rfl⟩;have Q2:Hp.set ⟨B,[]⟩ mp (.map (vb m 0 (ws++[w])))=⟨B1,[]⟩:=by rw[AH];rfl
 rw[Q2];simp only[bu,aq]
 have ng:nth B1 c=some (.cells (dM m w) 5):=by rw[AH,zg,rW pQ,<- zg,hc]
 obtain⟨B2,GR⟩:∃B2,B2=B1++[aV.cells (dM m 0) 5]:=⟨_,rfl⟩;have aaa:c<B1.length:=by rw[zg] at ng;exact(c_.1 ng).1
 have rX:nth B2 c=some (.cells (dM m w) 5):=by rw[GR,zg,gb aaa,<- zg,ng]
 have D1:nth B2 B1.length=some (.cells (dM m 0) 5):=by rw[GR,zg,fE (dI _)];simp
 have EY:=xL (H:=⟨B1,[]⟩) ng;have Gu:=xL (H:=⟨B2,[]⟩) rX;have hvz:=xL (H:=⟨B2,[]⟩) D1;obtain⟨n',rfl⟩:∃n',n=n'+1:=⟨n - 1,by omega⟩
 have uT:Cx.bC ⟨prog,gl.g,zj prog gl (n'+1),eA⟩ 108 [.int .i64 ((8 * m - 8:Nat):Int)] ⟨B1,[]⟩=some (.val (cG m B1.length),⟨B2,[]⟩):=by
  refine zu func108 rfl ?_;have:=xw hg (n:=n') (k:=8 * m - 8) (by omega) (bs:=B1) (es:=[])
  rw[show(8 * m - 8) / 8+1=m by omega,<- GR] at this
  exact this
 refine wC (tk:=[]) (by kernel_rfl) ?_
 apply Exists.intro;apply And.intro;refine qx (m:=0) (v:=cG m c) (by kernel_rfl) rfl (by simp only[BA,ak,zd,mZ];rfl) (by kernel_rfl) (by kernel_rfl) (by kernel_rfl) ?_
 dsimp only[aq]
 refine kj (m:=1) (v:=.str (pX m w)) (by kernel_rfl) rfl (by simp only[BA,ak,zd,ze,bS,bT,mZ,v4 (cx:=⟨prog,gl.g,zj prog gl (n'+1),eA⟩) (a:=205) (b:=9) (show eA (vd 205)=true from rfl) rfl,EY];rfl) (by kernel_rfl) (by kernel_rfl) (by kernel_rfl) (by kernel_rfl) ?_
 dsimp only[aq]
 refine qx (m:=0) (v:=cG m c) (by kernel_rfl) rfl (by simp only[BA,ak,zd,bS,bT,mZ];rfl) (by kernel_rfl) (by kernel_rfl) (by kernel_rfl) ?_
 dsimp only[aq]
 refine kj (m:=4) (v:=.int .i64 (m:Nat)) (by kernel_rfl) rfl (by simp only[BA,ak,zd,ze,bS,bT,cG];rfl) (by kernel_rfl) (by kernel_rfl) (by kernel_rfl) (by kernel_rfl) ?_
 dsimp only[aq]
 refine qx (m:=12) (v:=.int .i64 ((8 * m:Nat):Int)) (by kernel_rfl) rfl (by simp only[BA,ak,aj,zd,ze,bS,bT,ze1 (show 8 * m<2 ^ 60 by omega)];rfl) (by kernel_rfl) (by kernel_rfl) (by kernel_rfl) ?_
 dsimp only[aq]
 refine qx (m:=28) (v:=.int .i64 ((8 * m - 8:Nat):Int)) (by kernel_rfl) rfl (by simp only[BA,ak,aj,zd,ze,bS,bT,zmJ (show 8 * m<2 ^ 60 by omega) Dd];rfl) (by kernel_rfl) (by kernel_rfl) (by kernel_rfl) ?_
 dsimp only[aq]
 refine yo (m:=60) (v:=cG m B1.length) (cs':=[⟨64,⟨B2,[]⟩,[],[]⟩,⟨0,⟨B1,[]⟩,[],[]⟩]) (by kernel_rfl) rfl (by simp only[BA,av,ak,aA,zd,ze,bS,bT,uT];rfl) (by kernel_rfl) (by kernel_rfl) (by kernel_rfl) (λK=>?_) ?_
 rotate_left
 dsimp only[aq]
 refine kj (m:=124) (v:=.str (pX m 0)) (by kernel_rfl) rfl (by simp only[BA,ak,zd,ze,bS,bT,mZ,v4 (cx:=⟨prog,gl.g,zj prog gl (n'+1),eA⟩) (a:=205) (b:=9) (show eA (vd 205)=true from rfl) rfl,hvz];rfl) (by kernel_rfl) (by kernel_rfl) (by kernel_rfl) (by kernel_rfl) ?_
 dsimp only[aq]
 refine qx (m:=255) (v:=.bool (!(nQ (pX m w) (pX m 0)))) (by kernel_rfl) rfl (by simp only[BA,ak,zd,ze,bS,bT,zlC];rfl) (by kernel_rfl) (by kernel_rfl) (by kernel_rfl) wG
 ·have heq:nQ (pX m w) (pX m 0)=(w == 0):=zjl hw (Nat.pow_pos (by decide))
  have bR:∀d x,nth B d=some x->d≠mp->nth B2 d=some x:=λd x hd cI=>by
   have s9:d<B.length:=by rw[zg] at hd;exact(c_.1 hd).1
   rw[GR,zg,gb (by rw[AH,bD];exact s9),AH,rW (Ne.symm cI),<- zg,hd]
  simp only[List.nodup_cons,dH,Ap,uR,not_or,List.nodup_nil,At,ue] at rY;obtain⟨⟨d12,d13,d14,d15,d1b,d1m,d1c⟩,⟨d23,d24,d25,d2b,d2m,d2c⟩,⟨d34,d35,d3b,d3m,d3c⟩,⟨d45,d4b,d4m,d4c⟩,⟨d5b,d5m,d5c⟩,⟨dbm,dbc⟩,dmc⟩:=rY;have g2:=bR a2 _ h2 d2m;have g3:=bR a3 _ h3 d3m;have g4:=bR a4 _ h4 d4m;have g5:=bR a5 _ h5 d5m;have gM:=bR bm _ hM dbm
  have l2:zk prog ⟨B2,[]⟩ gl.g 3 (.ptr a2 0)=some (.int .i64 sum):=zq iT g2 rfl;have AZ:IntKind.i64.wrap (sum+1)=sum+1:=kS (by omega) (by omega)
  have CJ:∀env,qr prog 3 ⟨B2,[]⟩ [] [] (some (.int .i64 (sum+1),env)) (some (.ptr a2 0))=some (.skip,⟨env,⟨B2.set a2 (.cells [.int .i64 (sum+1)] t2),[]⟩,[],[]⟩):=λenv=>by
   rw[zy tU (show Hp.get ⟨B2,[]⟩ a2=_ from g2) rfl rfl (by simp) rfl,jT (by simp[V.top])]
   rfl
  simp only[BA,ak,aq,zd,ze,bS,bT,heq]
  let PP:aD->List aV->Prop:=λenv B3=>env.length=49/\nth env 0=some (cG m c)/\nth env 3=some (.ptr a3 0)/\nth env 4=some (.ptr a4 0)/\nth env 5=some (.ptr a5 0)/\nth env 8=some (.int .i64 (ws.length:Nat)) /\
   B3.length=B2.length/\nth B3 a3=some (.cells [mR z 1 205 wait] t3)/\nth B3 a4=some (.cells [aO,zl 1 3 dU] t4)/\nth B3 a5=some (.cells [.ptr bm 0] t5)/\nth B3 bm=some (.cells mc tM)/\nth B3 c=some (.cells (dM m w) 5)/\B3=B2.set a2 (.cells [.int .i64 (if w=0 then sum else sum+1)] t2)
  have Kl:∀x d y,nth B2 d=some y->d≠a2->nth (B2.set a2 x) d=some y:=λx d y h1 h2=>by
   rw[zg,rW (Ne.symm h2),<- zg,h1]
  have aab:(w=0\/w≠0):=Decidable.em _;rcases aab with uo|uo
  rotate_left
  refine .inl ⟨by simp[uo],?_⟩
  refine zi ?_;simp only[BA,ak,aj,aq,zd,ze,bS,bT,l2,kg,AZ,CJ]
  refine l_ (P:=PP) ?_ ⟨rfl,rfl,rfl,rfl,rfl,rfl,by simp,Kl _ _ _ g3 (Ne.symm d23),Kl _ _ _ g4 (Ne.symm d24),Kl _ _ _ g5 (Ne.symm d25),Kl _ _ _ gM (Ne.symm d2b),Kl _ _ _ rX (Ne.symm d2c),by rw[if_neg uo]⟩
  rotate_left
  refine .inr ⟨by simp[uo],?_⟩
  refine l_ (P:=PP) ?_ ⟨rfl,rfl,rfl,rfl,rfl,rfl,rfl,g3,g4,g5,gM,rX,by rw[if_pos uo];exact(jZ g2).symm⟩
  all_goals
   rintro env B3 lk ⟨hlen,e0,e3,e4,e5,e8,Qh,k3,k4,k5,kM,kc,Di⟩;have ha3:a3<B3.length:=by rw[zg] at k3;exact(c_.1 k3).1
   have mO:∀env,vW prog 201 env ⟨B3,[]⟩ [] [] (some (.ptr a3 0))=some (.val (mR z 1 205 wait),⟨env,⟨B3.set a3 (.cells ([mR z 1 205 wait].set 0 (G5 z 1 wait)) t3),[]⟩,EE z a3 0 wait,[]⟩):=λenv=>zqA iq k3 rfl;have lR:=CX.BQ (v:=cG m c) rfl rfl
   have fz:∀H,j9 prog H 201 (mR z 1 205 wait) (.sl 1 [cG m c] .no)=some (zl 1 205 (wait++[cG m c])):=λH=>zq2 CX (by simp) (dG (by simp;omega) (by simp;omega))
   have BB:∀env,qr prog 201 ⟨B3.set a3 (.cells ([mR z 1 205 wait].set 0 (G5 z 1 wait)) t3),[]⟩ (EE z a3 0 wait) [] (some (zl 1 205 (wait++[cG m c]),env)) (some (.ptr a3 0))=some (.skip,⟨env,⟨B3.set a3 (.cells [zl 1 205 (wait++[cG m c])] t3),vg [] a3 (zl 1 205 (wait++[cG m c]))⟩,EE z a3 0 wait,[]⟩):=λenv=>zqB CX.st ha3 (by simp) PX (by rw[vt])
   try simp only[zh]
   refine wo (tk:=[36]) (by kernel_rfl) ?_
   simp only[BA,Nat.reduceEqDiff,ak,aq,za,bD,Nat.reduceLT,bw,e0,e3,hlen,mZ,ze4,mO,lR,xS,fz,BB,jV (cx:=⟨prog,gl.g,zj prog gl (n'+1),eA⟩) (show pN prog eA 201=false by kernel_rfl)]
   obtain⟨B4,JV⟩:∃B4,B4=B3.set a3 (.cells [zl 1 205 (wait++[cG m c])] t3):=⟨_,rfl⟩;obtain⟨e1,he1⟩:∃e1,e1=vg [] a3 (zl 1 205 (wait++[cG m c])):=⟨_,rfl⟩;rw[<- JV,<- he1];have US:∀d y,nth B3 d=some y->d≠a3->nth B4 d=some y:=λd y h1 h2=>by
    rw[JV,zg,rW (Ne.symm h2),<- zg,h1]
   have k44:=US _ _ k4 (Ne.symm d34);have k45:=US _ _ k5 (Ne.symm d35);have k4M:=US _ _ kM (Ne.symm d3b);have k4c:=US _ _ kc (Ne.symm d3c)
   let PE:aD->List aV->Prop:=λenv Bx=>Bx=B4/\env.length=49/\nth env 0=some (cG m c)/\nth env 4=some (.ptr a4 0)/\nth env 5=some (.ptr a5 0)/\nth env 8=some (.int .i64 (ws.length:Nat))
   refine l_ (P:=PE) ?_ ⟨rfl,by simp[hlen],by simp[za,e0],by simp[za,e4],by simp[za,e5],by simp[za,e8]⟩
   clear mO BB fz lR k3 k4 k5 kM kc e0 e3 e4 e5 e8 hlen;rintro env Bx lk ⟨rfl,hlen,e0,e4,e5,e8⟩;have ha4:a4<Bx.length:=by rw[zg] at k44;exact(c_.1 k44).1
   obtain⟨lab,Ah⟩:∃l,l=wj f.s.2.length (wi m w) (-1):=⟨_,rfl⟩;obtain⟨BL,hBL⟩:∃BL,BL=Bx.set a4 (.cells ([aO,zl 1 3 dU].set 1 (oh 1 dU)) t4):=⟨_,rfl⟩;have hPL:∀d y,nth Bx d=some y->d≠a4->nth BL d=some y:=λd y h1 h2=>by
    rw[hBL,zg,rW (Ne.symm h2),<- zg,h1]
   have mO:∀env,vW prog 27 env ⟨Bx,e1⟩ [] [] (some (.ptr a4 1))=some (.val (zl 1 3 dU),⟨env,⟨BL,e1⟩,kD a4 1 dU,[]⟩):=λenv=>by rw[hBL];exact RD Bz k44 rfl
   have l5:zk prog ⟨Bx,e1⟩ gl.g 141 (.ptr a5 0)=some (.ptr bm 0):=zq eS k45 rfl;have l5L:zk prog ⟨BL,e1⟩ gl.g 141 (.ptr a5 0)=some (.ptr bm 0):=zq eS (hPL _ _ k45 (Ne.symm d45)) rfl;obtain⟨n2,rfl⟩:∃n2,n'=n2+1+1:=⟨n' - 2,by omega⟩
   have AT:∀H:List aV,nth H bm=some (.cells mc tM)->nth H c=some (.cells (dM m w) 5)->Cx.bC ⟨prog,gl.g,zj prog gl (n2+3),eA⟩ 112 [.ptr bm 0,cG m c] ⟨H,e1⟩=some (.val (.int .i64 lab),⟨H,e1⟩):=λH q1 q2=>by
    rw[Ah];exact zu func112 rfl (zkH hg (n:=n2) ur (by omega) (by omega) ov q1 Dw q2)
   have aaf:=AT _ k4M k4c;have aag:=AT _ (hPL _ _ k4M (Ne.symm d4b)) (hPL _ _ k4c (Ne.symm d4c));have lR:=MP.BQ (v:=.int .i64 lab) rfl rfl;have fz:∀H,j9 prog H 27 (zl 1 3 dU) (.sl 1 [.int .i64 lab] .no)=some (zl 1 3 (dU++[.int .i64 lab])):=λH=>jC MP (by simp) (dG (by simp;omega) (by simp;omega))
   have e_:∀env,qr prog 27 ⟨BL,e1⟩ (kD a4 1 dU) [] (some (zl 1 3 (dU++[.int .i64 lab]),env)) (some (.ptr a4 1))=some (.skip,⟨env,⟨Bx.set a4 (.cells [aO,zl 1 3 (dU++[.int .i64 lab])] t4),vg e1 a4 (zl 1 3 (dU++[.int .i64 lab]))⟩,kD a4 1 dU,[]⟩):=λenv=>by
    rw[hBL];exact UK MP.st ha4 (by simp)
   refine wC (tk:=[41]) (by kernel_rfl) ?_
   apply Exists.intro;apply And.intro;refine qx (m:=0) (v:=.ptr a4 1) (by kernel_rfl) rfl (by simp only[BA,ak,ah,Nat.reduceAdd,e4,Gd];rfl) (by kernel_rfl) (by kernel_rfl) (by kernel_rfl) ?_
   dsimp only[aq]
   refine yo (m:=1) (v:=zl 1 3 dU) (cs':=[⟨2,⟨BL,e1⟩,kD a4 1 dU,[]⟩,⟨0,⟨Bx,e1⟩,[],[]⟩]) (by kernel_rfl) rfl (by simp only[BA,ak,Nat.reduceAdd,za,Nat.reduceLT,hlen,mO];rfl) (by kernel_rfl) (by kernel_rfl) (by kernel_rfl) (λK=>?_) ?_
   rotate_left
   dsimp only[aq]
   refine kj (m:=0) (v:=.ptr bm 0) (by kernel_rfl) rfl (by simp only[BA,Nat.reduceEqDiff,ak,Nat.reduceAdd,za,bD,Nat.reduceLT,bw,e5,hlen,l5L];rfl) (by kernel_rfl) (by kernel_rfl) (by kernel_rfl) (kC λq hq=>by
    obtain rfl:=oX.1 hq;split
    ·exact iQ (by simp only[BA,Nat.reduceEqDiff,ak,Nat.reduceAdd,za,bD,Nat.reduceLT,bw,e5,hlen,l5];rfl)
    ·rfl) ?_
   dsimp only[aq]
   refine qx (m:=0) (v:=cG m c) (by kernel_rfl) rfl (by simp only[BA,Nat.reduceEqDiff,ak,Nat.reduceAdd,za,bD,Nat.reduceLT,bw,e0,hlen,mZ];rfl) (by kernel_rfl) (by kernel_rfl) (by kernel_rfl) ?_
   dsimp only[aq]
   refine yo (m:=12) (v:=.int .i64 lab) (cs':=[⟨18,⟨BL,e1⟩,kD a4 1 dU,[]⟩,⟨16,⟨Bx,e1⟩,[],[]⟩,⟨2,⟨BL,e1⟩,kD a4 1 dU,[]⟩,⟨0,⟨Bx,e1⟩,[],[]⟩]) (by kernel_rfl) rfl (by simp only[BA,Nat.reduceEqDiff,av,ak,aA,Nat.reduceAdd,za,bD,Nat.reduceLT,bw,hlen,mZ,aag];rfl) (by kernel_rfl) (by kernel_rfl) (by kernel_rfl) (λK=>?_) ?_
   rotate_left
   dsimp only[aq]
   refine qx (m:=28) (v:=.sl 1 [.int .i64 lab] (.yes 3)) (by kernel_rfl) rfl (by simp only[BA,Nat.reduceEqDiff,ak,Nat.reduceAdd,za,bD,Nat.reduceLT,bw,hlen,lR];rfl) (by kernel_rfl) (by kernel_rfl) (by kernel_rfl) ?_
   dsimp only[aq]
   refine kj (m:=63) (v:=zl 1 3 (dU++[.int .i64 lab])) (by kernel_rfl) rfl (by simp only[BA,Nat.reduceEqDiff,ak,Nat.reduceAdd,za,bD,Nat.reduceLT,bw,hlen,xS,fz,jV (cx:=⟨prog,gl.g,zj prog gl (n2+3),eA⟩) (show pN prog eA 27=false by kernel_rfl)];rfl) (by kernel_rfl) (by kernel_rfl) (by kernel_rfl) (by kernel_rfl) ?_
   dsimp only[aq]
   refine qx (m:=127) (v:=.ptr a4 1) (by kernel_rfl) rfl (by simp only[BA,Nat.reduceEqDiff,ak,ah,Nat.reduceAdd,za,bD,Nat.reduceLT,bw,e4,hlen,Gd];rfl) (by kernel_rfl) (by kernel_rfl) (by kernel_rfl) ?_
   dsimp only[aq]
   refine wD (m:=255) (cs':=[⟨274,⟨Bx.set a4 (.cells [aO,zl 1 3 (dU++[.int .i64 lab])] t4),vg e1 a4 (zl 1 3 (dU++[.int .i64 lab]))⟩,kD a4 1 dU,[]⟩,⟨18,⟨BL,e1⟩,kD a4 1 dU,[]⟩,⟨16,⟨Bx,e1⟩,[],[]⟩,⟨2,⟨BL,e1⟩,kD a4 1 dU,[]⟩,⟨0,⟨Bx,e1⟩,[],[]⟩]) (by kernel_rfl) rfl (by simp only[BA,Nat.reduceEqDiff,ak,Nat.reduceAdd,za,bD,Nat.reduceLT,bw,hlen,e_];rfl) (by kernel_rfl) (by kernel_rfl) (λK=>?_) wG
   ·refine jK ?_ ?_ ?_ ?_
    ·kernel_rfl
    ·rfl
    ·intro c hc;simp only[dH,Ap,uR] at hc;rcases hc with rfl|rfl|rfl<;>kernel_rfl
    ·kernel_rfl
   rotate_left
   ·refine jK ?_ ?_ ?_ ?_
    ·kernel_rfl
    ·rfl
    ·intro c hc;simp at hc
    ·kernel_rfl
   ·refine ziB (e:=⟨0,⟨BL,e1⟩,kD a4 1 dU,[]⟩) 2 rfl ?_ ?_ ?_ ?_ ?_ ?_ ?_ ?_ ?_ ?_ ?_
    ·kernel_rfl
    ·rfl
    ·intro q hq;simp only[dH,Ap,uR] at hq;rcases hq with rfl|rfl|rfl|rfl
     ·exact .inr ⟨rfl,.inl rfl⟩
     ·exact .inr ⟨rfl,.inr (by kernel_rfl)⟩
     ·exact .inl rfl
     ·exact .inr ⟨rfl,.inl rfl⟩
    ·rfl
    ·kernel_rfl
    ·simp only[Cx.dK,jc];simp only[BA,Nat.reduceEqDiff,av,ak,aA,Nat.reduceAdd,za,bD,Nat.reduceLT,bw,hlen,mZ,aaf];rfl
    ·kernel_rfl
    ·kernel_rfl
    ·simp only[Cx.dK,jc];simp only[BA,ak,Nat.reduceAdd,za,Nat.reduceLT,hlen,mO]
    ·kernel_rfl
    ·exact Xb
   simp only[aq];simp only[zh]
   refine zi ?_;simp only[BA,Nat.reduceEqDiff,ak,aq,Nat.reduceAdd,za,bD,Nat.reduceLT,bw,e8,hlen,go_ret,zp,Fx]
   refine⟨[.int .i64 (ws.length:Nat)],?_,rfl,vg e1 a4 (zl 1 3 (dU++[.int .i64 lab])),?_,?_⟩
   ·simp only[zx,za,bD,hlen];rfl
   ·have so:B1.length=B.length:=by rw[AH,bD]
    have ha:∀d x,nth B d=some x->d<B.length:=λd x h=>by rw[zg] at h;exact(c_.1 h).1
    have q2:=ha _ _ h2;have q3:=ha _ _ h3;have q4:=ha _ _ h4;rw[JV,Di,GR,Gp _ _ (by omega),Gp _ _ (by rw[bD];omega),Gp _ _ (by rw[bD,bD];omega),AH,<- Ah]
    rfl
   ·have Ie:(zl 1 3 (dU++[V.int .i64 lab])).top=0:=by rw[v5];exact gz Z_ rfl
    have he:vg e1 a4 (zl 1 3 (dU++[.int .i64 lab]))=e1:=by rw[vg,Ie,if_pos (by omega)]
    rw[he,he1];intro e KZ;unfold vg at KZ;split at KZ
    ·cases KZ
    ·rw[oX.1 KZ];show(zl 1 205 (wait++[cG m c])).top<=_;rw[v5];refine qL λv hv=>?_;rcases rK.1 hv with hv|hv
     ·exact cP (zn hv) MS
     ·rw[oX.1 hv];simp only[cG,V.top];omega
 ·refine jK ?_ ?_ ?_ ?_
  ·kernel_rfl
  ·rfl
  ·intro c hc;cases hc
  ·unfold Cx.eK;refine kC λq hq=>?_;simp only[dH,Ap,uR] at hq;rcases hq with rfl|rfl|rfl|rfl|rfl|rfl
   ·kernel_rfl
   ·kernel_rfl
   ·kernel_rfl
   ·kernel_rfl
   ·split
    ·rfl
    ·split
     next h=>cases h
     ·refine Ow ?_;exact iQ (by simp only[BA,ak,zd,ze,bS,bT,jc,mZ,v4 (cx:=⟨prog,gl.g,zj prog gl (n'+1),eA⟩) (a:=205) (b:=9) (show eA (vd 205)=true from rfl) rfl,Gu];rfl)
   ·kernel_rfl
end
def yi(ws:bN)(w:Nat):bN:=match ku w 0 ws with|some _=>ws|none=>ws++[w]
def jF(ws:bN)(g:Nat->Nat):Nat->bN
 | 0=>ws
 | y+1=>yi (jF ws g y) (g y)
def zm(aO:Nat->Nat->Nat)(s0:Nat):Nat->bN
 | 0=>[s0]
 | i+1=>match (zm aO s0 i)[i]? with
  | some w=>jF (zm aO s0 i) (aO w) 256
  | none=>zm aO s0 i
def qZ(ws:bN):Nat:=1+(ws.filter λw=>!(w == 0)).length
theorem zcx{w:Nat}:∀{ws:bN}{k i:Nat},ku w k ws=some i->k<=i/\ws[i - k]?=some w
 | [],k,i,h=>by simp[ku] at h
 | x::ws,k,i,h=>by
  simp only[ku] at h;split at h
  next e=>cases h;refine⟨dI _,?_⟩;rw[Cb,e];rfl
  ·obtain⟨h1,h2⟩:=zcx h;refine⟨by omega,?_⟩
   rw[show i - k=(i - (k+1))+1 by omega]
   exact h2
theorem uG{w:Nat}:∀{ws:bN}{k:Nat},ku w k ws=none ↔ w ∉ ws
 | [],k=>by simp[ku]
 | x::ws,k=>by
  simp only[ku,dH,not_or];split
  next e=>simp[e]
  next e=>rw[uG];exact⟨λh=>⟨λe'=>e e'.symm,h⟩,λh=>h.2⟩
theorem UT{w:Nat}{rs:bN}:∀{ws:bN}{k i:Nat},ku w k ws=some i->ku w k (ws++rs)=some i
 | [],k,i,h=>by simp[ku] at h
 | x::ws,k,i,h=>by
  simp only[ku,a_] at h ⊢;split
  next e=>rw[if_pos e] at h;exact h
  next e=>rw[if_neg e] at h;exact UT h
theorem zea{w:Nat}:∀{ws:bN}{k:Nat},ku w k ws=none->ku w k (ws++[w])=some (k+ws.length)
 | [],k,_=>by simp[ku]
 | x::ws,k,h=>by
  simp only[ku,a_] at h ⊢;split
  next e=>rw[if_pos e] at h;cases h
  next e=>rw[if_neg e] at h;rw[zea h];simp;omega
theorem zhM{ws:bN}{w:Nat}:∃rs,yi ws w=ws++rs:=by
 unfold yi;split
 ·exact⟨[],by simp⟩
 ·exact⟨_,rfl⟩
theorem zmM{ws:bN}{w:Nat}:∃i,ku w 0 (yi ws w)=some i:=by
 unfold yi;split
 next h=>exact⟨_,h⟩
 next h=>exact⟨_,zea h⟩
theorem UU{ws:bN}{g:Nat->Nat}{y:Nat}:∀d,∃rs,jF ws g (y+d)=jF ws g y++rs
 | 0=>⟨[],by simp⟩
 | d+1=>by
  obtain⟨r1,h1⟩:=UU (ws:=ws) (g:=g) (y:=y) d;obtain⟨r2,h2⟩:=zhM (ws:=jF ws g (y+d)) (w:=g (y+d));exact⟨r1++r2,by rw[<- pL];simp only[jF];rw[h2,h1,bh]⟩
theorem ze5{ws:bN}{g:Nat->Nat}(y:Nat):∃rs,jF ws g y=ws++rs:=by
 have:=UU (ws:=ws) (g:=g) (y:=0) y;simpa[jF] using this
theorem zmN{ws:bN}{g:Nat->Nat}{y b:Nat}(h:b<y):∃i,ku (g b) 0 (jF ws g (b+1))=some i/\ku (g b) 0 (jF ws g y)=some i:=by
 obtain⟨i,hi⟩:=zmM (ws:=jF ws g b) (w:=g b);obtain⟨rs,h2⟩:=UU (ws:=ws) (g:=g) (y:=b+1) (y - (b+1));rw[show b+1+(y - (b+1))=y by omega] at h2
 exact⟨i,hi,by rw[h2];exact UT hi⟩
theorem ze6{aO:Nat->Nat->Nat}{s0 i:Nat}:∀d,∃rs,zm aO s0 (i+d)=zm aO s0 i++rs
 | 0=>⟨[],by simp⟩
 | d+1=>by
  obtain⟨r1,h1⟩:=ze6 (aO:=aO) (s0:=s0) (i:=i) d;rw[<- pL];simp only[zm];split
  ·obtain⟨r2,h2⟩:=ze5 (ws:=zm aO s0 (i+d)) (g:=aO _) 256;exact⟨r1++r2,by rw[h2,h1,bh]⟩
  ·exact⟨r1,h1⟩
theorem UW{aO:Nat->Nat->Nat}{s0 i j:Nat}(h:i<=j):∃rs,zm aO s0 j=zm aO s0 i++rs:=by
 have:=ze6 (aO:=aO) (s0:=s0) (i:=i) (j - i)
 rwa [show i+(j - i)=j by omega] at this
theorem zeb{ws rs:bN}:qZ ws<=qZ (ws++rs):=by simp[qZ]
theorem UX{ws:bN}(h:ws.Nodup):ws.length<=qZ ws:=by
 have:∀l:bN,l.Nodup->l.length<=(l.filter λw=>!(w == 0)).length+(if 0∈l then 1 else 0):=by
  intro l
  induction l with
  | nil=>intro _;simp
  | cons x l ih =>
   intro h;obtain⟨h1,h2⟩:=List.nodup_cons.1 h;have:=ih h2
   by_cases e:x=0
   ·subst e;rw[if_neg h1] at this;simp at this ⊢;omega
   ·have e1:¬(0=x):=λh=>e h.symm;simp[e,e1] at this ⊢;omega
 have:=this ws h;unfold qZ;split at this<;>omega
theorem ziD{ws:bN}{w:Nat}(h:ws.Nodup):(yi ws w).Nodup:=by
 unfold yi;split
 ·exact h
 ·rename_i e;refine List.nodup_append.2 ⟨h,by simp,?_⟩
  intro a ha b hb;rw[oX.1 hb];intro e';subst e';exact uG.1 e ha
theorem xM{ws:bN}{g:Nat->Nat}(h:ws.Nodup):∀y,(jF ws g y).Nodup
 | 0=>h
 | y+1=>ziD (xM h y)
theorem yV{aO:Nat->Nat->Nat}{s0:Nat}:∀i,(zm aO s0 i).Nodup
 | 0=>by simp[zm]
 | i+1=>by
  simp only[zm];split
  ·exact xM (yV i) _
  ·exact yV i
section
variable{gl:Gl}
def dV(bs:List aV)(bm m:Nat)(lab:Nat->Int)(N:aD)(ws:bN)(z:Bool)(wait:aD)(rest:List aV):List aV :=
 bs++(.cells [.ptr bm 0] 141::.cells [.aG,.aG] 66::.cells [zl 1 27 N,zl 1 3 (ws.map λw=>A2.ie (lab w))] 66::.map (vb m 0 ws)::.cells [.map (bs.length+3)] 207::.cells [.int .i64 (qZ ws:Nat)] 3::.cells [mR z 1 205 wait] 201::rest)
section
variable{bs:List aV}{bm m:Nat}{lab:Nat->Int}{N N':aD}{ws:bN}{z z':Bool}{wait:aD}{rest:List aV}{x:aV}{i:Nat}
theorem Ox:(dV bs bm m lab N ws z wait rest).length=bs.length+7+rest.length:=by simp[dV];omega
theorem zgi{d:Nat}(h:d<bs.length):nth (dV bs bm m lab N ws z wait rest) d=nth bs d:=by
 rw[dV,zg,zg,gb h]
theorem wl{k:Nat}:nth (dV bs bm m lab N ws z wait rest) (bs.length+k)=nth (.cells [.ptr bm 0] 141::.cells [.aG,.aG] 66::.cells [zl 1 27 N,zl 1 3 (ws.map λw=>A2.ie (lab w))] 66::.map (vb m 0 ws)::.cells [.map (bs.length+3)] 207::.cells [.int .i64 (qZ ws:Nat)] 3::.cells [mR z 1 205 wait] 201::rest) k:=by
 rw[dV,zg,zg,fE (by omega)]
 congr 1
 omega
theorem Kt:nth (dV bs bm m lab N ws z wait rest) bs.length=some (.cells [.ptr bm 0] 141):=wl (k:=0)
theorem BC:nth (dV bs bm m lab N ws z wait rest) (bs.length+7+i)=nth rest i:=by
 rw[show bs.length+7+i=bs.length+(i+1+1+1+1+1+1+1) by omega,wl];rfl
theorem BD:dV bs bm m lab N ws z wait rest++[x]=dV bs bm m lab N ws z wait (rest++[x]):=by simp[dV]
theorem zot{xs:List aV}:dV bs bm m lab N ws z wait rest++xs=dV bs bm m lab N ws z wait (rest++xs):=by simp[dV]
theorem zmO:(dV bs bm m lab N ws z wait rest).set (bs.length+7+i) x=dV bs bm m lab N ws z wait (rest.set i x):=by
 rw[dV,uM _ _ (by omega),show bs.length+7+i - bs.length=i+1+1+1+1+1+1+1 by omega];rfl
theorem yj{l:List aV}{k:Nat}:(bs++l).set (bs.length+k) x=bs++l.set k x:=by
 rw[uM _ _ (by omega)]
 congr 2
 omega
theorem zmP{Ku:aD}:(dV bs bm m lab N ws z wait rest).set (bs.length+6) (.cells [mR z' 1 205 Ku] 201)=dV bs bm m lab N ws z' Ku rest:=yj
theorem zmQ:(dV bs bm m lab N ws z wait rest).set (bs.length+2) (.cells [zl 1 27 N',zl 1 3 (ws.map λw=>A2.ie (lab w))] 66)=dV bs bm m lab N' ws z wait rest:=yj
end
theorem zkP{ws:bN}{w:Nat}:qZ (ws++[w])=if w=0 then qZ ws else qZ ws+1:=by
 unfold qZ
 by_cases h:w=0
 ·simp[h]
 ·simp[h];omega
theorem zou{bs:List aV}{bm m c w:Nat}{lab:Nat->Int}{N wait:aD}{ws:bN}{z:Bool}{rest:List aV} :
  MR (dV bs bm m lab N ws z wait rest) (bs.length+4) (bs.length+5) (bs.length+6) (bs.length+2) (bs.length+3) m c w (qZ ws:Nat) ws wait (zl 1 27 N) (ws.map λw=>A2.ie (lab w)) (lab w) 3 201 66=dV bs bm m lab N (ws++[w]) z (wait++[cG m c]) rest:=by
 have hs:(if w=0 then ((qZ ws:Nat):Int) else ((qZ ws:Nat):Int)+1)=((qZ (ws++[w]):Nat):Int):=by
  rw[zkP];split<;>simp
 rw[MR,hs,dV,yj,yj,yj,yj,dV];simp[A2.ie,zos]
def Kv(ws:bN)(w:Nat)(wait:aD)(v:V):aD:=match ku w 0 ws with|some _=>wait|none=>wait++[v]
theorem zkQ(hg:GS gl){z:Bool}{n bm m w c:Nat}{ws:bN}{wait N:aD}{mc:aD}{tM:aB}{f:A2.F}(hn:m+400<=n)(tc:wait.length<2 ^ 39)(ZE:ws.length<2 ^ 39)(Dd:0<m)(ur:m<2 ^ 36)(hw:w<2 ^ (8 * m))(Dn:∀x∈ws,x<2 ^ (8 * m))(ov:f.s.2.length<2 ^ 40){bs rest:List aV}{es:aN}
  (hM:nth bs bm=some (.cells mc tM)) (Dw:nth mc 0=some (A2.qv f.s)) (hc:nth rest c=some (.cells (dM m w) 5)) (MS:aI wait<=bs.length+7+rest.length) :
  ∃iD j,zj prog gl (n+1) 111 [cG m (bs.length+7+c),.ptr (bs.length+4) 0,.ptr (bs.length+5) 0,.ptr (bs.length+6) 0,.ptr (bs.length+2) 0,.ptr bs.length 0] ⟨dV bs bm m (λw=>wj f.s.2.length (wi m w) (-1)) N ws z wait rest,es⟩=some (.ret (.int .i64 (j:Nat)),⟨dV bs bm m (λw=>wj f.s.2.length (wi m w) (-1)) N (yi ws w) z (Kv ws w wait (cG m (bs.length+7+c))) rest,iD⟩)/\ku w 0 (yi ws w)=some j:=by
 have BO:bm<bs.length:=by rw[zg] at hM;exact(c_.1 hM).1
 have hcB:nth (dV bs bm m (λw=>wj f.s.2.length (wi m w) (-1)) N ws z wait rest) (bs.length+7+c)=some (.cells (dM m w) 5):=BC.trans hc;cases hx:ku w 0 ws with
 | some i =>
  refine⟨es,i,?_,?_⟩
  ·rw[yi,Kv,hx];exact zkN hg hw Dn (wl (k:=4)) (wl (k:=3)) hcB hx
  ·rw[yi,hx];exact hx
 | none =>
  have hcw:qZ ws<2 ^ 40:=by
   have:=List.length_filter_le (λw=>!(w == 0)) ws;unfold qZ;omega
  obtain⟨iD,h⟩:=zkO hg (B:=dV bs bm m (λw=>wj f.s.2.length (wi m w) (-1)) N ws z wait rest) (es:=es) hn (by omega) (dU:=ws.map λw=>A2.ie (wj f.s.2.length (wi m w) (-1))) (by rw[gC];omega) Dd ur hw Dn (sum:=(qZ ws:Nat)) ⟨by omega,by omega⟩ ov (A2.lJ (λ_=>rfl) _)
   (wl (k:=4)) (wl (k:=5)) (wl (k:=6)) (wl (k:=2)) Kt ((zgi BO).trans hM) Dw (wl (k:=3)) hcB
   (by simp only[List.nodup_cons,dH,Ap,uR,not_or,List.nodup_nil,At,ue];omega) hx (by rw[Ox];exact MS)
  refine⟨iD,ws.length,?_,?_⟩
  ·rw[h,zou (lab:=λw=>wj f.s.2.length (wi m w) (-1)),yi,Kv,hx]
  ·rw[yi,hx];have:=zea (k:=0) hx;rw[nO] at this;exact this
end
theorem RR{w:Nat->Nat}:∀{Y y c:Nat},(fJ w Y).2.1[y]?=some c->(fJ w Y).1[c]?=some (w y)
 | 0,y,c,h=>by simp[fJ] at h
 | Y+1,y,c,h=>by
  have hl:=Om (w:=w) Y;simp only[fJ] at h ⊢;split at h
  ·rename_i i hi;rcases eX y Y with hy|hy
   ·rw[gb (by omega)] at h
    exact RR h
   ·rw[fE (by omega)] at h
    have e:y - (fJ w Y).2.1.length=0:=by
     have:=(c_.1 h).1;simp at this;omega
    rw[e] at h;simp at h;subst h;obtain rfl:y=Y:=by omega
    have:=(zcx hi).2;simpa using this
  ·rename_i hi;rcases eX y Y with hy|hy
   ·rw[gb (by omega)] at h
    have:=RR h;rw[gb (c_.1 this).1];exact this
   ·rw[fE (by omega)] at h
    have e:y - (fJ w Y).2.1.length=0:=by
     have:=(c_.1 h).1;simp at this;omega
    rw[e] at h;simp at h;subst h;obtain rfl:y=Y:=by omega
    simp
theorem zec{w:Nat->Nat}:∀Y,(fJ w Y).2.2.length=(fJ w Y).1.length
 | 0=>rfl
 | Y+1=>by
  simp only[fJ];split
  ·exact zec Y
  ·simp[zec Y]
def sW(f:A2.F)(y:Nat):Nat:=oW f.s.2 y f.s.2.length
def G6(f:A2.F):bN:=(fJ (sW f) 256).2.1
def RS(f:A2.F):Nat:=(fJ (sW f) 256).2.2.length
theorem zjT{f:A2.F}:(G6 f).length=256:=Om 256
theorem zmR{f:A2.F}{y c:Nat}(h:(G6 f)[y]?=some c):c<RS f:=by
 have:=(c_.1 (RR h)).1;rw[RS,zec];exact this
theorem zov{f:A2.F}:0<RS f:=by
 have h0:0<(G6 f).length:=by rw[zjT];exact Nat.succ_pos _
 exact KL (eg _) (zmR (gh h0))
theorem zpP{f:A2.F}:RS f<=256:=by
 have:∀(w:Nat->Nat) Y,(fJ w Y).2.2.length<=Y:=by
  intro w Y
  induction Y with
  | zero=>exact dI _
  | succ Y ih =>
   simp only[fJ];split
   ·exact KM ih
   ·simp;omega
 exact this _ _
theorem zed{ss:List A2.Q4}{y k:Nat}{s:A2.Q4}:∀{K:Nat},k<K->ss[k]?=some s->(oW ss y K).testBit k=Ec s y
 | 0,h,_=>by omega
 | K+1,h,hs=>by
  have hle:∀{K k},K<=k->(oW ss y K).testBit k=false:=by
   intro K
   induction K with
   | zero=>intro k _;simp[oW]
   | succ K ih =>
    intro k hk;have e:=ih (k:=k) (by omega)
    simp only[oW];split
    ·split
     ·rw[Ar,e,EP];simp;omega
     ·exact e
    ·exact e
  simp only[oW];rcases eX k K with hk|hk
  ·have ih:=zed (y:=y) hk hs;split
   ·split
    ·rw[Ar,ih,EP];have:¬K=k:=by omega
     simp[this]
    ·exact ih
   ·exact ih
  ·obtain rfl:k=K:=by omega
   rw[hs];simp only;split
   next h1=>rw[Ar,EP,h1];simp
   next h1=>rw[hle (dI _)];simpa using h1
def sX(f:A2.F)(nx:aN)(m w y:Nat):Nat:=BY f nx y (wi m w) 0
theorem zmS{f:A2.F}{nx:aN}{y z k q:Nat}(h:sW f y=sW f z):xa f nx y k q=xa f nx z k q:=by
 unfold xa;cases hs:f.s.2[k]? with
 | none=>rfl
 | some s =>
  cases hp:nx[k]? with
  | none=>rfl
  | some p =>
   have hk:=(c_.1 hs).1;have h1:=zed (y:=y) hk hs;have h2:=zed (y:=z) hk hs;have h3:(oW f.s.2 y f.s.2.length).testBit k=(oW f.s.2 z f.s.2.length).testBit k:=congrArg (λx=>Nat.testBit x k) h;simp only;rw[<- h1,<- h2,h3]
theorem zow{f:A2.F}{nx:aN}{m w y z c:Nat}(h1:(G6 f)[y]?=some c)(h2:(G6 f)[z]?=some c):sX f nx m w y=sX f nx m w z:=by
 have h:sW f y=sW f z:=DH ((RR h1).symm.trans (RR h2));have:∀(l:bN)(q:Nat),BY f nx y l q=BY f nx z l q:=by
  intro l
  induction l with
  | nil=>intro q;rfl
  | cons k l ih =>
   intro q;show BY f nx y l (xa f nx y k q)=BY f nx z l (xa f nx z k q);rw[zmS h];exact ih _
 exact this _ _
theorem ziE{f:A2.F}{nx:aN}{m w y:Nat}(h:∀p∈nx,p.2<2 ^ (8 * m)):sX f nx m w y<2 ^ (8 * m):=by
 have:∀(l:bN)(q:Nat),q<2 ^ (8 * m)->BY f nx y l q<2 ^ (8 * m):=by
  intro l
  induction l with
  | nil=>intro q hq;exact hq
  | cons k l ih =>
   intro q hq;refine ih _ ?_;show xa f nx y k q<_;unfold xa;split
   ·rename_i s p hs hp;split
    ·exact Jm hq (h p (m_ hp))
    ·exact hq
   ·exact hq
 exact this _ _ (Nat.pow_pos (by decide))
theorem zox{ws:bN}{w B:Nat}(h:∀x∈ws,x<B)(hw:w<B):∀x∈yi ws w,x<B:=by
 intro x hx;unfold yi at hx;split at hx
 ·exact h x hx
 ·rcases rK.1 hx with hx|hx
  ·exact h x hx
  ·rw[oX.1 hx];exact hw
theorem zgj{ws:bN}{g:Nat->Nat}{B:Nat}(h:∀x∈ws,x<B)(hg:∀y,g y<B):∀y,∀x∈jF ws g y,x<B
 | 0=>h
 | y+1=>zox (zgj h hg y) (hg y)
theorem zee{aO:Nat->Nat->Nat}{s0 B:Nat}(h:s0<B)(hn:∀w y,aO w y<B):∀i,∀x∈zm aO s0 i,x<B
 | 0=>by simp[zm,h]
 | i+1=>by
  simp only[zm];split
  ·exact zgj (zee h hn i) (hn _) 256
  ·exact zee h hn i
def xc(aO:Nat->Nat->Nat)(s0 j:Nat):List Int:=match (zm aO s0 j)[j]? with
 | some w=>(List.range 256).map λy=>(((ku (aO w y) 0 (zm aO s0 (j+1))).getD 0:Nat):Int)
 | none=>[]
inductive WF(m:Nat)(rest:List aV):bN->bN->Prop
 |nil:WF m rest [] []
 |cons {w c:Nat} {ws cs:bN} (h:nth rest c=some (.cells (dM m w) 5)) (t:WF m rest ws cs):WF m rest (w::ws) (c::cs)
theorem WF.mono{m:Nat}{r r':List aV}(hr:∀c w,nth r c=some (.cells (dM m w) 5)->nth r' c=some (.cells (dM m w) 5)){ws cs:bN}(h:WF m r ws cs):WF m r' ws cs:=by
 induction h with
 | nil=>exact .nil
 | cons h _ ih=>exact .cons (hr _ _ h) ih
theorem WF.snoc{m:Nat}{r:List aV}{w c:Nat}(hc:nth r c=some (.cells (dM m w) 5)){ws cs:bN}(h:WF m r ws cs):WF m r (ws++[w]) (cs++[c]):=by
 induction h with
 | nil=>exact .cons hc .nil
 | cons h _ ih=>exact .cons h ih
theorem WF.len{m:Nat}{r:List aV}{ws cs:bN}(h:WF m r ws cs):cs.length=ws.length:=by
 induction h with
 | nil=>rfl
 | cons _ _ ih=>simp[ih]
theorem WF.lt{m:Nat}{r:List aV}{ws cs:bN}(h:WF m r ws cs):∀c∈cs,c<r.length:=by
 induction h with
 | nil=>simp
 | cons h _ ih =>
  intro c hc;rcases dH.1 hc with rfl|hc
  ·rw[zg] at h;exact(c_.1 h).1
  ·exact ih c hc
section
def fX(b k:Nat):V:=.sr (b+k) 0 256 256
def AM(b:Nat)(NB:bN)(dU:List Int):V:=.agg [aW (zl 1 27 (NB.map (fX b))),aW (zl 1 3 (dU.map A2.ie))]
inductive RW(aO:Nat->Nat->Nat)(s0:Nat)(B:List aV)(b:Nat):Nat->bN->Prop
 |nil:RW aO s0 B b 0 []
 |snoc {i k:Nat} {NB:bN} (h:RW aO s0 B b i NB) (hk:∀j∈NB,j<k) (hb:nth B (b+k)=some (.cells ((xc aO s0 i).map A2.ie) 3)):RW aO s0 B b (i+1) (NB++[k])
theorem RW.mono{aO:Nat->Nat->Nat}{s0 b b' i:Nat}{B B':List aV}{NB:bN}(h:RW aO s0 B b i NB):(∀k x,k∈NB->nth B (b+k)=some x->nth B' (b'+k)=some x)->RW aO s0 B' b' i NB:=by
 induction h with
 | nil=>intro _;exact .nil
 | snoc h hk hb ih=>intro hm;exact .snoc (ih λk x hk=>hm k x (AO _ hk)) hk (hm _ _ (by simp) hb)
theorem RW.len{aO:Nat->Nat->Nat}{s0 b i:Nat}{B:List aV}{NB:bN}(h:RW aO s0 B b i NB):NB.length=i:=by
 induction h with
 | nil=>rfl
 | snoc _ _ _ ih=>simp[ih]
theorem RW.lt{aO:Nat->Nat->Nat}{s0 b i:Nat}{B:List aV}{NB:bN}(h:RW aO s0 B b i NB):∀k∈NB,b+k<B.length:=by
 induction h with
 | nil=>simp
 | snoc h hk hb ih =>
  intro k hk;rcases rK.1 hk with hk|hk
  ·exact ih k hk
  ·rw[oX.1 hk];rw[zg] at hb;exact(c_.1 hb).1
theorem kG{rest:List aV}{k d:Nat}{x y:aV}(h1:nth rest k=some x):nth (rest.set k y) d=if d=k then some y else nth rest d:=by
 have hk:k<rest.length:=by rw[zg] at h1;exact(c_.1 h1).1
 rw[zg,zg,s4]
 by_cases e:k=d
 ·subst e;simp[hk]
 ·rw[if_neg e,if_neg (λe'=>e e'.symm)]
theorem vO{rest xs:List aV}{k:Nat}{x:aV}(h:nth rest k=some x):nth (rest++xs) k=some x:=by
 rw[zg] at h ⊢;rw[gb (c_.1 h).1,h]
structure mS(m i kr c0 nc w:Nat)(aO:Nat->Nat->Nat)(s0:Nat)(cl ws NB:bN)(y yr:Nat)(rest:List aV)(W:bN)(R T:List Int):Prop where
 wf:WF m rest ((jF ws (aO w) y).drop (i+1)) W
 sy:nth rest c0=some (.cells (dM m w) 5)
 hR:nth rest kr=some (.cells (R.map A2.ie) 3)
 Rl:R.length=256
 Rv:∀b,b<yr->∃j:Nat,ku (aO w b) 0 (jF ws (aO w) y)=some j/\R[b]?=some (j:Int)
 hT:nth rest (kr+1)=some (.cells (T.map A2.ie) 3)
 Tl:T.length=nc
 Tv:∀(c:Nat)(v:Int),T[c]?=some v->(v = -1/\∀b,b<y->cl[b]?≠some c)\/∃b,b<y/\cl[b]?=some c/\∃j:Nat,v=j/\ku (aO w b) 0 (jF ws (aO w) y)=some j
 rw:RW aO s0 rest 0 i NB
 nb:∀k∈NB,k<kr
variable{m i kr c0 nc w:Nat}{aO:Nat->Nat->Nat}{s0:Nat}{cl ws NB:bN}{y yr:Nat}{rest:List aV}{W:bN}{R T:List Int}
theorem mS.app(h:mS m i kr c0 nc w aO s0 cl ws NB y yr rest W R T)(xs:List aV):mS m i kr c0 nc w aO s0 cl ws NB y yr (rest++xs) W R T :=
 {h with wf:=h.wf.mono λ_c _w e=>vO e,sy:=vO h.sy,hR:=vO h.hR,hT:=vO h.hT,rw:=h.rw.mono λ_k _x _ e=>vO e }
def I9(ws:bN)(w:Nat)(W:bN)(c:Nat):bN:=match ku w 0 ws with|some _=>W|none=>W++[c]
theorem zhN{ws:bN}{x w j:Nat}(h:ku x 0 ws=some j):ku x 0 (yi ws w)=some j:=by
 obtain⟨rs,e⟩:=zhM (ws:=ws) (w:=w);rw[e];exact UT h
theorem zef{k d:Nat}{L:List Int}{u:Nat}(h1:nth rest k=some (.cells (L.map A2.ie) 3))(h2:nth rest d=some (.cells (dM m u) 5)):d≠k:=λe=>by
 subst e;rw[h1] at h2;exact absurd (aV.cells.inj (DH h2)).2 (by decide)
theorem WF.set{k:Nat}{L:List Int}{x:aV}{us cs:bN}(h:WF m rest us cs)(h1:nth rest k=some (.cells (L.map A2.ie) 3)):WF m (rest.set k x) us cs :=
 h.mono λc u e=>by rw[kG h1,if_neg (zef h1 e),e]
theorem mS.new{c cn j:Nat}(h:mS m i kr c0 nc w aO s0 cl ws NB y yr rest W R T)(gG:cl[y]?=some c)(Kw:nth rest cn=some (.cells (dM m (aO w y)) 5))(hi:i+1<=(jF ws (aO w) y).length)
  (hj:ku (aO w y) 0 (yi (jF ws (aO w) y) (aO w y))=some j):mS m i kr c0 nc w aO s0 cl ws NB (y+1) yr (rest.set (kr+1) (.cells ((T.set c (j:Int)).map A2.ie) 3)) (I9 (jF ws (aO w) y) (aO w y) W cn) R (T.set c (j:Int)):=by
 refine { wf:=WF.set (L:=T) ?_ h.hT,sy:=?_,hR:=?_,Rl:=h.Rl,Rv:=?_,hT:=?_,Tl:=?_,Tv:=?_,rw:=?_,nb:=h.nb }
 ·cases hx:ku (aO w y) 0 (jF ws (aO w) y) with
  | some k=>simp only[jF,yi,I9,hx];exact h.wf
  | none =>
   simp only[jF,yi,I9,hx];rw[List.drop_append_of_le_length hi];exact h.wf.snoc Kw
 ·rw[kG h.hT,if_neg (zef h.hT h.sy),h.sy]
 ·rw[kG h.hT,if_neg (by omega),h.hR]
 ·intro b hb;obtain⟨j',h1,h2⟩:=h.Rv b hb;exact⟨j',zhN h1,h2⟩
 ·rw[kG h.hT,if_pos rfl]
 ·rw[bD,h.Tl]
 ·intro d v hv;rw[s4] at hv
  by_cases e:c=d
  ·subst e;rw[if_pos rfl] at hv;split at hv
   ·cases hv;exact .inr ⟨y,Hq _,gG,j,rfl,hj⟩
   ·cases hv
  ·rw[if_neg e] at hv;rcases h.Tv d v hv with⟨h1,h2⟩|⟨b,h1,h2,j',h3,h4⟩
   ·refine .inl ⟨h1,λb hb=>?_⟩;rcases eX b y with cZ|cZ
    ·exact h2 b cZ
    ·obtain rfl:b=y:=by omega
     rw[gG];intro e';exact e (DH e')
   ·exact .inr ⟨b,by omega,h2,j',h3,zhN h4⟩
 ·refine h.rw.mono λk x hk e=>?_;rw[kG h.hT,if_neg,e];have:=h.nb k hk;omega
theorem mS.old{c:Nat}{v:Int}(h:mS m i kr c0 nc w aO s0 cl ws NB y yr rest W R T)(gG:cl[y]?=some c)(hv:T[c]?=some v)(h0:¬v<0)(Oy:∀b,cl[b]?=some c->aO w b=aO w y) :
  jF ws (aO w) (y+1)=jF ws (aO w) y/\mS m i kr c0 nc w aO s0 cl ws NB (y+1) yr rest W R T:=by
 rcases h.Tv c v hv with⟨rfl,_⟩|⟨b,h1,h2,j,h3,h4⟩
 ·exact absurd (by decide) h0
 ·have e:jF ws (aO w) (y+1)=jF ws (aO w) y:=by
   rw[Oy b h2] at h4;simp only[jF,yi,h4]
  refine⟨e,{ wf:=by rw[e];exact h.wf,sy:=h.sy,hR:=h.hR,Rl:=h.Rl,Rv:=by rw[e];exact h.Rv,hT:=h.hT,Tl:=h.Tl,Tv:=?_,rw:=h.rw,nb:=h.nb }⟩
  intro d u hu;rw[e];rcases h.Tv d u hu with⟨g1,g2⟩|⟨b',g1,g2,g3⟩
  ·refine .inl ⟨g1,λb' cZ=>?_⟩;rcases eX b' y with RT|RT
   ·exact g2 b' RT
   ·obtain rfl:b'=y:=by omega
    rw[gG];intro e';have:c=d:=DH e';subst this;exact g2 b h1 h2
  ·exact .inr ⟨b',by omega,g2,g3⟩
theorem mS.val{c:Nat}{v:Int}(h:mS m i kr c0 nc w aO s0 cl ws NB (y+1) yr rest W R T)(gG:cl[y]?=some c)(hv:T[c]?=some v)(Oy:∀b,cl[b]?=some c->aO w b=aO w y):∃j:Nat,v=j/\ku (aO w y) 0 (jF ws (aO w) (y+1))=some j:=by
 rcases h.Tv c v hv with⟨_,h2⟩|⟨b,h1,h2,j,h3,h4⟩
 ·exact absurd gG (h2 y (Hq _))
 ·rw[Oy b h2] at h4;exact⟨j,h3,h4⟩
theorem mS.row{j:Nat}(h:mS m i kr c0 nc w aO s0 cl ws NB (y+1) y rest W R T)(hy:y<256)(hj:ku (aO w y) 0 (jF ws (aO w) (y+1))=some j):mS m i kr c0 nc w aO s0 cl ws NB (y+1) (y+1) (rest.set kr (.cells ((R.set y (j:Int)).map A2.ie) 3)) W (R.set y (j:Int)) T:=by
 refine { wf:=WF.set (L:=R) h.wf h.hR,sy:=?_,hR:=?_,Rl:=?_,Rv:=?_,hT:=?_,Tl:=h.Tl,Tv:=h.Tv,rw:=?_,nb:=h.nb }
 ·rw[kG h.hR,if_neg (zef h.hR h.sy),h.sy]
 ·rw[kG h.hR,if_pos rfl]
 ·rw[bD,h.Rl]
 ·intro b hb;rcases eX b y with cZ|cZ
  ·obtain⟨j',h1,h2⟩:=h.Rv b cZ;exact⟨j',h1,by rw[s4,if_neg (by omega)];exact h2⟩
  ·obtain rfl:b=y:=by omega
   exact⟨j,hj,by rw[s4,if_pos rfl,if_pos (by rw[h.Rl];exact hy)]⟩
 ·rw[kG h.hR,if_neg (by omega),h.hT]
 ·refine h.rw.mono λk x hk e=>?_;rw[kG h.hR,if_neg,e];have:=h.nb k hk;omega
theorem mS.done(h:mS m i kr c0 nc w aO s0 cl (zm aO s0 i) NB 256 256 rest W R T)(hw:(zm aO s0 i)[i]?=some w):RW aO s0 rest 0 (i+1) (NB++[kr])/\WF m rest ((zm aO s0 (i+1)).drop (i+1)) W:=by
 have e:zm aO s0 (i+1)=jF (zm aO s0 i) (aO w) 256:=by simp only[zm,hw]
 refine⟨.snoc h.rw h.nb ?_,by rw[e];exact h.wf⟩
 rw[nO,h.hR]
 congr 3
 apply ER;intro b;rw[xc,hw];simp only;rcases eX b 256 with hb|hb
 ·obtain⟨j,h1,h2⟩:=h.Rv b hb;rw[h2,iY,Hj hb];simp only[aS,e,h1,fQ]
 ·rw[uc (by rw[h.Rl];exact hb),uc (by rw[gC,List.length_range];exact hb)]
end
section
set_option pp.deepTerms true
set_option pp.maxSteps 200000
variable{gl:Gl}
structure MM(f:A2.F)(m:Nat)(nx:aN)(bs:List aV)(bm:Nat):Prop where
 mm:m=(f.s.2.length+f.f.2.length) / 8+1
 hs:∀q∈f.s.2,BX q
 ns:f.s.2.length<2 ^ 30
 nf:f.f.2.length<2 ^ 30
 nxl:nx.length=f.s.2.length
 M:nth bs bm=some (.cells (m4 f (nx.map λp=>cG m p.1) (xb (sW f) 256) (tW (sW f) 256)) 204)
 X:∀p∈nx,nth bs p.1=some (.cells (dM m p.2) 5)/\p.2<2 ^ (8 * m)
theorem RU:qQ prog 66=some (.agg [.aG,.aG]):=by kernel_rfl
theorem aar:qQ prog 201=some .aG:=by kernel_rfl
theorem aas:qQ prog 207=some .mo:=by kernel_rfl
theorem RV:z4 prog 207=some 1:=by kernel_rfl
theorem pH:qD prog 66=some true:=by kernel_rfl
theorem mI:z4 prog 66=some 2:=by kernel_rfl
theorem MU:zB prog 66 0=some 0:=by kernel_rfl
theorem in3:∃i,prog.info? 3=some i/\i.bytes=8:=⟨_,rfl,rfl⟩
theorem RX{b i l c:Nat}(h:i<l):zt prog 27 (.sr b 0 l c) ((i:Nat):Int)=some (.ptr b i):=by
 simp only[zt,Ee,tU];rw[if_pos (by omega)]
 simp
theorem zq4{b i:Nat}{l:List Int}(h:i<l.length):wv [] b i 1 ((l.map A2.ie).drop i)=true:=yp λk hk=>by
 obtain rfl:k=0:=by omega
 exact⟨A2.ie l[i],by rw[nP,iY,gh h];rfl,rfl⟩
theorem RY:∀{k:Nat},(List.replicate k [V.int .i64 0]).flatten=(List.replicate k (0:Int)).map A2.ie
 | 0=>rfl
 | k+1=>by rw[Hh,List.flatten_cons,RY,Hh];rfl
section
variable{cx:Cx}{takes:bY}{dst:fH}{type:aB}{pos:String}{after:Array Edge}{guard:oZ}{env:aD}{H:Hp}{lk:aN}{df:bO}
def UY(P:aQ)(t:aB)(x:bX)(lo hi:Option bX)(m:bX):bX :=
 match lo,hi,x,m with
 | some lo,some (some (.int k1 h)),some (.sl sz xs o),some (.int _ k)=>if h<=k/\k<=xs.length then yW P t (.sl sz xs o) lo (some (.int k1 h)) else none
 | _,_,_,_=>none
theorem zoz{t:aB}{x m:aX}{lo hi:Option aX}:cx.op takes ⟨dst,.slice t x lo hi (some m),type,pos,after,guard⟩ env H lk df=iB env H lk df (UY cx.P t (ak env x) (cU env lo) (cU env hi) (ak env m)):=by
 simp only[Cx.op];refine vU ?_;simp only[jf];unfold UY;cases cU env lo with
 | none=>rfl
 | some lo =>
  cases cU env hi with
  | none=>rfl
  | some hi =>
   cases ak env x with
   | none=>cases hi with
    | none=>rfl
    | some v=>cases v<;>rfl
   | some v =>
    cases ak env m with
    | none=>cases hi with
     | none=>cases v<;>rfl
     | some u=>cases u<;>cases v<;>rfl
    | some w=>cases hi with
     | none=>cases w<;>cases v<;>rfl
     | some u=>cases u<;>cases w<;>cases v<;>rfl
def RZ(P:aQ)(t:aB)(x:Option (V×aD))(lo:Option bX)(H:Hp)(lk:aN)(df:bO):Option (OR×St) :=
 match P.underlying t,x,lo with
 | some (.slice e'),some (.sl sz xs (.yes e),env),some (some (.int _ i))=>match z4 P e' with
  | some n=>match Nat.beq n sz && decide (0<=i) && Nat.ble i.toNat xs.length with
   | true=>some (.val (.sl sz (xs.drop i.toNat) (.yes e)),⟨env,H,lk,df⟩)
   | false=>none
  | none=>none
 | _,_,_=>none
theorem zmT{t:aB}{x:aX}{lo:Option aX}(hf:xz takes x lo none=true):cx.op takes ⟨dst,.slice t x lo none none,type,pos,after,guard⟩ env H lk df=RZ cx.P t (take env x) (cU env lo) H lk df:=by
 simp only[Cx.op,hf,KS,RZ];cases cx.P.underlying t with
 | none=>rfl
 | some d =>
  cases d<;>try rfl
  cases take env x with
  | none=>rfl
  | some p =>
   obtain⟨v,e⟩:=p;cases v<;>try rfl
   rename_i sz xs o;cases o<;>try rfl
   cases cU env lo with
   | none=>rfl
   | some l =>
    cases l with
    | none=>rfl
    | some l =>
     cases l<;>try rfl
     simp only;cases z4 cx.P _ with
     | none=>rfl
     | some n =>
      simp only;generalize (Nat.beq n sz && _ && _)=bb;cases bb<;>rfl
end
structure MV(b most:Nat)(FN:V)(env:aD):Prop where
 len:env.length=107
 e2:nth env 2=some (.int .i64 (most:Nat))
 e3:nth env 3=some (.ptr b 0)
 e6:nth env 6=some (.ptr (b+1) 0)
 e9:nth env 9=some (.ptr (b+2) 0)
 iX:nth env 11=some (.ptr (b+5) 0)
 n6:nth env 12=some (.ptr (b+6) 0)
 EG:nth env 13=some FN
theorem zkR{z:Bool}{n e:Nat}{x:V}{xs:aD}:aW (mR z n e (x::xs))=.sl n (x::xs) .no:=by cases z<;>rfl
theorem zoA{v:V}{wt:aD}:UY prog 201 (some (.sl 1 (v::wt) .no)) (some (some (.int .i64 0))) (some (some (.int .i64 1))) (some (.int .i64 1))=some (.sl 1 [v] .no):=by
 have h1:(1:Int)<=1/\(1:Int)<=(((v::wt).length:Nat):Int):=by simp only[aZ];omega
 simp only[UY,h1,and_self,aF];simp[yW,sR,j8]
theorem zqC{m c:Nat}:zt prog 201 (.sl 1 [cG m c] .no) 0=some (.vp [cG m c]):=by
 simp[zt,sR,cG,V.cells,nth]
theorem ziF{z:Bool}{v:V}{wt env:aD}{H:Hp}{lk:aN}{df:bO}:RZ prog 201 (some (mR z 1 205 (v::wt),env)) (some (some (.int .i64 1))) H lk df=some (.val (mR true 1 205 wt),⟨env,H,lk,df⟩):=by
 rw[zmK];have hb:Nat.ble 1 (wt.length+1)=true:=KH (by omega)
 simp[RZ,zl,sR,mR,hb]
theorem zkS{cx:Cx}{takes:bY}{dst:fH}{type:aB}{pos:String}{after:Array Edge}{guard:oZ}{env:aD}{H:Hp}{lk:aN}{df:bO}{t:aB}{k:Nat}{lo:aX}(hf:takes.any (Nat.beq (1048576+k))=true):cx.op takes ⟨dst,.slice t (.tmp k) (some lo) none none,type,pos,after,guard⟩ env H lk df=RZ cx.P t (take env (.tmp k)) (cU env (some lo)) H lk df:=zmT hf
theorem aat:prog.underlying 78=some (.slice 5):=by kernel_rfl
theorem zhO{H:Hp}{b o l c:Nat}:jb prog H 27 (.sr b o l c)=some (l:Int):=by simp only[jb,Ee]
theorem MW:mN prog 28 27 1 24:=⟨by kernel_rfl,by kernel_rfl,by kernel_rfl,by decide,by kernel_rfl,by kernel_rfl,by kernel_rfl⟩
theorem zpQ{ws W:bN}{x c:Nat}{v:V}{f:Nat->V}(h:f c=v):Kv ws x (W.map f) v=(I9 ws x W c).map f:=by
 cases hx:ku x 0 ws with
 | some k=>simp only[Kv,I9,hx]
 | none=>simp only[Kv,I9,hx,List.map_append,aY,bp,h]
theorem vP{cx:Cx}{n:Nat}{Q:Ex->St->Prop}{k:List It}{Bo:aD}{H0:Hp}{GL:aN}{P:aD->Hp->Prop}(h:∀env H lk,P env H->go cx n Q k .normal ⟨env,H,lk,[]⟩)(h0:P Bo H0):go cx n Q k .normal ⟨Bo,H0,GL,[]⟩:=h _ _ _ h0
def zo1(bs:List aV)(aO:Nat->Nat->Nat)(s0:Nat)(lab:Nat->Int)(most:Int)(v:V)(H:Hp):Prop :=
 (∃i NB bl es,0<i/\(zm aO s0 i).length=i/\(qZ (zm aO s0 i):Int)<=most/\v=.bq [AM (bs.length+7) NB ((zm aO s0 i).map lab),.int .i64 (qZ (zm aO s0 i):Nat),.bool true]/\H=⟨bs++bl,es⟩/\RW aO s0 (bs++bl) (bs.length+7) i NB) \/
 (∃i dU bl es z,most<(qZ (zm aO s0 i):Int)/\v=.bq [AM (bs.length+7) [] dU,.int .i64 z,.bool false]/\H=⟨bs++bl,es⟩)
theorem zeh{B:Nat}:∀{l:List Int}{q:Nat},(∀z∈l,z.toNat<B)->q<2 ^ B->wT l q<2 ^ B
 | [],q,_,hq=>hq
 | z::l,q,h,hq=>zeh (l:=l) (λz hz=>h z (dR _ hz)) (Jm hq (Hf (by decide) (h z (eH ..))))
theorem zei{B:Nat}{rows:List A2.cE}(h:∀row∈rows,∀z∈row.2,z.toNat<B):∀{l:List Int}{q:Nat},q<2 ^ B->qd rows l q<2 ^ B
 | [],q,hq=>hq
 | r::l,q,hq=>by
  refine zei (l:=l) h ?_;refine zeh (λz hz=>?_) hq;cases hr:rows[r.toNat]? with
  | none=>rw[hr] at hz;simp at hz
  | some row=>rw[hr] at hz;exact h row (m_ hr) z hz
set_option maxHeartbeats 1000000 in
theorem zej(hg:GS gl){n bm m most:Nat}{f:A2.F}{nx:aN}{act:A2.cE}{bs:List aV}{es:aN}(hn:m+1000<=n)(ur:m<2 ^ 36)(agQ:most<=600)(hM:MM f m nx bs bm)
  (ha:∀r∈act.2,0<=r/\r.toNat<f.f.2.length) (hr:∀row∈f.f.2,row.2.length<n - 2/\row.2.length<2 ^ 60/\∀z∈row.2,0<=z/\z.toNat<f.s.2.length+f.f.2.length) (han:act.2.length<n - 2) (rN:act.2.length<2 ^ 60) :
  ∃v H',zj prog gl (n+1) 74 [.ptr bm 0,A2.iv act,.int .i64 (most:Nat)] ⟨bs,es⟩=some (.ret v,H')/\zo1 bs (sX f nx m) (qd f.f.2 act.2 0) (λw=>wj f.s.2.length (wi m w) (-1)) most v H':=by
 obtain⟨aO,t_⟩:∃x,x=sX f nx m:=⟨_,rfl⟩;obtain⟨s0,D5⟩:∃x,x=qd f.f.2 act.2 0:=⟨_,rfl⟩;obtain⟨lab,Ah⟩:∃x:Nat->Int,x=λw=>wj f.s.2.length (wi m w) (-1):=⟨_,rfl⟩;rw[<- t_,<- D5,<- Ah]
 suffices bL:(go ⟨prog,gl,zj prog gl n,eA⟩ n (Fx prog f74.results.toList λv H1=>zo1 bs aO s0 lab most v H1) [.c (f74.body.getD .skip)] .normal ⟨[.ptr bm 0,A2.iv act,.int .i64 (most:Nat)]++List.replicate 104 (.bq []),⟨bs,[]⟩,[],[]⟩) by
  obtain⟨v,H1,h0,hp⟩:=zQ (gl:=gl) (f:=74) (bs:=bs) (es:=es) (args:=[.ptr bm 0,A2.iv act,.int .i64 (most:Nat)]) (n:=n) (hg.hk _ _ (by decide)) (λH=>hg.fG _ _ _ _ (by decide)) func74 rfl (by rw[hg.uq];exact bL)
  rcases hp with⟨i,NB,bl,p6,q1,q2,q3,rfl,rfl,q6⟩|⟨i,dU,bl,p6,z,q1,rfl,rfl⟩
  ·obtain⟨k,hk⟩:∃k,k∈NB:=by
    cases NB with
    | nil=>have:=q6.len;simp at this;omega
    | cons k l=>exact⟨k,eH ..⟩
   have R1:zW bs.length es (V.bq [AM (bs.length+7) NB ((zm aO s0 i).map lab),.int .i64 (qZ (zm aO s0 i):Nat),.bool true]).top ⟨bs++bl,p6⟩=⟨bs++bl,p6++es⟩:=by
    refine yK ?_;have h1:(fX (bs.length+7) k).top<=aI (NB.map (fX (bs.length+7))):=zn (mj.2 ⟨k,hk,rfl⟩);have h2:(aW (zl 1 27 (NB.map (fX (bs.length+7))))).top=aI (NB.map (fX (bs.length+7))):=by rw[jm,v5]
    simp only[fX,V.top] at h1;simp only[AM,V.top,aI,h2];omega
   exact⟨_,_,h0,.inl ⟨i,NB,bl,_,q1,q2,q3,rfl,R1,q6⟩⟩
  ·have hf:∃bl' iD,zW bs.length es (V.bq [AM (bs.length+7) [] dU,.int .i64 z,.bool false]).top ⟨bs++bl,p6⟩=⟨bs++bl',iD⟩:=by
    unfold zW;split
    ·exact⟨[],_,by rw[List.take_left,mT]⟩
    ·exact⟨bl,_,rfl⟩
   obtain⟨bl',iD,hf⟩:=hf;exact⟨_,_,h0,.inr ⟨i,dU,bl',iD,z,q1,rfl,hf⟩⟩
 have BO:bm<bs.length:=by have:=hM.M;rw[zg] at this;exact(c_.1 this).1
 simp only[f74,fQ,zh];refine zi ?_
 simp only[qw,aH,zh,wB,qO,z6,zL,qF,aj,jI,z9,aL,aq,aS,zc,aU,aZ,List.length_nil,nO,bh,a_,bg,zd,bS,bT,List.replicate,z7 (v:=.ptr bm 0) rfl,show V.laid (.ptr bm 0)=[.ptr bm 0] from rfl,RU,zH (show dz (V.agg [.aG,.aG])=true from rfl),V.cells]
 refine zi ?_
 simp only[qw,aH,zh,qO,aL,aq,zc,aU,aZ,List.length_nil,nO,Nat.reduceAdd,bh,a_,bg,bS,bT,RU,zH (show dz (V.agg [.aG,.aG])=true from rfl),V.cells]
 refine zi ?_;simp only[BA,ak,aq,zc,Nat.reduceAdd,zd,ze,bS,bT,zd4,aas,zH (show dz V.mo=true from rfl),V.cells,Z2]
 have Ms:∀env,qr prog 207 ⟨bs++[.cells [.ptr bm 0] 141,.cells [.aG,.aG] 66,.cells [.aG,.aG] 66,.map [],.cells [.mo] 207],[]⟩ [] [] (some (.map (bs.length+3),env)) (some (.ptr (bs.length+4) 0))=some (.skip,⟨env,⟨bs++[.cells [.ptr bm 0] 141,.cells [.aG,.aG] 66,.cells [.aG,.aG] 66,.map [],.cells [.map (bs.length+3)] 207],[]⟩,[],[]⟩):=λenv=>by
  rw[zy RV (cs:=[.mo]) (ty:=207) (Go.Vm.get_at.trans rfl) rfl rfl (by simp) rfl,jT (by simp[V.top])]
  simp only[Hp.set,yj];rfl
 simp only[Ms,bu,aq]
 refine zi ?_;simp only[BA,ak,aj,aq,zc,Nat.reduceAdd,zd,ze,bS,bT,Uv,zH (show dz (V.int .i64 0)=true from rfl),V.cells]
 have CJ:∀env,qr prog 3 ⟨bs++[.cells [.ptr bm 0] 141,.cells [.aG,.aG] 66,.cells [.aG,.aG] 66,.map [],.cells [.map (bs.length+3)] 207,.cells [.int .i64 0] 3],[]⟩ [] [] (some (.int .i64 1,env)) (some (.ptr (bs.length+5) 0))=some (.skip,⟨env,⟨bs++[.cells [.ptr bm 0] 141,.cells [.aG,.aG] 66,.cells [.aG,.aG] 66,.map [],.cells [.map (bs.length+3)] 207,.cells [.int .i64 1] 3],[]⟩,[],[]⟩):=λenv=>by
  rw[zy tU (cs:=[.int .i64 0]) (ty:=3) (Go.Vm.get_at.trans rfl) rfl rfl (by simp) rfl,jT (by simp[V.top])]
  simp only[Hp.set,yj];rfl
 simp only[CJ,bu,aq]
 refine zi ?_;simp only[BA,aq,zc,Nat.reduceAdd,bS,bT,aar,zH (show dz V.aG=true from rfl),V.cells];refine zi ?_
 simp only[BA,av,ak,aq,zd,ze,bS,bT,Uu];have FI:bs++[aV.cells [.ptr bm 0] 141,.cells [.aG,.aG] 66,.cells [.aG,.aG] 66,.map [],.cells [.map (bs.length+3)] 207,.cells [.int .i64 1] 3,.cells [.aG] 201]=dV bs bm m lab [] [] false [] []:=rfl
 rw[FI];have mZ:∀c,aW (cG m c)=cG m c:=λ_=>rfl;obtain⟨FN,UZ⟩:∃F,F=V.fn (.func 111) [] [.ptr (bs.length+4) 0,.ptr (bs.length+5) 0,.ptr (bs.length+6) 0,.ptr (bs.length+2) 0,.ptr bs.length 0]:=⟨_,rfl⟩;have R3:aW FN=FN:=by rw[UZ];rfl
 have aaw:∀env t,qK env t (some FN)=some (FN,env):=λ_ _=>by rw[UZ];rfl
 have R4:∀v H,Cx.mq ⟨prog,gl.g,zj prog gl n,eA⟩ FN [v] H=Cx.bC ⟨prog,gl.g,zj prog gl n,eA⟩ 111 [aW v,.ptr (bs.length+4) 0,.ptr (bs.length+5) 0,.ptr (bs.length+6) 0,.ptr (bs.length+2) 0,.ptr bs.length 0] H:=λv H=>by rw[UZ,Zw rfl];rfl
 rw[<- UZ];simp only[aaw,z9,aL,aq,bS,bT]
 have R5:f.s.2.length<2 ^ 40:=Nat.lt_trans hM.ns (by decide)
 have R6:s0<2 ^ (8 * m):=by
  rw[D5]
  exact zei (λrow b_ z hz=>by
   have:=((hr row b_).2.2 z hz).2;have:=hM.mm
   omega) (Nat.pow_pos (by decide))
 have aax:0<m:=by have:=hM.mm;omega
 have U0:∀N ws z wait rest,nth (dV bs bm m lab N ws z wait rest) bm=some (.cells (m4 f (nx.map λp=>cG m p.1) (xb (sW f) 256) (tW (sW f) 256)) 204):=λ_ _ _ _ _=>(zgi BO).trans hM.M;have I_:∀N ws z wait rest es,zk prog ⟨dV bs bm m lab N ws z wait rest,es⟩ gl.g 141 (.ptr bs.length 0)=some (.ptr bm 0):=λ_ _ _ _ _ _=>zq eS (show Hp.get _ _=_ from Kt) rfl
 obtain⟨b7,G7⟩:∃b7,b7=bs.length+7:=⟨_,rfl⟩;obtain⟨n1,rfl⟩:∃n1,n=n1+1+1+1+1:=⟨n - 4,by omega⟩
 have Ge:Cx.bC ⟨prog,gl.g,zj prog gl (n1+4),eA⟩ 113 [.ptr bm 0,A2.iv act] ⟨dV bs bm m lab [] [] false [] [],[]⟩=some (.val (cG m (bs.length+7+0)),⟨dV bs bm m lab [] [] false [] [.cells (dM m s0) 5],[]⟩):=by
  refine zu func113 rfl ?_;have:=zkK hg (n:=n1+2) (es:=[]) (act:=act) (Nat.lt_trans hM.ns (by decide)) (Nat.lt_trans hM.nf (by decide)) hM.mm ha (λrow b_=>⟨by have:=(hr row b_).1;omega,(hr row b_).2⟩) (by omega) rN (U0 [] [] false [] []) rfl rfl
  rw[BD,Ox,<- D5] at this;exact this
 have Gf:∀{ws:bN}{w c:Nat}{z:Bool}{wait N:aD}{rest:List aV}{es:aN},wait.length<2 ^ 39->ws.length<2 ^ 39->w<2 ^ (8 * m)->(∀x∈ws,x<2 ^ (8 * m))->nth rest c=some (.cells (dM m w) 5)->aI wait<=bs.length+7+rest.length ->
   ∃iD j,Cx.bC ⟨prog,gl.g,zj prog gl (n1+4),eA⟩ 111 [cG m (bs.length+7+c),.ptr (bs.length+4) 0,.ptr (bs.length+5) 0,.ptr (bs.length+6) 0,.ptr (bs.length+2) 0,.ptr bs.length 0] ⟨dV bs bm m lab N ws z wait rest,es⟩=some (.val (.int .i64 (j:Nat)),⟨dV bs bm m lab N (yi ws w) z (Kv ws w wait (cG m (bs.length+7+c))) rest,iD⟩)/\ku w 0 (yi ws w)=some j:=by
  intro ws w c z wait N rest es q1 q2 q3 q4 q5 q6;obtain⟨iD,j,h1,h2⟩:=zkQ hg (z:=z) (n:=n1+3) (es:=es) (N:=N) (by omega) q1 q2 aax ur q3 q4 R5 hM.M rfl q5 q6
  rw[<- Ah] at h1;exact⟨iD,j,zu func111 rfl h1,h2⟩
 obtain⟨p6,j1,hf1,hj1⟩:=Gf (ws:=[]) (z:=false) (wait:=[]) (N:=[]) (es:=[]) (c:=0) (rest:=[.cells (dM m s0) 5]) (by simp) (by simp) R6 (by simp) rfl (by simp[aI])
 refine zi ?_;simp only[BA,av,ak,aq,aA,Nat.reduceAdd,zd,ze,bS,bT,R3,I_,A2.bB,Ge,yL,wK,mZ,R4,hf1]
 refine qh (λk s=>∃i env W z wait rest es NB lk,k+i=700/\s=⟨env,⟨dV bs bm m lab (NB.map (fX b7)) (zm aO s0 i) z wait rest,es⟩,lk,[]⟩/\MV bs.length most FN env/\wait=W.map (λc=>cG m (b7+c))/\WF m rest ((zm aO s0 i).drop i) W/\i<=(zm aO s0 i).length/\(qZ (zm aO s0 i)<=most\/i=0)/\RW aO s0 rest 0 i NB) 700 (by omega) ?_ ?_
 ·refine⟨0,_,[0],_,_,_,_,[],_,rfl,rfl,⟨rfl,rfl,rfl,rfl,rfl,rfl,rfl,rfl⟩,by rw[G7];rfl,.cons rfl .nil,eg _,.inr rfl,.nil⟩
 clear hf1 hj1 p6 j1 Ge;rintro k s ⟨i,env,W,z,wait,rest,es,NB,GL,hki,rfl,he,Kx,hW,hi,pQ,hR⟩;have hlen:=he.len;have UR:wait.length=(zm aO s0 i).length - i:=by rw[Kx,gC,hW.len,List.length_drop]
 have rY:=yV (aO:=aO) (s0:=s0) i;have gG:=UX rY;have Ja:∀N ws z wait rest es,zk prog ⟨dV bs bm m lab N ws z wait rest,es⟩ gl.g 201 (.ptr (bs.length+6) 0)=some (mR z 1 205 wait):=λ_ _ _ _ _ _=>zq iq (show Hp.get _ _=_ from wl (k:=6)) rfl
 have l3:∀N ws z wait rest es,zk prog ⟨dV bs bm m lab N ws z wait rest,es⟩ gl.g 3 (.ptr (bs.length+5) 0)=some (.int .i64 (qZ ws:Nat)):=λ_ _ _ _ _ _=>zq iT (show Hp.get _ _=_ from wl (k:=5)) rfl;simp only[zh];refine zi ?_
 by_cases Gw:i<(zm aO s0 i).length/\qZ (zm aO s0 i)<=most
 ·obtain⟨U1,aay⟩:=Gw;have hd:decide ((0:Int)<((wait.length:Nat):Int))=true:=by simp;omega
  have Az:decide (((qZ (zm aO s0 i):Nat):Int)<=((most:Nat):Int))=true:=by simp;omega
  simp only[BA,Nat.reduceEqDiff,ak,aj,aq,za,bD,Nat.reduceLT,bw,zd,ze,j4,qg,jn,cw,wI,hlen,he.n6,he.iX,he.e2,Ja,l3,sV,Z9 sQ,w4,NM,gt_iff_lt,hd,Az];refine .inl ?_
  obtain⟨w,U2⟩:∃w,(zm aO s0 i)[i]?=some w:=⟨_,gh U1⟩;have eZ:(zm aO s0 i).drop i=w::(zm aO s0 i).drop (i+1):=by
   obtain⟨h1,h2⟩:=c_.1 U2;rw[EL h1,h2]
  rw[eZ] at hW;obtain⟨c0,W',rfl,sy,Ly⟩:∃c0 W',W=c0::W'/\nth rest c0=some (.cells (dM m w) 5)/\WF m rest ((zm aO s0 i).drop (i+1)) W':=by
   cases hW with
   | cons h t=>exact⟨_,_,rfl,h,t⟩
  obtain⟨wt,tc⟩:∃wt,wt=W'.map λc=>cG m (b7+c):=⟨_,rfl⟩;obtain rfl:wait=cG m (b7+c0)::wt:=by rw[Kx,tc];rfl
  refine zi ?_;simp only[BA,Nat.reduceEqDiff,ak,aj,aq,aE,za,bD,Nat.reduceLT,bw,hlen,he.n6,Ja,zoz,cU,zkR,zoA,zqC,zoZ,mZ];have IB:∀N ws z wait rest,bs.length+6<(dV bs bm m lab N ws z wait rest).length:=λ_ _ _ _ _=>by rw[Ox];omega
  have R7:∀N ws z wait rest es env,vW prog 201 env ⟨dV bs bm m lab N ws z wait rest,es⟩ [] [] (some (.ptr (bs.length+6) 0))=some (.val (mR z 1 205 wait),⟨env,⟨(dV bs bm m lab N ws z wait rest).set (bs.length+6) (.cells ([mR z 1 205 wait].set 0 (G5 z 1 wait)) 201),es⟩,EE z (bs.length+6) 0 wait,[]⟩):=λ_ _ _ _ _ _ _=>zqA iq (wl (k:=6)) rfl
  have R8:∀N ws z wait rest es env,qr prog 201 ⟨(dV bs bm m lab N ws z wait rest).set (bs.length+6) (.cells ([mR z 1 205 wait].set 0 (G5 z 1 wait)) 201),es⟩ (EE z (bs.length+6) 0 wait) [] (some (mR true 1 205 wt,env)) (some (.ptr (bs.length+6) 0))=some (.skip,⟨env,⟨dV bs bm m lab N ws true wt rest,vg es (bs.length+6) (mR true 1 205 wt)⟩,EE z (bs.length+6) 0 wait,[]⟩):=λ_ _ _ _ _ _ _=>by
   rw[zqB CX.st (IB _ _ _ _ _) (by simp) rfl rfl]
   rw[show([mR _ 1 205 _]:aD).set 0 (mR true 1 205 wt)=[mR true 1 205 wt] from rfl,zmP]
  refine wo (tk:=[39,1048615]) (by kernel_rfl) ?_
  simp only[qw,aH,zh,zU,Nat.reduceEqDiff,ak,zL,aj,aL,bu,aq,qk,aF,za,bD,Nat.reduceLT,aF,bw,hlen,he.n6,mZ,ze4,R7,xl (takes:=[39,1048615]) (d:=39) rfl,zkS (takes:=[39,1048615]) (k:=39) rfl,cU,ziF,R8]
  obtain⟨i3,hi3,aaz⟩:=in3;have De:∀(k:Nat)(N:aD)(ws:bN)(z:Bool)(wait:aD)(rest:List aV)(es:aN)(tk:bY)(dst:fH)(ty:aB)(pos:String)(af:Array Edge)(env:aD)(lo:aX),0<k->k<=256->ak env lo=some (.int .i64 (k:Nat)) ->
    Cx.op ⟨prog,gl.g,zj prog gl (n1+4),eA⟩ tk ⟨dst,.makeSlice 27 lo lo,ty,pos,af,none⟩ env ⟨dV bs bm m lab N ws z wait rest,es⟩ [] []=some (.val (.sr (b7+rest.length) 0 k k),⟨env,⟨dV bs bm m lab N ws z wait (rest++[.cells ((List.replicate k (0:Int)).map A2.ie) 3]),es⟩,[],[]⟩):=by
   intro k N ws z wait rest es tk dst ty pos af env lo FB DS iA;rw[Xa (k:=k) Ee tU Uv rfl hi3 (by decide) rfl rfl iA iA (by rw[aaz];exact dG (by omega) (by omega)) (by omega)]
   show some (OR.val (V.sr (dV bs bm m lab N ws z wait rest).length 0 k k),St.mk env ⟨dV bs bm m lab N ws z wait rest++[.cells (List.replicate k [V.int .i64 0]).flatten 3],es⟩ [] [])=_;rw[Ox,BD,RY,G7]
  have Ky:∀b o l c env t,qK env t (some (.sr b o l c))=some (.sr b o l c,env):=λ_ _ _ _ _ _=>rfl;have pI:∀b o l c,aW (.sr b o l c)=.sr b o l c:=λ_ _ _ _=>rfl
  refine vP (P:=λenv H=>∃es,H=⟨dV bs bm m lab (NB.map (fX b7)) (zm aO s0 i) true wt rest,es⟩/\MV bs.length most FN env/\nth env 14=some (cG m (b7+c0))) ?_ ⟨_,rfl,⟨by simp[hlen],by simp[za,he.e2],by simp[za,he.e3],by simp[za,he.e6],by simp[za,he.e9],by simp[za,he.iX],by simp[za,he.n6],by simp[za,he.EG]⟩,by simp[za,hlen]⟩
  clear he hlen es env;rintro env H lk ⟨es,rfl,he,sO⟩;have hlen:=he.len;refine zi ?_;rw[qw,De 256 _ _ _ _ _ _ _ _ _ _ _ _ _ (by decide) (by decide) rfl]
  obtain⟨R0,hR0⟩:∃R0:List Int,R0=List.replicate 256 0:=⟨_,rfl⟩;rw[<- hR0];simp only[BA,aq,za,Nat.reduceLT,hlen,Ky];obtain⟨Kz,sY⟩:∃r,r=rest++[aV.cells (R0.map A2.ie) 3]:=⟨_,rfl⟩;rw[<- sY]
  have hLD:∀N ws z wait rest es,zk prog ⟨dV bs bm m lab N ws z wait rest,es⟩ gl.g 78 (.ptr bm 261)=some (tW (sW f) 256):=λ_ _ _ _ _ _=>zq Dz (show Hp.get _ _=_ from U0 _ _ _ _ _) (zmH (UO (dI _)));obtain⟨nc,uT,hnp,aaA⟩:∃nc,nc=RS f/\0<nc/\nc<=256:=⟨_,rfl,zov,zpP⟩;have aaB:∀H,jb prog H 78 (aW (tW (sW f) 256))=some ((nc:Nat):Int):=λH=>by
   rw[tW,TL aat,gC,uT];rfl
  have aaC:aW (aW (tW (sW f) 256))=aW (tW (sW f) 256):=qT;have R9:aa (V.ptr bm 0)=some (.ptr bm 0):=rfl;refine zi ?_;simp only[BA,Nat.reduceEqDiff,ak,aq,aa,ah,za,bD,Nat.reduceLT,bw,hlen,he.e3,I_,Dv,hLD,aaC,aaB]
  rw[De nc _ _ _ _ _ _ _ _ _ _ _ _ _ hnp aaA (by simp[ak,za,hlen,aW])]
  simp only[BA,Nat.reduceEqDiff,aq,za,bD,Nat.reduceLT,bw,hlen,Ky];obtain⟨T0,hT0⟩:∃T0:List Int,T0=List.replicate (nc) 0:=⟨_,rfl⟩;rw[<- hT0];obtain⟨uH,nI⟩:∃r,r=Kz++[aV.cells (T0.map A2.ie) 3]:=⟨_,rfl⟩;rw[<- nI]
  obtain⟨kr,K6⟩:∃k,k=rest.length:=⟨_,rfl⟩;have s8:Kz.length=kr+1:=by rw[sY,K6];simp
  rw[<- K6,s8];have R_:nth uH (kr+1)=some (.cells (T0.map A2.ie) 3):=by
   rw[nI,zg,fE (by omega),s8];simp
  have Sa:nth uH kr=some (.cells (R0.map A2.ie) 3):=by
   rw[nI,zg,gb (by omega),sY,fE (by omega),K6];simp
  have Lw:∀d,d<kr->nth uH d=nth rest d:=λd hd=>by
   rw[nI,zg,zg,gb (by omega),sY,gb (by omega)]
  clear sY nI;have Sb:∀{N:aD}{ws:bN}{z:Bool}{wait:aD}{rest:List aV}{es:aN}{k j:Nat}{L:List Int}{v:Int},nth rest k=some (.cells (L.map A2.ie) 3)->L[j]?=some v->zk prog ⟨dV bs bm m lab N ws z wait rest,es⟩ gl.g 3 (.ptr (b7+k) j)=some (.int .i64 v):=by
   intro N ws z wait rest es k j L v h1 h2;have rH:Hp.get ⟨dV bs bm m lab N ws z wait rest,es⟩ (b7+k)=some (.cells (L.map A2.ie) 3):=by
    show nth _ _=_;rw[G7,BC,h1]
   exact zq iT rH (show nth (L.map A2.ie) j=_ by rw[zg,iY,h2];rfl)
  have MX:∀{N:aD}{ws:bN}{z:Bool}{wait:aD}{rest:List aV}{es:aN}{k j:Nat}{L:List Int}{v:Int}{env:aD},nth rest k=some (.cells (L.map A2.ie) 3)->j<L.length->qr prog 3 ⟨dV bs bm m lab N ws z wait rest,es⟩ [] [] (some (.int .i64 v,env)) (some (.ptr (b7+k) j))=some (.skip,⟨env,⟨dV bs bm m lab N ws z wait (rest.set k (.cells ((L.set j v).map A2.ie) 3)),es⟩,[],[]⟩):=by
   intro N ws z wait rest es k j L v env h1 h2;have rH:Hp.get ⟨dV bs bm m lab N ws z wait rest,es⟩ (b7+k)=some (.cells (L.map A2.ie) 3):=by
    show nth _ _=_;rw[G7,BC,h1]
   rw[zy tU rH rfl rfl (by rw[gC];omega) (zq4 h2),jT (by simp[V.top])]
   show some (OR.skip,St.mk env ⟨(dV bs bm m lab N ws z wait rest).set (b7+k) _,es⟩ [] [])=_;rw[G7,zmO];simp only[V.laid,Vm.storeCells,List.map_set];rfl
  have rO:∀{rest:List aV}{k d:Nat}{x y:aV},nth rest k=some x->nth (rest.set k y) d=if d=k then some y else nth rest d:=by
   intro rest k d x y h1;have hk:k<rest.length:=by rw[zg] at h1;exact(c_.1 h1).1
   rw[zg,zg,s4]
   by_cases e:k=d
   ·subst e;simp[hk]
   ·rw[if_neg e,if_neg (λe'=>e e'.symm)]
  refine vP (P:=λenv H=>∃es,H=⟨dV bs bm m lab (NB.map (fX b7)) (zm aO s0 i) true wt uH,es⟩/\MV bs.length most FN env/\nth env 14=some (cG m (b7+c0))/\nth env 15=some (.sr (b7+kr) 0 256 256)/\nth env 16=some (.sr (b7+(kr+1)) 0 (nc) (nc))) ?_ ⟨_,rfl,⟨by simp[hlen],by simp[za,he.e2],by simp[za,he.e3],by simp[za,he.e6],by simp[za,he.e9],by simp[za,he.iX],by simp[za,he.n6],by simp[za,he.EG]⟩,by simp[za,sO],by simp[za,hlen],by simp[za,hlen]⟩
  clear he hlen es env sO;rintro env H lk ⟨es,rfl,he,sO,tT,uI⟩;have hlen:=he.len;refine zi ?_;simp only[BA,ak,aj,aq,za,Nat.reduceLT,hlen,uI,pI,zhO]
  refine qh (λk2 s=>∃(j:Nat)(env:aD)(pJ:List aV)(T:List Int),k2+j=nc/\s=⟨env,⟨dV bs bm m lab (NB.map (fX b7)) (zm aO s0 i) true wt pJ,es⟩,[],[]⟩/\MV bs.length most FN env/\nth env 14=some (cG m (b7+c0))/\nth env 15=some (.sr (b7+kr) 0 256 256)/\nth env 16=some (.sr (b7+(kr+1)) 0 (nc) (nc))/\nth env 48=some (.sr (b7+(kr+1)) 0 (nc) (nc))/\nth env 49=some (.int .i64 (nc:Nat))/\nth env 50=some (.int .i64 (j:Nat))/\nth pJ (kr+1)=some (.cells (T.map A2.ie) 3)/\(∀d,d<kr+1->nth pJ d=nth uH d)/\T.length=nc/\∀c,c<j->T[c]?=some (-1)) (nc) (by omega) ?_ ?_
  ·refine⟨0,_,uH,T0,rfl,rfl,⟨by simp[hlen],by simp[za,he.e2],by simp[za,he.e3],by simp[za,he.e6],by simp[za,he.e9],by simp[za,he.iX],by simp[za,he.n6],by simp[za,he.EG]⟩,by simp[za,sO],by simp[za,tT],by simp[za,uI],by simp[za,hlen],by simp[za,hlen],by simp[za,hlen],R_,λ_ _=>rfl,by rw[hT0,List.length_replicate],λc hc=>by omega⟩
  clear he hlen env sO tT uI;rintro k2 s ⟨j,env,pJ,T,fG,rfl,he,sO,tT,uI,KA,Jb,EH,hT,U3,hTl,hTn⟩;have hlen:=he.len;simp only[zh];refine zi ?_;simp only[BA,ak,aq,za,Nat.reduceLT,hlen,Jb,EH,qU]
  by_cases hj:j<nc
  ·refine .inl ⟨by simp;omega,?_⟩
   refine zi ?_;simp only[BA,Nat.reduceEqDiff,ak,aq,za,bD,Nat.reduceLT,bw,hlen,EH];refine zi ?_
   simp only[BA,Nat.reduceEqDiff,ak,aj,aq,aE,za,bD,Nat.reduceLT,bw,hlen,uI,pI,RX hj,MX hT (show j<T.length by omega)]
   refine zi ?_;simp only[BA,Nat.reduceEqDiff,ak,aj,aq,za,bD,Nat.reduceLT,bw,hlen,EH,qc (show j<2 ^ 60 by omega),zp,aM]
   refine⟨nc - 1 - j,by omega,j+1,_,_,T.set j (-1),by omega,rfl,⟨by simp[hlen],by simp[za,he.e2],by simp[za,he.e3],by simp[za,he.e6],by simp[za,he.e9],by simp[za,he.iX],by simp[za,he.n6],by simp[za,he.EG]⟩,by simp[za,sO],by simp[za,tT],by simp[za,uI],by simp[za,KA],by simp[za,Jb],by simp[za,hlen],by rw[rO hT,if_pos rfl],λd hd=>by rw[rO hT,if_neg (by omega)];exact U3 d hd,by rw[bD];exact hTl,λc hc=>?_⟩
   rw[s4]
   by_cases e:j=c
   ·subst e;simp[show j<T.length by omega]
   ·rw[if_neg e];exact hTn c (by omega)
  ·obtain rfl:nc=j:=by omega
   refine .inr ⟨by simp,?_⟩
   simp only[ql,zN,zD,zp,bJ,zh,iN,aF]
   have Sc:∀k∈NB,k<kr:=λk hk=>by have:=hR.lt k hk;omega
   have MY:∀d,d<kr->nth pJ d=nth rest d:=λd hd=>(U3 d (by omega)).trans (Lw d hd)
   have bR:∀{c u},nth rest c=some (.cells (dM m u) 5)->nth pJ c=some (.cells (dM m u) 5):=λ{c u} h=>by
    have:c<kr:=by rw[K6];rw[zg] at h;exact(c_.1 h).1
    rw[MY c this,h]
   have hI0:mS m i kr c0 nc w aO s0 (G6 f) (zm aO s0 i) NB 0 0 pJ W' R0 T :=
    {wf:=Ly.mono λc u h=>bR h,sy:=bR sy,hR:=(U3 kr (by omega)).trans Sa,Rl:=by rw[hR0,List.length_replicate],Rv:=λb hb=>by omega,hT:=hT,Tl:=hTl
     Tv:=λc v hv=>.inl ⟨by
      have hc:c<T.length:=(c_.1 hv).1;rw[hTn c (by omega)] at hv
      exact(DH hv).symm,λb hb=>by omega⟩
     rw:=hR.mono λk x hk h=>by rw[nO] at h ⊢;rw[MY k (Sc k hk),h]
     nb:=Sc }
   refine zi ?_;simp only[BA,Nat.reduceEqDiff,ak,aj,aq,za,bD,Nat.reduceLT,bw,hlen,tT,pI,zhO]
   refine qh (λk3 s=>∃(y:Nat)(env:aD)(ga:List aV)(W2:bN)(R2 T2:List Int)(es:aN),k3+y=256/\s=⟨env,⟨dV bs bm m lab (NB.map (fX b7)) (jF (zm aO s0 i) (aO w) y) true (W2.map λc=>cG m (b7+c)) ga,es⟩,[],[]⟩/\MV bs.length most FN env/\nth env 14=some (cG m (b7+c0))/\nth env 15=some (.sr (b7+kr) 0 256 256)/\nth env 16=some (.sr (b7+(kr+1)) 0 nc nc)/\nth env 58=some (.int .i64 ((256:Nat):Int))/\nth env 59=some (.int .i64 (y:Nat))/\qZ (jF (zm aO s0 i) (aO w) y)<=most/\mS m i kr c0 nc w aO s0 (G6 f) (zm aO s0 i) NB y y ga W2 R2 T2) 256 (by omega) ?_ ?_
   ·exact⟨0,_,pJ,W',R0,T,_,rfl,by rw[tc];rfl,⟨by simp[hlen],by simp[za,he.e2],by simp[za,he.e3],by simp[za,he.e6],by simp[za,he.e9],by simp[za,he.iX],by simp[za,he.n6],by simp[za,he.EG]⟩,by simp[za,sO],by simp[za,tT],by simp[za,uI],by simp[za,hlen],by simp[za,hlen],aay,hI0⟩
   clear he hlen env sO tT uI KA Jb EH hI0 hT U3 MY hTl hTn bR T pJ R_ Sa Lw hT0 sy Ly;rintro k3 s ⟨y,env,ga,W2,R2,T2,es,CL,rfl,he,sO,tT,uI,tX,MZ,nK,hI⟩;have hlen:=he.len;simp only[zh];refine zi ?_
   simp only[BA,ak,aq,za,Nat.reduceLT,hlen,tX,MZ,qU]
   by_cases hy:y<256
   ·refine .inl ⟨by simp;omega,?_⟩
    obtain⟨c,hc⟩:∃c,(G6 f)[y]?=some c:=⟨_,gh (by rw[zjT];exact hy)⟩
    have Kw:c<nc:=by rw[uT];exact zmR hc
    obtain⟨v,hv⟩:∃v,T2[c]?=some v:=⟨_,gh (by rw[hI.Tl];exact Kw)⟩
    have Oy:∀b,(G6 f)[b]?=some c->aO w b=aO w y:=λb hb=>by rw[t_];exact zow hb hc
    have Ft:∀N ws z wait rest es,zk prog ⟨dV bs bm m lab N ws z wait rest,es⟩ gl.g 3 (.ptr bm (5+y))=some (.int .i64 (c:Nat)):=λN ws z wait rest es=>by
     refine zq iT (cs:=m4 f (nx.map λp:Nat×Nat=>cG m p.1) (xb (sW f) 256) (tW (sW f) 256)) (ty:=204) (show Hp.get ⟨dV bs bm m lab N ws z wait rest,es⟩ bm=_ from U0 _ _ _ _ _) ?_;rw[zg,zjS (by rw[UO (dI _)];exact hy)]
     rw[xb,gb (by rw[gC];exact(c_.1 hc).1),iY]
     rw[show(fJ (sW f) 256).2.1[y]?=some c from hc];rfl
    refine zi ?_;simp only[BA,Nat.reduceEqDiff,ak,aq,za,bD,Nat.reduceLT,bw,hlen,MZ];refine zi ?_
    simp only[BA,Nat.reduceEqDiff,ak,aq,aa,ah,aE,za,bD,Nat.reduceLT,bw,hlen,he.e3,I_,Ae,Z3 hy,Ft];refine zi ?_
    simp only[BA,Nat.reduceEqDiff,ak,aj,aq,aE,za,bD,Nat.reduceLT,bw,hlen,uI,pI,RX Kw,Sb hI.hT hv,qU]
    let PP:aD->Hp->Prop:=λenv H=>∃(pK:List aV)(W3:bN)(T3:List Int)(es:aN),H=⟨dV bs bm m lab (NB.map (fX b7)) (jF (zm aO s0 i) (aO w) (y+1)) true (W3.map λc=>cG m (b7+c)) pK,es⟩/\MV bs.length most FN env/\nth env 14=some (cG m (b7+c0))/\nth env 15=some (.sr (b7+kr) 0 256 256)/\nth env 16=some (.sr (b7+(kr+1)) 0 nc nc)/\nth env 18=some (.int .i64 (y:Nat))/\nth env 19=some (.int .i64 (c:Nat))/\nth env 58=some (.int .i64 ((256:Nat):Int))/\nth env 59=some (.int .i64 (y:Nat))/\qZ (jF (zm aO s0 i) (aO w) (y+1))<=most/\mS m i kr c0 nc w aO s0 (G6 f) (zm aO s0 i) NB (y+1) y pK W3 R2 T3
    have aaG:aO w y<2 ^ (8 * m):=by rw[t_];exact ziE λp hp=>(hM.X p hp).2
    have aaH:∀x∈jF (zm aO s0 i) (aO w) y,x<2 ^ (8 * m):=zgj (zee R6 (λw y=>by rw[t_];exact ziE λp hp=>(hM.X p hp).2) i) (λy=>by rw[t_];exact ziE λp hp=>(hM.X p hp).2) y
    have M0:v<0\/¬v<0:=Decidable.em _;rcases M0 with M0|M0
    rotate_left
    obtain⟨Mt,hI1⟩:=hI.old hc hv M0 Oy;refine .inr ⟨by simpa using M0,?_⟩
    try simp only[bz]
    refine vP (P:=PP) ?_ ⟨ga,W2,T2,_,by rw[Mt],⟨by simp[hlen],by simp[za,he.e2],by simp[za,he.e3],by simp[za,he.e6],by simp[za,he.e9],by simp[za,he.iX],by simp[za,he.n6],by simp[za,he.EG]⟩,by simp[za,sO],by simp[za,tT],by simp[za,uI],by simp[za,hlen],by simp[za,hlen],by simp[za,tX],by simp[za,MZ],by rw[Mt];exact nK,hI1⟩
    rotate_left
    refine .inl ⟨by simpa using M0,?_⟩
    obtain⟨X4,hX4⟩:∃X4:List aV,X4=[.cells [.ptr bm 0] 141,.cells [.int .u8 (y:Nat)] 5,.cells (dM m (aO w y)) 5,.cells [cG m (b7+ga.length+2)] 205]:=⟨_,rfl⟩;have U4:=hI.app X4;obtain⟨pK,CZ⟩:∃r,r=ga++X4:=⟨_,rfl⟩;rw[<- CZ] at U4;have Sd:nth pK (ga.length+2)=some (.cells (dM m (aO w y)) 5):=by
     rw[CZ,hX4,zg,fE (by omega),Ng];rfl
    have M3:∀es,Cx.bC ⟨prog,gl.g,zj prog gl (n1+4),eA⟩ 114 [.ptr bm 0,cG m (b7+c0),.int .u8 (y:Nat)] ⟨dV bs bm m lab (NB.map (fX b7)) (jF (zm aO s0 i) (aO w) y) true (W2.map λc=>cG m (b7+c)) ga,es⟩=some (.val (cG m (b7+(ga.length+2))),⟨dV bs bm m lab (NB.map (fX b7)) (jF (zm aO s0 i) (aO w) y) true (W2.map λc=>cG m (b7+c)) pK,es⟩):=λes=>by
     refine zu func114 rfl ?_
     have:=zkI hg (n:=n1) (bm:=bm) (b:=b7+c0) (m:=m) (w:=w) (y:=y) (f:=f) (nx:=nx) (es:=es) ur (by omega) (by omega) hy hM.hs (Nat.lt_trans hM.ns (by decide)) (Nat.lt_trans hM.nf (by decide)) hM.mm hM.nxl (U0 (NB.map (fX b7)) (jF (zm aO s0 i) (aO w) y) true (W2.map λc=>cG m (b7+c)) ga) rfl rfl rfl (λp hp=>by
      obtain⟨h1,h2⟩:=hM.X p hp;refine⟨?_,h2⟩;have bR:p.1<bs.length:=by rw[zg] at h1;exact(c_.1 h1).1
      rw[zgi bR,h1]) (by rw[G7,BC,hI.sy])
     rw[this,zot,Ox,CZ,hX4,t_,G7,pL];rfl
    obtain⟨Ea,j6,L9,hj6⟩:=Gf (ws:=jF (zm aO s0 i) (aO w) y) (w:=aO w y) (c:=ga.length+2) (z:=true) (wait:=W2.map λc=>cG m (b7+c)) (N:=NB.map (fX b7)) (rest:=pK) (es:=es) (by
     rw[gC,hI.wf.len,List.length_drop];have:=UX (xM (g:=aO w) rY y);omega) (by
     have:=UX (xM (g:=aO w) rY y);omega) aaG aaH Sd (qL λv hv=>by
      obtain⟨d,hd,rfl⟩:=mj.1 hv;have:=U4.wf.lt d hd
      simp only[cG,V.top];omega)
    have hwN:Kv (jF (zm aO s0 i) (aO w) y) (aO w y) (W2.map λc=>cG m (b7+c)) (cG m (bs.length+7+(ga.length+2)))=(I9 (jF (zm aO s0 i) (aO w) y) (aO w y) W2 (ga.length+2)).map λc=>cG m (b7+c):=by
     rw[G7];exact zpQ rfl
    rw[hwN,<- G7] at L9;have gq:i+1<=(jF (zm aO s0 i) (aO w) y).length:=by
     obtain⟨rs,e⟩:=ze5 (ws:=zm aO s0 i) (g:=aO w) y;rw[e,aU];omega
    have hI6:=U4.new hc Sd gq hj6;have hcT:c<T2.length:=by rw[hI.Tl];exact Kw
    refine zi ?_;simp only[BA,Nat.reduceEqDiff,av,ak,aq,aE,aA,Nat.reduceAdd,za,bD,Nat.reduceLT,bw,hlen,uI,sO,he.e3,he.EG,pI,mZ,R3,I_,vV (a:=3) (b:=5) (hm:=rfl),show eA (vd 3)=false from rfl,Z6 hy,M3,yL,wK,R4,L9,RX Kw,MX U4.hT hcT]
    have aaI:yi (jF (zm aO s0 i) (aO w) y) (aO w y)=jF (zm aO s0 i) (aO w) (y+1):=rfl;rw[aaI];have Gg:zm aO s0 (i+1)=jF (zm aO s0 i) (aO w) 256:=by simp only[zm,U2]
    refine zi ?_;simp only[BA,Nat.reduceEqDiff,ak,aq,za,bD,Nat.reduceLT,bw,hlen,he.iX,he.e2,l3,w4,gt_iff_lt];rcases Decidable.em (most<qZ (jF (zm aO s0 i) (aO w) (y+1))) with Yx|Yx
    ·refine .inl ⟨by simp;omega,?_⟩
     have DB:∀N ws z wait rest es env,qr prog 66 ⟨dV bs bm m lab N ws z wait rest,es⟩ [] [] (some (.agg [.aG,.aG],env)) (some (.ptr (bs.length+1) 0))=some (.skip,⟨env,⟨dV bs bm m lab N ws z wait rest,es⟩,[],[]⟩):=λN ws z wait rest es env=>by
      have rH:Hp.get ⟨dV bs bm m lab N ws z wait rest,es⟩ (bs.length+1)=some (.cells [.aG,.aG] 66):=wl (k:=1);rw[zy mI rH rfl rfl (by simp) rfl,jT (by simp[V.top,aI])]
      show some (OR.skip,St.mk env ⟨(dV bs bm m lab N ws z wait rest).set (bs.length+1) (.cells [.aG,.aG] 66),es⟩ [] [])=_;rw[jZ rH]
     have Jc:∀N ws z wait rest es,zk prog ⟨dV bs bm m lab N ws z wait rest,es⟩ (λ_ _=>none) 66 (.ptr (bs.length+1) 0)=some (.agg [.aG,.aG]):=λN ws z wait rest es=>by
      have rH:Hp.get ⟨dV bs bm m lab N ws z wait rest,es⟩ (bs.length+1)=some (.cells [.aG,.aG] 66):=wl (k:=1);rw[jW,rH,jv,qy,pH,mI];rfl
     have aaJ:∀env,ky prog 66 #[] env=some (.agg [.aG,.aG]):=λenv=>by kernel_rfl
     refine wC (tk:=[]) (by kernel_rfl) ?_
     apply Exists.intro;apply And.intro;refine qx (m:=0) (v:=.agg [.aG,.aG]) (by kernel_rfl) rfl (by simp only[BA,aaJ];rfl) (by kernel_rfl) (by kernel_rfl) (by kernel_rfl) ?_
     dsimp only[aq]
     refine kj (m:=0) (v:=.int .i64 (qZ (jF (zm aO s0 i) (aO w) (y+1)):Nat)) (by kernel_rfl) rfl (by simp only[BA,Nat.reduceEqDiff,ak,za,bD,Nat.reduceLT,bw,hlen,he.iX,l3];rfl) (by kernel_rfl) (by kernel_rfl) (by kernel_rfl) (by kernel_rfl) ?_
     dsimp only[aq]
     refine wD (m:=1) (cs':=[⟨4,⟨dV bs bm m lab (NB.map (fX b7)) (jF (zm aO s0 i) (aO w) (y+1)) true ((I9 (jF (zm aO s0 i) (aO w) y) (aO w y) W2 (ga.length+2)).map λc=>cG m (b7+c)) (pK.set (kr+1) (aV.cells (List.map A2.ie (T2.set c (j6:Int))) 3)),Ea⟩,[],[]⟩,⟨0,⟨dV bs bm m lab (NB.map (fX b7)) (jF (zm aO s0 i) (aO w) (y+1)) true ((I9 (jF (zm aO s0 i) (aO w) y) (aO w y) W2 (ga.length+2)).map λc=>cG m (b7+c)) (pK.set (kr+1) (aV.cells (List.map A2.ie (T2.set c (j6:Int))) 3)),Ea⟩,[],[]⟩]) (by kernel_rfl) rfl (by simp only[BA,Nat.reduceEqDiff,ak,za,bD,Nat.reduceLT,bw,hlen,he.e6,DB];rfl) (by kernel_rfl) (by kernel_rfl) (λK=>?_) ?_
     rotate_left
     dsimp only[aq]
     refine qx (m:=7) (v:=.int .i64 (qZ (jF (zm aO s0 i) (aO w) (y+1)):Nat)) (by kernel_rfl) rfl (by simp only[BA,Nat.reduceEqDiff,za,bD,Nat.reduceLT,bw,hlen];rfl) (by kernel_rfl) (by kernel_rfl) (by kernel_rfl) ?_
     dsimp only[aq]
     refine qx (m:=15) (v:=.bool false) (by kernel_rfl) rfl (by simp only[BA,aj];rfl) (by kernel_rfl) (by kernel_rfl) (by kernel_rfl) wG
     ·simp only[aq];simp only[go_ret,zp,Fx,we,wk,l6]
      refine⟨trivial,[.agg [.aG,.aG],.int .i64 (qZ (jF (zm aO s0 i) (aO w) (y+1)):Nat),.bool false],?_,.inr ⟨i+1,[],_,_,_,?_,rfl,rfl⟩⟩
      ·simp only[zx,za,bD,hlen,Nat.reduceLT,Nat.reduceEqDiff,aF,bw,he.e6,Jc,qX]
      ·rw[Gg];obtain⟨rs,e⟩:=UU (ws:=zm aO s0 i) (g:=aO w) (y:=y+1) (256 - (y+1));rw[show y+1+(256 - (y+1))=256 by omega] at e
       have:=zeb (ws:=jF (zm aO s0 i) (aO w) (y+1)) (rs:=rs);rw[e];omega
     ·refine jK ?_ ?_ ?_ ?_
      ·kernel_rfl
      ·rfl
      ·intro c hc;cases hc
      ·unfold Cx.eK;refine kC λq hq=>?_;simp only[dH,Ap,uR] at hq;rcases hq with rfl|rfl
       ·split
        ·rfl
        ·split
         next h=>cases h
         ·refine Ow ?_;exact iQ (by simp only[BA,Nat.reduceEqDiff,ak,za,bD,Nat.reduceLT,bw,jc,hlen,he.iX,l3];rfl)
       ·kernel_rfl
    refine .inr ⟨by simp;omega,?_⟩
    try simp only[bz]
    refine vP (P:=PP) ?_ ⟨_,_,_,_,rfl,⟨by simp[hlen],by simp[za,he.e2],by simp[za,he.e3],by simp[za,he.e6],by simp[za,he.e9],by simp[za,he.iX],by simp[za,he.n6],by simp[za,he.EG]⟩,by simp[za,sO],by simp[za,tT],by simp[za,uI],by simp[za,hlen],by simp[za,hlen],by simp[za,tX],by simp[za,MZ],by omega,hI6⟩
    all_goals
     clear hI hv M0 sO tT uI tX MZ hlen he nK;rintro env H lk ⟨pK,W3,T3,es,rfl,he,sO,tT,uI,e18,e19,tX,MZ,nK,hI⟩;have hlen:=he.len;obtain⟨v,hv⟩:∃v,T3[c]?=some v:=⟨_,gh (by rw[hI.Tl];exact Kw)⟩
     obtain⟨j7,rfl,hj7⟩:=hI.val hc hv Oy;have hyR:y<R2.length:=by rw[hI.Rl];exact hy
     refine zi ?_;simp only[BA,Nat.reduceEqDiff,ak,aq,aE,za,bD,Nat.reduceLT,bw,hlen,tT,uI,e18,e19,pI,RX Kw,RX hy,Sb hI.hT hv,MX hI.hR hyR];refine zi ?_
     simp only[BA,Nat.reduceEqDiff,ak,aj,aq,za,bD,Nat.reduceLT,bw,MZ,hlen,qc (show y<2 ^ 60 by omega),zp,aM]
     exact⟨255 - y,by omega,y+1,_,_,W3,_,T3,_,by omega,rfl,⟨by simp[hlen],by simp[za,he.e2],by simp[za,he.e3],by simp[za,he.e6],by simp[za,he.e9],by simp[za,he.iX],by simp[za,he.n6],by simp[za,he.EG]⟩,by simp[za,sO],by simp[za,tT],by simp[za,uI],by simp[za,tX],by simp[za,hlen],nK,hI.row hy hj7⟩
   ·obtain rfl:256=y:=by have:=CL;omega
    refine .inr ⟨by simp,?_⟩
    simp only[ql,zN,zD,zp,bJ,iN,aF]
    obtain⟨U5,hWF⟩:=hI.done U2;have Gg:zm aO s0 (i+1)=jF (zm aO s0 i) (aO w) 256:=by simp only[zm,U2]
    rw[<- Gg] at nK ⊢;have Q3:(NB.map (fX b7)).length=i:=by rw[gC,hR.len]
    have Se:∀N ws z wait rest,bs.length+2<(dV bs bm m lab N ws z wait rest).length:=λ_ _ _ _ _=>by rw[Ox];omega
    have Fz:∀env,vW prog 28 env ⟨dV bs bm m lab (NB.map (fX b7)) (zm aO s0 (i+1)) true (W2.map λc=>cG m (b7+c)) ga,es⟩ [] [] (some (.ptr (bs.length+2) 0))=some (.val (zl 1 27 (NB.map (fX b7))),⟨env,⟨(dV bs bm m lab (NB.map (fX b7)) (zm aO s0 (i+1)) true (W2.map λc=>cG m (b7+c)) ga).set (bs.length+2) (.cells ([zl 1 27 (NB.map (fX b7)),zl 1 3 ((zm aO s0 (i+1)).map λw=>A2.ie (lab w))].set 0 (oh 1 (NB.map (fX b7)))) 66),es⟩,kD (bs.length+2) 0 (NB.map (fX b7)),[]⟩):=λenv=>RD om (wl (k:=2)) rfl
    have lR:=MW.BQ (v:=.sr (b7+kr) 0 256 256) rfl rfl;have fz:∀H,j9 prog H 28 (zl 1 27 (NB.map (fX b7))) (.sl 1 [.sr (b7+kr) 0 256 256] .no)=some (zl 1 27 (NB.map (fX b7)++[.sr (b7+kr) 0 256 256])):=λH=>jC MW (by simp) (dG (by rw[Q3];simp;omega) (by rw[Q3];simp;omega))
    have Sf:∀env,qr prog 28 ⟨(dV bs bm m lab (NB.map (fX b7)) (zm aO s0 (i+1)) true (W2.map λc=>cG m (b7+c)) ga).set (bs.length+2) (.cells ([zl 1 27 (NB.map (fX b7)),zl 1 3 ((zm aO s0 (i+1)).map λw=>A2.ie (lab w))].set 0 (oh 1 (NB.map (fX b7)))) 66),es⟩ (kD (bs.length+2) 0 (NB.map (fX b7))) [] (some (zl 1 27 (NB.map (fX b7)++[.sr (b7+kr) 0 256 256]),env)) (some (.ptr (bs.length+2) 0))=some (.skip,⟨env,⟨dV bs bm m lab ((NB++[kr]).map (fX b7)) (zm aO s0 (i+1)) true (W2.map λc=>cG m (b7+c)) ga,vg es (bs.length+2) (zl 1 27 (NB.map (fX b7)++[.sr (b7+kr) 0 256 256]))⟩,kD (bs.length+2) 0 (NB.map (fX b7)),[]⟩):=λenv=>by
     rw[UK MW.st (Se _ _ _ _ _) (by simp)]
     rw[show([zl 1 27 (NB.map (fX b7)),zl 1 3 ((zm aO s0 (i+1)).map λw=>A2.ie (lab w))]:aD).set 0 (zl 1 27 (NB.map (fX b7)++[.sr (b7+kr) 0 256 256]))=[zl 1 27 (NB.map (fX b7)++[.sr (b7+kr) 0 256 256]),zl 1 3 ((zm aO s0 (i+1)).map λw=>A2.ie (lab w))] from rfl,zmQ,List.map_append];rfl
    refine wo (tk:=[97]) (by kernel_rfl) ?_
    simp only[BA,Nat.reduceEqDiff,ak,aq,ah,za,bD,Nat.reduceLT,bw,hlen,tT,he.e9,MU,pI,Fz,lR,xS,fz,Sf,jV (cx:=⟨prog,gl.g,zj prog gl (n1+4),eA⟩) (show pN prog eA 28=false by kernel_rfl),zp,aM]
    have gq:i+1<=(zm aO s0 (i+1)).length:=by
     obtain⟨rs,e⟩:=UW (aO:=aO) (s0:=s0) (Nat.le_succ i);rw[e,aU];omega
    exact⟨k - 1,by omega,i+1,_,W2,true,_,ga,_,NB++[kr],_,by omega,rfl,⟨by simp[hlen],by simp[za,he.e2],by simp[za,he.e3],by simp[za,he.e6],by simp[za,he.e9],by simp[za,he.iX],by simp[za,he.n6],by simp[za,he.EG]⟩,rfl,hWF,gq,.inl nK,U5⟩
 ·have l66:∀N ws z wait rest es,zk prog ⟨dV bs bm m lab N ws z wait rest,es⟩ gl.g 66 (.ptr (bs.length+2) 0)=some (.agg [zl 1 27 N,zl 1 3 (ws.map λw=>A2.ie (lab w))]):=λN ws z wait rest es=>by
   have rH:Hp.get ⟨dV bs bm m lab N ws z wait rest,es⟩ (bs.length+2)=some (.cells [zl 1 27 N,zl 1 3 (ws.map λw=>A2.ie (lab w))] 66):=wl (k:=2);rw[jW,rH,jv,qy,pH,mI];simp[wW]
  let PE:aD->Hp->Prop:=λenv H=>H=⟨dV bs bm m lab (NB.map (fX b7)) (zm aO s0 i) z wait rest,es⟩/\MV bs.length most FN env
  rcases eX i (zm aO s0 i).length with U1|U1
  have hd:decide ((0:Int)<((wait.length:Nat):Int))=true:=by simp;omega
  have Az:decide (((qZ (zm aO s0 i):Nat):Int)<=((most:Nat):Int))=false:=by
   simp only[decide_eq_false_iff_not];intro h;exact Gw ⟨U1,by omega⟩
  simp only[BA,Nat.reduceEqDiff,ak,aj,aq,za,bD,Nat.reduceLT,bw,zd,ze,j4,qg,jn,cw,wI,hlen,he.n6,he.iX,he.e2,Ja,l3,sV,Z9 sQ,w4,NM,gt_iff_lt,hd,Az];refine .inr ?_
  simp only[ql,zN,zD,zp,bJ,zh,iN,aF]
  refine vP (P:=PE) ?_ ⟨rfl,⟨by simp[hlen],by simp[za,he.e2],by simp[za,he.e3],by simp[za,he.e6],by simp[za,he.e9],by simp[za,he.iX],by simp[za,he.n6],by simp[za,he.EG]⟩⟩
  rotate_left
  have hd:decide ((0:Int)<((wait.length:Nat):Int))=false:=by
   rw[show wait.length=0 by omega];rfl
  simp only[BA,Nat.reduceEqDiff,ak,aj,aq,za,bD,Nat.reduceLT,bw,zd,ze,j4,qg,jn,cA,wJ,hlen,he.n6,he.iX,he.e2,Ja,l3,sV,Z9 sQ,w4,NM,gt_iff_lt,hd];refine .inr ?_
  simp only[ql,zN,zD,zp,bJ,zh,iN,aF]
  refine vP (P:=PE) ?_ ⟨rfl,⟨by simp[hlen],by simp[za,he.e2],by simp[za,he.e3],by simp[za,he.e6],by simp[za,he.e9],by simp[za,he.iX],by simp[za,he.n6],by simp[za,he.EG]⟩⟩
  all_goals
   clear hd he hlen;rintro env H lk ⟨rfl,he⟩;have hlen:=he.len;obtain⟨DV,Sg⟩:∃D,D=[aW (zl 1 27 (NB.map (fX b7))),aW (zl 1 3 ((zm aO s0 i).map λw=>A2.ie (lab w)))]:=⟨_,rfl⟩;obtain⟨DR,hDR⟩:∃D,D=[zl 1 27 (NB.map (fX b7)),zl 1 3 ((zm aO s0 i).map λw=>A2.ie (lab w))]:=⟨_,rfl⟩;have Sh:=l66 (NB.map (fX b7)) (zm aO s0 i) z wait rest es;rw[<- hDR] at Sh
   obtain⟨B',GN⟩:∃B',B'=(dV bs bm m lab (NB.map (fX b7)) (zm aO s0 i) z wait rest).set (bs.length+1) (.cells DV 66):=⟨_,rfl⟩;obtain⟨e',AE⟩:∃e',e'=vg es (bs.length+1) (.agg DR):=⟨_,rfl⟩;have G8:DR.map aW=DV:=by rw[Sg,hDR];rfl
   have G9:DV.length=2:=by rw[Sg];rfl
   have hDk:dz (.agg DR)=true:=by rw[hDR];rfl
   have UP:Hp.get ⟨dV bs bm m lab (NB.map (fX b7)) (zm aO s0 i) z wait rest,es⟩ (bs.length+1)=some (.cells [.aG,.aG] 66):=wl (k:=1);have M4:nth (dV bs bm m lab (NB.map (fX b7)) (zm aO s0 i) z wait rest) (bs.length+1)=some (.cells [.aG,.aG] 66):=UP
   have aaL:∀env,qr prog 66 ⟨dV bs bm m lab (NB.map (fX b7)) (zm aO s0 i) z wait rest,es⟩ [] [] (some (.agg DR,env)) (some (.ptr (bs.length+1) 0))=some (.skip,⟨env,⟨B',e'⟩,[],[]⟩):=λenv=>by
    rw[zy mI UP hDk (by show(DR.map aW).length=2;rw[G8,G9]) (by simp) rfl]
    simp only[Hp.set,gy];rw[show V.laid (.agg DR)=DV from G8];have:Vm.storeCells [.aG,.aG] 0 DV=DV:=by rw[Sg];rfl
    rw[this,<- GN,<- AE]
   have l3':zk prog ⟨B',e'⟩ gl.g 3 (.ptr (bs.length+5) 0)=some (.int .i64 (qZ (zm aO s0 i):Nat)):=by
    have hg5:Hp.get ⟨B',e'⟩ (bs.length+5)=some (.cells [.int .i64 (qZ (zm aO s0 i):Nat)] 3):=by
     show nth B' _=_;rw[GN,kG M4,if_neg (by omega)]
     exact wl (k:=5)
    exact zq iT hg5 rfl
   have aaN:zk prog ⟨B',e'⟩ (λ_ _=>none) 66 (.ptr (bs.length+1) 0)=some (.agg DV):=by
    have hg5:Hp.get ⟨B',e'⟩ (bs.length+1)=some (.cells DV 66):=by
     show nth B' _=_;rw[GN,kG M4,if_pos rfl]
    rw[jW,hg5,jv,qy,pH,mI,Sg];simp[wW]
   have Oz:∀env t,qK env t (some (.agg DR))=some (.agg DR,env):=λ_ _=>rfl;refine wC (tk:=[]) (by kernel_rfl) ?_
   apply Exists.intro;apply And.intro;refine kj (m:=0) (v:=.agg DR) (by kernel_rfl) rfl (by simp only[BA,ak,he.e9,Sh];rfl) (by kernel_rfl) (by kernel_rfl) (by kernel_rfl) (by kernel_rfl) ?_
   dsimp only[aq]
   refine kj (m:=0) (v:=.int .i64 (qZ (zm aO s0 i):Nat)) (by kernel_rfl) rfl (by simp only[BA,Nat.reduceEqDiff,ak,za,Nat.reduceLT,bw,hlen,he.iX,l3];rfl) (by kernel_rfl) (by kernel_rfl) (by kernel_rfl) (by kernel_rfl) ?_
   dsimp only[aq]
   refine kj (m:=0) (v:=.int .i64 (qZ (zm aO s0 i):Nat)) (by kernel_rfl) rfl (by simp only[BA,Nat.reduceEqDiff,ak,za,bD,Nat.reduceLT,bw,hlen,he.iX,l3];rfl) (by kernel_rfl) (by kernel_rfl) (by kernel_rfl) (by kernel_rfl) ?_
   dsimp only[aq]
   refine qx (m:=0) (v:=.int .i64 (most:Nat)) (by kernel_rfl) rfl (by simp only[BA,Nat.reduceEqDiff,ak,za,bD,Nat.reduceLT,bw,hlen,he.e2];rfl) (by kernel_rfl) (by kernel_rfl) (by kernel_rfl) ?_
   dsimp only[aq]
   refine qx (m:=12) (v:=.bool (decide (((qZ (zm aO s0 i):Nat):Int)<=((most:Nat):Int)))) (by kernel_rfl) rfl (by simp only[BA,Nat.reduceEqDiff,ak,za,bD,Nat.reduceLT,bw,hlen,NM];rfl) (by kernel_rfl) (by kernel_rfl) (by kernel_rfl) ?_
   dsimp only[aq]
   refine wD (m:=1) (cs':=[⟨32,⟨B',e'⟩,[],[]⟩,⟨0,⟨dV bs bm m lab (NB.map (fX b7)) (zm aO s0 i) z wait rest,es⟩,[],[]⟩]) (by kernel_rfl) rfl (by simp only[BA,Nat.reduceEqDiff,ak,za,bD,Nat.reduceLT,bw,hlen,he.e6,Oz,aaL];rfl) (by kernel_rfl) (by kernel_rfl) (λK=>?_) ?_
   rotate_left
   dsimp only[aq]
   refine qx (m:=35) (v:=.int .i64 (qZ (zm aO s0 i):Nat)) (by kernel_rfl) rfl (by simp only[BA,Nat.reduceEqDiff,za,bD,Nat.reduceLT,bw,hlen];rfl) (by kernel_rfl) (by kernel_rfl) (by kernel_rfl) ?_
   dsimp only[aq]
   refine qx (m:=127) (v:=.bool (decide (((qZ (zm aO s0 i):Nat):Int)<=((most:Nat):Int)))) (by kernel_rfl) rfl (by simp only[BA,Nat.reduceEqDiff,za,bD,Nat.reduceLT,bw,hlen];rfl) (by kernel_rfl) (by kernel_rfl) (by kernel_rfl) wG
   ·simp only[aq];simp only[go_ret,zp,Fx]
    refine⟨trivial,[.agg DV,.int .i64 (qZ (zm aO s0 i):Nat),.bool (decide (((qZ (zm aO s0 i):Nat):Int)<=((most:Nat):Int)))],?_,?_⟩
    ·simp only[zx,za,bD,hlen,Nat.reduceLT,Nat.reduceEqDiff,aF,bw,he.e6,aaN,qX]
    ·obtain⟨bl,lO⟩:∃bl,B'=bs++bl:=⟨_,by rw[GN,dV,yj]⟩
     have aaO:iZ [.agg DV,.int .i64 (qZ (zm aO s0 i):Nat),.bool (decide (((qZ (zm aO s0 i):Nat):Int)<=((most:Nat):Int)))]=.bq [.agg DV,.int .i64 (qZ (zm aO s0 i):Nat),.bool (decide (((qZ (zm aO s0 i):Nat):Int)<=((most:Nat):Int)))]:=rfl;have Dk:V.agg DV=AM (bs.length+7) NB ((zm aO s0 i).map lab):=by
      rw[AM,Sg,G7,List.map_map];rfl
     rw[aaO,Dk];rcases eX most (qZ (zm aO s0 i)) with ng|ng
     ·have h0:i=0:=by
       rcases pQ with h|h
       ·omega
       ·exact h
      have hNB:NB=[]:=He (by rw[hR.len,h0])
      rw[hNB,decide_eq_false (by omega)]
      exact .inr ⟨i,(zm aO s0 i).map lab,bl,e',(qZ (zm aO s0 i):Nat),by omega,rfl,by rw[lO]⟩
     ·have agW:0<(zm aO s0 i).length:=by
       obtain⟨rs,e⟩:=UW (aO:=aO) (s0:=s0) (eg i);rw[e];simp[zm]
      have aaP:(zm aO s0 i).length=i:=by
       rcases eX i (zm aO s0 i).length with h|h
       ·exact absurd ⟨h,ng⟩ Gw
       ·omega
      have U5:RW aO s0 B' (bs.length+7) i NB:=hR.mono λk x hk h=>by
       rw[nO] at h;rw[GN,kG M4,if_neg (by omega),BC,h]
      rw[lO] at U5;rw[decide_eq_true (by omega)]
      exact .inl ⟨i,NB,bl,e',by omega,aaP,by omega,rfl,by rw[lO],U5⟩
   ·refine jK ?_ ?_ ?_ ?_
    ·kernel_rfl
    ·rfl
    ·intro c hc;cases hc
    ·unfold Cx.eK;refine kC λq hq=>?_;simp only[dH,Ap,uR] at hq;rcases hq with rfl|rfl|rfl|rfl|rfl
     ·kernel_rfl
     ·kernel_rfl
     ·split
      ·rfl
      ·split
       next h=>cases h
       ·refine Ow ?_;exact iQ (by simp only[BA,Nat.reduceEqDiff,ak,Nat.reduceAdd,za,bD,Nat.reduceLT,bw,jc,hlen,he.iX,l3'];rfl)
     ·split
      ·rfl
      ·split
       next h=>cases h
       ·refine Ow ?_;exact iQ (by simp only[BA,Nat.reduceEqDiff,ak,za,Nat.reduceLT,bw,jc,hlen,he.iX,l3'];rfl)
     ·kernel_rfl
end
section
set_option pp.deepTerms true
set_option pp.maxSteps 200000
variable{gl:Gl}
def KB(f:A2.F)(_m b:Nat):aN:=(List.range f.n.2.length).map λj=>(b+j,(f.n.2[j]?.map xx).getD 0)
theorem zoB{f:A2.F}{m b:Nat}:yP m b f.n.2.length=(KB f m b).map λp=>cG m p.1:=by
 rw[yP,KB,List.map_map];rfl
structure EI(f:A2.F)(m n:Nat):Prop where
 mm:m=(f.s.2.length+f.f.2.length) / 8+1
 hs:∀q∈f.s.2,BX q
 ns:f.s.2.length<n/\f.s.2.length<2 ^ 30
 nf:f.f.2.length<2 ^ 30
 nl:f.n.2.length=f.s.2.length
 nr:∀row∈f.n.2,row.2.length<n/\row.2.length<2 ^ 60/\∀z∈row.2,0<=z/\z.toNat<f.s.2.length+f.f.2.length
 fr:∀row∈f.f.2,row.2.length<n/\row.2.length<2 ^ 60/\∀z∈row.2,0<=z/\z.toNat<f.s.2.length+f.f.2.length
theorem zmU{f:A2.F}{m n:Nat}(h:EI f m n){row:A2.cE}(hr:row∈f.n.2):xx row<2 ^ (8 * m):=by
 refine zeh (λz hz=>?_) (Nat.pow_pos (by decide))
 have:=((h.nr row hr).2.2 z hz).2;have:=h.mm;omega
theorem zo2{f:A2.F}{m n:Nat}(h:EI f m n){bs dW:List aV}:MM f m (KB f m (bs.length+2)) (eL bs f (yP m (bs.length+2) f.n.2.length) (xb (sW f) 256) (tW (sW f) 256) (yN m f.n.2++dW)) (bs.length+1) where
 mm:=h.mm
 hs:=h.hs
 ns:=h.ns.2
 nf:=h.nf
 nxl:=by rw[KB,gC,List.length_range,h.nl]
 M:=by rw[Dy,zoB]
 X:=λp hp=>by
  obtain⟨j,hj,rfl⟩:=mj.1 hp;have su:j<f.n.2.length:=Ca.1 hj;have b_:f.n.2[j]?=some f.n.2[j]:=gh su;have h1:nth (yN m f.n.2++dW) j=some (.cells (dM m (xx f.n.2[j])) 5):=by
   rw[zg,gb (by simp[yN];exact su),yN,iY,b_];rfl
  simp only[b_,aS,fQ];exact⟨uF.trans h1,zmU h (List.getElem_mem su)⟩
def BuP(_f:A2.F)(aO:Nat->Nat->Nat)(s0:Nat)(lab:Nat->Int)(v:V)(B:List aV):Prop :=
 (∃i b NB,0<i/\(zm aO s0 i).length=i/\qZ (zm aO s0 i)<=600/\v=.bq [AM b NB ((zm aO s0 i).map lab),.bM]/\RW aO s0 B b i NB) \/
 (∃i,600<qZ (zm aO s0 i)/\v=.bq [.agg [.aG,.aG],.ec 396 (.obj 2)])
theorem zjU{f:A2.F}{m b:Nat}:(KB f m b).map (·.2)=f.n.2.map xx:=by
 rw[KB,List.map_map];apply ER;intro j;rw[iY,iY];rcases eX j f.n.2.length with h|h
 ·rw[Hj h,gh h];simp[gh h]
 ·rw[uc (by simpa using h),uc h];rfl
theorem uJ:qD prog 37=some false:=by kernel_rfl
theorem fcl{f:A2.F}:V.laid (A2.fv f)=A2.fc f:=zmD f
theorem KC:∀env,ky prog 66 #[] env=some (.agg [.aG,.aG]):=λenv=>by kernel_rfl
set_option maxHeartbeats 1000000 in
theorem ze7(hg:GS gl){n m:Nat}{f:A2.F}{act:A2.cE}{ck rk:Bool}(hn:m+1000<=n)(ur:m<2 ^ 36)(BZ:gl.hk 24 [A2.fv f]=some (.bool ck))(M5:gl.hk 72 [A2.fv f,A2.iv act]=some (.bool rk))(Rc:gl.g 0 0=some (.ec 396 (.obj 0)))(Cv:gl.g 2 0=some (.ec 396 (.obj 2)))
  (hF:ck=true->rk=true->EI f m (n - 3)/\(∀r∈act.2,0<=r/\r.toNat<f.f.2.length)/\act.2.length<n - 3/\act.2.length<2 ^ 60) :
  ∃v H',zj prog gl (n+1+1) 28 [A2.fv f,A2.iv act] ⟨[],[]⟩=some (.ret v,H') /\
   if ck=true/\rk=true then ∃nx:aN,nx.map (·.2)=f.n.2.map xx/\BuP f (sX f nx m) (qd f.f.2 act.2 0) (λw=>wj f.s.2.length (wi m w) (-1)) v H'.az else v=.bq [.agg [.aG,.aG],.ec 396 (.obj 0)]:=by
 suffices bL:(go ⟨prog,gl,zj prog gl (n+1),eA⟩ (n+1) (Fx prog f28.results.toList λv H1=>if ck=true/\rk=true then ∃nx:aN,nx.map (·.2)=f.n.2.map xx/\BuP f (sX f nx m) (qd f.f.2 act.2 0) (λw=>wj f.s.2.length (wi m w) (-1)) v H1.az else v=.bq [.agg [.aG,.aG],.ec 396 (.obj 0)]) [.c (f28.body.getD .skip)] .normal ⟨[A2.fv f,A2.iv act]++List.replicate 31 (.bq []),⟨[],[]⟩,[],[]⟩) by
  obtain⟨v,H1,h0,hp⟩:=zQ (gl:=gl) (f:=28) (bs:=[]) (es:=[]) (args:=[A2.fv f,A2.iv act]) (n:=n+1) (hg.hk _ _ (by decide)) (λH=>hg.fG _ _ _ _ (by decide)) func28 rfl (by rw[hg.uq];exact bL)
  refine⟨v,_,h0,?_⟩;split
  ·rename_i hc;rw[if_pos hc] at hp;obtain⟨nx,h1,hp⟩:=hp;refine⟨nx,h1,?_⟩;rcases hp with⟨i,b,NB,q1,q2,q3,rfl,q5⟩|hp
   ·refine .inl ⟨i,b,NB,q1,q2,q3,rfl,?_⟩;obtain⟨k,hk⟩:∃k,k∈NB:=by
     cases NB with
     | nil=>have:=q5.len;simp at this;omega
     | cons k l=>exact⟨k,eH ..⟩
    rw[show zW ([]:List aV).length [] _ H1=⟨H1.az,H1.bG++[]⟩ from yK (by
     have h1:(fX b k).top<=aI (NB.map (fX b)):=zn (mj.2 ⟨k,hk,rfl⟩);have h2:(aW (zl 1 27 (NB.map (fX b)))).top=aI (NB.map (fX b)):=by rw[jm,v5]
     simp only[fX,V.top] at h1;simp only[AM,V.top,aI,h2,List.length_nil]
     omega)]
    exact q5
   ·exact .inr hp
  next hc=>rw[if_neg hc] at hp;exact hp
 have JL:dz (A2.fv f)=true:=rfl;have GF:∀env t,qK env t (some (A2.fv f))=some (A2.fv f,env):=λ_ _=>rfl;have Ab:aW (A2.fv f)=A2.fv f:=rfl;have G0:∀H,Cx.bC ⟨prog,gl.g,zj prog gl (n+1),eA⟩ 24 [A2.fv f] H=some (.val (.bool ck),H):=λH=>zu func24 rfl (xr BZ)
 have U6:∀H,Cx.bC ⟨prog,gl.g,zj prog gl (n+1),eA⟩ 72 [A2.fv f,A2.iv act] H=some (.val (.bool rk),H):=λH=>zu func72 rfl (xr M5);have Ef:∀x e,zk prog ⟨[.cells (A2.fc f) 30,x],e⟩ gl.g 30 (.ptr 0 0)=some (A2.fv f):=λx e=>by
  rw[jW,show Hp.get ⟨[.cells (A2.fc f) 30,x],e⟩ 0=some (.cells (A2.fc f) 30) from rfl,jv,qy,F7,F8];simp[wW,A2.fv,A2.fc]
 have Oj:∀H,zk prog H gl.g 37 (.fq 0 0)=some (.ec 396 (.obj 0)):=λH=>by simp[zk,uJ,Rc]
 have U7:∀H,zk prog H gl.g 37 (.fq 2 0)=some (.ec 396 (.obj 2)):=λH=>by simp[zk,uJ,Cv]
 have sZ:∀k,aW (V.ec 396 (.obj k))=.ec 396 (.obj k):=λ_=>rfl;simp only[f28,fQ,zh];refine zi ?_
 simp only[qw,aH,zh,wB,qO,z6,zL,qF,aj,z9,aL,aq,aS,zc,aZ,List.length_nil,nO,a_,bg,zd,bS,bT,List.replicate,GF,z7 JL,fcl,RU,zH (show dz (V.agg [.aG,.aG])=true from rfl),V.cells]
 refine zi ?_;have DB:∀B e env,nth B 1=some (.cells [.aG,.aG] 66)->qr prog 66 ⟨B,e⟩ [] [] (some (.agg [.aG,.aG],env)) (some (.ptr 1 0))=some (.skip,⟨env,⟨B,e⟩,[],[]⟩):=λB e env hB=>by
  have rH:Hp.get ⟨B,e⟩ 1=some (.cells [.aG,.aG] 66):=hB;rw[zy mI rH rfl rfl (by simp) rfl,jT (by simp[V.top,aI])]
  show some (OR.skip,St.mk env ⟨B.set 1 (.cells [.aG,.aG] 66),e⟩ [] [])=_;rw[jZ hB]
 have Jc:∀B e,nth B 1=some (.cells [.aG,.aG] 66)->zk prog ⟨B,e⟩ (λ_ _=>none) 66 (.ptr 1 0)=some (.agg [.aG,.aG]):=λB e hB=>by
  have rH:Hp.get ⟨B,e⟩ 1=some (.cells [.aG,.aG] 66):=hB;rw[jW,rH,jv,qy,pH,mI];rfl
 let PE:aD->Hp->Prop:=λenv H=>env.length=33/\nth env 4=some (.ptr 1 0)/\nth H.az 1=some (.cells [.aG,.aG] 66)/\¬(ck=true/\rk=true)
 rcases Decidable.em (ck=true/\rk=true) with nL|nL
 rotate_left
 rcases Bool.eq_false_or_eq_true ck with ng|ng
 rotate_left
 subst ng;simp only[BA,av,ak,aj,aq,aA,zd,ze,bS,bT,j4,qg,jn,cB,wJ,oo,Ef,Ab,G0,iz,oo];refine .inl ?_;refine vP (P:=PE) ?_ ⟨rfl,rfl,rfl,nL⟩
 rotate_left
 rotate_left
 subst ng;obtain rfl:rk=false:=by cases rk with
  | false=>rfl
  | true=>exact absurd ⟨rfl,rfl⟩ nL
 simp only[BA,av,ak,aj,aq,aA,zd,ze,bS,bT,j4,qg,jn,cC,wI,oo,mh,Ef,Ab,G0,U6,iz,A2.bB,oo,mh];refine .inl ?_;refine vP (P:=PE) ?_ ⟨rfl,rfl,rfl,nL⟩
 rotate_left
 rotate_left
 obtain⟨rfl,rfl⟩:=nL;simp only[BA,av,ak,aj,aq,aA,zd,ze,bS,bT,j4,qg,jn,cC,wI,mh,Ef,Ab,G0,U6,iz,A2.bB,mh];refine .inr ?_;obtain⟨oS,M6,aaQ,M7⟩:=hF rfl rfl
 obtain⟨n',rfl⟩:∃n',n=n'+1:=⟨n - 1,by omega⟩
 obtain⟨dW,p6,De⟩:=zb0 hg (n:=n') (f:=f) (m:=m) (bs:=[.cells (A2.fc f) 30,.cells [.aG,.aG] 66]) (es:=[]) oS.ns.2 oS.nf (by rw[oS.nl];exact oS.ns.2) oS.mm (by rw[oS.nl];have:=oS.ns.1;omega) (by have:=oS.ns.1;omega) (by omega) (λrow b_=>⟨by have:=(oS.nr row b_).1;omega,(oS.nr row b_).2⟩) oS.hs
 have G_:=zo2 oS (bs:=[.cells (A2.fc f) 30,.cells [.aG,.aG] 66]) (dW:=dW);obtain⟨HB,tf⟩:∃HB,HB=eL [.cells (A2.fc f) 30,.cells [.aG,.aG] 66] f (yP m ([aV.cells (A2.fc f) 30,.cells [.aG,.aG] 66].length+2) f.n.2.length) (xb (sW f) 256) (tW (sW f) 256) (yN m f.n.2++dW):=⟨_,rfl⟩;have AH:nth HB 1=some (.cells [.aG,.aG] 66):=by rw[tf];rfl
 rw[<- tf] at G_;have M8:Cx.bC ⟨prog,gl.g,zj prog gl (n'+1+1),eA⟩ 73 [A2.fv f] ⟨[.cells (A2.fc f) 30,.cells [.aG,.aG] 66],[]⟩=some (.val (.ptr 3 0),⟨HB,p6⟩):=by
  rw[tf];exact zu func73 rfl De
 have aqW:2<=HB.length:=by
  rw[zg] at AH;have:=(c_.1 AH).1;omega
 obtain⟨u,Hb,hb,BE⟩:=zej hg (n:=n'+1) (bm:=3) (m:=m) (most:=600) (act:=act) (es:=p6) (by omega) ur (dI _) G_ M6 (λrow b_=>⟨by have:=(oS.fr row b_).1;omega,(oS.fr row b_).2⟩) (by omega) M7
 have cZ:Cx.bC ⟨prog,gl.g,zj prog gl (n'+1+1),eA⟩ 74 [.ptr 3 0,A2.iv act,.int .i64 600] ⟨HB,p6⟩=some (.val u,Hb):=zu func74 rfl hb;have C0:=zjU (f:=f) (m:=m) (b:=[aV.cells (A2.fc f) 30,.cells [.aG,.aG] 66].length+2);generalize KB f m ([aV.cells (A2.fc f) 30,.cells [.aG,.aG] 66].length+2)=nx at BE G_ C0
 obtain⟨DL,BL,nV,dv,cn,ok,rfl,rfl,DC⟩:∃(DL:aD)(BL:List aV)(nV:aN)(dv:V)(cn:Int)(ok:Bool),u=.bq [dv,.int .i64 cn,.bool ok]/\Hb=⟨HB++BL,nV⟩/\dv=.agg DL/\DL.map aW=DL/\DL.length=2/\(if ok=true then ∃i NB,0<i/\(zm (sX f nx m) (qd f.f.2 act.2 0) i).length=i/\qZ (zm (sX f nx m) (qd f.f.2 act.2 0) i)<=600/\dv=AM (HB.length+7) NB ((zm (sX f nx m) (qd f.f.2 act.2 0) i).map λw=>wj f.s.2.length (wi m w) (-1))/\RW (sX f nx m) (qd f.f.2 act.2 0) (HB++BL) (HB.length+7) i NB else ∃i,600<qZ (zm (sX f nx m) (qd f.f.2 act.2 0) i)):=by
  rcases BE with⟨i,NB,bl,nV,q1,q2,q3,rfl,rfl,q6⟩|⟨i,dU,bl,nV,z,q1,rfl,rfl⟩
  ·exact⟨_,bl,nV,_,_,true,rfl,rfl,rfl,by simp[qT],rfl,by rw[if_pos rfl];exact⟨i,NB,q1,q2,by omega,rfl,q6⟩⟩
  ·exact⟨_,bl,nV,_,_,false,rfl,rfl,rfl,by simp[qT],rfl,by rw[if_neg (by simp)];exact⟨i,by omega⟩⟩
 obtain⟨rfl,G8,G9,DC⟩:=DC;have Oz:∀env t,qK env t (some (.agg DL))=some (.agg DL,env):=λ_ _=>rfl;refine zi ?_
 simp only[qw,zK,qu,qO,zU,kf,av,qp,ak,zL,aj,zr,aL,aq,zR,qR,qX,qk,aT,aS,qM,aA,aY,bp,zc,aU,pL,Nat.reduceAdd,bh,zd,ze,bS,bT,Ef,Ab,M8,A2.bB,cZ,kX,dA,RU,zH (show dz (V.agg [.aG,.aG])=true from rfl),V.cells,Oz]
 obtain⟨B6,KD⟩:∃B6,B6=HB++(BL++[aV.cells DL 66]):=⟨_,rfl⟩;obtain⟨e6,he6⟩:∃e6,e6=vg nV (HB.length+BL.length) (.agg DL):=⟨_,rfl⟩;have M9:∀env,qr prog 66 ⟨HB++(BL++[aV.cells [.aG,.aG] 66]),nV⟩ [] [] (some (.agg DL,env)) (some (.ptr (HB.length+BL.length) 0))=some (.skip,⟨env,⟨B6,e6⟩,[],[]⟩):=λenv=>by
  have rH:Hp.get ⟨HB++(BL++[aV.cells [.aG,.aG] 66]),nV⟩ (HB.length+BL.length)=some (.cells [.aG,.aG] 66):=by
   show nth _ _=_;rw[<- bh,<- aU,zg,fE (dI _),Cb];rfl
  rw[zy mI rH rfl (by show(DL.map aW).length=2;rw[G8,G9]) (by simp) rfl]
  have h1:(HB++(BL++[aV.cells [V.aG,.aG] 66])).set (HB.length+BL.length) (.cells DL 66)=B6:=by
   rw[<- bh,<- aU,uM _ _ (dI _),Cb,KD,bh];rfl
  have h2:Vm.storeCells [V.aG,.aG] 0 DL=DL:=by
   match DL,G9 with
   | [a,b],_=>rfl
  rw[show V.laid (.agg DL)=DL from G8,h2];show some (OR.skip,St.mk env (Hp.bQ ⟨(HB++(BL++[aV.cells [V.aG,.aG] 66])).set (HB.length+BL.length) (.cells DL 66),nV⟩ _ _) [] [])=_;rw[h1,gy,he6]
 simp only[M9,bu,aq]
 simp only[BA,aq,zd,ze,bS,bT];have Jd:nth B6 1=some (.cells [.aG,.aG] 66):=by
  rw[KD,zg,gb (by omega),<- zg,AH]
 have hl6:zk prog ⟨B6,e6⟩ gl.g 66 (.ptr (HB.length+BL.length) 0)=some (.agg DL):=by
  have rH:Hp.get ⟨B6,e6⟩ (HB.length+BL.length)=some (.cells DL 66):=by
   show nth _ _=_;rw[KD,<- bh,<- aU,zg,fE (dI _),Cb];rfl
  rw[jW,rH,jv,qy,pH,mI,wW,if_pos (by omega),mg,p9 (by omega)]
 refine zi ?_;cases ok with
 | false =>
  simp only[BA,ak,aq,zd,ze,bS,bT,iz,oo];refine .inl ?_;rw[if_neg (by simp)] at DC
  obtain⟨i9,DC⟩:=DC;refine vP (P:=λenv H=>env.length=33/\nth env 4=some (.ptr 1 0)/\nth H.az 1=some (.cells [.aG,.aG] 66)) ?_ ⟨rfl,rfl,Jd⟩;rintro env ⟨B,e⟩ lk ⟨hlen,e4,hB⟩;refine wC (tk:=[]) (by kernel_rfl) ?_
  apply Exists.intro;apply And.intro;refine qx (m:=0) (v:=.agg [.aG,.aG]) (by kernel_rfl) rfl (by simp only[BA,KC];rfl) (by kernel_rfl) (by kernel_rfl) (by kernel_rfl) ?_
  dsimp only[aq]
  refine kj (m:=0) (v:=.ec 396 (.obj 2)) (by kernel_rfl) rfl (by simp only[BA,ak,U7,sZ];rfl) (by kernel_rfl) (by kernel_rfl) (by kernel_rfl) (by kernel_rfl) ?_
  dsimp only[aq]
  refine wD (m:=1) (cs':=[⟨4,⟨B,e⟩,[],[]⟩,⟨0,⟨B,e⟩,[],[]⟩]) (by kernel_rfl) rfl (by simp only[BA,Nat.reduceEqDiff,ak,za,bD,Nat.reduceLT,bw,hlen,e4,DB _ _ _ hB];rfl) (by kernel_rfl) (by kernel_rfl) (λK=>?_) ?_
  rotate_left
  dsimp only[aq]
  refine qx (m:=7) (v:=.ec 396 (.obj 2)) (by kernel_rfl) rfl (by simp only[BA,Nat.reduceEqDiff,za,bD,Nat.reduceLT,bw,hlen];rfl) (by kernel_rfl) (by kernel_rfl) (by kernel_rfl) wG
  ·simp only[aq];simp only[go_ret,zp,Fx,we]
   refine⟨trivial,[.agg [.aG,.aG],.ec 396 (.obj 2)],?_,?_⟩
   ·simp only[zx,za,bD,hlen,Nat.reduceLT,Nat.reduceEqDiff,aF,bw,e4,Jc _ _ hB,qX]
   ·exact⟨nx,C0,.inr ⟨i9,DC,rfl⟩⟩
  ·refine jK ?_ ?_ ?_ ?_
   ·kernel_rfl
   ·rfl
   ·intro c hc;cases hc
   ·unfold Cx.eK;refine kC λq hq=>?_;simp only[dH,Ap,uR] at hq;rcases hq with rfl|rfl
    ·split
     ·rfl
     ·split
      next h=>cases h
      ·refine Ow ?_;exact iQ (by simp only[BA,ak,jc,U7,sZ];rfl)
    ·kernel_rfl
 | true =>
  simp only[BA,ak,aq,zd,ze,bS,bT,iz,mh];refine .inr ?_;rw[if_pos rfl] at DC;obtain⟨i,NB,q1,q2,q3,q4,q5⟩:=DC;obtain⟨e7,he7⟩:∃e7,e7=vg e6 1 (.agg DL):=⟨_,rfl⟩
  have aaT:∀env,qr prog 66 ⟨B6,e6⟩ [] [] (some (.agg DL,env)) (some (.ptr 1 0))=some (.skip,⟨env,⟨B6.set 1 (.cells DL 66),e7⟩,[],[]⟩):=λenv=>by
   have rH:Hp.get ⟨B6,e6⟩ 1=some (.cells [.aG,.aG] 66):=Jd;rw[zy mI rH rfl (by show(DL.map aW).length=2;rw[G8,G9]) (by simp) rfl]
   have h2:Vm.storeCells [V.aG,.aG] 0 DL=DL:=by
    match DL,G9 with
    | [a,b],_=>rfl
   rw[show V.laid (.agg DL)=DL from G8,h2];show some (OR.skip,St.mk env (Hp.bQ ⟨B6.set 1 (.cells DL 66),e6⟩ _ _) [] [])=_;rw[gy,he7]
  have hl7:zk prog ⟨B6.set 1 (.cells DL 66),e7⟩ (λ_ _=>none) 66 (.ptr 1 0)=some (.agg DL):=by
   have rH:Hp.get ⟨B6.set 1 (.cells DL 66),e7⟩ 1=some (.cells DL 66):=by
    show nth _ _=_;rw[kG Jd,if_pos rfl]
   rw[jW,rH,jv,qy,pH,mI,wW,if_pos (by omega),mg,p9 (by omega)]
  refine zi ?_;simp only[BA,ak,aj,aq,zd,ze,bS,bT,hl6,Oz,aaT];simp only[go_ret,zp,Fx]
  refine⟨trivial,[.agg DL,.bM],?_,?_⟩
  ·simp only[zx,zd,ze,hl7,qX]
  ·refine⟨nx,C0,.inl ⟨i,HB.length+7,NB,q1,q2,q3,?_,?_⟩⟩
   ·rw[<- q4];rfl
   ·refine q5.mono λk x hk h=>?_;show nth (B6.set 1 _) _=_;rw[kG Jd,if_neg (by omega),KD,<- bh]
    exact vO h
 all_goals
  rintro env ⟨B,e⟩ lk ⟨hlen,e4,hB,nL⟩;refine wC (tk:=[]) (by kernel_rfl) ?_
  apply Exists.intro;apply And.intro;refine qx (m:=0) (v:=.agg [.aG,.aG]) (by kernel_rfl) rfl (by simp only[BA,KC];rfl) (by kernel_rfl) (by kernel_rfl) (by kernel_rfl) ?_
  dsimp only[aq]
  refine kj (m:=0) (v:=.ec 396 (.obj 0)) (by kernel_rfl) rfl (by simp only[BA,ak,Oj,sZ];rfl) (by kernel_rfl) (by kernel_rfl) (by kernel_rfl) (by kernel_rfl) ?_
  dsimp only[aq]
  refine wD (m:=1) (cs':=[⟨4,⟨B,e⟩,[],[]⟩,⟨0,⟨B,e⟩,[],[]⟩]) (by kernel_rfl) rfl (by simp only[BA,Nat.reduceEqDiff,ak,za,bD,Nat.reduceLT,bw,hlen,e4,DB _ _ _ hB];rfl) (by kernel_rfl) (by kernel_rfl) (λK=>?_) ?_
  rotate_left
  dsimp only[aq]
  refine qx (m:=7) (v:=.ec 396 (.obj 0)) (by kernel_rfl) rfl (by simp only[BA,Nat.reduceEqDiff,za,bD,Nat.reduceLT,bw,hlen];rfl) (by kernel_rfl) (by kernel_rfl) (by kernel_rfl) wG
  ·simp only[aq];simp only[go_ret,zp,Fx,we]
   refine⟨trivial,[.agg [.aG,.aG],.ec 396 (.obj 0)],?_,?_⟩
   ·simp only[zx,za,bD,hlen,Nat.reduceLT,Nat.reduceEqDiff,aF,bw,e4,Jc _ _ hB,qX]
   ·split<;>first|rfl|(rename_i h;exact absurd h (by simp))
  ·refine jK ?_ ?_ ?_ ?_
   ·kernel_rfl
   ·rfl
   ·intro c hc;cases hc
   ·unfold Cx.eK;refine kC λq hq=>?_;simp only[dH,Ap,uR] at hq;rcases hq with rfl|rfl
    ·split
     ·rfl
     ·split
      next h=>cases h
      ·refine Ow ?_;exact iQ (by simp only[BA,ak,jc,Oj,sZ];rfl)
    ·kernel_rfl
end
section
section
variable{aO:Nat->Nat->Nat}{s0:Nat}
theorem zbk{j:Nat}(h:(zm aO s0 j)[j]?=none):∀d,zm aO s0 (j+d)=zm aO s0 j
 | 0=>rfl
 | d+1=>by
  have ih:=zbk h d;rw[<- pL];have h1:(zm aO s0 j)[j+d]?=none:=by
   rw[List.getElem?_eq_none_iff] at h ⊢;omega
  simp only[zm,ih,h1]
theorem xy{i j:Nat}(h:(zm aO s0 i).length=i):∃rs,zm aO s0 i=zm aO s0 j++rs:=by
 rcases Nat.le_total j i with Nu|Nu
 ·exact UW Nu
 ·have:=zbk (aO:=aO) (s0:=s0) (j:=i) (by rw[List.getElem?_eq_none_iff];omega) (j - i)
  rw[show i+(j - i)=j by omega] at this
  exact⟨[],by rw[this,mT]⟩
theorem ze8{i j:Nat}(h:(zm aO s0 i).length=i)(h':(zm aO s0 j).length=j):i=j:=by
 obtain⟨r1,e1⟩:=xy (j:=j) h;obtain⟨r2,e2⟩:=xy (j:=i) h';have l1:=congrArg List.length e1;have l2:=congrArg List.length e2;rw[aU] at l1 l2;omega
theorem xN{i j:Nat}(h:(zm aO s0 i).length=i)(hj:j<i):∃w,(zm aO s0 j)[j]?=some w:=by
 cases hx:(zm aO s0 j)[j]? with
 | some w=>exact⟨w,rfl⟩
 | none =>
  have:=zbk hx (i - j);rw[show j+(i - j)=i by omega] at this
  rw[List.getElem?_eq_none_iff] at hx;rw[this] at h;omega
theorem zek{j w:Nat}(h:(zm aO s0 j)[j]?=some w):(xc aO s0 j).length=256:=by
 simp only[xc,h,gC,List.length_range]
theorem RW.get{B:List aV}{b i:Nat}{NB:bN}(h:RW aO s0 B b i NB):∀j,j<i->∃k,NB[j]?=some k/\nth B (b+k)=some (.cells ((xc aO s0 j).map A2.ie) 3):=by
 induction h with
 | nil=>intro j hj;omega
 | @snoc i k NB h hk hb ih =>
  intro j hj;have hl:=h.len;rcases eX j i with su|su
  ·obtain⟨k',h1,h2⟩:=ih j su;exact⟨k',by rw[gb (by omega),h1],h2⟩
  ·obtain rfl:j=i:=by omega
   exact⟨k,by rw[fE (by omega),hl,Cb];rfl,hb⟩
def xd(aO:Nat->Nat->Nat)(s0:Nat)(lab:Nat->Int)(i:Nat):A2.D:=((true,(List.range i).map λj=>(true,xc aO s0 j)),(true,(zm aO s0 i).map lab))
theorem zgk{n:Nat}{e:aB}{xs:aD}:aW (zl n e xs)=Sx.lv n true xs:=by cases xs<;>rfl
theorem U8{n:Nat}{nl:Bool}{xs:aD}(h:0<xs.length):Sx.lv n nl xs=.sl n xs .no:=by
 rcases Sx.cH n nl xs with e|⟨e0,_⟩
 ·exact e
 ·rw[e0] at h;cases h
theorem zqD{l:List Int}(h:0<l.length):A2.iv (true,l)=.sl 1 (l.map A2.ie) .no:=U8 (by rw[gC];exact h)
theorem ziG{lab:Nat->Int}{B:List aV}{es:aN}{b i:Nat}{NB:bN}(h:RW aO s0 B b i NB)(hi:0<i)(hc:(zm aO s0 i).length=i) :
  mC ⟨B,es⟩ (.bq [AM b NB ((zm aO s0 i).map lab),.bM]) (.bq [A2.ij (xd aO s0 lab i),.bM]):=by
 have hl:=h.len;have b_:∀j,j<i->A2.iv (true,xc aO s0 j)=.sl 1 ((xc aO s0 j).map A2.ie) .no:=λj hj=>by
  obtain⟨w,hw⟩:=xN hc hj;exact zqD (by rw[zek hw];exact Nat.succ_pos _)
 have e1:aW (zl 1 27 (NB.map (fX b)))=.sl 1 (NB.map (fX b)) .no:=by rw[zgk,U8 (by rw[gC,hl];exact hi)]
 have e2:A2.rv (xd aO s0 lab i).1=.sl 1 (((List.range i).map λj=>(true,xc aO s0 j)).map A2.iv) .no:=U8 (by simpa[xd] using hi)
 have e3:aW (zl 1 3 (((zm aO s0 i).map lab).map A2.ie))=A2.iv (xd aO s0 lab i).2:=zgk;have f1:mC ⟨B,es⟩ (.sl 1 (NB.map (fX b)) .no) (.sl 1 (((List.range i).map λj=>(true,xc aO s0 j)).map A2.iv) .no):=by
  refine .sl (by simp[hl]) (λj x hj=>?_) (λj y hj=>?_) (λj x y hj hy=>?_)
  ·rw[iY] at hj;obtain⟨k,_,rfl⟩:=m9.1 hj;exact⟨rfl,rfl⟩
  ·rw[iY,iY] at hj;have Ia:j<i:=by
    rcases eX j i with h1|h1
    ·exact h1
    ·rw[uc (by simpa using h1)] at hj;cases hj
   rw[Hj Ia] at hj;simp only[aS,br] at hj;rw[<- hj,b_ j Ia];exact⟨rfl,rfl⟩
  ·have Ia:j<i:=by
    rcases eX j i with h1|h1
    ·exact h1
    ·rw[uc (by simpa[hl] using h1)] at hj;cases hj
   obtain⟨k,k1,k2⟩:=h.get j Ia;rw[iY,k1] at hj;rw[iY,iY,Hj Ia] at hy;simp only[aS,br] at hj hy;rw[<- hj,<- hy,b_ j Ia];obtain⟨w,hw⟩:=xN hc Ia;have aq0:((xc aO s0 j).map A2.ie).length=256:=by rw[gC,zek hw]
   have:=mC.sr (H:=⟨B,es⟩) (b:=b+k) (off:=0) (len:=256) (cap:=256) (cs:=(xc aO s0 j).map A2.ie) (t:=3) (by rw[zg] at k2;exact k2) (A2.lJ (λ_=>rfl) _) (by omega)
   rw[mg,p9 (by omega)] at this
   exact this
 refine .bq rfl λj x y hj hy=>?_
 match j,hj,hy with
 | 0,hj,hy =>
  cases hj;cases hy;refine .agg rfl (λj y hj=>?_) λj x y hj hy=>?_
  ·match j,hj with
   | 0,hj=>cases hj;rw[e2];rfl
   | 1,hj=>cases hj;rw[<- e3];cases ((zm aO s0 i).map lab).map A2.ie<;>rfl
   | j+2,hj=>simp at hj
  ·match j,hj,hy with
   | 0,hj,hy=>cases hj;cases hy;rw[e1,e2];exact f1
   | 1,hj,hy =>
    cases hj;cases hy;rw[e3];exact .same (A2.p7 _)
   | j+2,hj,hy=>simp at hj
 | 1,hj,hy=>cases hj;cases hy;exact .same rfl
 | j+2,hj,hy=>simp at hj
end
theorem zmV{f:A2.F}{nx Gi:aN}(h:nx.map (·.2)=Gi.map (·.2)){y k q:Nat}:xa f nx y k q=xa f Gi y k q:=by
 have hk:(nx[k]?).map (·.2)=(Gi[k]?).map (·.2):=by rw[<- iY,<- iY,h]
 unfold xa;cases hs:f.s.2[k]? with
 | none=>rfl
 | some s =>
  cases h1:nx[k]? with
  | none =>
   rw[h1] at hk;cases h2:Gi[k]? with
   | none=>rfl
   | some p=>rw[h2] at hk;cases hk
  | some p =>
   rw[h1] at hk;cases h2:Gi[k]? with
   | none=>rw[h2] at hk;cases hk
   | some p' =>
    rw[h2] at hk;have:p.2=p'.2:=DH hk;simp only[this]
theorem zjW{f:A2.F}{nx Gi:aN}(h:nx.map (·.2)=Gi.map (·.2)){m:Nat}:sX f nx m=sX f Gi m:=by
 funext w y
 have:∀(l:bN)(q:Nat),BY f nx y l q=BY f Gi y l q:=by
  intro l
  induction l with
  | nil=>intro q;rfl
  | cons k l ih =>
   intro q;show BY f nx y l (xa f nx y k q)=BY f Gi y l (xa f Gi y k q);rw[zmV h];exact ih _
 exact this _ _
end
end Go.Proofs.YthohlnmcjkjeiaaGreatDoor
