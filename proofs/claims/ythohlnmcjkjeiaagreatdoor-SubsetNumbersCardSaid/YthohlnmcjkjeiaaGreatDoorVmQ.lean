/- Seat 8, subset: newMaker, walked. Conditions: none but those named. -/
import Derived.Test.YthohlnmcjkjeiaaGreatDoorVmP
namespace Go.Proofs.YthohlnmcjkjeiaaGreatDoor
open Go Go.Vm
open Go.Proofs.Tryz
set_option maxRecDepth 100000
section
variable{gl:Gl}
def nq(f:A2.F)(xs cls:aC)(ld:V):aC:=A2.qv f.s::A2.iv f.r::A2.rv f.f::A2.rv f.n::zm 1 205 xs::(cls++[ld])
def vi(es:aN)(b:Nat)(v:V):aN:=if v.top<=b+1 then es else (b,v.top)::es
theorem gK{B:List aT}{es:aN}{b:Nat}{v:V}:Hp.bQ ⟨B,es⟩ b v=⟨B,vi es b v⟩:=by
 unfold Hp.bQ vi;split<;>rfl
section
variable{P:aQ}{t n:aB}{B:List aT}{off bm:Nat}{cs:aC}{ty e:aB}{xs ys:aC}{env:aC}{df:bP}{es:aN}
theorem Sg(ha:qC P t=some false)(hb:nth B bm=some (.cells cs ty))(hn:nth cs off=some (zm n e xs)) :
  vA P t env ⟨B,es⟩ [] df (some (.ptr bm off))=some (.val (zm n e xs),⟨env,⟨B.set bm (.cells (cs.set off (oJ n xs)) ty),es⟩,kG bm off xs,df⟩):=by
 rw[Up ha (show Hp.get ⟨B,es⟩ bm=_ from hb) hn];rfl
theorem Vh(hs:z8 P t=some 1)(bR:bm<B.length)(ho:off<cs.length) :
  qo P t ⟨B.set bm (.cells (cs.set off (oJ n xs)) ty),es⟩ (kG bm off xs) df (some (zm n e ys,env)) (some (.ptr bm off))=some (.skip,⟨env,⟨B.set bm (.cells (cs.set off (zm n e ys)) ty),vi es bm (zm n e ys)⟩,kG bm off xs,df⟩):=by
 rw[zA hs (show Hp.get ⟨_,es⟩ bm=some (.cells (cs.set off (oJ n xs)) ty) by show nth _ _=_;simp[zg,bR]) Qx (by rw[vt];rfl) (by rw[bG];omega) (Qw ho)]
 simp only[Hp.set,List.set_set,vt,Vm.storeCells,gK]
end
theorem Gw:qC prog 30=some true:=by kernel_rfl
theorem Gx:z8 prog 30=some 4:=by kernel_rfl
theorem Nl:zD prog 30 3=some 3:=by kernel_rfl
theorem Dd:mY prog 201 205 1 24:=⟨by kernel_rfl,by kernel_rfl,by kernel_rfl,by decide,by kernel_rfl,by kernel_rfl,by kernel_rfl⟩
theorem zmI(f:A2.F):(A2.fc f).map aW=A2.fc f:=by
 simp[A2.fc,A2.eA,A2.bH,A2.bM]
theorem zp4{f:A2.F}{env:aC}(h:nth env 17=some (A2.fv f)):kB prog 204 #[(0,.tmp 17)] env=some (.agg (nq f [] (List.replicate 256 (.int .i64 0)) .aG)):=by
 rw[zbx (bI:=List.replicate 17 .ee++[A2.fv f]) (xs:=[.tmp 17]) (λt ht=>?_) (by simp)]
 ·kernel_rfl
 ·have:t=17:=by simpa using ht
  subst this;rw[<- zg,h];rfl
theorem zos{f:A2.F}{a0 a1 a2 a3 a4 a5 a6 a7 a8 a9 a10 a11 a12 a13 a14 a15 a16:V}{r:aC}:kB prog 204 #[(0,.tmp 17)] (a0::a1::a2::a3::a4::a5::a6::a7::a8::a9::a10::a11::a12::a13::a14::a15::a16::A2.fv f::r)=some (.agg (nq f [] (List.replicate 256 (.int .i64 0)) .aG)):=zp4 rfl
theorem zot{f:A2.F}:(nq f [] (List.replicate 256 (.int .i64 0)) .aG).map aW=nq f [] (List.replicate 256 (.int .i64 0)) .aG:=by
 simp only[nq,zm,a_,List.map_append,List.map_replicate,bt,A2.eA,A2.bH,A2.bM,dr,zS]
def xu(r:A2.cO):Nat:=wW r.2 0
def eS(bs:List aT)(f:A2.F)(xs cls:aC)(ld:V)(rest:List aT):List aT:=bs++(.cells (A2.fc f) 30::.cells (nq f xs cls ld) 204::rest)
def yO(m:Nat)(rows:List A2.cO):List aT:=rows.map λr=>.cells (dR m (xu r)) 5
def yQ(m b k:Nat):aC:=(List.range k).map λj=>cH m (b+j)
section
variable{bs:List aT}{f:A2.F}{xs cls tK Sh:aC}{ld Hx:V}{rest:List aT}{x:aT}{i:Nat}
theorem OW:(eS bs f xs cls ld rest).length=bs.length+2+rest.length:=by simp[eS];omega
theorem Gy:nth (eS bs f xs cls ld rest) bs.length=some (.cells (A2.fc f) 30):=by
 rw[eS,zg,eM (dB _)];simp
theorem DU:nth (eS bs f xs cls ld rest) (bs.length+1)=some (.cells (nq f xs cls ld) 204):=by
 rw[eS,zg,eM (by omega)];simp
theorem uY:nth (eS bs f xs cls ld rest) (bs.length+2+i)=nth rest i:=by
 rw[eS,zg,zg,eM (by omega),show bs.length+2+i - bs.length=i+1+1 by omega];simp
theorem zed:(eS bs f xs cls ld rest).set (bs.length+1) (.cells (nq f tK Sh Hx) 204)=eS bs f tK Sh Hx rest:=by
 rw[eS,tW _ _ (by omega)];simp[eS]
theorem pX:eS bs f xs cls ld rest++[x]=eS bs f xs cls ld (rest++[x]):=by simp[eS]
theorem Vi:(eS bs f xs cls ld rest).set (bs.length+2+i) x=eS bs f xs cls ld (rest.set i x):=by
 rw[eS,tW _ _ (by omega),show bs.length+2+i - bs.length=i+1+1 by omega];simp[eS]
end
theorem Vj{rs:List aT}{x y:aT}{i:Nat}(h:rs.length=i):(rs++[x]).set i y=rs++[y]/\nth (rs++[x]) i=some x:=by
 subst h;constructor
 ·rw[tW _ _ (dB _)];simp
 ·rw[zg,eM (dB _)];simp
theorem zee{env:aC}{t:Nat}{r:A2.cO}:qE env t (some (A2.iv r))=some (A2.iv r,env):=by
 rcases Sx.cJ 1 r.1 (r.2.map A2.ie) with e|⟨_,e⟩<;>rw[A2.iv,e]<;>rfl
theorem zkM{m b k:Nat}:yQ m b (k+1)=yQ m b k++[cH m (b+k)]:=by simp[yQ,List.range_succ]
theorem zkN{m k:Nat}{rows:List A2.cO}{r:A2.cO}(h:rows[k]?=some r):yO m (rows.take (k+1))=yO m (rows.take k)++[.cells (dR m (xu r)) 5]:=by
 rw[List.take_add_one,h];simp[yO]
def pK(ss:List A2.Q4)(y:Nat):Nat->Nat
 | 0=>0
 | k+1=>match ss[k]? with
  | some s=>if EE s y then pK ss y k ||| 2 ^ k else pK ss y k
  | none=>pK ss y k
def fP(w:Nat->Nat):Nat->bL×bL×bL
 | 0=>([],[],[])
 | y+1=>match ky (w y) 0 (fP w y).1 with
  | some i=>((fP w y).1,(fP w y).2.1++[i],(fP w y).2.2)
  | none=>((fP w y).1++[w y],(fP w y).2.1++[(fP w y).1.length],(fP w y).2.2++[y])
def xb(w:Nat->Nat)(y:Nat):aC:=(fP w y).2.1.map (λi=>.int .i64 (i:Nat))++List.replicate (256 - y) (.int .i64 0)
def uB(w:Nat->Nat)(y:Nat):V:=zm 1 5 ((fP w y).2.2.map λb=>.int .u8 (b:Nat))
theorem OX{w:Nat->Nat}:∀y,(fP w y).2.1.length=y
 | 0=>rfl
 | y+1=>by
  simp only[fP];split<;>simp[OX y]
theorem Vk{w:Nat->Nat}{y:Nat}(h:y<=256):(xb w y).length=256:=by simp[xb,OX];omega
theorem zmJ{ss:List A2.Q4}{y m:Nat}:∀k,k<=8 * m->pK ss y k<2 ^ (8 * m)
 | 0,_=>Nat.pow_pos (by decide)
 | k+1,h=>by
  have h0:=zmJ (ss:=ss) (y:=y) (m:=m) k (by omega)
  simp only[pK];split
  ·split
   ·exact JF h0 (HO (by decide) (by omega))
   ·exact h0
  ·exact h0
theorem Si{rs js:List aT}{x y:aT}{i:Nat}(h:rs.length=i):(rs++(x::js)).set i y=rs++(y::js)/\nth (rs++(x::js)) i=some x:=by
 subst h;constructor
 ·rw[tW _ _ (dB _)];simp
 ·rw[zg,eM (dB _)];simp
theorem zcz{env:aC}{t b:Nat}:qE env t (some (.map b))=some (.map b,env):=rfl
theorem vx{b:Nat}:aW (.map b)=.map b:=rfl
theorem zhI{w:Nat->Nat}{y c:Nat}(h:y<256)(hc:(fP w (y+1)).2.1=(fP w y).2.1++[c]):(xb w y).set y (.int .i64 (c:Nat))=xb w (y+1):=by
 unfold xb;rw[hc,List.map_append,tW _ _ (by simp[OX]),show 256 - y=(256 - (y+1))+1 by omega,HQ]
 simp[OX]
theorem Sj:prog.underlying 202=some (.array 256 3):=by kernel_rfl
theorem ziC{b y:Nat}(h:y<256):zp prog 202 (.ptr b 5) ((y:Nat):Int)=some (.ptr b (5+y)):=by
 simp only[zp,Sj,uA];rw[if_pos (by omega),y_,JI]
theorem zou{f:A2.F}{xs cls:aC}{ld v:V}{y:Nat}(h:y<cls.length):(nq f xs cls ld).set (5+y) v=nq f xs (cls.set y v) ld:=by
 rw[JH 5 y];simp only[nq,bU];rw[GO _ _ h]
theorem zjQ{f:A2.F}{xs cls:aC}{ld:V}{y:Nat}(h:y<cls.length):(nq f xs cls ld)[5+y]?=cls[y]?:=by
 rw[JH 5 y];simp only[nq,List.getElem?_cons_succ];rw[fI h]
theorem zmL{w:Nat->Nat}{y i:Nat}(h:i<(xb w y).length):∃z,(xb w y)[i]?=some (.int .i64 z):=by
 have dH:∀v∈xb w y,∃z,v=.int .i64 z:=by
  intro v hv;unfold xb at hv;rcases oM.1 hv with hv|hv
  ·obtain⟨a,_,ha⟩:=iH.1 hv;exact⟨_,ha.symm⟩
  ·exact⟨0,(List.mem_replicate.1 hv).2⟩
 obtain⟨z,hz⟩:=dH _ (List.getElem_mem h);exact⟨z,by rw[fQ h,hz]⟩
theorem zmM{f:A2.F}{xs cls:aC}{ld:V}(h:cls.length=256):nth (nq f xs cls ld) 261=some ld:=by
 rw[zg,show 261=5+256 from rfl,JH];simp only[nq,List.getElem?_cons_succ];rw[eM (by omega),h];rfl
theorem zmN{f:A2.F}{xs cls:aC}{ld v:V}(h:cls.length=256):(nq f xs cls ld).set 261 v=nq f xs cls v:=by
 rw[show 261=256+5 from rfl];simp only[nq,bU];rw[tW _ _ (by omega),h];rfl
theorem r78:mY prog 78 5 1 1:=⟨by kernel_rfl,by kernel_rfl,by kernel_rfl,by decide,by kernel_rfl,by kernel_rfl,by kernel_rfl⟩
theorem DW:qC prog 78=some false:=by kernel_rfl
theorem zcR{w:Nat->Nat}:∀y,(fP w y).2.2.length<=y/\(fP w y).1.length<=y
 | 0=>by simp[fP]
 | y+1=>by
  have:=zcR (w:=w) y;simp only[fP];split
  ·exact⟨La this.1,La this.2⟩
  ·simp only[aV,JC];omega
theorem ew{l:aC}:aW (.br l)=.br l:=rfl
theorem Sk:z8 prog 50=some 4:=by kernel_rfl
theorem aay:qP prog 50=some (.agg [.int .u64 0,.int .u64 0,.int .u64 0,.int .u64 0]):=by kernel_rfl
theorem ziD{y:Nat}(h:y<256):vB prog 3 5 (.int .i64 (y:Nat))=some (.int .u8 (y:Nat)):=by
 simp only[vB,u3',ZY,Option.bind_eq_bind,aU,QA h]
theorem zbX(hg:GS gl){n m:Nat}{f:A2.F}(oS:f.s.2.length<2 ^ 30)(hnf:f.f.2.length<2 ^ 30)(hnn:f.n.2.length<2 ^ 30)(Io:m=(f.s.2.length+f.f.2.length) / 8+1)(hln:f.n.2.length<n+1)(A0:f.s.2.length<n+1)(hn:300<=n)
  (hr:∀row∈f.n.2,row.2.length<n+1/\row.2.length<2 ^ 60/\∀z∈row.2,0<=z/\z.toNat<f.s.2.length+f.f.2.length) (hs:∀q∈f.s.2,ED q) {bs:List aT} {es:aN} :
  ∃ee iL,zk prog gl (n+1+1) 73 [A2.fv f] ⟨bs,es⟩=some (.ret (.ptr (bs.length+1) 0),⟨eS bs f (yQ m (bs.length+2) f.n.2.length) (xb (λy=>pK f.s.2 y f.s.2.length) 256) (uB (λy=>pK f.s.2 y f.s.2.length) 256) (yO m f.n.2++ee),iL⟩):=by
 suffices bK:(go ⟨prog,gl,zk prog gl (n+1),eC⟩ (n+1) (Fx prog f73.results.toList λw H1=>w=.ptr (bs.length+1) 0/\∃ee iL,H1=⟨eS bs f (yQ m (bs.length+2) f.n.2.length) (xb (λy=>pK f.s.2 y f.s.2.length) 256) (uB (λy=>pK f.s.2 y f.s.2.length) 256) (yO m f.n.2++ee),iL⟩) [.c (f73.body.getD .skip)] .normal ⟨[A2.fv f]++List.replicate 112 (.br []),⟨bs,[]⟩,[],[]⟩) by
  obtain⟨w,H1,h0,rfl,ee,iL,rfl⟩:=zJ (gl:=gl) (f:=73) (bs:=bs) (es:=es) (args:=[A2.fv f]) (n:=n+1) (hg.hk _ _ (by decide)) (λH=>hg.eV _ _ _ _ (by decide)) func73 rfl (by rw[hg.uq];exact bK)
  exact⟨ee,iL++es,by rw[h0,vZ (by simp only[V.top];omega)]⟩
 have J4:dD (A2.fv f)=true:=rfl;have G4:∀env t,qE env t (some (A2.fv f))=some (A2.fv f,env):=λ_ _=>rfl;have oc:V.laid (A2.fv f)=A2.fc f:=zmI f;have Az:aW (A2.fv f)=A2.fv f:=rfl;simp only[f73,ga,zh];refine zi ?_
 simp only[BA,aj,aq,zc,zd,bS,bU,List.replicate,G4,qc J4,oc];refine zi ?_;have OY:(⟨bs++[.cells (A2.fc f) 30],[]⟩:Hp).get bs.length=some (.cells (A2.fc f) 30):=by
  show nth _ _=_;rw[zg,eM (dB _)];simp
 have EI:zl prog ⟨bs++[.cells (A2.fc f) 30],[]⟩ gl.g 30 (.ptr bs.length 0)=some (A2.fv f):=by
  rw[jW,OY,jy,qu,Gw,Gx];simp[wV,A2.fv,A2.fc]
 have R_:∀env t,qE env t (some (.agg (nq f [] (List.replicate 256 (.int .i64 0)) .aG)))=some (.agg (nq f [] (List.replicate 256 (.int .i64 0)) .aG),env):=λ_ _=>rfl;have Ci:V.laid (.agg (nq f [] (List.replicate 256 (.int .i64 0)) .aG))=nq f [] (List.replicate 256 (.int .i64 0)) .aG:=zot;have Bn:dD (V.agg (nq f [] (List.replicate 256 (.int .i64 0)) .aG))=true:=rfl
 have Xj:aW (V.agg (nq f [] (List.replicate 256 (.int .i64 0)) .aG))=V.agg (nq f [] (List.replicate 256 (.int .i64 0)) .aG):=rfl;simp only[BA,ak,aq,zc,zd,ze,bS,bU,EI,Az,zos,R_,qc Bn,Ci]
 obtain⟨mg,Gz⟩:∃c:aC,c=List.replicate 256 (.int .i64 0):=⟨_,rfl⟩;rw[<- Gz];have aqr:mg.length=256:=by rw[Gz];simp
 have F6:bs++[aT.cells (A2.fc f) 30,.cells (nq f [] mg .aG) 204]=eS bs f [] mg .aG []:=rfl;rw[F6];have lS:∀xs cls ld rest e,zl prog ⟨eS bs f xs cls ld rest,e⟩ gl.g 26 (.ptr bs.length 0)=some (A2.qv f.s):=λ_ _ _ _ _=>zu nj Gy rfl
 have lF:∀xs cls ld rest e,zl prog ⟨eS bs f xs cls ld rest,e⟩ gl.g 28 (.ptr bs.length 2)=some (A2.rv f.f):=λ_ _ _ _ _=>zu oK Gy rfl;have lN:∀xs cls ld rest e,zl prog ⟨eS bs f xs cls ld rest,e⟩ gl.g 28 (.ptr bs.length 3)=some (A2.rv f.n):=λ_ _ _ _ _=>zu oK Gy rfl;refine zi ?_
 simp only[BA,ak,aq,ah,zd,ze,bS,bU,lS,lF,m5,AG,A2.eA,A2.bM,xK,RY,xq (show f.s.2.length+f.f.2.length<2 ^ 60 by omega)]
 refine zi ?_;simp only[BA,ak,aj,aq,ah,zd,ze,bS,bU,lN,Nl,A2.bM,RY];have nk:∀c,aW (cH m c)=cH m c:=λ_=>rfl;have fe:∀c env t,qE env t (some (cH m c))=some (cH m c,env):=λ_ _ _=>rfl
 refine qd (λk s=>∃i env e,k+i=f.n.2.length/\s=⟨env,⟨eS bs f (yQ m (bs.length+2) i) mg .aG (yO m (f.n.2.take i)),e⟩,[],[]⟩/\env.length=113/\nth env 1=some (.ptr bs.length 0)/\nth env 3=some (.ptr (bs.length+1) 0)/\nth env 4=some (.int .i64 ((f.s.2.length+f.f.2.length:Nat):Int))/\nth env 28=some (A2.rv f.n)/\nth env 29=some (.int .i64 (f.n.2.length:Nat))/\nth env 30=some (.int .i64 (i:Nat))) f.n.2.length hln ⟨0,_,_,rfl,rfl,rfl,rfl,rfl,rfl,rfl,rfl,rfl⟩ ?_
 rintro k s ⟨i,env,e,hki,rfl,hlen,h1,h3,h4,OZ,O0,Dc⟩;simp only[zh];refine zi ?_;simp only[BA,ak,aq,za,Nat.reduceLT,O0,Dc,hlen,qT]
 by_cases hi:i<f.n.2.length
 ·refine .inl ⟨by simp;omega,?_⟩
  obtain⟨row,bZ⟩:∃row,f.n.2[i]?=some row:=⟨_,fQ hi⟩;obtain⟨uf,Dq,hz⟩:=hr row (m8 bZ);refine zi ?_;simp only[BA,Nat.reduceEqDiff,ak,aq,aE,za,bG,Nat.reduceLT,bz,OZ,Dc,hlen,A2.bM,A2.bH,Vd bZ,Ve,zee];refine zi ?_
  have J3:(yO m (f.n.2.take i)).length=i:=by simp[yO];omega
  obtain⟨bi,IB⟩:∃x,x=bs.length+2+i:=⟨_,rfl⟩;have Ac:Cx.bD ⟨prog,gl.g,zk prog gl (n+1),eC⟩ 108 [.int .i64 ((f.s.2.length+f.f.2.length:Nat):Int)] ⟨eS bs f (yQ m (bs.length+2) i) mg .aG (yO m (f.n.2.take i)),e⟩=some (.val (cH m bi),⟨eS bs f (yQ m (bs.length+2) i) mg .aG (yO m (f.n.2.take i)++[.cells (dR m 0) 5]),e⟩):=by
   refine zq func108 rfl ?_;have:=xr hg (n:=n) (k:=f.s.2.length+f.f.2.length) (by omega) (bs:=eS bs f (yQ m (bs.length+2) i) mg .aG (yO m (f.n.2.take i))) (es:=e)
   rw[<- Io,pX,OW,J3,<- IB] at this;exact this
  simp only[BA,Nat.reduceEqDiff,az,ak,aq,aA,za,bG,Nat.reduceLT,bz,h4,hlen,Ac,fe];refine zi ?_
  simp only[BA,Nat.reduceEqDiff,ak,aj,aq,za,bG,Nat.reduceLT,bz,hlen,A2.bH,ziA]
  have ov:∀q (z:Int),0<=z->z.toNat<f.s.2.length+f.f.2.length->Cx.bD ⟨prog,gl.g,zk prog gl (n+1),eC⟩ 109 [cH m bi,.int .i64 z] ⟨eS bs f (yQ m (bs.length+2) i) mg .aG (yO m (f.n.2.take i)++[.cells (dR m q) 5]),e⟩=some (.val (.br []),⟨eS bs f (yQ m (bs.length+2) i) mg .aG (yO m (f.n.2.take i)++[.cells (dR m (q ||| 2 ^ z.toNat)) 5]),e⟩):=λq z h0 h1=>by
   refine zq func109 rfl ?_;rw[IB];have:=ZT hg (n:=n) (k:=z.toNat) (m:=m) (p:=q) (b:=bs.length+2+i) (by omega) (by omega) (bs:=eS bs f (yQ m (bs.length+2) i) mg .aG (yO m (f.n.2.take i)++[.cells (dR m q) 5])) (es:=e) (by rw[uY];exact(Vj (y:=.cells (dR m q) 5) J3).2)
   rw[show((z.toNat:Nat):Int)=z by omega,Vi,(Vj J3).1] at this
   exact this
  refine qd (λk2 s=>∃j env,k2+j=row.2.length/\s=⟨env,⟨eS bs f (yQ m (bs.length+2) i) mg .aG (yO m (f.n.2.take i)++[.cells (dR m (wW (row.2.take j) 0)) 5]),e⟩,[],[]⟩/\env.length=113/\nth env 1=some (.ptr bs.length 0)/\nth env 3=some (.ptr (bs.length+1) 0)/\nth env 4=some (.int .i64 ((f.s.2.length+f.f.2.length:Nat):Int))/\nth env 28=some (A2.rv f.n)/\nth env 29=some (.int .i64 (f.n.2.length:Nat))/\nth env 30=some (.int .i64 (i:Nat))/\nth env 7=some (cH m bi)/\nth env 36=some (A2.iv row)/\nth env 37=some (.int .i64 (row.2.length:Nat))/\nth env 38=some (.int .i64 (j:Nat))) row.2.length uf ?_ ?_
  ·refine⟨0,_,rfl,rfl,?_,?_,?_,?_,?_,?_,?_,?_,?_,?_,?_⟩<;>simp[za,hlen,h1,h3,h4,OZ,O0,Dc]
  rintro k2 s ⟨j,bI,hkj,rfl,cK,e1,e3,e4,O1,O2,GA,e7,Vl,Jm,Jn⟩;simp only[zh];refine zi ?_;simp only[BA,ak,aq,za,Nat.reduceLT,Jm,Jn,cK,qT]
  by_cases hj:j<row.2.length
  ·refine .inl ⟨by simp;omega,?_⟩
   obtain⟨z,Nj⟩:∃z,row.2[j]?=some z:=⟨_,fQ hj⟩;obtain⟨KF,ET⟩:=hz z (m8 Nj);have Nk:row.2.take (j+1)=row.2.take j++[z]:=by rw[List.take_add_one,Nj];rfl
   have gE:=λq=>ov q z KF ET;refine zi ?_;simp only[BA,Nat.reduceEqDiff,ak,aq,aE,za,bG,Nat.reduceLT,bz,Vl,Jn,cK,A2.bH,ziB Nj,zmG];refine zi ?_
   simp only[BA,Nat.reduceEqDiff,az,ak,aq,aA,za,bG,Nat.reduceLT,bz,e7,cK,nk,gE];refine zi ?_
   simp only[BA,Nat.reduceEqDiff,ak,aj,aq,za,bG,Nat.reduceLT,bz,Jn,cK,zQ (show j<2 ^ 60 by omega),zr,aO]
   rw[show wW (row.2.take j) 0 ||| 2 ^ z.toNat=wW (row.2.take (j+1)) 0 by rw[Nk,zd9]]
   refine⟨row.2.length - 1 - j,by omega,j+1,_,by omega,rfl,?_,?_,?_,?_,?_,?_,?_,?_,?_,?_,?_⟩
   all_goals simp[za,cK,e1,e3,e4,O1,O2,GA,e7,Vl,Jm]
  ·refine .inr ⟨by simp;omega,?_⟩
   obtain rfl:j=row.2.length:=by omega
   simp only[ql,zO,zG,zr,bJ,lu,aF]
   rw[Dh,show wW row.2 0=xu row from rfl,<- zkN bZ];obtain⟨xs,pG⟩:∃xs,xs=yQ m (bs.length+2) i:=⟨_,rfl⟩;obtain⟨rb,IA⟩:∃rb,rb=yO m (f.n.2.take (i+1)):=⟨_,rfl⟩;have Sl:xs.length=i:=by rw[pG];simp[yQ]
   rw[<- pG,<- IA];have hMl:bs.length+1<(eS bs f xs mg .aG rb).length:=by rw[OW];omega
   have m4:∀env,vA prog 201 env ⟨eS bs f xs mg .aG rb,e⟩ [] [] (some (.ptr (bs.length+1) 4))=some (.val (zm 1 205 xs),⟨env,⟨(eS bs f xs mg .aG rb).set (bs.length+1) (.cells ((nq f xs mg .aG).set 4 (oJ 1 xs)) 204),e⟩,kG (bs.length+1) 4 xs,[]⟩):=λenv=>Sg iA DU rfl;have l_:=Dd.Ck (v:=cH m bi) rfl rfl
   have fH:∀H,kf prog H 201 (zm 1 205 xs) (.sl 1 [cH m bi] .no)=some (zm 1 205 (xs++[cH m bi])):=λH=>jE Dd (by simp) (dJ (by simp[Sl];omega) (by simp[Sl];omega))
   have B8:∀env,qo prog 201 ⟨(eS bs f xs mg .aG rb).set (bs.length+1) (.cells ((nq f xs mg .aG).set 4 (oJ 1 xs)) 204),e⟩ (kG (bs.length+1) 4 xs) [] (some (zm 1 205 (xs++[cH m bi]),env)) (some (.ptr (bs.length+1) 4))=some (.skip,⟨env,⟨eS bs f (xs++[cH m bi]) mg .aG rb,vi e (bs.length+1) (zm 1 205 (xs++[cH m bi]))⟩,kG (bs.length+1) 4 xs,[]⟩):=λenv=>by
    rw[Vh Dd.st hMl (by simp[nq])]
    rw[show(nq f xs mg .aG).set 4 (zm 1 205 (xs++[cH m bi]))=nq f (xs++[cH m bi]) mg .aG from rfl,zed]
   refine wd (tk:=[50]) (by kernel_rfl) ?_
   simp only[BA,Nat.reduceEqDiff,ak,aq,aa,ah,za,bG,Nat.reduceLT,bz,e3,e7,cK,DN,nk,m4,l_,xR,fH,B8,jV (cx:=⟨prog,gl.g,zk prog gl (n+1),eC⟩) (show q_ prog eC 201=false by kernel_rfl)]
   have Du:xs++[cH m bi]=yQ m (bs.length+2) (i+1):=by rw[zkM,pG,IB]
   rw[Du,IA];refine zi ?_;simp only[BA,Nat.reduceEqDiff,ak,aj,aq,za,bG,Nat.reduceLT,bz,GA,cK,zQ (show i<2 ^ 60 by omega),zr,aO]
   refine⟨f.n.2.length - 1 - i,by omega,i+1,_,_,by omega,rfl,?_,?_,?_,?_,?_,?_,?_⟩
   all_goals simp[za,cK,e1,e3,e4,O1,O2]
 ·obtain rfl:i=f.n.2.length:=by omega
  refine .inr ⟨by simp,?_⟩
  simp only[ql,zO,zG,zr,bJ,zh,lu,aF]
  have IA:f.n.2.take f.n.2.length=f.n.2:=Dh;rw[IA];obtain⟨X,hX⟩:∃X,X=yQ m (bs.length+2) f.n.2.length:=⟨_,rfl⟩;obtain⟨R,hR⟩:∃R,R=yO m f.n.2:=⟨_,rfl⟩;obtain⟨mi,tU⟩:∃x,x=bs.length+2+R.length:=⟨_,rfl⟩;rw[<- hX,<- hR];obtain⟨w,hw⟩:∃w:Nat->Nat,w=λy=>pK f.s.2 y f.s.2.length:=⟨_,rfl⟩;have Vn:∀y,w y<2 ^ (8 * m):=λy=>by rw[hw];exact zmJ _ (by omega)
  have Sm:∀y,∀x∈(fP w y).1,x<2 ^ (8 * m):=by
   intro y
   induction y with
   | zero=>intro x hx;simp[fP] at hx
   | succ y ih =>
    intro x hx;simp only[fP] at hx;split at hx
    ·exact ih x hx
    ·rcases oM.1 hx with hx|hx
     ·exact ih x hx
     ·rw[mF.1 hx];exact Vn y
  refine zi ?_;have Sn:(eS bs f X mg .aG R).length=mi:=by rw[OW,tU]
  simp only[BA,Nat.reduceEqDiff,aq,zc,za,bG,Nat.reduceLT,bz,hlen,zea,Sn,pX,zcz];refine zi ?_
  simp only[BA,ak,aj,aq];have So:eS bs f X mg .aG (R++[.map []])=eS bs f X (xb w 0) (uB w 0) (R++(.map (vf m 0 (fP w 0).1)::[])):=by
   rw[Gz];rfl
  rw[So];have Nm:∀cls ld es j0 e,(⟨eS bs f X cls ld (R++(.map es::j0)),e⟩:Hp).get mi=some (.map es):=λcls ld es j0 e=>by
   show nth _ _=_;rw[tU,uY];exact(Si (y:=.map es) rfl).2
  refine qd (λk s=>∃y env e j0,k+y=256/\s=⟨env,⟨eS bs f X (xb w y) (uB w y) (R++(.map (vf m 0 (fP w y).1)::j0)),e⟩,[],[]⟩/\env.length=113/\nth env 1=some (.ptr bs.length 0)/\nth env 3=some (.ptr (bs.length+1) 0)/\nth env 4=some (.int .i64 ((f.s.2.length+f.f.2.length:Nat):Int))/\nth env 10=some (.map mi)/\nth env 58=some (.int .i64 (y:Nat))) 256 (by omega) ?_ ?_
  ·refine⟨0,_,_,[],rfl,rfl,?_,?_,?_,?_,?_,?_⟩<;>simp[za,hlen,h1,h3,h4]
  clear So h1 h3 h4 OZ O0 Dc hlen lN;rintro k s ⟨y,env,e,j0,hky,rfl,hlen,h1,h3,h4,DD,Sp⟩;simp only[zh];refine zi ?_;simp only[BA,ak,aj,aq,za,Nat.reduceLT,Sp,hlen,qT]
  by_cases hy:y<256
  ·refine .inl ⟨by simp;omega,?_⟩
   obtain⟨cls,GB⟩:∃c,c=xb w y:=⟨_,rfl⟩;obtain⟨ld,gp⟩:∃c,c=uB w y:=⟨_,rfl⟩;obtain⟨pre,gH⟩:∃p,p=R++(.map (vf m 0 (fP w y).1)::j0):=⟨_,rfl⟩;obtain⟨pc,PL⟩:∃x,x=bs.length+2+pre.length:=⟨_,rfl⟩;rw[<- GB,<- gp,<- gH];refine zi ?_
   simp only[BA,Nat.reduceEqDiff,ak,aq,za,bG,Nat.reduceLT,bz,Sp,hlen]
   have Ac:Cx.bD ⟨prog,gl.g,zk prog gl (n+1),eC⟩ 108 [.int .i64 ((f.s.2.length+f.f.2.length:Nat):Int)] ⟨eS bs f X cls ld pre,e⟩=some (.val (cH m pc),⟨eS bs f X cls ld (pre++(.cells (dR m 0) 5::[])),e⟩):=by
    refine zq func108 rfl ?_;have:=xr hg (n:=n) (k:=f.s.2.length+f.f.2.length) (by omega) (bs:=eS bs f X cls ld pre) (es:=e)
    rw[<- Io,pX,OW,<- PL] at this;exact this
   refine zi ?_;simp only[BA,Nat.reduceEqDiff,az,ak,aq,aA,za,bG,Nat.reduceLT,bz,h4,hlen,Ac,fe];refine zi ?_
   simp only[BA,Nat.reduceEqDiff,ak,aj,aq,ah,za,bG,Nat.reduceLT,bz,h1,hlen,lS,m5,A2.eA,xK]
   refine qd (λk2 s=>∃i env j1,k2+i=f.s.2.length/\s=⟨env,⟨eS bs f X cls ld (pre++(.cells (dR m (pK f.s.2 y i)) 5::j1)),e⟩,[],[]⟩/\env.length=113/\nth env 1=some (.ptr bs.length 0)/\nth env 3=some (.ptr (bs.length+1) 0)/\nth env 4=some (.int .i64 ((f.s.2.length+f.f.2.length:Nat):Int))/\nth env 10=some (.map mi)/\nth env 58=some (.int .i64 (y:Nat))/\nth env 11=some (.int .i64 (y:Nat))/\nth env 12=some (cH m pc)/\nth env 64=some (A2.qv f.s)/\nth env 65=some (.int .i64 (f.s.2.length:Nat))/\nth env 66=some (.int .i64 (i:Nat))) f.s.2.length A0 ?_ ?_
   ·refine⟨0,_,[],rfl,rfl,?_,?_,?_,?_,?_,?_,?_,?_,?_,?_,?_⟩<;>simp[za,hlen,h1,h3,h4,DD,Sp]
   rintro k2 s ⟨i,bI,j1,aqs,rfl,cK,e1,e3,e4,sG,uC,lp,oA,O3,O4,O5⟩;simp only[zh];refine zi ?_;simp only[BA,ak,aq,za,Nat.reduceLT,O4,O5,cK,qT]
   by_cases TM:i<f.s.2.length
   ·refine .inl ⟨by simp;omega,?_⟩
    obtain⟨q,hq⟩:∃q,f.s.2[i]?=some q:=⟨_,fQ TM⟩;have Z3:=hs q (m8 hq);obtain⟨rest,oG⟩:∃p,p=pre++(.cells (dR m (pK f.s.2 y i)) 5::j1):=⟨_,rfl⟩;obtain⟨ai,hai⟩:∃x,x=bs.length+2+rest.length:=⟨_,rfl⟩;rw[<- oG];have sM:(eS bs f X cls ld rest).length=ai:=by rw[OW,hai]
    have hgz:∀cs,(⟨eS bs f X cls ld (rest++[.cells cs 50]),e⟩:Hp).get ai=some (.cells cs 50):=λcs=>by
     show nth _ _=_;rw[hai,uY];exact(Vj (y:=.cells cs 50) rfl).2
    have uj:∀env t,qE env t (some (A2.qe q))=some (A2.qe q,env):=λ_ _=>rfl;have U4:aW (A2.qe q)=A2.qe q:=rfl;have hzc:V.cells (.agg [.int .u64 0,.int .u64 0,.int .u64 0,.int .u64 0])=[.int .u64 0,.int .u64 0,.int .u64 0,.int .u64 0]:=rfl
    have B8:∀env,qo prog 50 ⟨eS bs f X cls ld (rest++[.cells [.int .u64 0,.int .u64 0,.int .u64 0,.int .u64 0] 50]),e⟩ [] [] (some (A2.qe q,env)) (some (.ptr ai 0))=some (.skip,⟨env,⟨eS bs f X cls ld (rest++[.cells (A2.qe q).laid 50]),e⟩,[],[]⟩):=λenv=>by
     rw[zA Sk (hgz _) rfl rfl (by simp) rfl,jT (by simp[A2.qe,V.top,aI])]
     simp only[Hp.set];rw[hai,Vi,(Vj rfl).1];rfl
    refine zi ?_
    simp only[qx,aH,zh,zK,qw,qM,zV,z9,zU,Nat.reduceEqDiff,ak,zM,qr,zt,qg,aM,bx,aq,zS,qk,wY,aU,aS,aE,zc,aF,za,bG,Nat.reduceLT,aF,bz,O3,O5,cK,A2.eA,zmC hq,zo5,U4,uj,aay,zL (show dD (V.agg [.int .u64 0,.int .u64 0,.int .u64 0,.int .u64 0])=true from rfl),hzc,sM,pX,B8]
    have Sq:zl prog ⟨eS bs f X cls ld (rest++[.cells (A2.qe q).laid 50]),e⟩ gl.g 50 (.ptr ai 0)=some (A2.qe q):=by
     rw[jW,hgz,jy,qu,DM,Gr];rfl
    have M9:Cx.bD ⟨prog,gl.g,zk prog gl (n+1),eC⟩ 110 [A2.qe q,.int .u8 (y:Nat)] ⟨eS bs f X cls ld (rest++[.cells (A2.qe q).laid 50]),e⟩=some (.val (.bool (EE q y)),⟨eS bs f X cls ld (rest++[.cells (A2.qe q).laid 50]),e⟩):=zq func110 rfl (zjF hg Z3 hy);refine zi ?_
    simp only[BA,Nat.reduceEqDiff,az,ak,aq,aA,za,bG,Nat.reduceLT,bz,lp,cK,Sq,U4,vU (a:=3) (b:=5) (hm:=rfl),show eC (vg 3)=false from rfl,ziD hy,M9];obtain⟨Z,hZ⟩:∃Z,Z=aT.cells (A2.qe q).laid 50:=⟨_,rfl⟩
    have Tp:∀x,pre++(x::j1)++[Z]=pre++(x::(j1++[Z])):=λx=>by simp
    rw[<- hZ];cases hh:EE q y with
    | true =>
     have Sr:pK f.s.2 y (i+1)=pK f.s.2 y i ||| 2 ^ i:=by simp[pK,hq,hh]
     refine .inl ⟨by first|rfl|trivial,?_⟩
     have ov:Cx.bD ⟨prog,gl.g,zk prog gl (n+1),eC⟩ 109 [cH m pc,.int .i64 (i:Nat)] ⟨eS bs f X cls ld (rest++[Z]),e⟩=some (.val (.br []),⟨eS bs f X cls ld (pre++(.cells (dR m (pK f.s.2 y (i+1))) 5::(j1++[Z]))),e⟩):=by
      refine zq func109 rfl ?_;rw[oG,Tp,PL,Sr];have:=ZT hg (n:=n) (k:=i) (m:=m) (p:=pK f.s.2 y i) (b:=bs.length+2+pre.length) (by omega) (by omega) (bs:=eS bs f X cls ld (pre++(.cells (dR m (pK f.s.2 y i)) 5::(j1++[Z])))) (es:=e) (by rw[uY];exact(Si (y:=.cells (dR m 0) 5) rfl).2)
      rw[Vi,(Si rfl).1] at this;exact this
     refine zi ?_;simp only[BA,Nat.reduceEqDiff,az,ak,aq,aA,za,bG,Nat.reduceLT,bz,oA,cK,nk,ov];refine zi ?_
     simp only[BA,Nat.reduceEqDiff,ak,aj,aq,za,bG,Nat.reduceLT,bz,O5,cK,zQ (show i<2 ^ 60 by omega),zr,aO]
     refine⟨f.s.2.length - 1 - i,by omega,i+1,_,_,by omega,rfl,?_,?_,?_,?_,?_,?_,?_,?_,?_,?_,?_⟩
     all_goals simp[za,cK,e1,e3,e4,sG,uC,lp,oA,O3,O4]
    | false =>
     have Sr:pK f.s.2 y (i+1)=pK f.s.2 y i:=by simp[pK,hq,hh]
     refine .inr ⟨by first|rfl|trivial,?_⟩
     rw[oG,Tp,<- Sr];refine zi ?_;simp only[BA,Nat.reduceEqDiff,ak,aj,aq,za,bG,Nat.reduceLT,bz,O5,cK,zQ (show i<2 ^ 60 by omega),zr,aO]
     refine⟨f.s.2.length - 1 - i,by omega,i+1,_,_,by omega,rfl,?_,?_,?_,?_,?_,?_,?_,?_,?_,?_,?_⟩
     all_goals simp[za,cK,e1,e3,e4,sG,uC,lp,oA,O3,O4]
   ·obtain rfl:i=f.s.2.length:=by omega
    refine .inr ⟨by simp,?_⟩
    simp only[ql,zO,zG,zr,bJ,zh,lu,aF]
    have Sr:pK f.s.2 y f.s.2.length=w y:=by rw[hw]
    rw[Sr];have Tr:pre++(.cells (dR m (w y)) 5::j1)=R++(.map (vf m 0 (fP w y).1)::(j0++(.cells (dR m (w y)) 5::j1))):=by rw[gH];simp
    obtain⟨j2,Yw⟩:∃j,j=j0++(aT.cells (dR m (w y)) 5::j1):=⟨_,rfl⟩;rw[Tr,<- Yw];have gP:∀xs cls ld es e,(⟨eS bs f xs cls ld (R++(.map es::j2)),e⟩:Hp).get pc=some (.cells (dR m (w y)) 5):=λxs cls ld es e=>by
     show nth _ _=_;rw[PL,uY,gH,Yw];have:=(Si (rs:=R++(.map es::j0)) (js:=j1) (x:=.cells (dR m (w y)) 5) (y:=.cells (dR m (w y)) 5) (i:=(R++(.map (vf m 0 (fP w y).1)::j0)).length) (by simp)).2
     rw[<- this];simp
    have ri:=zec (Vn y) (Sm y) (Nm cls ld (vf m 0 (fP w y).1) j2 e);have gE:cls.length=256:=by rw[GB];exact Vk (by omega)
    refine zi ?_
    simp only[BA,Nat.reduceEqDiff,ak,aq,za,bG,Nat.reduceLT,bz,sG,oA,cK,nk,vx,v4 (cx:=⟨prog,gl.g,zk prog gl (n+1),eC⟩) (a:=205) (b:=9) (show eC (vg 205)=true from rfl) rfl,xL (gP X cls ld (vf m 0 (fP w y).1) e),ri,zcy,kY,ew,zd,ze]
    have Ss:∀Hx,(nq f X cls Hx).length=262:=λHx=>by simp[nq,gE]
    have KL:∀Hx iL e' env (c:Int),qo prog 3 ⟨eS bs f X cls Hx (R++(.map iL::j2)),e'⟩ [] [] (some (.int .i64 c,env)) (some (.ptr (bs.length+1) (5+y)))=some (.skip,⟨env,⟨eS bs f X (cls.set y (.int .i64 c)) Hx (R++(.map iL::j2)),e'⟩,[],[]⟩):=λHx iL e' env c=>by
     rw[zA uA (show Hp.get ⟨eS bs f X cls Hx (R++(.map iL::j2)),e'⟩ (bs.length+1)=_ from DU) rfl rfl (by rw[Ss];omega) (yq λk hk=>by
      obtain rfl:k=0:=by omega
      obtain⟨z,hz⟩:=zmL (w:=w) (y:=y) (i:=y) (by rw[Vk (by omega)];omega)
      exact⟨_,by rw[nC,zjQ (by rw[gE];omega),GB,hz],rfl⟩),jT (by simp[V.top])]
     simp only[V.laid,Vm.storeCells,Hp.set];rw[zou (by rw[gE];omega),zed]
    refine zi ?_;cases hx:ky (w y) 0 (fP w y).1 with
    | some ix =>
     have Dx:fP w (y+1)=((fP w y).1,(fP w y).2.1++[ix],(fP w y).2.2):=by simp only[fP,hx]
     simp only[BA,Nat.reduceEqDiff,ak,aq,za,bG,Nat.reduceLT,bz,cK,Option.isSome_some,ga,iI,mG];refine .inr ?_;refine zi ?_
     simp only[BA,Nat.reduceEqDiff,ak,aq,aa,ah,aE,za,bG,Nat.reduceLT,bz,e3,lp,cK,AF,ziC hy,KL];refine zi ?_
     simp only[BA,Nat.reduceEqDiff,ak,aj,aq,za,bG,Nat.reduceLT,bz,uC,cK,zQ (show y<2 ^ 60 by omega),zr,aO]
     rw[GB,zhI hy (by rw[Dx]),gp,show uB w y=uB w (y+1) by unfold uB;rw[Dx],show(fP w y).1=(fP w (y+1)).1 by rw[Dx]]
     refine⟨256 - 1 - y,by omega,y+1,_,_,_,by omega,rfl,?_,?_,?_,?_,?_,?_⟩
     all_goals simp[za,cK,e1,e3,e4,sG]
    | none =>
     have Dx:fP w (y+1)=((fP w y).1++[w y],(fP w y).2.1++[(fP w y).1.length],(fP w y).2.2++[y]):=by simp only[fP,hx]
     simp only[BA,Nat.reduceEqDiff,ak,aq,za,bG,Nat.reduceLT,bz,cK,Option.isSome_none,Option.getD_none,iI,oN];refine .inl ?_;obtain⟨Ib,Lt⟩:=zcR (w:=w) y
     have PW:qV prog ⟨eS bs f X cls ld (R++(.map (vf m 0 (fP w y).1)::j2)),e⟩ 207 (.map mi)=some (((fP w y).1.length:Nat):Int):=by
      rw[zjO (Nm cls ld (vf m 0 (fP w y).1) j2 e),zeb]
     refine zi ?_;simp only[BA,Nat.reduceEqDiff,ak,aq,za,bG,Nat.reduceLT,bz,sG,cK,vx,PW];refine zi ?_
     simp only[BA,Nat.reduceEqDiff,ak,aq,za,bG,Nat.reduceLT,bz,sG,oA,cK,vx,nk,v4 (cx:=⟨prog,gl.g,zk prog gl (n+1),eC⟩) (a:=205) (b:=9) (show eC (vg 205)=true from rfl) rfl,xL (gP X cls ld (vf m 0 (fP w y).1) e)]
     have Nn:=zgf (k:=0) (Vn y) (Sm y) hx;rw[nI] at Nn;rw[zbU (b:=mi) (kv:=.str (rF m (w y))) (xv:=.int .i64 ((fP w y).1.length:Nat)) (by simp[ak,za,cK,aW]) (by simp[ak,za,cK,aW]) (by simp[ak,za,cK,aW]) zmH (Nm cls ld (vf m 0 (fP w y).1) j2 e) Nn (by simp[V.top,aI])]
     have hHm:(⟨eS bs f X cls ld (R++(.map (vf m 0 (fP w y).1)::j2)),e⟩:Hp).set mi (.map (vf m 0 ((fP w y).1++[w y])))=⟨eS bs f X cls ld (R++(.map (vf m 0 ((fP w y).1++[w y]))::j2)),e⟩:=by
      simp only[Hp.set];rw[tU,Vi,(Si rfl).1]
     rw[hHm];simp only[bx,aq]
     obtain⟨DX,No⟩:∃l:aC,l=(fP w y).2.2.map λb=>.int .u8 (b:Nat):=⟨_,rfl⟩;have agR:DX.length<=256:=by rw[No];simp;omega
     have aaC:ld=zm 1 5 DX:=by rw[gp,No];rfl
     obtain⟨rr,N5⟩:∃rr,rr=R++(aT.map (vf m 0 ((fP w y).1++[w y]))::j2):=⟨_,rfl⟩;rw[<- N5];have hMl:bs.length+1<(eS bs f X cls ld rr).length:=by rw[OW];omega
     have m4:∀env,vA prog 78 env ⟨eS bs f X cls ld rr,e⟩ [] [] (some (.ptr (bs.length+1) 261))=some (.val (zm 1 5 DX),⟨env,⟨(eS bs f X cls ld rr).set (bs.length+1) (.cells ((nq f X cls ld).set 261 (oJ 1 DX)) 204),e⟩,kG (bs.length+1) 261 DX,[]⟩):=λenv=>Sg DW DU (by rw[zmM gE,aaC])
     have l_:=r78.Ck (v:=.int .u8 (y:Nat)) rfl rfl;have fH:∀H,kf prog H 78 (zm 1 5 DX) (.sl 1 [.int .u8 (y:Nat)] .no)=some (zm 1 5 (DX++[.int .u8 (y:Nat)])):=λH=>jE r78 (by simp) (dJ (by simp;omega) (by simp;omega))
     have B8:∀env,qo prog 78 ⟨(eS bs f X cls ld rr).set (bs.length+1) (.cells ((nq f X cls ld).set 261 (oJ 1 DX)) 204),e⟩ (kG (bs.length+1) 261 DX) [] (some (zm 1 5 (DX++[.int .u8 (y:Nat)]),env)) (some (.ptr (bs.length+1) 261))=some (.skip,⟨env,⟨eS bs f X cls (zm 1 5 (DX++[.int .u8 (y:Nat)])) rr,vi e (bs.length+1) (zm 1 5 (DX++[.int .u8 (y:Nat)]))⟩,kG (bs.length+1) 261 DX,[]⟩):=λenv=>by
      rw[Vh r78.st hMl (by rw[Ss];omega),zmN gE,zed]
     refine wd (tk:=[98]) (by kernel_rfl) ?_
     simp only[BA,Nat.reduceEqDiff,ak,aq,aa,ah,za,bG,Nat.reduceLT,bz,e3,lp,cK,DO,m4,l_,xR,fH,B8,vU (a:=3) (b:=5) (hm:=rfl),show eC (vg 3)=false from rfl,ziD hy,jV (cx:=⟨prog,gl.g,zk prog gl (n+1),eC⟩) (show q_ prog eC 78=false by kernel_rfl)]
     rw[N5];refine zi ?_;simp only[BA,Nat.reduceEqDiff,ak,aq,aa,ah,aE,za,bG,Nat.reduceLT,bz,e3,lp,cK,AF,ziC hy,KL];refine zi ?_
     simp only[BA,Nat.reduceEqDiff,ak,aj,aq,za,bG,Nat.reduceLT,bz,uC,cK,zQ (show y<2 ^ 60 by omega),zr,aO]
     have uf:zm 1 5 (DX++[.int .u8 (y:Nat)])=uB w (y+1):=by unfold uB;rw[Dx,No];simp
     rw[GB,zhI hy (by rw[Dx]),uf,show(fP w y).1++[w y]=(fP w (y+1)).1 by rw[Dx]]
     refine⟨256 - 1 - y,by omega,y+1,_,_,_,by omega,rfl,?_,?_,?_,?_,?_,?_⟩
     all_goals simp[za,cK,e1,e3,e4,sG]
  ·obtain rfl:y=256:=by omega
   refine .inr ⟨by simp,?_⟩
   simp only[ql,zO,zG,zr,bJ,zh,lu,aF]
   refine zi ?_;simp only[BA,Nat.reduceEqDiff,ak,aq,za,bG,Nat.reduceLT,bz,h3,hlen,go_ret,zr,Fx]
   first|refine⟨rfl,[.ptr (bs.length+1) 0],?_,rfl,?_⟩|refine⟨trivial,[.ptr (bs.length+1) 0],?_,rfl,?_⟩|refine⟨[.ptr (bs.length+1) 0],?_,rfl,?_⟩
   ·simp[zy,za,hlen]
   ·exact⟨_,_,by rw[<- hw]⟩
end
section
variable{gl:Gl}
theorem GC:qC prog 207=some false:=by kernel_rfl
theorem zkO(hg:GS gl){n a1 a2 a3 a4 a5 mp m w c i:Nat}{ws:bL}{t1:aB}(hw:w<2 ^ (8 * m))(DG:∀x∈ws,x<2 ^ (8 * m)){B:List aT}{es:aN}(h1:nth B a1=some (.cells [.map mp] t1))(hm:nth B mp=some (.map (vf m 0 ws)))(hc:nth B c=some (.cells (dR m w) 5))(hx:ky w 0 ws=some i) :
  zk prog gl (n+1) 111 [cH m c,.ptr a1 0,.ptr a2 0,.ptr a3 0,.ptr a4 0,.ptr a5 0] ⟨B,es⟩=some (.ret (.int .i64 (i:Nat)),⟨B,es⟩):=by
 suffices bK:(go ⟨prog,gl,zk prog gl n,eC⟩ n (Fx prog f111.results.toList λw H1=>w=.int .i64 (i:Nat)/\H1=⟨B,[]⟩) [.c (f111.body.getD .skip)] .normal ⟨[cH m c,.ptr a1 0,.ptr a2 0,.ptr a3 0,.ptr a4 0,.ptr a5 0]++List.replicate 43 (.br []),⟨B,[]⟩,[],[]⟩) by
  obtain⟨w,H1,h0,rfl,rfl⟩:=zJ (gl:=gl) (f:=111) (bs:=B) (es:=es) (args:=[cH m c,.ptr a1 0,.ptr a2 0,.ptr a3 0,.ptr a4 0,.ptr a5 0]) (n:=n) (hg.hk _ _ (by decide)) (λH=>hg.eV _ _ _ _ (by decide)) func111 rfl (by rw[hg.uq];exact bK)
  rw[h0];have:=zW (bs:=B) (ls:=[]) (es:=es) (t:=0) (dU _);rw[mT] at this;exact congrArg (λx=>some (Out.ret _,x)) this
 have l1:zl prog ⟨B,[]⟩ gl.g 207 (.ptr a1 0)=some (.map mp):=zu GC h1 rfl;have lf:=xL (H:=⟨B,[]⟩) (m:=m) (w:=w) (c:=c) hc;have ri:=zec (H:=⟨B,[]⟩) (d:=mp) hw DG hm;rw[hx] at ri;have nk:∀c,aW (cH m c)=cH m c:=λ_=>rfl;simp only[f111,ga,zh];refine zi ?_
 simp only[BA,aj,aq,bS,bU,List.replicate];refine zi ?_
 simp only[BA,ak,aq,zd,ze,bS,bU,l1,vx,nk,v4 (cx:=⟨prog,gl.g,zk prog gl n,eC⟩) (a:=205) (b:=9) (show eC (vg 205)=true from rfl) rfl,lf,zcy,ri,kY,ew,ga,Option.isSome_some];refine zi ?_
 simp only[BA,ak,aq,zd,ze,bS,bU,iI,mG];refine .inr ?_
 try simp only[bB]
 refine zi ?_;simp only[BA,ak,aq,zd,ze,bS,bU,go_ret,zr,Fx]
 refine⟨[.int .i64 (i:Nat)],?_,rfl,trivial⟩;simp only[zy,zd,ze]
end
section
variable{gl:Gl}
theorem i_{cx:Cx}{takes:cg}{o:Oper}{env:aC}{v:V}{c:eD}{s:St}(h:cx.op takes o env c.H c.lk c.df=some (.val v,s)):cx.fu takes o env v c=true:=by
 simp only[Cx.fu,Cx.ej,h,V.dx]
theorem O6{a b:Bool}(h:b=true):(a || b)=true:=by rw[h,Bool.or_true]
theorem zmO{P:aQ}{t:aB}{x y:aX}{b:Nat}(h:8 * b<2 ^ 60)(h1:0<b):qO P .sub t x y (some (.int .i64 ((8 * b:Nat):Int))) (some (.int .i64 8))=some (.int .i64 ((8 * b - 8:Nat):Int)):=XP (a:=8 * b) (b:=8) h (by omega)
theorem mC{cx:Cx}{n:Nat}{Q:Ex->St->Prop}{k:List It}{BR:aC}{B0:List aT}{e0:aN}{G9:aN}{P:aC->List aT->Prop}(h:∀env B lk,P env B->go cx n Q k .normal ⟨env,⟨B,e0⟩,lk,[]⟩)(h0:P BR B0):go cx n Q k .normal ⟨BR,⟨B0,e0⟩,G9,[]⟩:=h _ _ _ h0
def m6(z:Bool)(n e:Nat)(xs:aC):V:=match z with|true=>.sl n xs (.yes e)|false=>zm n e xs
def Hy(z:Bool)(n:Nat)(xs:aC):V:=match z with|true=>.sl n xs .lock|false=>oJ n xs
def E2(z:Bool)(b off:Nat)(xs:aC):aN:=match z with|true=>[(b,off)]|false=>kG b off xs
section
variable{P:aQ}{t n:aB}{B:List aT}{off bm:Nat}{cs:aC}{ty e:aB}{xs ys:aC}{env:aC}{df:bP}{es:aN}{z:Bool}{v:V}
theorem zqU(ha:qC P t=some false)(hb:nth B bm=some (.cells cs ty))(hn:nth cs off=some (m6 z n e xs)) :
  vA P t env ⟨B,es⟩ [] df (some (.ptr bm off))=some (.val (m6 z n e xs),⟨env,⟨B.set bm (.cells (cs.set off (Hy z n xs)) ty),es⟩,E2 z bm off xs,df⟩):=by
 cases z with
 | false=>exact Sg ha hb hn
 | true =>
  simp only[m6] at hn;simp only[vA,ha,show Hp.get ⟨B,es⟩ bm=_ from hb,hn,m6,Hy,E2];rfl
theorem zqV(hs:z8 P t=some 1)(bR:bm<B.length)(ho:off<cs.length)(h1:dD v=true)(h2:v.laid=[v]) :
  qo P t ⟨B.set bm (.cells (cs.set off (Hy z n xs)) ty),es⟩ (E2 z bm off xs) df (some (v,env)) (some (.ptr bm off))=some (.skip,⟨env,⟨B.set bm (.cells (cs.set off v) ty),vi es bm v⟩,E2 z bm off xs,df⟩):=by
 have hm:wz (E2 z bm off xs) bm off 1 ((cs.set off (Hy z n xs)).drop off)=true:=by
  cases z with
  | false=>exact Qw ho
  | true =>
   have h3:(cs.set off (V.sl n xs .lock)).drop off=.sl n xs .lock::cs.drop (off+1):=by
    rw[E7 (by rw[bG];exact ho)]
    simp[List.drop_set]
   simp only[Hy,E2,h3];simp[wz,locked]
 rw[zA hs (show Hp.get ⟨_,es⟩ bm=some (.cells (cs.set off (Hy z n xs)) ty) by show nth _ _=_;simp[zg,bR]) h1 (by rw[h2];rfl) (by rw[bG];omega) hm]
 simp only[Hp.set,List.set_set,h2,Vm.storeCells,gK]
theorem zrp{Cm:Nat}(h:mY P t e n Cm)(hy:ys≠[])(hr:kA (xs.length+ys.length) Cm=true){H:Hp}:kf P H t (m6 z n e xs) (.sl n ys .no)=some (zm n e (xs++ys)):=by
 cases z with
 | false=>exact jE h hy hr
 | true =>
  cases xs with
  | cons x xs=>exact jE (xs:=x::xs) h hy hr
  | nil =>
   have hi:=h.i;cases Ag:P.info? e with
   | none=>rw[Ag] at hi;cases hi
   | some ti =>
    rw[Ag] at hi;simp only[aU] at hi;cases hz:ti.zero with
    | none=>rw[hz] at hi;cases hi
    | some z =>
     rw[hz] at hi;simp only[aS,bu,cw] at hi;have Bj:Nat.beq n 0=false:=by
      have:=h.n0.1;cases n with
      | zero=>exact absurd rfl this
      | succ n=>rfl
     obtain⟨y,ys,rfl⟩:∃y l,ys=y::l:=by
      cases ys with
      | nil=>exact absurd rfl hy
      | cons y l=>exact⟨y,l,rfl⟩
     simp only[m6,kf,h.u,h.s,Ag,hz,hi.1,kU,Option.bind_eq_bind,aU,lu,mG,f_,bz,aF];simp only[zm,bg];rw[hi.2,Bj];simp only[List.length_nil,nI,aZ] at hr;simp[hr]
def zrq(env:aC)(t:Nat)(v:V):Option (V×aC):=qE env t (some v)
open Classical in
theorem ze5{t:Nat}:qE env t (some (m6 z n e xs))=if nth env t=some (m6 z n e xs) then some (m6 z n e xs,env.set t (aW (m6 z n e xs))) else zrq env t (m6 z n e xs):=by
 split
 ·rename_i h;cases z with
  | false=>rw[<- h,<- zM];exact vW h
  | true=>rfl
 ·rfl
theorem tf:aW (aW (m6 z n e xs))=aW (m6 z n e xs):=by cases z<;>cases xs<;>rfl
theorem zmP{x:V}:m6 z n e (x::xs)=zm n e (x::xs):=by cases z<;>rfl
theorem zov{x:V}:m6 z n e (xs++[x])=zm n e (xs++[x]):=by cases z<;>cases xs<;>rfl
theorem zef{H:Hp}(hu:P.underlying t=some (.slice e)):qV P H t (aW (m6 z n e xs))=some ((xs.length:Nat):Int):=by
 cases z with
 | false=>exact Uo hu
 | true=>simp[m6,aW,qV,hu]
end
theorem ziE{cx:Cx}{takes:cg}{rs:List Rec}{r1 R:Rec}{c0 c1 nF d c2 e:eD}{k:List eD->Option (Ex×St)}(j:Nat)(_hj:rs[j]?=some r1)(e1:c1=nF)(hp:R.hp=true)(ho:∀q∈rs,q=r1\/(q.hp=false/\(q.free=true\/bit R.m q.idx=true)))(h1:r1.hp=true)
  (hs:vO (Nat.land R.m (eP rs)) d.D=true) (hr:cx.ej takes R.o R.env d (Nat.lor d.D (Nat.pow 2 R.idx))=some (R.v,c2)) (Me:bit nF.D r1.idx=true) (oq:bit c2.D r1.idx=false)
  (hq:cx.ej takes r1.o r1.env c2 0=some (r1.v,e)) (hf:ye (Nat.lor c2.D (Nat.pow 2 r1.idx)) [nF,c2,c0,d]=some nF) (he:yd e nF=true) :
  cx.fS takes rs R c0 c1 [d] k=k [nF,c2,c0,d]:=zim e1 hp ho h1 hs hr Me oq hq hf he
theorem vy{n e:Nat}{xs:aC}:(zm n e xs).top=aI xs:=by
 cases xs<;>rfl
theorem Np:mY prog 27 3 1 8:=⟨by kernel_rfl,by kernel_rfl,by kernel_rfl,by decide,by kernel_rfl,by kernel_rfl,by kernel_rfl⟩
theorem GD:zD prog 66 1=some 1:=by kernel_rfl
def Nq(B:List aT)(_a1 a2 a3 a4 mp m c w:Nat)(sum:Int)(ws:bL)(wait:aC)(aK:V)(dh:aC)(lab:Int)(t2 t3 t4:aB):List aT :=
 ((((B.set mp (.map (vf m 0 (ws++[w])))).set a2 (.cells [.int .i64 (if w=0 then sum else sum+1)] t2)).set a3 (.cells [zm 1 205 (wait++[cH m c])] t3)).set a4 (.cells [aK,zm 1 3 (dh++[.int .i64 lab])] t4))
theorem zmQ{B ls:List aT}{es rI:aN}(he:∀e∈rI,e.2<=B.length):∃iL,zX B.length es 0 ⟨B++ls,rI⟩=⟨B,iL⟩:=by
 unfold zX;have h1:(Nat.ble 0 B.length && rI.all λe=>Nat.ble B.length e.1 || Nat.ble e.2 B.length)=true:=by
  rw[ei];exact⟨K8 (dU _),Cy.2 λe h=>by rw[tX];exact .inr (K8 (he e h))⟩
 rw[if_pos h1,List.take_left];exact⟨_,rfl⟩
theorem zkP(hg:GS gl){z:Bool}{n a1 a2 a3 a4 a5 bm mp m w c:Nat}{sum:Int}{ws:bL}{wait:aC}{aK:V}{dh:aC}{mc:aC}{t1 t2 t3 t4 t5 tM:aB}{f:A2.F}(hn:m+400<=n)(tR:wait.length<2 ^ 40)(Z7:dh.length<2 ^ 40)(Dw:0<m)(AV:m<2 ^ 36)(hw:w<2 ^ (8 * m))(DG:∀x∈ws,x<2 ^ (8 * m))(aqE:-1<=sum/\sum<2 ^ 40)(oS:f.s.2.length<2 ^ 40)(aaE:aI dh=0){B:List aT}{es:aN}
  (h1:nth B a1=some (.cells [.map mp] t1)) (h2:nth B a2=some (.cells [.int .i64 sum] t2)) (h3:nth B a3=some (.cells [m6 z 1 205 wait] t3)) (h4:nth B a4=some (.cells [aK,zm 1 3 dh] t4)) (h5:nth B a5=some (.cells [.ptr bm 0] t5)) (hM:nth B bm=some (.cells mc tM)) (DP:nth mc 0=some (A2.qv f.s))
  (hm:nth B mp=some (.map (vf m 0 ws))) (hc:nth B c=some (.cells (dR m w) 5)) (sy:[a1,a2,a3,a4,a5,bm,mp,c].Nodup) (hx:ky w 0 ws=none) (Nr:aI wait<=B.length) :
  ∃iL,zk prog gl (n+1) 111 [cH m c,.ptr a1 0,.ptr a2 0,.ptr a3 0,.ptr a4 0,.ptr a5 0] ⟨B,es⟩=some (.ret (.int .i64 (ws.length:Nat)),⟨Nq B a1 a2 a3 a4 mp m c w sum ws wait aK dh (wm f.s.2.length (wl m w) (-1)) t2 t3 t4,iL⟩):=by
 suffices bK:(go ⟨prog,gl,zk prog gl n,eC⟩ n (Fx prog f111.results.toList λx H1=>x=.int .i64 (ws.length:Nat)/\∃rI,H1=⟨Nq B a1 a2 a3 a4 mp m c w sum ws wait aK dh (wm f.s.2.length (wl m w) (-1)) t2 t3 t4++[.cells (dR m 0) 5],rI⟩/\∀e∈rI,e.2<=B.length) [.c (f111.body.getD .skip)] .normal ⟨[cH m c,.ptr a1 0,.ptr a2 0,.ptr a3 0,.ptr a4 0,.ptr a5 0]++List.replicate 43 (.br []),⟨B,[]⟩,[],[]⟩) by
  obtain⟨x,H1,h0,rfl,rI,rfl,AR⟩:=zJ (gl:=gl) (f:=111) (bs:=B) (es:=es) (args:=[cH m c,.ptr a1 0,.ptr a2 0,.ptr a3 0,.ptr a4 0,.ptr a5 0]) (n:=n) (hg.hk _ _ (by decide)) (λH=>hg.eV _ _ _ _ (by decide)) func111 rfl (by rw[hg.uq];exact bK)
  have oc:(Nq B a1 a2 a3 a4 mp m c w sum ws wait aK dh (wm f.s.2.length (wl m w) (-1)) t2 t3 t4).length=B.length:=by simp[Nq]
  obtain⟨iL,he⟩:=zmQ (B:=Nq B a1 a2 a3 a4 mp m c w sum ws wait aK dh (wm f.s.2.length (wl m w) (-1)) t2 t3 t4) (ls:=[.cells (dR m 0) 5]) (es:=es) (rI:=rI) (by rw[oc];exact AR)
  rw[oc] at he;exact⟨iL,by rw[h0,show(V.int .i64 (ws.length:Nat)).top=0 from rfl,he]⟩
 have l1:zl prog ⟨B,[]⟩ gl.g 207 (.ptr a1 0)=some (.map mp):=zu GC h1 rfl;have lf:=xL (H:=⟨B,[]⟩) (m:=m) (w:=w) (c:=c) hc;have ri:=zec (H:=⟨B,[]⟩) (d:=mp) hw DG hm;rw[hx] at ri;have nk:∀c,aW (cH m c)=cH m c:=λ_=>rfl;have PW:qV prog ⟨B,[]⟩ 207 (.map mp)=some ((ws.length:Nat):Int):=by
  rw[zjO (H:=⟨B,[]⟩) (d:=mp) hm,zeb]
 have aqF:mp<B.length:=by rw[zg] at hm;exact(cP.1 hm).1
 have gE:c<B.length:=by rw[zg] at hc;exact(cP.1 hc).1
 have pH:mp≠c:=by
  simp only[List.nodup_cons,dN,not_or] at sy;exact sy.2.2.2.2.2.2.1.1
 simp only[f111,ga,zh];refine zi ?_;simp only[BA,aj,aq,bS,bU,List.replicate];refine zi ?_
 simp only[BA,ak,aq,zd,ze,bS,bU,l1,vx,nk,v4 (cx:=⟨prog,gl.g,zk prog gl n,eC⟩) (a:=205) (b:=9) (show eC (vg 205)=true from rfl) rfl,lf,zcy,ri,kY,ew,Option.getD_none,Option.isSome_none];refine zi ?_
 simp only[BA,ak,aq,zd,ze,bS,bU,iI,oN];refine .inl ?_;refine zi ?_
 simp only[BA,ak,aq,zd,ze,bS,bU,l1,vx,PW];refine zi ?_
 simp only[BA,ak,aq,zd,ze,bS,bU,l1,vx,nk,v4 (cx:=⟨prog,gl.g,zk prog gl n,eC⟩) (a:=205) (b:=9) (show eC (vg 205)=true from rfl) rfl,lf];have Nn:=zgf (k:=0) hw DG hx;rw[nI] at Nn
 rw[zbU (b:=mp) (kv:=.str (rF m w)) (xv:=.int .i64 (ws.length:Nat)) rfl rfl rfl zmH (show Hp.get ⟨B,[]⟩ mp=_ from hm) Nn (by simp[V.top,aI])]
 obtain⟨B1,A3⟩:∃B1,B1=B.set mp (.map (vf m 0 (ws++[w]))):=⟨_,rfl⟩;have RE:Hp.set ⟨B,[]⟩ mp (.map (vf m 0 (ws++[w])))=⟨B1,[]⟩:=by rw[A3];rfl
 rw[RE];simp only[bx,aq]
 have nE:nth B1 c=some (.cells (dR m w) 5):=by rw[A3,zg,su pH,<- zg,hc]
 obtain⟨B2,Hl⟩:∃B2,B2=B1++[aT.cells (dR m 0) 5]:=⟨_,rfl⟩;have aaF:c<B1.length:=by rw[zg] at nE;exact(cP.1 nE).1
 have sx:nth B2 c=some (.cells (dR m w) 5):=by rw[Hl,zg,fI aaF,<- zg,nE]
 have G_:nth B2 B1.length=some (.cells (dR m 0) 5):=by rw[Hl,zg,eM (dB _)];simp
 have Fi:=xL (H:=⟨B1,[]⟩) nE;have GU:=xL (H:=⟨B2,[]⟩) sx;have hvz:=xL (H:=⟨B2,[]⟩) G_;obtain⟨n',rfl⟩:∃n',n=n'+1:=⟨n - 1,by omega⟩
 have Ac:Cx.bD ⟨prog,gl.g,zk prog gl (n'+1),eC⟩ 108 [.int .i64 ((8 * m - 8:Nat):Int)] ⟨B1,[]⟩=some (.val (cH m B1.length),⟨B2,[]⟩):=by
  refine zq func108 rfl ?_;have:=xr hg (n:=n') (k:=8 * m - 8) (by omega) (bs:=B1) (es:=[])
  rw[show(8 * m - 8) / 8+1=m by omega,<- Hl] at this
  exact this
 refine wH (tk:=[]) (by kernel_rfl) ?_
 apply Exists.intro;apply And.intro;refine qy (m:=0) (v:=cH m c) (by kernel_rfl) rfl (by simp only[BA,ak,zd,nk];rfl) (by kernel_rfl) (by kernel_rfl) (by kernel_rfl) ?_
 dsimp only[aq]
 refine kn (m:=1) (v:=.str (rF m w)) (by kernel_rfl) rfl (by simp only[BA,ak,zd,ze,bS,bU,nk,v4 (cx:=⟨prog,gl.g,zk prog gl (n'+1),eC⟩) (a:=205) (b:=9) (show eC (vg 205)=true from rfl) rfl,Fi];rfl) (by kernel_rfl) (by kernel_rfl) (by kernel_rfl) (by kernel_rfl) ?_
 dsimp only[aq]
 refine qy (m:=0) (v:=cH m c) (by kernel_rfl) rfl (by simp only[BA,ak,zd,bS,bU,nk];rfl) (by kernel_rfl) (by kernel_rfl) (by kernel_rfl) ?_
 dsimp only[aq]
 refine kn (m:=4) (v:=.int .i64 (m:Nat)) (by kernel_rfl) rfl (by simp only[BA,ak,zd,ze,bS,bU,cH];rfl) (by kernel_rfl) (by kernel_rfl) (by kernel_rfl) (by kernel_rfl) ?_
 dsimp only[aq]
 refine qy (m:=12) (v:=.int .i64 ((8 * m:Nat):Int)) (by kernel_rfl) rfl (by simp only[BA,ak,aj,zd,ze,bS,bU,ze3 (show 8 * m<2 ^ 60 by omega)];rfl) (by kernel_rfl) (by kernel_rfl) (by kernel_rfl) ?_
 dsimp only[aq]
 refine qy (m:=28) (v:=.int .i64 ((8 * m - 8:Nat):Int)) (by kernel_rfl) rfl (by simp only[BA,ak,aj,zd,ze,bS,bU,zmO (show 8 * m<2 ^ 60 by omega) Dw];rfl) (by kernel_rfl) (by kernel_rfl) (by kernel_rfl) ?_
 dsimp only[aq]
 refine yp (m:=60) (v:=cH m B1.length) (cs':=[⟨64,⟨B2,[]⟩,[],[]⟩,⟨0,⟨B1,[]⟩,[],[]⟩]) (by kernel_rfl) rfl (by simp only[BA,az,ak,aA,zd,ze,bS,bU,Ac];rfl) (by kernel_rfl) (by kernel_rfl) (by kernel_rfl) (λK=>?_) ?_
 rotate_left
 dsimp only[aq]
 refine kn (m:=124) (v:=.str (rF m 0)) (by kernel_rfl) rfl (by simp only[BA,ak,zd,ze,bS,bU,nk,v4 (cx:=⟨prog,gl.g,zk prog gl (n'+1),eC⟩) (a:=205) (b:=9) (show eC (vg 205)=true from rfl) rfl,hvz];rfl) (by kernel_rfl) (by kernel_rfl) (by kernel_rfl) (by kernel_rfl) ?_
 dsimp only[aq]
 refine qy (m:=255) (v:=.bool (!(om (rF m w) (rF m 0)))) (by kernel_rfl) rfl (by simp only[BA,ak,zd,ze,bS,bU,zlD];rfl) (by kernel_rfl) (by kernel_rfl) (by kernel_rfl) wI
 ·have heq:om (rF m w) (rF m 0)=(w == 0):=zjl hw (Nat.pow_pos (by decide))
  have bR:∀d x,nth B d=some x->d≠mp->nth B2 d=some x:=λd x hd b_=>by
   have tL:d<B.length:=by rw[zg] at hd;exact(cP.1 hd).1
   rw[Hl,zg,fI (by rw[A3,bG];exact tL),A3,su (Ne.symm b_),<- zg,hd]
  simp only[List.nodup_cons,dN,Cc,Bc,not_or,List.nodup_nil,Ce,uI] at sy;obtain⟨⟨d12,d13,d14,d15,d1b,d1m,d1c⟩,⟨d23,d24,d25,d2b,d2m,d2c⟩,⟨d34,d35,d3b,d3m,d3c⟩,⟨d45,d4b,d4m,d4c⟩,⟨d5b,d5m,d5c⟩,⟨dbm,dbc⟩,dmc⟩:=sy;have g2:=bR a2 _ h2 d2m;have g3:=bR a3 _ h3 d3m;have g4:=bR a4 _ h4 d4m;have g5:=bR a5 _ h5 d5m;have gM:=bR bm _ hM dbm
  have l2:zl prog ⟨B2,[]⟩ gl.g 3 (.ptr a2 0)=some (.int .i64 sum):=zu k_ g2 rfl;have Bm:IntKind.i64.wrap (sum+1)=sum+1:=kw (by omega) (by omega)
  have C1:∀env,qo prog 3 ⟨B2,[]⟩ [] [] (some (.int .i64 (sum+1),env)) (some (.ptr a2 0))=some (.skip,⟨env,⟨B2.set a2 (.cells [.int .i64 (sum+1)] t2),[]⟩,[],[]⟩):=λenv=>by
   rw[zA uA (show Hp.get ⟨B2,[]⟩ a2=_ from g2) rfl rfl (by simp) rfl,jT (by simp[V.top])]
   rfl
  simp only[BA,ak,aq,zd,ze,bS,bU,heq]
  let PP:aC->List aT->Prop:=λenv B3=>env.length=49/\nth env 0=some (cH m c)/\nth env 3=some (.ptr a3 0)/\nth env 4=some (.ptr a4 0)/\nth env 5=some (.ptr a5 0)/\nth env 8=some (.int .i64 (ws.length:Nat)) /\
   B3.length=B2.length/\nth B3 a3=some (.cells [m6 z 1 205 wait] t3)/\nth B3 a4=some (.cells [aK,zm 1 3 dh] t4)/\nth B3 a5=some (.cells [.ptr bm 0] t5)/\nth B3 bm=some (.cells mc tM)/\nth B3 c=some (.cells (dR m w) 5)/\B3=B2.set a2 (.cells [.int .i64 (if w=0 then sum else sum+1)] t2)
  have KH:∀x d y,nth B2 d=some y->d≠a2->nth (B2.set a2 x) d=some y:=λx d y h1 h2=>by
   rw[zg,su (Ne.symm h2),<- zg,h1]
  have aaG:(w=0\/w≠0):=Decidable.em _;rcases aaG with AU|AU
  rotate_left
  refine .inl ⟨by simp[AU],?_⟩
  refine zi ?_;simp only[BA,ak,aj,aq,zd,ze,bS,bU,l2,jO,Bm,C1]
  refine mC (P:=PP) ?_ ⟨rfl,rfl,rfl,rfl,rfl,rfl,by simp,KH _ _ _ g3 (Ne.symm d23),KH _ _ _ g4 (Ne.symm d24),KH _ _ _ g5 (Ne.symm d25),KH _ _ _ gM (Ne.symm d2b),KH _ _ _ sx (Ne.symm d2c),by rw[if_neg AU]⟩
  rotate_left
  refine .inr ⟨by simp[AU],?_⟩
  refine mC (P:=PP) ?_ ⟨rfl,rfl,rfl,rfl,rfl,rfl,rfl,g3,g4,g5,gM,sx,by rw[if_pos AU];exact(jY g2).symm⟩
  all_goals
   rintro env B3 lk ⟨hlen,e0,e3,e4,e5,e8,Mv,k3,k4,k5,kM,kc,DA⟩;have ha3:a3<B3.length:=by rw[zg] at k3;exact(cP.1 k3).1
   have m4:∀env,vA prog 201 env ⟨B3,[]⟩ [] [] (some (.ptr a3 0))=some (.val (m6 z 1 205 wait),⟨env,⟨B3.set a3 (.cells ([m6 z 1 205 wait].set 0 (Hy z 1 wait)) t3),[]⟩,E2 z a3 0 wait,[]⟩):=λenv=>zqU iA k3 rfl;have l_:=Dd.Ck (v:=cH m c) rfl rfl
   have fH:∀H,kf prog H 201 (m6 z 1 205 wait) (.sl 1 [cH m c] .no)=some (zm 1 205 (wait++[cH m c])):=λH=>zrp Dd (by simp) (dJ (by simp;omega) (by simp;omega))
   have B8:∀env,qo prog 201 ⟨B3.set a3 (.cells ([m6 z 1 205 wait].set 0 (Hy z 1 wait)) t3),[]⟩ (E2 z a3 0 wait) [] (some (zm 1 205 (wait++[cH m c]),env)) (some (.ptr a3 0))=some (.skip,⟨env,⟨B3.set a3 (.cells [zm 1 205 (wait++[cH m c])] t3),vi [] a3 (zm 1 205 (wait++[cH m c]))⟩,E2 z a3 0 wait,[]⟩):=λenv=>zqV Dd.st ha3 (by simp) Qx (by rw[vt])
   try simp only[zh]
   refine wd (tk:=[36]) (by kernel_rfl) ?_
   simp only[BA,Nat.reduceEqDiff,ak,aq,za,bG,Nat.reduceLT,bz,e0,e3,hlen,nk,ze5,m4,l_,xR,fH,B8,jV (cx:=⟨prog,gl.g,zk prog gl (n'+1),eC⟩) (show q_ prog eC 201=false by kernel_rfl)]
   obtain⟨B4,Ke⟩:∃B4,B4=B3.set a3 (.cells [zm 1 205 (wait++[cH m c])] t3):=⟨_,rfl⟩;obtain⟨e1,he1⟩:∃e1,e1=vi [] a3 (zm 1 205 (wait++[cH m c])):=⟨_,rfl⟩;rw[<- Ke,<- he1];have Vo:∀d y,nth B3 d=some y->d≠a3->nth B4 d=some y:=λd y h1 h2=>by
    rw[Ke,zg,su (Ne.symm h2),<- zg,h1]
   have k44:=Vo _ _ k4 (Ne.symm d34);have k45:=Vo _ _ k5 (Ne.symm d35);have k4M:=Vo _ _ kM (Ne.symm d3b);have k4c:=Vo _ _ kc (Ne.symm d3c)
   let PE:aC->List aT->Prop:=λenv Bx=>Bx=B4/\env.length=49/\nth env 0=some (cH m c)/\nth env 4=some (.ptr a4 0)/\nth env 5=some (.ptr a5 0)/\nth env 8=some (.int .i64 (ws.length:Nat))
   refine mC (P:=PE) ?_ ⟨rfl,by simp[hlen],by simp[za,e0],by simp[za,e4],by simp[za,e5],by simp[za,e8]⟩
   clear m4 B8 fH l_ k3 k4 k5 kM kc e0 e3 e4 e5 e8 hlen;rintro env Bx lk ⟨rfl,hlen,e0,e4,e5,e8⟩;have ha4:a4<Bx.length:=by rw[zg] at k44;exact(cP.1 k44).1
   obtain⟨lab,AH⟩:∃l,l=wm f.s.2.length (wl m w) (-1):=⟨_,rfl⟩;obtain⟨BL,hBL⟩:∃BL,BL=Bx.set a4 (.cells ([aK,zm 1 3 dh].set 1 (oJ 1 dh)) t4):=⟨_,rfl⟩;have hPL:∀d y,nth Bx d=some y->d≠a4->nth BL d=some y:=λd y h1 h2=>by
    rw[hBL,zg,su (Ne.symm h2),<- zg,h1]
   have m4:∀env,vA prog 27 env ⟨Bx,e1⟩ [] [] (some (.ptr a4 1))=some (.val (zm 1 3 dh),⟨env,⟨BL,e1⟩,kG a4 1 dh,[]⟩):=λenv=>by rw[hBL];exact Sg B7 k44 rfl
   have l5:zl prog ⟨Bx,e1⟩ gl.g 141 (.ptr a5 0)=some (.ptr bm 0):=zu eZ k45 rfl;have l5L:zl prog ⟨BL,e1⟩ gl.g 141 (.ptr a5 0)=some (.ptr bm 0):=zu eZ (hPL _ _ k45 (Ne.symm d45)) rfl;obtain⟨n2,rfl⟩:∃n2,n'=n2+1+1:=⟨n' - 2,by omega⟩
   have Bi:∀H:List aT,nth H bm=some (.cells mc tM)->nth H c=some (.cells (dR m w) 5)->Cx.bD ⟨prog,gl.g,zk prog gl (n2+3),eC⟩ 112 [.ptr bm 0,cH m c] ⟨H,e1⟩=some (.val (.int .i64 lab),⟨H,e1⟩):=λH q1 q2=>by
    rw[AH];exact zq func112 rfl (zkI hg (n:=n2) AV (by omega) (by omega) oS q1 DP q2)
   have aaK:=Bi _ k4M k4c;have aaL:=Bi _ (hPL _ _ k4M (Ne.symm d4b)) (hPL _ _ k4c (Ne.symm d4c));have l_:=Np.Ck (v:=.int .i64 lab) rfl rfl;have fH:∀H,kf prog H 27 (zm 1 3 dh) (.sl 1 [.int .i64 lab] .no)=some (zm 1 3 (dh++[.int .i64 lab])):=λH=>jE Np (by simp) (dJ (by simp;omega) (by simp;omega))
   have fe:∀env,qo prog 27 ⟨BL,e1⟩ (kG a4 1 dh) [] (some (zm 1 3 (dh++[.int .i64 lab]),env)) (some (.ptr a4 1))=some (.skip,⟨env,⟨Bx.set a4 (.cells [aK,zm 1 3 (dh++[.int .i64 lab])] t4),vi e1 a4 (zm 1 3 (dh++[.int .i64 lab]))⟩,kG a4 1 dh,[]⟩):=λenv=>by
    rw[hBL];exact Vh Np.st ha4 (by simp)
   refine wH (tk:=[41]) (by kernel_rfl) ?_
   apply Exists.intro;apply And.intro;refine qy (m:=0) (v:=.ptr a4 1) (by kernel_rfl) rfl (by simp only[BA,ak,ah,Nat.reduceAdd,e4,GD];rfl) (by kernel_rfl) (by kernel_rfl) (by kernel_rfl) ?_
   dsimp only[aq]
   refine yp (m:=1) (v:=zm 1 3 dh) (cs':=[⟨2,⟨BL,e1⟩,kG a4 1 dh,[]⟩,⟨0,⟨Bx,e1⟩,[],[]⟩]) (by kernel_rfl) rfl (by simp only[BA,ak,Nat.reduceAdd,za,Nat.reduceLT,hlen,m4];rfl) (by kernel_rfl) (by kernel_rfl) (by kernel_rfl) (λK=>?_) ?_
   rotate_left
   dsimp only[aq]
   refine kn (m:=0) (v:=.ptr bm 0) (by kernel_rfl) rfl (by simp only[BA,Nat.reduceEqDiff,ak,Nat.reduceAdd,za,bG,Nat.reduceLT,bz,e5,hlen,l5L];rfl) (by kernel_rfl) (by kernel_rfl) (by kernel_rfl) (wc λq hq=>by
    obtain rfl:=mF.1 hq;split
    ·exact i_ (by simp only[BA,Nat.reduceEqDiff,ak,Nat.reduceAdd,za,bG,Nat.reduceLT,bz,e5,hlen,l5];rfl)
    ·rfl) ?_
   dsimp only[aq]
   refine qy (m:=0) (v:=cH m c) (by kernel_rfl) rfl (by simp only[BA,Nat.reduceEqDiff,ak,Nat.reduceAdd,za,bG,Nat.reduceLT,bz,e0,hlen,nk];rfl) (by kernel_rfl) (by kernel_rfl) (by kernel_rfl) ?_
   dsimp only[aq]
   refine yp (m:=12) (v:=.int .i64 lab) (cs':=[⟨18,⟨BL,e1⟩,kG a4 1 dh,[]⟩,⟨16,⟨Bx,e1⟩,[],[]⟩,⟨2,⟨BL,e1⟩,kG a4 1 dh,[]⟩,⟨0,⟨Bx,e1⟩,[],[]⟩]) (by kernel_rfl) rfl (by simp only[BA,Nat.reduceEqDiff,az,ak,aA,Nat.reduceAdd,za,bG,Nat.reduceLT,bz,hlen,nk,aaL];rfl) (by kernel_rfl) (by kernel_rfl) (by kernel_rfl) (λK=>?_) ?_
   rotate_left
   dsimp only[aq]
   refine qy (m:=28) (v:=.sl 1 [.int .i64 lab] (.yes 3)) (by kernel_rfl) rfl (by simp only[BA,Nat.reduceEqDiff,ak,Nat.reduceAdd,za,bG,Nat.reduceLT,bz,hlen,l_];rfl) (by kernel_rfl) (by kernel_rfl) (by kernel_rfl) ?_
   dsimp only[aq]
   refine kn (m:=63) (v:=zm 1 3 (dh++[.int .i64 lab])) (by kernel_rfl) rfl (by simp only[BA,Nat.reduceEqDiff,ak,Nat.reduceAdd,za,bG,Nat.reduceLT,bz,hlen,xR,fH,jV (cx:=⟨prog,gl.g,zk prog gl (n2+3),eC⟩) (show q_ prog eC 27=false by kernel_rfl)];rfl) (by kernel_rfl) (by kernel_rfl) (by kernel_rfl) (by kernel_rfl) ?_
   dsimp only[aq]
   refine qy (m:=127) (v:=.ptr a4 1) (by kernel_rfl) rfl (by simp only[BA,Nat.reduceEqDiff,ak,ah,Nat.reduceAdd,za,bG,Nat.reduceLT,bz,e4,hlen,GD];rfl) (by kernel_rfl) (by kernel_rfl) (by kernel_rfl) ?_
   dsimp only[aq]
   refine vd (m:=255) (cs':=[⟨274,⟨Bx.set a4 (.cells [aK,zm 1 3 (dh++[.int .i64 lab])] t4),vi e1 a4 (zm 1 3 (dh++[.int .i64 lab]))⟩,kG a4 1 dh,[]⟩,⟨18,⟨BL,e1⟩,kG a4 1 dh,[]⟩,⟨16,⟨Bx,e1⟩,[],[]⟩,⟨2,⟨BL,e1⟩,kG a4 1 dh,[]⟩,⟨0,⟨Bx,e1⟩,[],[]⟩]) (by kernel_rfl) rfl (by simp only[BA,Nat.reduceEqDiff,ak,Nat.reduceAdd,za,bG,Nat.reduceLT,bz,hlen,fe];rfl) (by kernel_rfl) (by kernel_rfl) (λK=>?_) wI
   ·refine j9 ?_ ?_ ?_ ?_
    ·kernel_rfl
    ·rfl
    ·intro c hc;simp only[dN,Cc,Bc] at hc;rcases hc with rfl|rfl|rfl<;>kernel_rfl
    ·kernel_rfl
   rotate_left
   ·refine j9 ?_ ?_ ?_ ?_
    ·kernel_rfl
    ·rfl
    ·intro c hc;simp at hc
    ·kernel_rfl
   ·refine ziE (e:=⟨0,⟨BL,e1⟩,kG a4 1 dh,[]⟩) 2 rfl ?_ ?_ ?_ ?_ ?_ ?_ ?_ ?_ ?_ ?_ ?_
    ·kernel_rfl
    ·rfl
    ·intro q hq;simp only[dN,Cc,Bc] at hq;rcases hq with rfl|rfl|rfl|rfl
     ·exact .inr ⟨rfl,.inl rfl⟩
     ·exact .inr ⟨rfl,.inr (by kernel_rfl)⟩
     ·exact .inl rfl
     ·exact .inr ⟨rfl,.inl rfl⟩
    ·rfl
    ·kernel_rfl
    ·simp only[Cx.ej,jr];simp only[BA,Nat.reduceEqDiff,az,ak,aA,Nat.reduceAdd,za,bG,Nat.reduceLT,bz,hlen,nk,aaK];rfl
    ·kernel_rfl
    ·kernel_rfl
    ·simp only[Cx.ej,jr];simp only[BA,ak,Nat.reduceAdd,za,Nat.reduceLT,hlen,m4]
    ·kernel_rfl
    ·exact zdH
   simp only[aq];simp only[zh]
   refine zi ?_;simp only[BA,Nat.reduceEqDiff,ak,aq,Nat.reduceAdd,za,bG,Nat.reduceLT,bz,e8,hlen,go_ret,zr,Fx]
   refine⟨[.int .i64 (ws.length:Nat)],?_,rfl,vi e1 a4 (zm 1 3 (dh++[.int .i64 lab])),?_,?_⟩
   ·simp only[zy,za,bG,hlen];rfl
   ·have uf:B1.length=B.length:=by rw[A3,bG]
    have ha:∀d x,nth B d=some x->d<B.length:=λd x h=>by rw[zg] at h;exact(cP.1 h).1
    have q2:=ha _ _ h2;have q3:=ha _ _ h3;have q4:=ha _ _ h4;rw[Ke,DA,Hl,GO _ _ (by omega),GO _ _ (by rw[bG];omega),GO _ _ (by rw[bG,bG];omega),A3,<- AH]
    rfl
   ·have IE:(zm 1 3 (dh++[V.int .i64 lab])).top=0:=by rw[vy];exact gS aaE rfl
    have he:vi e1 a4 (zm 1 3 (dh++[.int .i64 lab]))=e1:=by rw[vi,IE,if_pos (by omega)]
    rw[he,he1];intro e Lq;unfold vi at Lq;split at Lq
    ·cases Lq
    ·rw[mF.1 Lq];show(zm 1 205 (wait++[cH m c])).top<=_;rw[vy];refine qq λv hv=>?_;rcases oM.1 hv with hv|hv
     ·exact cU (zn hv) Nr
     ·rw[mF.1 hv];simp only[cH,V.top];omega
 ·refine j9 ?_ ?_ ?_ ?_
  ·kernel_rfl
  ·rfl
  ·intro c hc;cases hc
  ·unfold Cx.fR;refine wc λq hq=>?_;simp only[dN,Cc,Bc] at hq;rcases hq with rfl|rfl|rfl|rfl|rfl|rfl
   ·kernel_rfl
   ·kernel_rfl
   ·kernel_rfl
   ·kernel_rfl
   ·split
    ·rfl
    ·split
     next h=>cases h
     ·refine O6 ?_;exact i_ (by simp only[BA,ak,zd,ze,bS,bU,jr,nk,v4 (cx:=⟨prog,gl.g,zk prog gl (n'+1),eC⟩) (a:=205) (b:=9) (show eC (vg 205)=true from rfl) rfl,GU];rfl)
   ·kernel_rfl
end
def v5(ws:bL)(w:Nat):bL:=match ky w 0 ws with|some _=>ws|none=>ws++[w]
def jt(ws:bL)(g:Nat->Nat):Nat->bL
 | 0=>ws
 | y+1=>v5 (jt ws g y) (g y)
def zj(aK:Nat->Nat->Nat)(s0:Nat):Nat->bL
 | 0=>[s0]
 | i+1=>match (zj aK s0 i)[i]? with
  | some w=>jt (zj aK s0 i) (aK w) 256
  | none=>zj aK s0 i
def jd(ws:bL):Nat:=1+(ws.filter λw=>!(w == 0)).length
theorem Vp{w:Nat}:∀{ws:bL}{k i:Nat},ky w k ws=some i->k<=i/\ws[i - k]?=some w
 | [],k,i,h=>by simp[ky] at h
 | x::ws,k,i,h=>by
  simp only[ky] at h;split at h
  next e=>cases h;refine⟨dB _,?_⟩;rw[Bb,e];rfl
  ·obtain⟨h1,h2⟩:=Vp h;refine⟨by omega,?_⟩
   rw[show i - k=(i - (k+1))+1 by omega]
   exact h2
theorem uZ{w:Nat}:∀{ws:bL}{k:Nat},ky w k ws=none ↔ w ∉ ws
 | [],k=>by simp[ky]
 | x::ws,k=>by
  simp only[ky,dN,not_or];split
  next e=>simp[e]
  next e=>rw[uZ];exact⟨λh=>⟨λe'=>e e'.symm,h⟩,λh=>h.2⟩
theorem Vq{w:Nat}{rs:bL}:∀{ws:bL}{k i:Nat},ky w k ws=some i->ky w k (ws++rs)=some i
 | [],k,i,h=>by simp[ky] at h
 | x::ws,k,i,h=>by
  simp only[ky,bh] at h ⊢;split
  next e=>rw[if_pos e] at h;exact h
  next e=>rw[if_neg e] at h;exact Vq h
theorem Vr{w:Nat}:∀{ws:bL}{k:Nat},ky w k ws=none->ky w k (ws++[w])=some (k+ws.length)
 | [],k,_=>by simp[ky]
 | x::ws,k,h=>by
  simp only[ky,bh] at h ⊢;split
  next e=>rw[if_pos e] at h;cases h
  next e=>rw[if_neg e] at h;rw[Vr h];simp;omega
theorem zhJ{ws:bL}{w:Nat}:∃rs,v5 ws w=ws++rs:=by
 unfold v5;split
 ·exact⟨[],by simp⟩
 ·exact⟨_,rfl⟩
theorem zmR{ws:bL}{w:Nat}:∃i,ky w 0 (v5 ws w)=some i:=by
 unfold v5;split
 next h=>exact⟨_,h⟩
 next h=>exact⟨_,Vr h⟩
theorem Vs{ws:bL}{g:Nat->Nat}{y:Nat}:∀d,∃rs,jt ws g (y+d)=jt ws g y++rs
 | 0=>⟨[],by simp⟩
 | d+1=>by
  obtain⟨r1,h1⟩:=Vs (ws:=ws) (g:=g) (y:=y) d;obtain⟨r2,h2⟩:=zhJ (ws:=jt ws g (y+d)) (w:=g (y+d));exact⟨r1++r2,by rw[<- oO];simp only[jt];rw[h2,h1,aY]⟩
theorem ze6{ws:bL}{g:Nat->Nat}(y:Nat):∃rs,jt ws g y=ws++rs:=by
 have:=Vs (ws:=ws) (g:=g) (y:=0) y;simpa[jt] using this
theorem zhK{ws:bL}{g:Nat->Nat}{y b:Nat}(h:b<y):∃i,ky (g b) 0 (jt ws g (b+1))=some i/\ky (g b) 0 (jt ws g y)=some i:=by
 obtain⟨i,hi⟩:=zmR (ws:=jt ws g b) (w:=g b);obtain⟨rs,h2⟩:=Vs (ws:=ws) (g:=g) (y:=b+1) (y - (b+1));rw[show b+1+(y - (b+1))=y by omega] at h2
 exact⟨i,hi,by rw[h2];exact Vq hi⟩
theorem ze7{aK:Nat->Nat->Nat}{s0 i:Nat}:∀d,∃rs,zj aK s0 (i+d)=zj aK s0 i++rs
 | 0=>⟨[],by simp⟩
 | d+1=>by
  obtain⟨r1,h1⟩:=ze7 (aK:=aK) (s0:=s0) (i:=i) d;rw[<- oO];simp only[zj];split
  ·obtain⟨r2,h2⟩:=ze6 (ws:=zj aK s0 (i+d)) (g:=aK _) 256;exact⟨r1++r2,by rw[h2,h1,aY]⟩
  ·exact⟨r1,h1⟩
theorem Vt{aK:Nat->Nat->Nat}{s0 i j:Nat}(h:i<=j):∃rs,zj aK s0 j=zj aK s0 i++rs:=by
 have:=ze7 (aK:=aK) (s0:=s0) (i:=i) (j - i)
 rwa [show i+(j - i)=j by omega] at this
theorem zhL{ws rs:bL}:jd ws<=jd (ws++rs):=by simp[jd]
theorem Su{ws:bL}(h:ws.Nodup):ws.length<=jd ws:=by
 have:∀l:bL,l.Nodup->l.length<=(l.filter λw=>!(w == 0)).length+(if 0∈l then 1 else 0):=by
  intro l
  induction l with
  | nil=>intro _;simp
  | cons x l ih =>
   intro h;obtain⟨h1,h2⟩:=List.nodup_cons.1 h;have:=ih h2
   by_cases e:x=0
   ·subst e;rw[if_neg h1] at this;simp at this ⊢;omega
   ·have e1:¬(0=x):=λh=>e h.symm;simp[e,e1] at this ⊢;omega
 have:=this ws h;unfold jd;split at this<;>omega
theorem ziG{ws:bL}{w:Nat}(h:ws.Nodup):(v5 ws w).Nodup:=by
 unfold v5;split
 ·exact h
 ·rename_i e;refine List.nodup_append.2 ⟨h,by simp,?_⟩
  intro a ha b hb;rw[mF.1 hb];intro e';subst e';exact uZ.1 e ha
theorem xM{ws:bL}{g:Nat->Nat}(h:ws.Nodup):∀y,(jt ws g y).Nodup
 | 0=>h
 | y+1=>ziG (xM h y)
theorem v6{aK:Nat->Nat->Nat}{s0:Nat}:∀i,(zj aK s0 i).Nodup
 | 0=>by simp[zj]
 | i+1=>by
  simp only[zj];split
  ·exact xM (v6 i) _
  ·exact v6 i
section
variable{gl:Gl}
def dZ(bs:List aT)(bm m:Nat)(lab:Nat->Int)(N:aC)(ws:bL)(z:Bool)(wait:aC)(rest:List aT):List aT :=
 bs++(.cells [.ptr bm 0] 141::.cells [.aG,.aG] 66::.cells [zm 1 27 N,zm 1 3 (ws.map λw=>A2.ie (lab w))] 66::.map (vf m 0 ws)::.cells [.map (bs.length+3)] 207::.cells [.int .i64 (jd ws:Nat)] 3::.cells [m6 z 1 205 wait] 201::rest)
section
variable{bs:List aT}{bm m:Nat}{lab:Nat->Int}{N N':aC}{ws:bL}{z z':Bool}{wait:aC}{rest:List aT}{x:aT}{i:Nat}
theorem O7:(dZ bs bm m lab N ws z wait rest).length=bs.length+7+rest.length:=by simp[dZ];omega
theorem zgg{d:Nat}(h:d<bs.length):nth (dZ bs bm m lab N ws z wait rest) d=nth bs d:=by
 rw[dZ,zg,zg,fI h]
theorem wr{k:Nat}:nth (dZ bs bm m lab N ws z wait rest) (bs.length+k)=nth (.cells [.ptr bm 0] 141::.cells [.aG,.aG] 66::.cells [zm 1 27 N,zm 1 3 (ws.map λw=>A2.ie (lab w))] 66::.map (vf m 0 ws)::.cells [.map (bs.length+3)] 207::.cells [.int .i64 (jd ws:Nat)] 3::.cells [m6 z 1 205 wait] 201::rest) k:=by
 rw[dZ,zg,zg,eM (by omega)]
 congr 1
 omega
theorem KM:nth (dZ bs bm m lab N ws z wait rest) bs.length=some (.cells [.ptr bm 0] 141):=wr (k:=0)
theorem B9:nth (dZ bs bm m lab N ws z wait rest) (bs.length+7+i)=nth rest i:=by
 rw[show bs.length+7+i=bs.length+(i+1+1+1+1+1+1+1) by omega,wr];rfl
theorem B_:dZ bs bm m lab N ws z wait rest++[x]=dZ bs bm m lab N ws z wait (rest++[x]):=by simp[dZ]
theorem zow{xs:List aT}:dZ bs bm m lab N ws z wait rest++xs=dZ bs bm m lab N ws z wait (rest++xs):=by simp[dZ]
theorem zmS:(dZ bs bm m lab N ws z wait rest).set (bs.length+7+i) x=dZ bs bm m lab N ws z wait (rest.set i x):=by
 rw[dZ,tW _ _ (by omega),show bs.length+7+i - bs.length=i+1+1+1+1+1+1+1 by omega];rfl
theorem yk{l:List aT}{k:Nat}:(bs++l).set (bs.length+k) x=bs++l.set k x:=by
 rw[tW _ _ (by omega)]
 congr 2
 omega
theorem zmT{KN:aC}:(dZ bs bm m lab N ws z wait rest).set (bs.length+6) (.cells [m6 z' 1 205 KN] 201)=dZ bs bm m lab N ws z' KN rest:=yk
theorem zmU:(dZ bs bm m lab N ws z wait rest).set (bs.length+2) (.cells [zm 1 27 N',zm 1 3 (ws.map λw=>A2.ie (lab w))] 66)=dZ bs bm m lab N' ws z wait rest:=yk
end
theorem zkQ{ws:bL}{w:Nat}:jd (ws++[w])=if w=0 then jd ws else jd ws+1:=by
 unfold jd
 by_cases h:w=0
 ·simp[h]
 ·simp[h];omega
theorem zox{bs:List aT}{bm m c w:Nat}{lab:Nat->Int}{N wait:aC}{ws:bL}{z:Bool}{rest:List aT} :
  Nq (dZ bs bm m lab N ws z wait rest) (bs.length+4) (bs.length+5) (bs.length+6) (bs.length+2) (bs.length+3) m c w (jd ws:Nat) ws wait (zm 1 27 N) (ws.map λw=>A2.ie (lab w)) (lab w) 3 201 66=dZ bs bm m lab N (ws++[w]) z (wait++[cH m c]) rest:=by
 have hs:(if w=0 then ((jd ws:Nat):Int) else ((jd ws:Nat):Int)+1)=((jd (ws++[w]):Nat):Int):=by
  rw[zkQ];split<;>simp
 rw[Nq,hs,dZ,yk,yk,yk,yk,dZ];simp[A2.ie,zov]
def KO(ws:bL)(w:Nat)(wait:aC)(v:V):aC:=match ky w 0 ws with|some _=>wait|none=>wait++[v]
theorem zkR(hg:GS gl){z:Bool}{n bm m w c:Nat}{ws:bL}{wait N:aC}{mc:aC}{tM:aB}{f:A2.F}(hn:m+400<=n)(tR:wait.length<2 ^ 39)(Z7:ws.length<2 ^ 39)(Dw:0<m)(AV:m<2 ^ 36)(hw:w<2 ^ (8 * m))(DG:∀x∈ws,x<2 ^ (8 * m))(oS:f.s.2.length<2 ^ 40){bs rest:List aT}{es:aN}
  (hM:nth bs bm=some (.cells mc tM)) (DP:nth mc 0=some (A2.qv f.s)) (hc:nth rest c=some (.cells (dR m w) 5)) (Nr:aI wait<=bs.length+7+rest.length) :
  ∃iL j,zk prog gl (n+1) 111 [cH m (bs.length+7+c),.ptr (bs.length+4) 0,.ptr (bs.length+5) 0,.ptr (bs.length+6) 0,.ptr (bs.length+2) 0,.ptr bs.length 0] ⟨dZ bs bm m (λw=>wm f.s.2.length (wl m w) (-1)) N ws z wait rest,es⟩=some (.ret (.int .i64 (j:Nat)),⟨dZ bs bm m (λw=>wm f.s.2.length (wl m w) (-1)) N (v5 ws w) z (KO ws w wait (cH m (bs.length+7+c))) rest,iL⟩)/\ky w 0 (v5 ws w)=some j:=by
 have Ci:bm<bs.length:=by rw[zg] at hM;exact(cP.1 hM).1
 have hcB:nth (dZ bs bm m (λw=>wm f.s.2.length (wl m w) (-1)) N ws z wait rest) (bs.length+7+c)=some (.cells (dR m w) 5):=B9.trans hc;cases hx:ky w 0 ws with
 | some i =>
  refine⟨es,i,?_,?_⟩
  ·rw[v5,KO,hx];exact zkO hg hw DG (wr (k:=4)) (wr (k:=3)) hcB hx
  ·rw[v5,hx];exact hx
 | none =>
  have hcw:jd ws<2 ^ 40:=by
   have:=List.length_filter_le (λw=>!(w == 0)) ws;unfold jd;omega
  obtain⟨iL,h⟩:=zkP hg (B:=dZ bs bm m (λw=>wm f.s.2.length (wl m w) (-1)) N ws z wait rest) (es:=es) hn (by omega) (dh:=ws.map λw=>A2.ie (wm f.s.2.length (wl m w) (-1))) (by rw[gk];omega) Dw AV hw DG (sum:=(jd ws:Nat)) ⟨by omega,by omega⟩ oS (A2.gT (λ_=>rfl) _)
   (wr (k:=4)) (wr (k:=5)) (wr (k:=6)) (wr (k:=2)) KM ((zgg Ci).trans hM) DP (wr (k:=3)) hcB
   (by simp only[List.nodup_cons,dN,Cc,Bc,not_or,List.nodup_nil,Ce,uI];omega) hx (by rw[O7];exact Nr)
  refine⟨iL,ws.length,?_,?_⟩
  ·rw[h,zox (lab:=λw=>wm f.s.2.length (wl m w) (-1)),v5,KO,hx]
  ·rw[v5,hx];have:=Vr (k:=0) hx;rw[nI] at this;exact this
end
theorem Sv{w:Nat->Nat}:∀{Y y c:Nat},(fP w Y).2.1[y]?=some c->(fP w Y).1[c]?=some (w y)
 | 0,y,c,h=>by simp[fP] at h
 | Y+1,y,c,h=>by
  have hl:=OX (w:=w) Y;simp only[fP] at h ⊢;split at h
  ·rename_i i hi;rcases eI y Y with hy|hy
   ·rw[fI (by omega)] at h
    exact Sv h
   ·rw[eM (by omega)] at h
    have e:y - (fP w Y).2.1.length=0:=by
     have:=(cP.1 h).1;simp at this;omega
    rw[e] at h;simp at h;subst h;obtain rfl:y=Y:=by omega
    have:=(Vp hi).2;simpa using this
  ·rename_i hi;rcases eI y Y with hy|hy
   ·rw[fI (by omega)] at h
    have:=Sv h;rw[fI (cP.1 this).1];exact this
   ·rw[eM (by omega)] at h
    have e:y - (fP w Y).2.1.length=0:=by
     have:=(cP.1 h).1;simp at this;omega
    rw[e] at h;simp at h;subst h;obtain rfl:y=Y:=by omega
    simp
theorem zeg{w:Nat->Nat}:∀Y,(fP w Y).2.2.length=(fP w Y).1.length
 | 0=>rfl
 | Y+1=>by
  simp only[fP];split
  ·exact zeg Y
  ·simp[zeg Y]
def th(f:A2.F)(y:Nat):Nat:=pK f.s.2 y f.s.2.length
def HE(f:A2.F):bL:=(fP (th f) 256).2.1
def Sw(f:A2.F):Nat:=(fP (th f) 256).2.2.length
theorem zjR{f:A2.F}:(HE f).length=256:=OX 256
theorem zmV{f:A2.F}{y c:Nat}(h:(HE f)[y]?=some c):c<Sw f:=by
 have:=(cP.1 (Sv h)).1;rw[Sw,zeg];exact this
theorem zoy{f:A2.F}:0<Sw f:=by
 have h0:0<(HE f).length:=by rw[zjR];exact Nat.succ_pos _
 exact JE (dU _) (zmV (fQ h0))
theorem zp5{f:A2.F}:Sw f<=256:=by
 have:∀(w:Nat->Nat) Y,(fP w Y).2.2.length<=Y:=by
  intro w Y
  induction Y with
  | zero=>exact dB _
  | succ Y ih =>
   simp only[fP];split
   ·exact La ih
   ·simp;omega
 exact this _ _
theorem zeh{ss:List A2.Q4}{y k:Nat}{s:A2.Q4}:∀{K:Nat},k<K->ss[k]?=some s->(pK ss y K).testBit k=EE s y
 | 0,h,_=>by omega
 | K+1,h,hs=>by
  have hle:∀{K k},K<=k->(pK ss y K).testBit k=false:=by
   intro K
   induction K with
   | zero=>intro k _;simp[pK]
   | succ K ih =>
    intro k hk;have e:=ih (k:=k) (by omega)
    simp only[pK];split
    ·split
     ·rw[AO,e,E_];simp;omega
     ·exact e
    ·exact e
  simp only[pK];rcases eI k K with hk|hk
  ·have ih:=zeh (y:=y) hk hs;split
   ·split
    ·rw[AO,ih,E_];have:¬K=k:=by omega
     simp[this]
    ·exact ih
   ·exact ih
  ·obtain rfl:k=K:=by omega
   rw[hs];simp only;split
   next h1=>rw[AO,E_,h1];simp
   next h1=>rw[hle (dB _)];simpa using h1
def tj(f:A2.F)(nx:aN)(m w y:Nat):Nat:=Cs f nx y (wl m w) 0
theorem zmW{f:A2.F}{nx:aN}{y z k q:Nat}(h:th f y=th f z):xa f nx y k q=xa f nx z k q:=by
 unfold xa;cases hs:f.s.2[k]? with
 | none=>rfl
 | some s =>
  cases hp:nx[k]? with
  | none=>rfl
  | some p =>
   have hk:=(cP.1 hs).1;have h1:=zeh (y:=y) hk hs;have h2:=zeh (y:=z) hk hs;have h3:(pK f.s.2 y f.s.2.length).testBit k=(pK f.s.2 z f.s.2.length).testBit k:=congrArg (λx=>Nat.testBit x k) h;simp only;rw[<- h1,<- h2,h3]
theorem zoz{f:A2.F}{nx:aN}{m w y z c:Nat}(h1:(HE f)[y]?=some c)(h2:(HE f)[z]?=some c):tj f nx m w y=tj f nx m w z:=by
 have h:th f y=th f z:=D5 ((Sv h1).symm.trans (Sv h2));have:∀(l:bL)(q:Nat),Cs f nx y l q=Cs f nx z l q:=by
  intro l
  induction l with
  | nil=>intro q;rfl
  | cons k l ih =>
   intro q;show Cs f nx y l (xa f nx y k q)=Cs f nx z l (xa f nx z k q);rw[zmW h];exact ih _
 exact this _ _
theorem ziH{f:A2.F}{nx:aN}{m w y:Nat}(h:∀p∈nx,p.2<2 ^ (8 * m)):tj f nx m w y<2 ^ (8 * m):=by
 have:∀(l:bL)(q:Nat),q<2 ^ (8 * m)->Cs f nx y l q<2 ^ (8 * m):=by
  intro l
  induction l with
  | nil=>intro q hq;exact hq
  | cons k l ih =>
   intro q hq;refine ih _ ?_;show xa f nx y k q<_;unfold xa;split
   ·rename_i s p hs hp;split
    ·exact JF hq (h p (m8 hp))
    ·exact hq
   ·exact hq
 exact this _ _ (Nat.pow_pos (by decide))
theorem zoA{ws:bL}{w B:Nat}(h:∀x∈ws,x<B)(hw:w<B):∀x∈v5 ws w,x<B:=by
 intro x hx;unfold v5 at hx;split at hx
 ·exact h x hx
 ·rcases oM.1 hx with hx|hx
  ·exact h x hx
  ·rw[mF.1 hx];exact hw
theorem zgh{ws:bL}{g:Nat->Nat}{B:Nat}(h:∀x∈ws,x<B)(hg:∀y,g y<B):∀y,∀x∈jt ws g y,x<B
 | 0=>h
 | y+1=>zoA (zgh h hg y) (hg y)
theorem zei{aK:Nat->Nat->Nat}{s0 B:Nat}(h:s0<B)(hn:∀w y,aK w y<B):∀i,∀x∈zj aK s0 i,x<B
 | 0=>by simp[zj,h]
 | i+1=>by
  simp only[zj];split
  ·exact zgh (zei h hn i) (hn _) 256
  ·exact zei h hn i
def wU(aK:Nat->Nat->Nat)(s0 j:Nat):List Int:=match (zj aK s0 j)[j]? with
 | some w=>(List.range 256).map λy=>(((ky (aK w y) 0 (zj aK s0 (j+1))).getD 0:Nat):Int)
 | none=>[]
inductive WF(m:Nat)(rest:List aT):bL->bL->Prop
 |nil:WF m rest [] []
 |cons {w c:Nat} {ws cs:bL} (h:nth rest c=some (.cells (dR m w) 5)) (t:WF m rest ws cs):WF m rest (w::ws) (c::cs)
theorem WF.mono{m:Nat}{r r':List aT}(hr:∀c w,nth r c=some (.cells (dR m w) 5)->nth r' c=some (.cells (dR m w) 5)){ws cs:bL}(h:WF m r ws cs):WF m r' ws cs:=by
 induction h with
 | nil=>exact .nil
 | cons h _ ih=>exact .cons (hr _ _ h) ih
theorem WF.snoc{m:Nat}{r:List aT}{w c:Nat}(hc:nth r c=some (.cells (dR m w) 5)){ws cs:bL}(h:WF m r ws cs):WF m r (ws++[w]) (cs++[c]):=by
 induction h with
 | nil=>exact .cons hc .nil
 | cons h _ ih=>exact .cons h ih
theorem WF.len{m:Nat}{r:List aT}{ws cs:bL}(h:WF m r ws cs):cs.length=ws.length:=by
 induction h with
 | nil=>rfl
 | cons _ _ ih=>simp[ih]
theorem WF.lt{m:Nat}{r:List aT}{ws cs:bL}(h:WF m r ws cs):∀c∈cs,c<r.length:=by
 induction h with
 | nil=>simp
 | cons h _ ih =>
  intro c hc;rcases dN.1 hc with rfl|hc
  ·rw[zg] at h;exact(cP.1 h).1
  ·exact ih c hc
section
def fA(b k:Nat):V:=.sr (b+k) 0 256 256
def tn(b:Nat)(NB:bL)(dh:List Int):V:=.agg [aW (zm 1 27 (NB.map (fA b))),aW (zm 1 3 (dh.map A2.ie))]
inductive RW(aK:Nat->Nat->Nat)(s0:Nat)(B:List aT)(b:Nat):Nat->bL->Prop
 |nil:RW aK s0 B b 0 []
 |snoc {i k:Nat} {NB:bL} (h:RW aK s0 B b i NB) (hk:∀j∈NB,j<k) (hb:nth B (b+k)=some (.cells ((wU aK s0 i).map A2.ie) 3)):RW aK s0 B b (i+1) (NB++[k])
theorem RW.mono{aK:Nat->Nat->Nat}{s0 b b' i:Nat}{B B':List aT}{NB:bL}(h:RW aK s0 B b i NB):(∀k x,k∈NB->nth B (b+k)=some x->nth B' (b'+k)=some x)->RW aK s0 B' b' i NB:=by
 induction h with
 | nil=>intro _;exact .nil
 | snoc h hk hb ih=>intro hm;exact .snoc (ih λk x hk=>hm k x (w_ _ hk)) hk (hm _ _ (by simp) hb)
theorem RW.len{aK:Nat->Nat->Nat}{s0 b i:Nat}{B:List aT}{NB:bL}(h:RW aK s0 B b i NB):NB.length=i:=by
 induction h with
 | nil=>rfl
 | snoc _ _ _ ih=>simp[ih]
theorem RW.lt{aK:Nat->Nat->Nat}{s0 b i:Nat}{B:List aT}{NB:bL}(h:RW aK s0 B b i NB):∀k∈NB,b+k<B.length:=by
 induction h with
 | nil=>simp
 | snoc h hk hb ih =>
  intro k hk;rcases oM.1 hk with hk|hk
  ·exact ih k hk
  ·rw[mF.1 hk];rw[zg] at hb;exact(cP.1 hb).1
theorem kJ{rest:List aT}{k d:Nat}{x y:aT}(h1:nth rest k=some x):nth (rest.set k y) d=if d=k then some y else nth rest d:=by
 have hk:k<rest.length:=by rw[zg] at h1;exact(cP.1 h1).1
 rw[zg,zg,tC]
 by_cases e:k=d
 ·subst e;simp[hk]
 ·rw[if_neg e,if_neg (λe'=>e e'.symm)]
theorem vz{rest xs:List aT}{k:Nat}{x:aT}(h:nth rest k=some x):nth (rest++xs) k=some x:=by
 rw[zg] at h ⊢;rw[fI (cP.1 h).1,h]
structure m7(m i kr c0 nc w:Nat)(aK:Nat->Nat->Nat)(s0:Nat)(cl ws NB:bL)(y yr:Nat)(rest:List aT)(W:bL)(R T:List Int):Prop where
 wf:WF m rest ((jt ws (aK w) y).drop (i+1)) W
 sR:nth rest c0=some (.cells (dR m w) 5)
 hR:nth rest kr=some (.cells (R.map A2.ie) 3)
 Rl:R.length=256
 Rv:∀b,b<yr->∃j:Nat,ky (aK w b) 0 (jt ws (aK w) y)=some j/\R[b]?=some (j:Int)
 hT:nth rest (kr+1)=some (.cells (T.map A2.ie) 3)
 Tl:T.length=nc
 Tv:∀(c:Nat)(v:Int),T[c]?=some v->(v = -1/\∀b,b<y->cl[b]?≠some c)\/∃b,b<y/\cl[b]?=some c/\∃j:Nat,v=j/\ky (aK w b) 0 (jt ws (aK w) y)=some j
 rw:RW aK s0 rest 0 i NB
 nb:∀k∈NB,k<kr
variable{m i kr c0 nc w:Nat}{aK:Nat->Nat->Nat}{s0:Nat}{cl ws NB:bL}{y yr:Nat}{rest:List aT}{W:bL}{R T:List Int}
theorem m7.app(h:m7 m i kr c0 nc w aK s0 cl ws NB y yr rest W R T)(xs:List aT):m7 m i kr c0 nc w aK s0 cl ws NB y yr (rest++xs) W R T :=
 {h with wf:=h.wf.mono λ_c _w e=>vz e,sR:=vz h.sR,hR:=vz h.hR,hT:=vz h.hT,rw:=h.rw.mono λ_k _x _ e=>vz e }
def Jo(ws:bL)(w:Nat)(W:bL)(c:Nat):bL:=match ky w 0 ws with|some _=>W|none=>W++[c]
theorem zhM{ws:bL}{x w j:Nat}(h:ky x 0 ws=some j):ky x 0 (v5 ws w)=some j:=by
 obtain⟨rs,e⟩:=zhJ (ws:=ws) (w:=w);rw[e];exact Vq h
theorem zej{k d:Nat}{L:List Int}{u:Nat}(h1:nth rest k=some (.cells (L.map A2.ie) 3))(h2:nth rest d=some (.cells (dR m u) 5)):d≠k:=λe=>by
 subst e;rw[h1] at h2;exact absurd (aT.cells.inj (D5 h2)).2 (by decide)
theorem WF.set{k:Nat}{L:List Int}{x:aT}{us cs:bL}(h:WF m rest us cs)(h1:nth rest k=some (.cells (L.map A2.ie) 3)):WF m (rest.set k x) us cs :=
 h.mono λc u e=>by rw[kJ h1,if_neg (zej h1 e),e]
theorem m7.new{c cn j:Nat}(h:m7 m i kr c0 nc w aK s0 cl ws NB y yr rest W R T)(gE:cl[y]?=some c)(Hv:nth rest cn=some (.cells (dR m (aK w y)) 5))(hi:i+1<=(jt ws (aK w) y).length)
  (hj:ky (aK w y) 0 (v5 (jt ws (aK w) y) (aK w y))=some j):m7 m i kr c0 nc w aK s0 cl ws NB (y+1) yr (rest.set (kr+1) (.cells ((T.set c (j:Int)).map A2.ie) 3)) (Jo (jt ws (aK w) y) (aK w y) W cn) R (T.set c (j:Int)):=by
 refine { wf:=WF.set (L:=T) ?_ h.hT,sR:=?_,hR:=?_,Rl:=h.Rl,Rv:=?_,hT:=?_,Tl:=?_,Tv:=?_,rw:=?_,nb:=h.nb }
 ·cases hx:ky (aK w y) 0 (jt ws (aK w) y) with
  | some k=>simp only[jt,v5,Jo,hx];exact h.wf
  | none =>
   simp only[jt,v5,Jo,hx];rw[List.drop_append_of_le_length hi];exact h.wf.snoc Hv
 ·rw[kJ h.hT,if_neg (zej h.hT h.sR),h.sR]
 ·rw[kJ h.hT,if_neg (by omega),h.hR]
 ·intro b hb;obtain⟨j',h1,h2⟩:=h.Rv b hb;exact⟨j',zhM h1,h2⟩
 ·rw[kJ h.hT,if_pos rfl]
 ·rw[bG,h.Tl]
 ·intro d v hv;rw[tC] at hv
  by_cases e:c=d
  ·subst e;rw[if_pos rfl] at hv;split at hv
   ·cases hv;exact .inr ⟨y,HT _,gE,j,rfl,hj⟩
   ·cases hv
  ·rw[if_neg e] at hv;rcases h.Tv d v hv with⟨h1,h2⟩|⟨b,h1,h2,j',h3,h4⟩
   ·refine .inl ⟨h1,λb hb=>?_⟩;rcases eI b y with dg|dg
    ·exact h2 b dg
    ·obtain rfl:b=y:=by omega
     rw[gE];intro e';exact e (D5 e')
   ·exact .inr ⟨b,by omega,h2,j',h3,zhM h4⟩
 ·refine h.rw.mono λk x hk e=>?_;rw[kJ h.hT,if_neg,e];have:=h.nb k hk;omega
theorem m7.old{c:Nat}{v:Int}(h:m7 m i kr c0 nc w aK s0 cl ws NB y yr rest W R T)(gE:cl[y]?=some c)(hv:T[c]?=some v)(h0:¬v<0)(O8:∀b,cl[b]?=some c->aK w b=aK w y) :
  jt ws (aK w) (y+1)=jt ws (aK w) y/\m7 m i kr c0 nc w aK s0 cl ws NB (y+1) yr rest W R T:=by
 rcases h.Tv c v hv with⟨rfl,_⟩|⟨b,h1,h2,j,h3,h4⟩
 ·exact absurd (by decide) h0
 ·have e:jt ws (aK w) (y+1)=jt ws (aK w) y:=by
   rw[O8 b h2] at h4;simp only[jt,v5,h4]
  refine⟨e,{ wf:=by rw[e];exact h.wf,sR:=h.sR,hR:=h.hR,Rl:=h.Rl,Rv:=by rw[e];exact h.Rv,hT:=h.hT,Tl:=h.Tl,Tv:=?_,rw:=h.rw,nb:=h.nb }⟩
  intro d u hu;rw[e];rcases h.Tv d u hu with⟨g1,g2⟩|⟨b',g1,g2,g3⟩
  ·refine .inl ⟨g1,λb' dg=>?_⟩;rcases eI b' y with Sy|Sy
   ·exact g2 b' Sy
   ·obtain rfl:b'=y:=by omega
    rw[gE];intro e';have:c=d:=D5 e';subst this;exact g2 b h1 h2
  ·exact .inr ⟨b',by omega,g2,g3⟩
theorem m7.val{c:Nat}{v:Int}(h:m7 m i kr c0 nc w aK s0 cl ws NB (y+1) yr rest W R T)(gE:cl[y]?=some c)(hv:T[c]?=some v)(O8:∀b,cl[b]?=some c->aK w b=aK w y):∃j:Nat,v=j/\ky (aK w y) 0 (jt ws (aK w) (y+1))=some j:=by
 rcases h.Tv c v hv with⟨_,h2⟩|⟨b,h1,h2,j,h3,h4⟩
 ·exact absurd gE (h2 y (HT _))
 ·rw[O8 b h2] at h4;exact⟨j,h3,h4⟩
theorem m7.row{j:Nat}(h:m7 m i kr c0 nc w aK s0 cl ws NB (y+1) y rest W R T)(hy:y<256)(hj:ky (aK w y) 0 (jt ws (aK w) (y+1))=some j):m7 m i kr c0 nc w aK s0 cl ws NB (y+1) (y+1) (rest.set kr (.cells ((R.set y (j:Int)).map A2.ie) 3)) W (R.set y (j:Int)) T:=by
 refine { wf:=WF.set (L:=R) h.wf h.hR,sR:=?_,hR:=?_,Rl:=?_,Rv:=?_,hT:=?_,Tl:=h.Tl,Tv:=h.Tv,rw:=?_,nb:=h.nb }
 ·rw[kJ h.hR,if_neg (zej h.hR h.sR),h.sR]
 ·rw[kJ h.hR,if_pos rfl]
 ·rw[bG,h.Rl]
 ·intro b hb;rcases eI b y with dg|dg
  ·obtain⟨j',h1,h2⟩:=h.Rv b dg;exact⟨j',h1,by rw[tC,if_neg (by omega)];exact h2⟩
  ·obtain rfl:b=y:=by omega
   exact⟨j,hj,by rw[tC,if_pos rfl,if_pos (by rw[h.Rl];exact hy)]⟩
 ·rw[kJ h.hR,if_neg (by omega),h.hT]
 ·refine h.rw.mono λk x hk e=>?_;rw[kJ h.hR,if_neg,e];have:=h.nb k hk;omega
theorem m7.done(h:m7 m i kr c0 nc w aK s0 cl (zj aK s0 i) NB 256 256 rest W R T)(hw:(zj aK s0 i)[i]?=some w):RW aK s0 rest 0 (i+1) (NB++[kr])/\WF m rest ((zj aK s0 (i+1)).drop (i+1)) W:=by
 have e:zj aK s0 (i+1)=jt (zj aK s0 i) (aK w) 256:=by simp only[zj,hw]
 refine⟨.snoc h.rw h.nb ?_,by rw[e];exact h.wf⟩
 rw[nI,h.hR]
 congr 3
 apply Fa;intro b;rw[wU,hw];simp only;rcases eI b 256 with hb|hb
 ·obtain⟨j,h1,h2⟩:=h.Rv b hb;rw[h2,gj,uG hb];simp only[aS,e,h1,ga]
 ·rw[uF (by rw[h.Rl];exact hb),uF (by rw[gk,Lb];exact hb)]
end
section
set_option pp.deepTerms true
set_option pp.maxSteps 200000
variable{gl:Gl}
structure MM(f:A2.F)(m:Nat)(nx:aN)(bs:List aT)(bm:Nat):Prop where
 mm:m=(f.s.2.length+f.f.2.length) / 8+1
 hs:∀q∈f.s.2,ED q
 ns:f.s.2.length<2 ^ 30
 nf:f.f.2.length<2 ^ 30
 nxl:nx.length=f.s.2.length
 M:nth bs bm=some (.cells (nq f (nx.map λp=>cH m p.1) (xb (th f) 256) (uB (th f) 256)) 204)
 X:∀p∈nx,nth bs p.1=some (.cells (dR m p.2) 5)/\p.2<2 ^ (8 * m)
theorem Sz:qP prog 66=some (.agg [.aG,.aG]):=by kernel_rfl
theorem aaT:qP prog 201=some .aG:=by kernel_rfl
theorem aaU:qP prog 207=some .iX:=by kernel_rfl
theorem SA:z8 prog 207=some 1:=by kernel_rfl
theorem pY:qC prog 66=some true:=by kernel_rfl
theorem mS:z8 prog 66=some 2:=by kernel_rfl
theorem Ns:zD prog 66 0=some 0:=by kernel_rfl
theorem in3:∃i,prog.info? 3=some i/\i.bytes=8:=⟨_,rfl,rfl⟩
theorem SB{b i l c:Nat}(h:i<l):zp prog 27 (.sr b 0 l c) ((i:Nat):Int)=some (.ptr b i):=by
 simp only[zp,EH,uA];rw[if_pos (by omega)]
 simp
theorem zrr{b i:Nat}{l:List Int}(h:i<l.length):wz [] b i 1 ((l.map A2.ie).drop i)=true:=yq λk hk=>by
 obtain rfl:k=0:=by omega
 exact⟨A2.ie l[i],by rw[nC,gj,fQ h];rfl,rfl⟩
theorem SC:∀{k:Nat},(List.replicate k [V.int .i64 0]).flatten=(List.replicate k (0:Int)).map A2.ie
 | 0=>rfl
 | k+1=>by rw[HQ,List.flatten_cons,SC,HQ];rfl
section
variable{cx:Cx}{takes:cg}{dst:fJ}{type:aB}{pos:String}{after:Array Edge}{guard:oP}{env:aC}{H:Hp}{lk:aN}{df:bP}
def Vu(P:aQ)(t:aB)(x:bY)(lo hi:Option bY)(m:bY):bY :=
 match lo,hi,x,m with
 | some lo,some (some (.int k1 h)),some (.sl sz xs o),some (.int _ k)=>if h<=k/\k<=xs.length then yX P t (.sl sz xs o) lo (some (.int k1 h)) else none
 | _,_,_,_=>none
theorem zoC{t:aB}{x m:aX}{lo hi:Option aX}:cx.op takes ⟨dst,.slice t x lo hi (some m),type,pos,after,guard⟩ env H lk df=iF env H lk df (Vu cx.P t (ak env x) (cX env lo) (cX env hi) (ak env m)):=by
 simp only[Cx.op];refine vT ?_;simp only[qZ];unfold Vu;cases cX env lo with
 | none=>rfl
 | some lo =>
  cases cX env hi with
  | none=>rfl
  | some hi =>
   cases ak env x with
   | none=>cases hi with
    | none=>rfl
    | some v=>cases v<;>rfl
   | some v =>
    cases ak env m with
    | none=>cases hi with
     | none=>cases v<;>rfl
     | some u=>cases u<;>cases v<;>rfl
    | some w=>cases hi with
     | none=>cases w<;>cases v<;>rfl
     | some u=>cases u<;>cases w<;>cases v<;>rfl
def SD(P:aQ)(t:aB)(x:Option (V×aC))(lo:Option bY)(H:Hp)(lk:aN)(df:bP):Option (OR×St) :=
 match P.underlying t,x,lo with
 | some (.slice e'),some (.sl sz xs (.yes e),env),some (some (.int _ i))=>match z8 P e' with
  | some n=>match Nat.beq n sz && decide (0<=i) && Nat.ble i.toNat xs.length with
   | true=>some (.val (.sl sz (xs.drop i.toNat) (.yes e)),⟨env,H,lk,df⟩)
   | false=>none
  | none=>none
 | _,_,_=>none
theorem zmX{t:aB}{x:aX}{lo:Option aX}(hf:xy takes x lo none=true):cx.op takes ⟨dst,.slice t x lo none none,type,pos,after,guard⟩ env H lk df=SD cx.P t (take env x) (cX env lo) H lk df:=by
 simp only[Cx.op,hf,Lj,SD];cases cx.P.underlying t with
 | none=>rfl
 | some d =>
  cases d<;>try rfl
  cases take env x with
  | none=>rfl
  | some p =>
   obtain⟨v,e⟩:=p;cases v<;>try rfl
   rename_i sz xs o;cases o<;>try rfl
   cases cX env lo with
   | none=>rfl
   | some l =>
    cases l with
    | none=>rfl
    | some l =>
     cases l<;>try rfl
     simp only;cases z8 cx.P _ with
     | none=>rfl
     | some n =>
      simp only;generalize (Nat.beq n sz && _ && _)=bb;cases bb<;>rfl
end
structure Nt(b most:Nat)(FN:V)(env:aC):Prop where
 len:env.length=107
 e2:nth env 2=some (.int .i64 (most:Nat))
 e3:nth env 3=some (.ptr b 0)
 e6:nth env 6=some (.ptr (b+1) 0)
 e9:nth env 9=some (.ptr (b+2) 0)
 lp:nth env 11=some (.ptr (b+5) 0)
 oA:nth env 12=some (.ptr (b+6) 0)
 E3:nth env 13=some FN
theorem zkS{z:Bool}{n e:Nat}{x:V}{xs:aC}:aW (m6 z n e (x::xs))=.sl n (x::xs) .no:=by cases z<;>rfl
theorem zoD{v:V}{wt:aC}:Vu prog 201 (some (.sl 1 (v::wt) .no)) (some (some (.int .i64 0))) (some (some (.int .i64 1))) (some (.int .i64 1))=some (.sl 1 [v] .no):=by
 have h1:(1:Int)<=1/\(1:Int)<=(((v::wt).length:Nat):Int):=by simp only[aZ];omega
 simp only[Vu,h1,and_self,aF];simp[yX,s_,ke]
theorem zqW{m c:Nat}:zp prog 201 (.sl 1 [cH m c] .no) 0=some (.vp [cH m c]):=by
 simp[zp,s_,cH,V.cells,nth]
theorem ziI{z:Bool}{v:V}{wt env:aC}{H:Hp}{lk:aN}{df:bP}:SD prog 201 (some (m6 z 1 205 (v::wt),env)) (some (some (.int .i64 1))) H lk df=some (.val (m6 true 1 205 wt),⟨env,H,lk,df⟩):=by
 rw[zmP];have hb:Nat.ble 1 (wt.length+1)=true:=K8 (by omega)
 simp[SD,zm,s_,m6,hb]
theorem zkT{cx:Cx}{takes:cg}{dst:fJ}{type:aB}{pos:String}{after:Array Edge}{guard:oP}{env:aC}{H:Hp}{lk:aN}{df:bP}{t:aB}{k:Nat}{lo:aX}(hf:takes.any (Nat.beq (1048576+k))=true):cx.op takes ⟨dst,.slice t (.tmp k) (some lo) none none,type,pos,after,guard⟩ env H lk df=SD cx.P t (take env (.tmp k)) (cX env (some lo)) H lk df:=zmX hf
theorem aaV:prog.underlying 78=some (.slice 5):=by kernel_rfl
theorem zhN{H:Hp}{b o l c:Nat}:qV prog H 27 (.sr b o l c)=some (l:Int):=by simp only[qV,EH]
theorem Nu:mY prog 28 27 1 24:=⟨by kernel_rfl,by kernel_rfl,by kernel_rfl,by decide,by kernel_rfl,by kernel_rfl,by kernel_rfl⟩
theorem zp6{ws W:bL}{x c:Nat}{v:V}{f:Nat->V}(h:f c=v):KO ws x (W.map f) v=(Jo ws x W c).map f:=by
 cases hx:ky x 0 ws with
 | some k=>simp only[KO,Jo,hx]
 | none=>simp only[KO,Jo,hx,List.map_append,a_,bt,h]
theorem vN{cx:Cx}{n:Nat}{Q:Ex->St->Prop}{k:List It}{BR:aC}{H0:Hp}{G9:aN}{P:aC->Hp->Prop}(h:∀env H lk,P env H->go cx n Q k .normal ⟨env,H,lk,[]⟩)(h0:P BR H0):go cx n Q k .normal ⟨BR,H0,G9,[]⟩:=h _ _ _ h0
def zpb(bs:List aT)(aK:Nat->Nat->Nat)(s0:Nat)(lab:Nat->Int)(most:Int)(v:V)(H:Hp):Prop :=
 (∃i NB bl es,0<i/\(zj aK s0 i).length=i/\(jd (zj aK s0 i):Int)<=most/\v=.br [tn (bs.length+7) NB ((zj aK s0 i).map lab),.int .i64 (jd (zj aK s0 i):Nat),.bool true]/\H=⟨bs++bl,es⟩/\RW aK s0 (bs++bl) (bs.length+7) i NB) \/
 (∃i dh bl es z,most<(jd (zj aK s0 i):Int)/\v=.br [tn (bs.length+7) [] dh,.int .i64 z,.bool false]/\H=⟨bs++bl,es⟩)
theorem zel{B:Nat}:∀{l:List Int}{q:Nat},(∀z∈l,z.toNat<B)->q<2 ^ B->wW l q<2 ^ B
 | [],q,_,hq=>hq
 | z::l,q,h,hq=>zel (l:=l) (λz hz=>h z (d_ _ hz)) (JF hq (HO (by decide) (h z (eT ..))))
theorem zem{B:Nat}{rows:List A2.cO}(h:∀row∈rows,∀z∈row.2,z.toNat<B):∀{l:List Int}{q:Nat},q<2 ^ B->qi rows l q<2 ^ B
 | [],q,hq=>hq
 | r::l,q,hq=>by
  refine zem (l:=l) h ?_;refine zel (λz hz=>?_) hq;cases hr:rows[r.toNat]? with
  | none=>rw[hr] at hz;simp at hz
  | some row=>rw[hr] at hz;exact h row (m8 hr) z hz
set_option maxHeartbeats 1000000 in
theorem zen(hg:GS gl){n bm m most:Nat}{f:A2.F}{nx:aN}{act:A2.cO}{bs:List aT}{es:aN}(hn:m+1000<=n)(AV:m<2 ^ 36)(ahd:most<=600)(hM:MM f m nx bs bm)
  (ha:∀r∈act.2,0<=r/\r.toNat<f.f.2.length) (hr:∀row∈f.f.2,row.2.length<n - 2/\row.2.length<2 ^ 60/\∀z∈row.2,0<=z/\z.toNat<f.s.2.length+f.f.2.length) (han:act.2.length<n - 2) (sM:act.2.length<2 ^ 60) :
  ∃v H',zk prog gl (n+1) 74 [.ptr bm 0,A2.iv act,.int .i64 (most:Nat)] ⟨bs,es⟩=some (.ret v,H')/\zpb bs (tj f nx m) (qi f.f.2 act.2 0) (λw=>wm f.s.2.length (wl m w) (-1)) most v H':=by
 obtain⟨aK,uD⟩:∃x,x=tj f nx m:=⟨_,rfl⟩;obtain⟨s0,Er⟩:∃x,x=qi f.f.2 act.2 0:=⟨_,rfl⟩;obtain⟨lab,AH⟩:∃x:Nat->Int,x=λw=>wm f.s.2.length (wl m w) (-1):=⟨_,rfl⟩;rw[<- uD,<- Er,<- AH]
 suffices bK:(go ⟨prog,gl,zk prog gl n,eC⟩ n (Fx prog f74.results.toList λv H1=>zpb bs aK s0 lab most v H1) [.c (f74.body.getD .skip)] .normal ⟨[.ptr bm 0,A2.iv act,.int .i64 (most:Nat)]++List.replicate 104 (.br []),⟨bs,[]⟩,[],[]⟩) by
  obtain⟨v,H1,h0,hp⟩:=zJ (gl:=gl) (f:=74) (bs:=bs) (es:=es) (args:=[.ptr bm 0,A2.iv act,.int .i64 (most:Nat)]) (n:=n) (hg.hk _ _ (by decide)) (λH=>hg.eV _ _ _ _ (by decide)) func74 rfl (by rw[hg.uq];exact bK)
  rcases hp with⟨i,NB,bl,rI,q1,q2,q3,rfl,rfl,q6⟩|⟨i,dh,bl,rI,z,q1,rfl,rfl⟩
  ·obtain⟨k,hk⟩:∃k,k∈NB:=by
    cases NB with
    | nil=>have:=q6.len;simp at this;omega
    | cons k l=>exact⟨k,eT ..⟩
   have SE:zX bs.length es (V.br [tn (bs.length+7) NB ((zj aK s0 i).map lab),.int .i64 (jd (zj aK s0 i):Nat),.bool true]).top ⟨bs++bl,rI⟩=⟨bs++bl,rI++es⟩:=by
    refine vZ ?_;have h1:(fA (bs.length+7) k).top<=aI (NB.map (fA (bs.length+7))):=zn (iH.2 ⟨k,hk,rfl⟩);have h2:(aW (zm 1 27 (NB.map (fA (bs.length+7))))).top=aI (NB.map (fA (bs.length+7))):=by rw[ji,vy]
    simp only[fA,V.top] at h1;simp only[tn,V.top,aI,h2];omega
   exact⟨_,_,h0,.inl ⟨i,NB,bl,_,q1,q2,q3,rfl,SE,q6⟩⟩
  ·have hf:∃bl' iL,zX bs.length es (V.br [tn (bs.length+7) [] dh,.int .i64 z,.bool false]).top ⟨bs++bl,rI⟩=⟨bs++bl',iL⟩:=by
    unfold zX;split
    ·exact⟨[],_,by rw[List.take_left,mT]⟩
    ·exact⟨bl,_,rfl⟩
   obtain⟨bl',iL,hf⟩:=hf;exact⟨_,_,h0,.inr ⟨i,dh,bl',iL,z,q1,rfl,hf⟩⟩
 have Ci:bm<bs.length:=by have:=hM.M;rw[zg] at this;exact(cP.1 this).1
 simp only[f74,ga,zh];refine zi ?_
 simp only[qx,aH,zh,wG,qM,z9,zM,qH,aj,jI,qg,aM,aq,aS,zc,aV,aZ,List.length_nil,nI,aY,bh,bg,zd,bS,bU,List.replicate,qc (v:=.ptr bm 0) rfl,show V.laid (.ptr bm 0)=[.ptr bm 0] from rfl,Sz,zL (show dD (V.agg [.aG,.aG])=true from rfl),V.cells]
 refine zi ?_
 simp only[qx,aH,zh,qM,aM,aq,zc,aV,aZ,List.length_nil,nI,Nat.reduceAdd,aY,bh,bg,bS,bU,Sz,zL (show dD (V.agg [.aG,.aG])=true from rfl),V.cells]
 refine zi ?_;simp only[BA,ak,aq,zc,Nat.reduceAdd,zd,ze,bS,bU,zea,aaU,zL (show dD V.iX=true from rfl),V.cells,zcz]
 have M3:∀env,qo prog 207 ⟨bs++[.cells [.ptr bm 0] 141,.cells [.aG,.aG] 66,.cells [.aG,.aG] 66,.map [],.cells [.iX] 207],[]⟩ [] [] (some (.map (bs.length+3),env)) (some (.ptr (bs.length+4) 0))=some (.skip,⟨env,⟨bs++[.cells [.ptr bm 0] 141,.cells [.aG,.aG] 66,.cells [.aG,.aG] 66,.map [],.cells [.map (bs.length+3)] 207],[]⟩,[],[]⟩):=λenv=>by
  rw[zA SA (cs:=[.iX]) (ty:=207) (Go.Vm.get_at.trans rfl) rfl rfl (by simp) rfl,jT (by simp[V.top])]
  simp only[Hp.set,yk];rfl
 simp only[M3,bx,aq]
 refine zi ?_;simp only[BA,ak,aj,aq,zc,Nat.reduceAdd,zd,ze,bS,bU,U6,zL (show dD (V.int .i64 0)=true from rfl),V.cells]
 have C1:∀env,qo prog 3 ⟨bs++[.cells [.ptr bm 0] 141,.cells [.aG,.aG] 66,.cells [.aG,.aG] 66,.map [],.cells [.map (bs.length+3)] 207,.cells [.int .i64 0] 3],[]⟩ [] [] (some (.int .i64 1,env)) (some (.ptr (bs.length+5) 0))=some (.skip,⟨env,⟨bs++[.cells [.ptr bm 0] 141,.cells [.aG,.aG] 66,.cells [.aG,.aG] 66,.map [],.cells [.map (bs.length+3)] 207,.cells [.int .i64 1] 3],[]⟩,[],[]⟩):=λenv=>by
  rw[zA uA (cs:=[.int .i64 0]) (ty:=3) (Go.Vm.get_at.trans rfl) rfl rfl (by simp) rfl,jT (by simp[V.top])]
  simp only[Hp.set,yk];rfl
 simp only[C1,bx,aq]
 refine zi ?_;simp only[BA,aq,zc,Nat.reduceAdd,bS,bU,aaT,zL (show dD V.aG=true from rfl),V.cells];refine zi ?_
 simp only[BA,az,ak,aq,zd,ze,bS,bU,U5];have F6:bs++[aT.cells [.ptr bm 0] 141,.cells [.aG,.aG] 66,.cells [.aG,.aG] 66,.map [],.cells [.map (bs.length+3)] 207,.cells [.int .i64 1] 3,.cells [.aG] 201]=dZ bs bm m lab [] [] false [] []:=rfl
 rw[F6];have nk:∀c,aW (cH m c)=cH m c:=λ_=>rfl;obtain⟨FN,Vv⟩:∃F,F=V.fn (.func 111) [] [.ptr (bs.length+4) 0,.ptr (bs.length+5) 0,.ptr (bs.length+6) 0,.ptr (bs.length+2) 0,.ptr bs.length 0]:=⟨_,rfl⟩;have SF:aW FN=FN:=by rw[Vv];rfl
 have aaY:∀env t,qE env t (some FN)=some (FN,env):=λ_ _=>by rw[Vv];rfl
 have SG:∀v H,Cx.mI ⟨prog,gl.g,zk prog gl n,eC⟩ FN [v] H=Cx.bD ⟨prog,gl.g,zk prog gl n,eC⟩ 111 [aW v,.ptr (bs.length+4) 0,.ptr (bs.length+5) 0,.ptr (bs.length+6) 0,.ptr (bs.length+2) 0,.ptr bs.length 0] H:=λv H=>by rw[Vv,ZZ rfl];rfl
 rw[<- Vv];simp only[aaY,qg,aM,aq,bS,bU]
 have SH:f.s.2.length<2 ^ 40:=Nat.lt_trans hM.ns (by decide)
 have SI:s0<2 ^ (8 * m):=by
  rw[Er]
  exact zem (λrow bZ z hz=>by
   have:=((hr row bZ).2.2 z hz).2;have:=hM.mm
   omega) (Nat.pow_pos (by decide))
 have aaZ:0<m:=by have:=hM.mm;omega
 have Vw:∀N ws z wait rest,nth (dZ bs bm m lab N ws z wait rest) bm=some (.cells (nq f (nx.map λp=>cH m p.1) (xb (th f) 256) (uB (th f) 256)) 204):=λ_ _ _ _ _=>(zgg Ci).trans hM.M;have Jp:∀N ws z wait rest es,zl prog ⟨dZ bs bm m lab N ws z wait rest,es⟩ gl.g 141 (.ptr bs.length 0)=some (.ptr bm 0):=λ_ _ _ _ _ _=>zu eZ (show Hp.get _ _=_ from KM) rfl
 obtain⟨b7,HF⟩:∃b7,b7=bs.length+7:=⟨_,rfl⟩;obtain⟨n1,rfl⟩:∃n1,n=n1+1+1+1+1:=⟨n - 4,by omega⟩
 have GF:Cx.bD ⟨prog,gl.g,zk prog gl (n1+4),eC⟩ 113 [.ptr bm 0,A2.iv act] ⟨dZ bs bm m lab [] [] false [] [],[]⟩=some (.val (cH m (bs.length+7+0)),⟨dZ bs bm m lab [] [] false [] [.cells (dR m s0) 5],[]⟩):=by
  refine zq func113 rfl ?_;have:=zkL hg (n:=n1+2) (es:=[]) (act:=act) (Nat.lt_trans hM.ns (by decide)) (Nat.lt_trans hM.nf (by decide)) hM.mm ha (λrow bZ=>⟨by have:=(hr row bZ).1;omega,(hr row bZ).2⟩) (by omega) sM (Vw [] [] false [] []) rfl rfl
  rw[B_,O7,<- Er] at this;exact this
 have GG:∀{ws:bL}{w c:Nat}{z:Bool}{wait N:aC}{rest:List aT}{es:aN},wait.length<2 ^ 39->ws.length<2 ^ 39->w<2 ^ (8 * m)->(∀x∈ws,x<2 ^ (8 * m))->nth rest c=some (.cells (dR m w) 5)->aI wait<=bs.length+7+rest.length ->
   ∃iL j,Cx.bD ⟨prog,gl.g,zk prog gl (n1+4),eC⟩ 111 [cH m (bs.length+7+c),.ptr (bs.length+4) 0,.ptr (bs.length+5) 0,.ptr (bs.length+6) 0,.ptr (bs.length+2) 0,.ptr bs.length 0] ⟨dZ bs bm m lab N ws z wait rest,es⟩=some (.val (.int .i64 (j:Nat)),⟨dZ bs bm m lab N (v5 ws w) z (KO ws w wait (cH m (bs.length+7+c))) rest,iL⟩)/\ky w 0 (v5 ws w)=some j:=by
  intro ws w c z wait N rest es q1 q2 q3 q4 q5 q6;obtain⟨iL,j,h1,h2⟩:=zkR hg (z:=z) (n:=n1+3) (es:=es) (N:=N) (by omega) q1 q2 aaZ AV q3 q4 SH hM.M rfl q5 q6
  rw[<- AH] at h1;exact⟨iL,j,zq func111 rfl h1,h2⟩
 obtain⟨rI,j1,hf1,hj1⟩:=GG (ws:=[]) (z:=false) (wait:=[]) (N:=[]) (es:=[]) (c:=0) (rest:=[.cells (dR m s0) 5]) (by simp) (by simp) SI (by simp) rfl (by simp[aI])
 refine zi ?_;simp only[BA,az,ak,aq,aA,Nat.reduceAdd,zd,ze,bS,bU,SF,Jp,A2.bH,GF,yN,wN,nk,SG,hf1]
 refine qd (λk s=>∃i env W z wait rest es NB lk,k+i=700/\s=⟨env,⟨dZ bs bm m lab (NB.map (fA b7)) (zj aK s0 i) z wait rest,es⟩,lk,[]⟩/\Nt bs.length most FN env/\wait=W.map (λc=>cH m (b7+c))/\WF m rest ((zj aK s0 i).drop i) W/\i<=(zj aK s0 i).length/\(jd (zj aK s0 i)<=most\/i=0)/\RW aK s0 rest 0 i NB) 700 (by omega) ?_ ?_
 ·refine⟨0,_,[0],_,_,_,_,[],_,rfl,rfl,⟨rfl,rfl,rfl,rfl,rfl,rfl,rfl,rfl⟩,by rw[HF];rfl,.cons rfl .nil,dU _,.inr rfl,.nil⟩
 clear hf1 hj1 rI j1 GF;rintro k s ⟨i,env,W,z,wait,rest,es,NB,G9,hki,rfl,he,KP,hW,hi,pH,hR⟩;have hlen:=he.len;have Vn:wait.length=(zj aK s0 i).length - i:=by rw[KP,gk,hW.len,List.length_drop]
 have sy:=v6 (aK:=aK) (s0:=s0) i;have gE:=Su sy;have Jq:∀N ws z wait rest es,zl prog ⟨dZ bs bm m lab N ws z wait rest,es⟩ gl.g 201 (.ptr (bs.length+6) 0)=some (m6 z 1 205 wait):=λ_ _ _ _ _ _=>zu iA (show Hp.get _ _=_ from wr (k:=6)) rfl
 have l3:∀N ws z wait rest es,zl prog ⟨dZ bs bm m lab N ws z wait rest,es⟩ gl.g 3 (.ptr (bs.length+5) 0)=some (.int .i64 (jd ws:Nat)):=λ_ _ _ _ _ _=>zu k_ (show Hp.get _ _=_ from wr (k:=5)) rfl;simp only[zh];refine zi ?_
 by_cases GX:i<(zj aK s0 i).length/\jd (zj aK s0 i)<=most
 ·obtain⟨HG,aa0⟩:=GX;have hd:decide ((0:Int)<((wait.length:Nat):Int))=true:=by simp;omega
  have AT:decide (((jd (zj aK s0 i):Nat):Int)<=((most:Nat):Int))=true:=by simp;omega
  simp only[BA,Nat.reduceEqDiff,ak,aj,aq,za,bG,Nat.reduceLT,bz,zd,ze,j5,qj,jm,cA,wK,hlen,he.oA,he.lp,he.e2,Jq,l3,tf,zef s9,w6,Oe,gt_iff_lt,hd,AT];refine .inl ?_
  obtain⟨w,Vx⟩:∃w,(zj aK s0 i)[i]?=some w:=⟨_,fQ HG⟩;have e_:(zj aK s0 i).drop i=w::(zj aK s0 i).drop (i+1):=by
   obtain⟨h1,h2⟩:=cP.1 Vx;rw[E7 h1,h2]
  rw[e_] at hW;obtain⟨c0,W',rfl,sR,L3⟩:∃c0 W',W=c0::W'/\nth rest c0=some (.cells (dR m w) 5)/\WF m rest ((zj aK s0 i).drop (i+1)) W':=by
   cases hW with
   | cons h t=>exact⟨_,_,rfl,h,t⟩
  obtain⟨wt,tR⟩:∃wt,wt=W'.map λc=>cH m (b7+c):=⟨_,rfl⟩;obtain rfl:wait=cH m (b7+c0)::wt:=by rw[KP,tR];rfl
  refine zi ?_;simp only[BA,Nat.reduceEqDiff,ak,aj,aq,aE,za,bG,Nat.reduceLT,bz,hlen,he.oA,Jq,zoC,cX,zkS,zoD,zqW,zo6,nk];have IZ:∀N ws z wait rest,bs.length+6<(dZ bs bm m lab N ws z wait rest).length:=λ_ _ _ _ _=>by rw[O7];omega
  have SJ:∀N ws z wait rest es env,vA prog 201 env ⟨dZ bs bm m lab N ws z wait rest,es⟩ [] [] (some (.ptr (bs.length+6) 0))=some (.val (m6 z 1 205 wait),⟨env,⟨(dZ bs bm m lab N ws z wait rest).set (bs.length+6) (.cells ([m6 z 1 205 wait].set 0 (Hy z 1 wait)) 201),es⟩,E2 z (bs.length+6) 0 wait,[]⟩):=λ_ _ _ _ _ _ _=>zqU iA (wr (k:=6)) rfl
  have SK:∀N ws z wait rest es env,qo prog 201 ⟨(dZ bs bm m lab N ws z wait rest).set (bs.length+6) (.cells ([m6 z 1 205 wait].set 0 (Hy z 1 wait)) 201),es⟩ (E2 z (bs.length+6) 0 wait) [] (some (m6 true 1 205 wt,env)) (some (.ptr (bs.length+6) 0))=some (.skip,⟨env,⟨dZ bs bm m lab N ws true wt rest,vi es (bs.length+6) (m6 true 1 205 wt)⟩,E2 z (bs.length+6) 0 wait,[]⟩):=λ_ _ _ _ _ _ _=>by
   rw[zqV Dd.st (IZ _ _ _ _ _) (by simp) rfl rfl]
   rw[show([m6 _ 1 205 _]:aC).set 0 (m6 true 1 205 wt)=[m6 true 1 205 wt] from rfl,zmT]
  refine wd (tk:=[39,1048615]) (by kernel_rfl) ?_
  simp only[qx,aH,zh,zV,Nat.reduceEqDiff,ak,zM,aj,aM,bx,aq,qk,aF,za,bG,Nat.reduceLT,aF,bz,hlen,he.oA,nk,ze5,SJ,xm (takes:=[39,1048615]) (d:=39) rfl,zkT (takes:=[39,1048615]) (k:=39) rfl,cX,ziI,SK]
  obtain⟨i3,hi3,aa1⟩:=in3;have Bn:∀(k:Nat)(N:aC)(ws:bL)(z:Bool)(wait:aC)(rest:List aT)(es:aN)(tk:cg)(dst:fJ)(ty:aB)(pos:String)(af:Array Edge)(env:aC)(lo:aX),0<k->k<=256->ak env lo=some (.int .i64 (k:Nat)) ->
    Cx.op ⟨prog,gl.g,zk prog gl (n1+4),eC⟩ tk ⟨dst,.makeSlice 27 lo lo,ty,pos,af,none⟩ env ⟨dZ bs bm m lab N ws z wait rest,es⟩ [] []=some (.val (.sr (b7+rest.length) 0 k k),⟨env,⟨dZ bs bm m lab N ws z wait (rest++[.cells ((List.replicate k (0:Int)).map A2.ie) 3]),es⟩,[],[]⟩):=by
   intro k N ws z wait rest es tk dst ty pos af env lo FZ Ee iB;rw[XC (k:=k) EH uA U6 rfl hi3 (by decide) rfl rfl iB iB (by rw[aa1];exact dJ (by omega) (by omega)) (by omega)]
   show some (OR.val (V.sr (dZ bs bm m lab N ws z wait rest).length 0 k k),St.mk env ⟨dZ bs bm m lab N ws z wait rest++[.cells (List.replicate k [V.int .i64 0]).flatten 3],es⟩ [] [])=_;rw[O7,B_,SC,HF]
  have KQ:∀b o l c env t,qE env t (some (.sr b o l c))=some (.sr b o l c,env):=λ_ _ _ _ _ _=>rfl;have pZ:∀b o l c,aW (.sr b o l c)=.sr b o l c:=λ_ _ _ _=>rfl
  refine vN (P:=λenv H=>∃es,H=⟨dZ bs bm m lab (NB.map (fA b7)) (zj aK s0 i) true wt rest,es⟩/\Nt bs.length most FN env/\nth env 14=some (cH m (b7+c0))) ?_ ⟨_,rfl,⟨by simp[hlen],by simp[za,he.e2],by simp[za,he.e3],by simp[za,he.e6],by simp[za,he.e9],by simp[za,he.lp],by simp[za,he.oA],by simp[za,he.E3]⟩,by simp[za,hlen]⟩
  clear he hlen es env;rintro env H lk ⟨es,rfl,he,s7⟩;have hlen:=he.len;refine zi ?_;rw[qx,Bn 256 _ _ _ _ _ _ _ _ _ _ _ _ _ (by decide) (by decide) rfl]
  obtain⟨R0,hR0⟩:∃R0:List Int,R0=List.replicate 256 0:=⟨_,rfl⟩;rw[<- hR0];simp only[BA,aq,za,Nat.reduceLT,hlen,KQ];obtain⟨KR,tu⟩:∃r,r=rest++[aT.cells (R0.map A2.ie) 3]:=⟨_,rfl⟩;rw[<- tu]
  have hLD:∀N ws z wait rest es,zl prog ⟨dZ bs bm m lab N ws z wait rest,es⟩ gl.g 78 (.ptr bm 261)=some (uB (th f) 256):=λ_ _ _ _ _ _=>zu DW (show Hp.get _ _=_ from Vw _ _ _ _ _) (zmM (Vk (dB _)));obtain⟨nc,Ac,hnp,aa2⟩:∃nc,nc=Sw f/\0<nc/\nc<=256:=⟨_,rfl,zoy,zp5⟩;have aa3:∀H,qV prog H 78 (aW (uB (th f) 256))=some ((nc:Nat):Int):=λH=>by
   rw[uB,Uo aaV,gk,Ac];rfl
  have aa4:aW (aW (uB (th f) 256))=aW (uB (th f) 256):=qS;have SL:aa (V.ptr bm 0)=some (.ptr bm 0):=rfl;refine zi ?_;simp only[BA,Nat.reduceEqDiff,ak,aq,aa,ah,za,bG,Nat.reduceLT,bz,hlen,he.e3,Jp,DO,hLD,aa4,aa3]
  rw[Bn nc _ _ _ _ _ _ _ _ _ _ _ _ _ hnp aa2 (by simp[ak,za,hlen,aW])]
  simp only[BA,Nat.reduceEqDiff,aq,za,bG,Nat.reduceLT,bz,hlen,KQ];obtain⟨T0,hT0⟩:∃T0:List Int,T0=List.replicate (nc) 0:=⟨_,rfl⟩;rw[<- hT0];obtain⟨u0,n8⟩:∃r,r=KR++[aT.cells (T0.map A2.ie) 3]:=⟨_,rfl⟩;rw[<- n8]
  obtain⟨kr,Lv⟩:∃k,k=rest.length:=⟨_,rfl⟩;have tJ:KR.length=kr+1:=by rw[tu,Lv];simp
  rw[<- Lv,tJ];have SM:nth u0 (kr+1)=some (.cells (T0.map A2.ie) 3):=by
   rw[n8,zg,eM (by omega),tJ];simp
  have SN:nth u0 kr=some (.cells (R0.map A2.ie) 3):=by
   rw[n8,zg,fI (by omega),tu,eM (by omega),Lv];simp
  have L0:∀d,d<kr->nth u0 d=nth rest d:=λd hd=>by
   rw[n8,zg,zg,fI (by omega),tu,fI (by omega)]
  clear tu n8;have SO:∀{N:aC}{ws:bL}{z:Bool}{wait:aC}{rest:List aT}{es:aN}{k j:Nat}{L:List Int}{v:Int},nth rest k=some (.cells (L.map A2.ie) 3)->L[j]?=some v->zl prog ⟨dZ bs bm m lab N ws z wait rest,es⟩ gl.g 3 (.ptr (b7+k) j)=some (.int .i64 v):=by
   intro N ws z wait rest es k j L v h1 h2;have rZ:Hp.get ⟨dZ bs bm m lab N ws z wait rest,es⟩ (b7+k)=some (.cells (L.map A2.ie) 3):=by
    show nth _ _=_;rw[HF,B9,h1]
   exact zu k_ rZ (show nth (L.map A2.ie) j=_ by rw[zg,gj,h2];rfl)
  have Nv:∀{N:aC}{ws:bL}{z:Bool}{wait:aC}{rest:List aT}{es:aN}{k j:Nat}{L:List Int}{v:Int}{env:aC},nth rest k=some (.cells (L.map A2.ie) 3)->j<L.length->qo prog 3 ⟨dZ bs bm m lab N ws z wait rest,es⟩ [] [] (some (.int .i64 v,env)) (some (.ptr (b7+k) j))=some (.skip,⟨env,⟨dZ bs bm m lab N ws z wait (rest.set k (.cells ((L.set j v).map A2.ie) 3)),es⟩,[],[]⟩):=by
   intro N ws z wait rest es k j L v env h1 h2;have rZ:Hp.get ⟨dZ bs bm m lab N ws z wait rest,es⟩ (b7+k)=some (.cells (L.map A2.ie) 3):=by
    show nth _ _=_;rw[HF,B9,h1]
   rw[zA uA rZ rfl rfl (by rw[gk];omega) (zrr h2),jT (by simp[V.top])]
   show some (OR.skip,St.mk env ⟨(dZ bs bm m lab N ws z wait rest).set (b7+k) _,es⟩ [] [])=_;rw[HF,zmS];simp only[V.laid,Vm.storeCells,List.map_set];rfl
  have sg:∀{rest:List aT}{k d:Nat}{x y:aT},nth rest k=some x->nth (rest.set k y) d=if d=k then some y else nth rest d:=by
   intro rest k d x y h1;have hk:k<rest.length:=by rw[zg] at h1;exact(cP.1 h1).1
   rw[zg,zg,tC]
   by_cases e:k=d
   ·subst e;simp[hk]
   ·rw[if_neg e,if_neg (λe'=>e e'.symm)]
  refine vN (P:=λenv H=>∃es,H=⟨dZ bs bm m lab (NB.map (fA b7)) (zj aK s0 i) true wt u0,es⟩/\Nt bs.length most FN env/\nth env 14=some (cH m (b7+c0))/\nth env 15=some (.sr (b7+kr) 0 256 256)/\nth env 16=some (.sr (b7+(kr+1)) 0 (nc) (nc))) ?_ ⟨_,rfl,⟨by simp[hlen],by simp[za,he.e2],by simp[za,he.e3],by simp[za,he.e6],by simp[za,he.e9],by simp[za,he.lp],by simp[za,he.oA],by simp[za,he.E3]⟩,by simp[za,s7],by simp[za,hlen],by simp[za,hlen]⟩
  clear he hlen es env s7;rintro env H lk ⟨es,rfl,he,s7,uy,u6⟩;have hlen:=he.len;refine zi ?_;simp only[BA,ak,aj,aq,za,Nat.reduceLT,hlen,u6,pZ,zhN]
  refine qd (λk2 s=>∃(j:Nat)(env:aC)(p8:List aT)(T:List Int),k2+j=nc/\s=⟨env,⟨dZ bs bm m lab (NB.map (fA b7)) (zj aK s0 i) true wt p8,es⟩,[],[]⟩/\Nt bs.length most FN env/\nth env 14=some (cH m (b7+c0))/\nth env 15=some (.sr (b7+kr) 0 256 256)/\nth env 16=some (.sr (b7+(kr+1)) 0 (nc) (nc))/\nth env 48=some (.sr (b7+(kr+1)) 0 (nc) (nc))/\nth env 49=some (.int .i64 (nc:Nat))/\nth env 50=some (.int .i64 (j:Nat))/\nth p8 (kr+1)=some (.cells (T.map A2.ie) 3)/\(∀d,d<kr+1->nth p8 d=nth u0 d)/\T.length=nc/\∀c,c<j->T[c]?=some (-1)) (nc) (by omega) ?_ ?_
  ·refine⟨0,_,u0,T0,rfl,rfl,⟨by simp[hlen],by simp[za,he.e2],by simp[za,he.e3],by simp[za,he.e6],by simp[za,he.e9],by simp[za,he.lp],by simp[za,he.oA],by simp[za,he.E3]⟩,by simp[za,s7],by simp[za,uy],by simp[za,u6],by simp[za,hlen],by simp[za,hlen],by simp[za,hlen],SM,λ_ _=>rfl,by rw[hT0,List.length_replicate],λc hc=>by omega⟩
  clear he hlen env s7 uy u6;rintro k2 s ⟨j,env,p8,T,eV,rfl,he,s7,uy,u6,KS,Jr,E4,hT,Vy,hTl,hTn⟩;have hlen:=he.len;simp only[zh];refine zi ?_;simp only[BA,ak,aq,za,Nat.reduceLT,hlen,Jr,E4,qT]
  by_cases hj:j<nc
  ·refine .inl ⟨by simp;omega,?_⟩
   refine zi ?_;simp only[BA,Nat.reduceEqDiff,ak,aq,za,bG,Nat.reduceLT,bz,hlen,E4];refine zi ?_
   simp only[BA,Nat.reduceEqDiff,ak,aj,aq,aE,za,bG,Nat.reduceLT,bz,hlen,u6,pZ,SB hj,Nv hT (show j<T.length by omega)]
   refine zi ?_;simp only[BA,Nat.reduceEqDiff,ak,aj,aq,za,bG,Nat.reduceLT,bz,hlen,E4,zQ (show j<2 ^ 60 by omega),zr,aO]
   refine⟨nc - 1 - j,by omega,j+1,_,_,T.set j (-1),by omega,rfl,⟨by simp[hlen],by simp[za,he.e2],by simp[za,he.e3],by simp[za,he.e6],by simp[za,he.e9],by simp[za,he.lp],by simp[za,he.oA],by simp[za,he.E3]⟩,by simp[za,s7],by simp[za,uy],by simp[za,u6],by simp[za,KS],by simp[za,Jr],by simp[za,hlen],by rw[sg hT,if_pos rfl],λd hd=>by rw[sg hT,if_neg (by omega)];exact Vy d hd,by rw[bG];exact hTl,λc hc=>?_⟩
   rw[tC]
   by_cases e:j=c
   ·subst e;simp[show j<T.length by omega]
   ·rw[if_neg e];exact hTn c (by omega)
  ·obtain rfl:nc=j:=by omega
   refine .inr ⟨by simp,?_⟩
   simp only[ql,zO,zG,zr,bJ,zh,lu,aF]
   have SP:∀k∈NB,k<kr:=λk hk=>by have:=hR.lt k hk;omega
   have Nw:∀d,d<kr->nth p8 d=nth rest d:=λd hd=>(Vy d (by omega)).trans (L0 d hd)
   have bR:∀{c u},nth rest c=some (.cells (dR m u) 5)->nth p8 c=some (.cells (dR m u) 5):=λ{c u} h=>by
    have:c<kr:=by rw[Lv];rw[zg] at h;exact(cP.1 h).1
    rw[Nw c this,h]
   have hI0:m7 m i kr c0 nc w aK s0 (HE f) (zj aK s0 i) NB 0 0 p8 W' R0 T :=
    {wf:=L3.mono λc u h=>bR h,sR:=bR sR,hR:=(Vy kr (by omega)).trans SN,Rl:=by rw[hR0,List.length_replicate],Rv:=λb hb=>by omega,hT:=hT,Tl:=hTl
     Tv:=λc v hv=>.inl ⟨by
      have hc:c<T.length:=(cP.1 hv).1;rw[hTn c (by omega)] at hv
      exact(D5 hv).symm,λb hb=>by omega⟩
     rw:=hR.mono λk x hk h=>by rw[nI] at h ⊢;rw[Nw k (SP k hk),h]
     nb:=SP }
   refine zi ?_;simp only[BA,Nat.reduceEqDiff,ak,aj,aq,za,bG,Nat.reduceLT,bz,hlen,uy,pZ,zhN]
   refine qd (λk3 s=>∃(y:Nat)(env:aC)(gy:List aT)(W2:bL)(R2 T2:List Int)(es:aN),k3+y=256/\s=⟨env,⟨dZ bs bm m lab (NB.map (fA b7)) (jt (zj aK s0 i) (aK w) y) true (W2.map λc=>cH m (b7+c)) gy,es⟩,[],[]⟩/\Nt bs.length most FN env/\nth env 14=some (cH m (b7+c0))/\nth env 15=some (.sr (b7+kr) 0 256 256)/\nth env 16=some (.sr (b7+(kr+1)) 0 nc nc)/\nth env 58=some (.int .i64 ((256:Nat):Int))/\nth env 59=some (.int .i64 (y:Nat))/\jd (jt (zj aK s0 i) (aK w) y)<=most/\m7 m i kr c0 nc w aK s0 (HE f) (zj aK s0 i) NB y y gy W2 R2 T2) 256 (by omega) ?_ ?_
   ·exact⟨0,_,p8,W',R0,T,_,rfl,by rw[tR];rfl,⟨by simp[hlen],by simp[za,he.e2],by simp[za,he.e3],by simp[za,he.e6],by simp[za,he.e9],by simp[za,he.lp],by simp[za,he.oA],by simp[za,he.E3]⟩,by simp[za,s7],by simp[za,uy],by simp[za,u6],by simp[za,hlen],by simp[za,hlen],aa0,hI0⟩
   clear he hlen env s7 uy u6 KS Jr E4 hI0 hT Vy Nw hTl hTn bR T p8 SM SN L0 hT0 sR L3;rintro k3 s ⟨y,env,gy,W2,R2,T2,es,C3,rfl,he,s7,uy,u6,uC,Nx,oe,hI⟩;have hlen:=he.len;simp only[zh];refine zi ?_
   simp only[BA,ak,aq,za,Nat.reduceLT,hlen,uC,Nx,qT]
   by_cases hy:y<256
   ·refine .inl ⟨by simp;omega,?_⟩
    obtain⟨c,hc⟩:∃c,(HE f)[y]?=some c:=⟨_,fQ (by rw[zjR];exact hy)⟩
    have Hv:c<nc:=by rw[Ac];exact zmV hc
    obtain⟨v,hv⟩:∃v,T2[c]?=some v:=⟨_,fQ (by rw[hI.Tl];exact Hv)⟩
    have O8:∀b,(HE f)[b]?=some c->aK w b=aK w y:=λb hb=>by rw[uD];exact zoz hb hc
    have FQ:∀N ws z wait rest es,zl prog ⟨dZ bs bm m lab N ws z wait rest,es⟩ gl.g 3 (.ptr bm (5+y))=some (.int .i64 (c:Nat)):=λN ws z wait rest es=>by
     refine zu k_ (cs:=nq f (nx.map λp:Nat×Nat=>cH m p.1) (xb (th f) 256) (uB (th f) 256)) (ty:=204) (show Hp.get ⟨dZ bs bm m lab N ws z wait rest,es⟩ bm=_ from Vw _ _ _ _ _) ?_;rw[zg,zjQ (by rw[Vk (dB _)];exact hy)]
     rw[xb,fI (by rw[gk];exact(cP.1 hc).1),gj]
     rw[show(fP (th f) 256).2.1[y]?=some c from hc];rfl
    refine zi ?_;simp only[BA,Nat.reduceEqDiff,ak,aq,za,bG,Nat.reduceLT,bz,hlen,Nx];refine zi ?_
    simp only[BA,Nat.reduceEqDiff,ak,aq,aa,ah,aE,za,bG,Nat.reduceLT,bz,hlen,he.e3,Jp,AF,ziC hy,FQ];refine zi ?_
    simp only[BA,Nat.reduceEqDiff,ak,aj,aq,aE,za,bG,Nat.reduceLT,bz,hlen,u6,pZ,SB Hv,SO hI.hT hv,qT]
    let PP:aC->Hp->Prop:=λenv H=>∃(p9:List aT)(W3:bL)(T3:List Int)(es:aN),H=⟨dZ bs bm m lab (NB.map (fA b7)) (jt (zj aK s0 i) (aK w) (y+1)) true (W3.map λc=>cH m (b7+c)) p9,es⟩/\Nt bs.length most FN env/\nth env 14=some (cH m (b7+c0))/\nth env 15=some (.sr (b7+kr) 0 256 256)/\nth env 16=some (.sr (b7+(kr+1)) 0 nc nc)/\nth env 18=some (.int .i64 (y:Nat))/\nth env 19=some (.int .i64 (c:Nat))/\nth env 58=some (.int .i64 ((256:Nat):Int))/\nth env 59=some (.int .i64 (y:Nat))/\jd (jt (zj aK s0 i) (aK w) (y+1))<=most/\m7 m i kr c0 nc w aK s0 (HE f) (zj aK s0 i) NB (y+1) y p9 W3 R2 T3
    have aa8:aK w y<2 ^ (8 * m):=by rw[uD];exact ziH λp hp=>(hM.X p hp).2
    have aa9:∀x∈jt (zj aK s0 i) (aK w) y,x<2 ^ (8 * m):=zgh (zei SI (λw y=>by rw[uD];exact ziH λp hp=>(hM.X p hp).2) i) (λy=>by rw[uD];exact ziH λp hp=>(hM.X p hp).2) y
    have Ny:v<0\/¬v<0:=Decidable.em _;rcases Ny with Ny|Ny
    rotate_left
    obtain⟨M4,hI1⟩:=hI.old hc hv Ny O8;refine .inr ⟨by simpa using Ny,?_⟩
    try simp only[bB]
    refine vN (P:=PP) ?_ ⟨gy,W2,T2,_,by rw[M4],⟨by simp[hlen],by simp[za,he.e2],by simp[za,he.e3],by simp[za,he.e6],by simp[za,he.e9],by simp[za,he.lp],by simp[za,he.oA],by simp[za,he.E3]⟩,by simp[za,s7],by simp[za,uy],by simp[za,u6],by simp[za,hlen],by simp[za,hlen],by simp[za,uC],by simp[za,Nx],by rw[M4];exact oe,hI1⟩
    rotate_left
    refine .inl ⟨by simpa using Ny,?_⟩
    obtain⟨X4,hX4⟩:∃X4:List aT,X4=[.cells [.ptr bm 0] 141,.cells [.int .u8 (y:Nat)] 5,.cells (dR m (aK w y)) 5,.cells [cH m (b7+gy.length+2)] 205]:=⟨_,rfl⟩;have Vz:=hI.app X4;obtain⟨p9,De⟩:∃r,r=gy++X4:=⟨_,rfl⟩;rw[<- De] at Vz;have SQ:nth p9 (gy.length+2)=some (.cells (dR m (aK w y)) 5):=by
     rw[De,hX4,zg,eM (by omega),E8];rfl
    have Nz:∀es,Cx.bD ⟨prog,gl.g,zk prog gl (n1+4),eC⟩ 114 [.ptr bm 0,cH m (b7+c0),.int .u8 (y:Nat)] ⟨dZ bs bm m lab (NB.map (fA b7)) (jt (zj aK s0 i) (aK w) y) true (W2.map λc=>cH m (b7+c)) gy,es⟩=some (.val (cH m (b7+(gy.length+2))),⟨dZ bs bm m lab (NB.map (fA b7)) (jt (zj aK s0 i) (aK w) y) true (W2.map λc=>cH m (b7+c)) p9,es⟩):=λes=>by
     refine zq func114 rfl ?_
     have:=zkJ hg (n:=n1) (bm:=bm) (b:=b7+c0) (m:=m) (w:=w) (y:=y) (f:=f) (nx:=nx) (es:=es) AV (by omega) (by omega) hy hM.hs (Nat.lt_trans hM.ns (by decide)) (Nat.lt_trans hM.nf (by decide)) hM.mm hM.nxl (Vw (NB.map (fA b7)) (jt (zj aK s0 i) (aK w) y) true (W2.map λc=>cH m (b7+c)) gy) rfl rfl rfl (λp hp=>by
      obtain⟨h1,h2⟩:=hM.X p hp;refine⟨?_,h2⟩;have bR:p.1<bs.length:=by rw[zg] at h1;exact(cP.1 h1).1
      rw[zgg bR,h1]) (by rw[HF,B9,hI.sR])
     rw[this,zow,O7,De,hX4,uD,HF,oO];rfl
    obtain⟨EA,j6,MG,hj6⟩:=GG (ws:=jt (zj aK s0 i) (aK w) y) (w:=aK w y) (c:=gy.length+2) (z:=true) (wait:=W2.map λc=>cH m (b7+c)) (N:=NB.map (fA b7)) (rest:=p9) (es:=es) (by
     rw[gk,hI.wf.len,List.length_drop];have:=Su (xM (g:=aK w) sy y);omega) (by
     have:=Su (xM (g:=aK w) sy y);omega) aa8 aa9 SQ (qq λv hv=>by
      obtain⟨d,hd,rfl⟩:=iH.1 hv;have:=Vz.wf.lt d hd
      simp only[cH,V.top];omega)
    have hwN:KO (jt (zj aK s0 i) (aK w) y) (aK w y) (W2.map λc=>cH m (b7+c)) (cH m (bs.length+7+(gy.length+2)))=(Jo (jt (zj aK s0 i) (aK w) y) (aK w y) W2 (gy.length+2)).map λc=>cH m (b7+c):=by
     rw[HF];exact zp6 rfl
    rw[hwN,<- HF] at MG;have gH:i+1<=(jt (zj aK s0 i) (aK w) y).length:=by
     obtain⟨rs,e⟩:=ze6 (ws:=zj aK s0 i) (g:=aK w) y;rw[e,aV];omega
    have hI6:=Vz.new hc SQ gH hj6;have hcT:c<T2.length:=by rw[hI.Tl];exact Hv
    refine zi ?_;simp only[BA,Nat.reduceEqDiff,az,ak,aq,aE,aA,Nat.reduceAdd,za,bG,Nat.reduceLT,bz,hlen,u6,s7,he.e3,he.E3,pZ,nk,SF,Jp,vU (a:=3) (b:=5) (hm:=rfl),show eC (vg 3)=false from rfl,ziD hy,Nz,yN,wN,SG,MG,SB Hv,Nv Vz.hT hcT]
    have aa_:v5 (jt (zj aK s0 i) (aK w) y) (aK w y)=jt (zj aK s0 i) (aK w) (y+1):=rfl;rw[aa_];have GH:zj aK s0 (i+1)=jt (zj aK s0 i) (aK w) 256:=by simp only[zj,Vx]
    refine zi ?_;simp only[BA,Nat.reduceEqDiff,ak,aq,za,bG,Nat.reduceLT,bz,hlen,he.lp,he.e2,l3,w6,gt_iff_lt];rcases Decidable.em (most<jd (jt (zj aK s0 i) (aK w) (y+1))) with YY|YY
    ·refine .inl ⟨by simp;omega,?_⟩
     have DY:∀N ws z wait rest es env,qo prog 66 ⟨dZ bs bm m lab N ws z wait rest,es⟩ [] [] (some (.agg [.aG,.aG],env)) (some (.ptr (bs.length+1) 0))=some (.skip,⟨env,⟨dZ bs bm m lab N ws z wait rest,es⟩,[],[]⟩):=λN ws z wait rest es env=>by
      have rZ:Hp.get ⟨dZ bs bm m lab N ws z wait rest,es⟩ (bs.length+1)=some (.cells [.aG,.aG] 66):=wr (k:=1);rw[zA mS rZ rfl rfl (by simp) rfl,jT (by simp[V.top,aI])]
      show some (OR.skip,St.mk env ⟨(dZ bs bm m lab N ws z wait rest).set (bs.length+1) (.cells [.aG,.aG] 66),es⟩ [] [])=_;rw[jY rZ]
     have Js:∀N ws z wait rest es,zl prog ⟨dZ bs bm m lab N ws z wait rest,es⟩ (λ_ _=>none) 66 (.ptr (bs.length+1) 0)=some (.agg [.aG,.aG]):=λN ws z wait rest es=>by
      have rZ:Hp.get ⟨dZ bs bm m lab N ws z wait rest,es⟩ (bs.length+1)=some (.cells [.aG,.aG] 66):=wr (k:=1);rw[jW,rZ,jy,qu,pY,mS];rfl
     have aa':∀env,kB prog 66 #[] env=some (.agg [.aG,.aG]):=λenv=>by kernel_rfl
     refine wH (tk:=[]) (by kernel_rfl) ?_
     apply Exists.intro;apply And.intro;refine qy (m:=0) (v:=.agg [.aG,.aG]) (by kernel_rfl) rfl (by simp only[BA,aa'];rfl) (by kernel_rfl) (by kernel_rfl) (by kernel_rfl) ?_
     dsimp only[aq]
     refine kn (m:=0) (v:=.int .i64 (jd (jt (zj aK s0 i) (aK w) (y+1)):Nat)) (by kernel_rfl) rfl (by simp only[BA,Nat.reduceEqDiff,ak,za,bG,Nat.reduceLT,bz,hlen,he.lp,l3];rfl) (by kernel_rfl) (by kernel_rfl) (by kernel_rfl) (by kernel_rfl) ?_
     dsimp only[aq]
     refine vd (m:=1) (cs':=[⟨4,⟨dZ bs bm m lab (NB.map (fA b7)) (jt (zj aK s0 i) (aK w) (y+1)) true ((Jo (jt (zj aK s0 i) (aK w) y) (aK w y) W2 (gy.length+2)).map λc=>cH m (b7+c)) (p9.set (kr+1) (aT.cells (List.map A2.ie (T2.set c (j6:Int))) 3)),EA⟩,[],[]⟩,⟨0,⟨dZ bs bm m lab (NB.map (fA b7)) (jt (zj aK s0 i) (aK w) (y+1)) true ((Jo (jt (zj aK s0 i) (aK w) y) (aK w y) W2 (gy.length+2)).map λc=>cH m (b7+c)) (p9.set (kr+1) (aT.cells (List.map A2.ie (T2.set c (j6:Int))) 3)),EA⟩,[],[]⟩]) (by kernel_rfl) rfl (by simp only[BA,Nat.reduceEqDiff,ak,za,bG,Nat.reduceLT,bz,hlen,he.e6,DY];rfl) (by kernel_rfl) (by kernel_rfl) (λK=>?_) ?_
     rotate_left
     dsimp only[aq]
     refine qy (m:=7) (v:=.int .i64 (jd (jt (zj aK s0 i) (aK w) (y+1)):Nat)) (by kernel_rfl) rfl (by simp only[BA,Nat.reduceEqDiff,za,bG,Nat.reduceLT,bz,hlen];rfl) (by kernel_rfl) (by kernel_rfl) (by kernel_rfl) ?_
     dsimp only[aq]
     refine qy (m:=15) (v:=.bool false) (by kernel_rfl) rfl (by simp only[BA,aj];rfl) (by kernel_rfl) (by kernel_rfl) (by kernel_rfl) wI
     ·simp only[aq];simp only[go_ret,zr,Fx,wi,wo,mu]
      refine⟨trivial,[.agg [.aG,.aG],.int .i64 (jd (jt (zj aK s0 i) (aK w) (y+1)):Nat),.bool false],?_,.inr ⟨i+1,[],_,_,_,?_,rfl,rfl⟩⟩
      ·simp only[zy,za,bG,hlen,Nat.reduceLT,Nat.reduceEqDiff,aF,bz,he.e6,Js,qU]
      ·rw[GH];obtain⟨rs,e⟩:=Vs (ws:=zj aK s0 i) (g:=aK w) (y:=y+1) (256 - (y+1));rw[show y+1+(256 - (y+1))=256 by omega] at e
       have:=zhL (ws:=jt (zj aK s0 i) (aK w) (y+1)) (rs:=rs);rw[e];omega
     ·refine j9 ?_ ?_ ?_ ?_
      ·kernel_rfl
      ·rfl
      ·intro c hc;cases hc
      ·unfold Cx.fR;refine wc λq hq=>?_;simp only[dN,Cc,Bc] at hq;rcases hq with rfl|rfl
       ·split
        ·rfl
        ·split
         next h=>cases h
         ·refine O6 ?_;exact i_ (by simp only[BA,Nat.reduceEqDiff,ak,za,bG,Nat.reduceLT,bz,jr,hlen,he.lp,l3];rfl)
       ·kernel_rfl
    refine .inr ⟨by simp;omega,?_⟩
    try simp only[bB]
    refine vN (P:=PP) ?_ ⟨_,_,_,_,rfl,⟨by simp[hlen],by simp[za,he.e2],by simp[za,he.e3],by simp[za,he.e6],by simp[za,he.e9],by simp[za,he.lp],by simp[za,he.oA],by simp[za,he.E3]⟩,by simp[za,s7],by simp[za,uy],by simp[za,u6],by simp[za,hlen],by simp[za,hlen],by simp[za,uC],by simp[za,Nx],by omega,hI6⟩
    all_goals
     clear hI hv Ny s7 uy u6 uC Nx hlen he oe;rintro env H lk ⟨p9,W3,T3,es,rfl,he,s7,uy,u6,e18,e19,uC,Nx,oe,hI⟩;have hlen:=he.len;obtain⟨v,hv⟩:∃v,T3[c]?=some v:=⟨_,fQ (by rw[hI.Tl];exact Hv)⟩
     obtain⟨j7,rfl,hj7⟩:=hI.val hc hv O8;have hyR:y<R2.length:=by rw[hI.Rl];exact hy
     refine zi ?_;simp only[BA,Nat.reduceEqDiff,ak,aq,aE,za,bG,Nat.reduceLT,bz,hlen,uy,u6,e18,e19,pZ,SB Hv,SB hy,SO hI.hT hv,Nv hI.hR hyR];refine zi ?_
     simp only[BA,Nat.reduceEqDiff,ak,aj,aq,za,bG,Nat.reduceLT,bz,Nx,hlen,zQ (show y<2 ^ 60 by omega),zr,aO]
     exact⟨255 - y,by omega,y+1,_,_,W3,_,T3,_,by omega,rfl,⟨by simp[hlen],by simp[za,he.e2],by simp[za,he.e3],by simp[za,he.e6],by simp[za,he.e9],by simp[za,he.lp],by simp[za,he.oA],by simp[za,he.E3]⟩,by simp[za,s7],by simp[za,uy],by simp[za,u6],by simp[za,uC],by simp[za,hlen],oe,hI.row hy hj7⟩
   ·obtain rfl:256=y:=by have:=C3;omega
    refine .inr ⟨by simp,?_⟩
    simp only[ql,zO,zG,zr,bJ,lu,aF]
    obtain⟨VB,hWF⟩:=hI.done Vx;have GH:zj aK s0 (i+1)=jt (zj aK s0 i) (aK w) 256:=by simp only[zj,Vx]
    rw[<- GH] at oe ⊢;have RF:(NB.map (fA b7)).length=i:=by rw[gk,hR.len]
    have SS:∀N ws z wait rest,bs.length+2<(dZ bs bm m lab N ws z wait rest).length:=λ_ _ _ _ _=>by rw[O7];omega
    have FX:∀env,vA prog 28 env ⟨dZ bs bm m lab (NB.map (fA b7)) (zj aK s0 (i+1)) true (W2.map λc=>cH m (b7+c)) gy,es⟩ [] [] (some (.ptr (bs.length+2) 0))=some (.val (zm 1 27 (NB.map (fA b7))),⟨env,⟨(dZ bs bm m lab (NB.map (fA b7)) (zj aK s0 (i+1)) true (W2.map λc=>cH m (b7+c)) gy).set (bs.length+2) (.cells ([zm 1 27 (NB.map (fA b7)),zm 1 3 ((zj aK s0 (i+1)).map λw=>A2.ie (lab w))].set 0 (oJ 1 (NB.map (fA b7)))) 66),es⟩,kG (bs.length+2) 0 (NB.map (fA b7)),[]⟩):=λenv=>Sg oK (wr (k:=2)) rfl
    have l_:=Nu.Ck (v:=.sr (b7+kr) 0 256 256) rfl rfl;have fH:∀H,kf prog H 28 (zm 1 27 (NB.map (fA b7))) (.sl 1 [.sr (b7+kr) 0 256 256] .no)=some (zm 1 27 (NB.map (fA b7)++[.sr (b7+kr) 0 256 256])):=λH=>jE Nu (by simp) (dJ (by rw[RF];simp;omega) (by rw[RF];simp;omega))
    have SU:∀env,qo prog 28 ⟨(dZ bs bm m lab (NB.map (fA b7)) (zj aK s0 (i+1)) true (W2.map λc=>cH m (b7+c)) gy).set (bs.length+2) (.cells ([zm 1 27 (NB.map (fA b7)),zm 1 3 ((zj aK s0 (i+1)).map λw=>A2.ie (lab w))].set 0 (oJ 1 (NB.map (fA b7)))) 66),es⟩ (kG (bs.length+2) 0 (NB.map (fA b7))) [] (some (zm 1 27 (NB.map (fA b7)++[.sr (b7+kr) 0 256 256]),env)) (some (.ptr (bs.length+2) 0))=some (.skip,⟨env,⟨dZ bs bm m lab ((NB++[kr]).map (fA b7)) (zj aK s0 (i+1)) true (W2.map λc=>cH m (b7+c)) gy,vi es (bs.length+2) (zm 1 27 (NB.map (fA b7)++[.sr (b7+kr) 0 256 256]))⟩,kG (bs.length+2) 0 (NB.map (fA b7)),[]⟩):=λenv=>by
     rw[Vh Nu.st (SS _ _ _ _ _) (by simp)]
     rw[show([zm 1 27 (NB.map (fA b7)),zm 1 3 ((zj aK s0 (i+1)).map λw=>A2.ie (lab w))]:aC).set 0 (zm 1 27 (NB.map (fA b7)++[.sr (b7+kr) 0 256 256]))=[zm 1 27 (NB.map (fA b7)++[.sr (b7+kr) 0 256 256]),zm 1 3 ((zj aK s0 (i+1)).map λw=>A2.ie (lab w))] from rfl,zmU,List.map_append];rfl
    refine wd (tk:=[97]) (by kernel_rfl) ?_
    simp only[BA,Nat.reduceEqDiff,ak,aq,ah,za,bG,Nat.reduceLT,bz,hlen,uy,he.e9,Ns,pZ,FX,l_,xR,fH,SU,jV (cx:=⟨prog,gl.g,zk prog gl (n1+4),eC⟩) (show q_ prog eC 28=false by kernel_rfl),zr,aO]
    have gH:i+1<=(zj aK s0 (i+1)).length:=by
     obtain⟨rs,e⟩:=Vt (aK:=aK) (s0:=s0) (Nat.le_succ i);rw[e,aV];omega
    exact⟨k - 1,by omega,i+1,_,W2,true,_,gy,_,NB++[kr],_,by omega,rfl,⟨by simp[hlen],by simp[za,he.e2],by simp[za,he.e3],by simp[za,he.e6],by simp[za,he.e9],by simp[za,he.lp],by simp[za,he.oA],by simp[za,he.E3]⟩,rfl,hWF,gH,.inl oe,VB⟩
 ·have l66:∀N ws z wait rest es,zl prog ⟨dZ bs bm m lab N ws z wait rest,es⟩ gl.g 66 (.ptr (bs.length+2) 0)=some (.agg [zm 1 27 N,zm 1 3 (ws.map λw=>A2.ie (lab w))]):=λN ws z wait rest es=>by
   have rZ:Hp.get ⟨dZ bs bm m lab N ws z wait rest,es⟩ (bs.length+2)=some (.cells [zm 1 27 N,zm 1 3 (ws.map λw=>A2.ie (lab w))] 66):=wr (k:=2);rw[jW,rZ,jy,qu,pY,mS];simp[wV]
  let PE:aC->Hp->Prop:=λenv H=>H=⟨dZ bs bm m lab (NB.map (fA b7)) (zj aK s0 i) z wait rest,es⟩/\Nt bs.length most FN env
  rcases eI i (zj aK s0 i).length with HG|HG
  have hd:decide ((0:Int)<((wait.length:Nat):Int))=true:=by simp;omega
  have AT:decide (((jd (zj aK s0 i):Nat):Int)<=((most:Nat):Int))=false:=by
   simp only[decide_eq_false_iff_not];intro h;exact GX ⟨HG,by omega⟩
  simp only[BA,Nat.reduceEqDiff,ak,aj,aq,za,bG,Nat.reduceLT,bz,zd,ze,j5,qj,jm,cA,wK,hlen,he.oA,he.lp,he.e2,Jq,l3,tf,zef s9,w6,Oe,gt_iff_lt,hd,AT];refine .inr ?_
  simp only[ql,zO,zG,zr,bJ,zh,lu,aF]
  refine vN (P:=PE) ?_ ⟨rfl,⟨by simp[hlen],by simp[za,he.e2],by simp[za,he.e3],by simp[za,he.e6],by simp[za,he.e9],by simp[za,he.lp],by simp[za,he.oA],by simp[za,he.E3]⟩⟩
  rotate_left
  have hd:decide ((0:Int)<((wait.length:Nat):Int))=false:=by
   rw[show wait.length=0 by omega];rfl
  simp only[BA,Nat.reduceEqDiff,ak,aj,aq,za,bG,Nat.reduceLT,bz,zd,ze,j5,qj,jm,cB,wL,hlen,he.oA,he.lp,he.e2,Jq,l3,tf,zef s9,w6,Oe,gt_iff_lt,hd];refine .inr ?_
  simp only[ql,zO,zG,zr,bJ,zh,lu,aF]
  refine vN (P:=PE) ?_ ⟨rfl,⟨by simp[hlen],by simp[za,he.e2],by simp[za,he.e3],by simp[za,he.e6],by simp[za,he.e9],by simp[za,he.lp],by simp[za,he.oA],by simp[za,he.E3]⟩⟩
  all_goals
   clear hd he hlen;rintro env H lk ⟨rfl,he⟩;have hlen:=he.len;obtain⟨DV,SV⟩:∃D,D=[aW (zm 1 27 (NB.map (fA b7))),aW (zm 1 3 ((zj aK s0 i).map λw=>A2.ie (lab w)))]:=⟨_,rfl⟩;obtain⟨DR,hDR⟩:∃D,D=[zm 1 27 (NB.map (fA b7)),zm 1 3 ((zj aK s0 i).map λw=>A2.ie (lab w))]:=⟨_,rfl⟩;have SW:=l66 (NB.map (fA b7)) (zj aK s0 i) z wait rest es;rw[<- hDR] at SW
   obtain⟨B',He⟩:∃B',B'=(dZ bs bm m lab (NB.map (fA b7)) (zj aK s0 i) z wait rest).set (bs.length+1) (.cells DV 66):=⟨_,rfl⟩;obtain⟨e',AZ⟩:∃e',e'=vi es (bs.length+1) (.agg DR):=⟨_,rfl⟩;have HH:DR.map aW=DV:=by rw[SV,hDR];rfl
   have HI:DV.length=2:=by rw[SV];rfl
   have hDk:dD (.agg DR)=true:=by rw[hDR];rfl
   have OY:Hp.get ⟨dZ bs bm m lab (NB.map (fA b7)) (zj aK s0 i) z wait rest,es⟩ (bs.length+1)=some (.cells [.aG,.aG] 66):=wr (k:=1);have NA:nth (dZ bs bm m lab (NB.map (fA b7)) (zj aK s0 i) z wait rest) (bs.length+1)=some (.cells [.aG,.aG] 66):=OY
   have abb:∀env,qo prog 66 ⟨dZ bs bm m lab (NB.map (fA b7)) (zj aK s0 i) z wait rest,es⟩ [] [] (some (.agg DR,env)) (some (.ptr (bs.length+1) 0))=some (.skip,⟨env,⟨B',e'⟩,[],[]⟩):=λenv=>by
    rw[zA mS OY hDk (by show(DR.map aW).length=2;rw[HH,HI]) (by simp) rfl]
    simp only[Hp.set,gK];rw[show V.laid (.agg DR)=DV from HH];have:Vm.storeCells [.aG,.aG] 0 DV=DV:=by rw[SV];rfl
    rw[this,<- He,<- AZ]
   have l3':zl prog ⟨B',e'⟩ gl.g 3 (.ptr (bs.length+5) 0)=some (.int .i64 (jd (zj aK s0 i):Nat)):=by
    have hg5:Hp.get ⟨B',e'⟩ (bs.length+5)=some (.cells [.int .i64 (jd (zj aK s0 i):Nat)] 3):=by
     show nth B' _=_;rw[He,kJ NA,if_neg (by omega)]
     exact wr (k:=5)
    exact zu k_ hg5 rfl
   have abd:zl prog ⟨B',e'⟩ (λ_ _=>none) 66 (.ptr (bs.length+1) 0)=some (.agg DV):=by
    have hg5:Hp.get ⟨B',e'⟩ (bs.length+1)=some (.cells DV 66):=by
     show nth B' _=_;rw[He,kJ NA,if_pos rfl]
    rw[jW,hg5,jy,qu,pY,mS,SV];simp[wV]
   have O9:∀env t,qE env t (some (.agg DR))=some (.agg DR,env):=λ_ _=>rfl;refine wH (tk:=[]) (by kernel_rfl) ?_
   apply Exists.intro;apply And.intro;refine kn (m:=0) (v:=.agg DR) (by kernel_rfl) rfl (by simp only[BA,ak,he.e9,SW];rfl) (by kernel_rfl) (by kernel_rfl) (by kernel_rfl) (by kernel_rfl) ?_
   dsimp only[aq]
   refine kn (m:=0) (v:=.int .i64 (jd (zj aK s0 i):Nat)) (by kernel_rfl) rfl (by simp only[BA,Nat.reduceEqDiff,ak,za,Nat.reduceLT,bz,hlen,he.lp,l3];rfl) (by kernel_rfl) (by kernel_rfl) (by kernel_rfl) (by kernel_rfl) ?_
   dsimp only[aq]
   refine kn (m:=0) (v:=.int .i64 (jd (zj aK s0 i):Nat)) (by kernel_rfl) rfl (by simp only[BA,Nat.reduceEqDiff,ak,za,bG,Nat.reduceLT,bz,hlen,he.lp,l3];rfl) (by kernel_rfl) (by kernel_rfl) (by kernel_rfl) (by kernel_rfl) ?_
   dsimp only[aq]
   refine qy (m:=0) (v:=.int .i64 (most:Nat)) (by kernel_rfl) rfl (by simp only[BA,Nat.reduceEqDiff,ak,za,bG,Nat.reduceLT,bz,hlen,he.e2];rfl) (by kernel_rfl) (by kernel_rfl) (by kernel_rfl) ?_
   dsimp only[aq]
   refine qy (m:=12) (v:=.bool (decide (((jd (zj aK s0 i):Nat):Int)<=((most:Nat):Int)))) (by kernel_rfl) rfl (by simp only[BA,Nat.reduceEqDiff,ak,za,bG,Nat.reduceLT,bz,hlen,Oe];rfl) (by kernel_rfl) (by kernel_rfl) (by kernel_rfl) ?_
   dsimp only[aq]
   refine vd (m:=1) (cs':=[⟨32,⟨B',e'⟩,[],[]⟩,⟨0,⟨dZ bs bm m lab (NB.map (fA b7)) (zj aK s0 i) z wait rest,es⟩,[],[]⟩]) (by kernel_rfl) rfl (by simp only[BA,Nat.reduceEqDiff,ak,za,bG,Nat.reduceLT,bz,hlen,he.e6,O9,abb];rfl) (by kernel_rfl) (by kernel_rfl) (λK=>?_) ?_
   rotate_left
   dsimp only[aq]
   refine qy (m:=35) (v:=.int .i64 (jd (zj aK s0 i):Nat)) (by kernel_rfl) rfl (by simp only[BA,Nat.reduceEqDiff,za,bG,Nat.reduceLT,bz,hlen];rfl) (by kernel_rfl) (by kernel_rfl) (by kernel_rfl) ?_
   dsimp only[aq]
   refine qy (m:=127) (v:=.bool (decide (((jd (zj aK s0 i):Nat):Int)<=((most:Nat):Int)))) (by kernel_rfl) rfl (by simp only[BA,Nat.reduceEqDiff,za,bG,Nat.reduceLT,bz,hlen];rfl) (by kernel_rfl) (by kernel_rfl) (by kernel_rfl) wI
   ·simp only[aq];simp only[go_ret,zr,Fx]
    refine⟨trivial,[.agg DV,.int .i64 (jd (zj aK s0 i):Nat),.bool (decide (((jd (zj aK s0 i):Nat):Int)<=((most:Nat):Int)))],?_,?_⟩
    ·simp only[zy,za,bG,hlen,Nat.reduceLT,Nat.reduceEqDiff,aF,bz,he.e6,abd,qU]
    ·obtain⟨bl,l6⟩:∃bl,B'=bs++bl:=⟨_,by rw[He,dZ,yk]⟩
     have abe:lz [.agg DV,.int .i64 (jd (zj aK s0 i):Nat),.bool (decide (((jd (zj aK s0 i):Nat):Int)<=((most:Nat):Int)))]=.br [.agg DV,.int .i64 (jd (zj aK s0 i):Nat),.bool (decide (((jd (zj aK s0 i):Nat):Int)<=((most:Nat):Int)))]:=rfl;have DC:V.agg DV=tn (bs.length+7) NB ((zj aK s0 i).map lab):=by
      rw[tn,SV,HF,List.map_map];rfl
     rw[abe,DC];rcases eI most (jd (zj aK s0 i)) with nE|nE
     ·have h0:i=0:=by
       rcases pH with h|h
       ·omega
       ·exact h
      have hNB:NB=[]:=HM (by rw[hR.len,h0])
      rw[hNB,decide_eq_false (by omega)]
      exact .inr ⟨i,(zj aK s0 i).map lab,bl,e',(jd (zj aK s0 i):Nat),by omega,rfl,by rw[l6]⟩
     ·have ahj:0<(zj aK s0 i).length:=by
       obtain⟨rs,e⟩:=Vt (aK:=aK) (s0:=s0) (dU i);rw[e];simp[zj]
      have abf:(zj aK s0 i).length=i:=by
       rcases eI i (zj aK s0 i).length with h|h
       ·exact absurd ⟨h,nE⟩ GX
       ·omega
      have VB:RW aK s0 B' (bs.length+7) i NB:=hR.mono λk x hk h=>by
       rw[nI] at h;rw[He,kJ NA,if_neg (by omega),B9,h]
      rw[l6] at VB;rw[decide_eq_true (by omega)]
      exact .inl ⟨i,NB,bl,e',by omega,abf,by omega,rfl,by rw[l6],VB⟩
   ·refine j9 ?_ ?_ ?_ ?_
    ·kernel_rfl
    ·rfl
    ·intro c hc;cases hc
    ·unfold Cx.fR;refine wc λq hq=>?_;simp only[dN,Cc,Bc] at hq;rcases hq with rfl|rfl|rfl|rfl|rfl
     ·kernel_rfl
     ·kernel_rfl
     ·split
      ·rfl
      ·split
       next h=>cases h
       ·refine O6 ?_;exact i_ (by simp only[BA,Nat.reduceEqDiff,ak,Nat.reduceAdd,za,bG,Nat.reduceLT,bz,jr,hlen,he.lp,l3'];rfl)
     ·split
      ·rfl
      ·split
       next h=>cases h
       ·refine O6 ?_;exact i_ (by simp only[BA,Nat.reduceEqDiff,ak,za,Nat.reduceLT,bz,jr,hlen,he.lp,l3'];rfl)
     ·kernel_rfl
end
section
set_option pp.deepTerms true
set_option pp.maxSteps 200000
variable{gl:Gl}
def KT(f:A2.F)(_m b:Nat):aN:=(List.range f.n.2.length).map λj=>(b+j,(f.n.2[j]?.map xu).getD 0)
theorem zoE{f:A2.F}{m b:Nat}:yQ m b f.n.2.length=(KT f m b).map λp=>cH m p.1:=by
 rw[yQ,KT,List.map_map];rfl
structure GI(f:A2.F)(m n:Nat):Prop where
 mm:m=(f.s.2.length+f.f.2.length) / 8+1
 hs:∀q∈f.s.2,ED q
 ns:f.s.2.length<n/\f.s.2.length<2 ^ 30
 nf:f.f.2.length<2 ^ 30
 nl:f.n.2.length=f.s.2.length
 nr:∀row∈f.n.2,row.2.length<n/\row.2.length<2 ^ 60/\∀z∈row.2,0<=z/\z.toNat<f.s.2.length+f.f.2.length
 fr:∀row∈f.f.2,row.2.length<n/\row.2.length<2 ^ 60/\∀z∈row.2,0<=z/\z.toNat<f.s.2.length+f.f.2.length
theorem zmY{f:A2.F}{m n:Nat}(h:GI f m n){row:A2.cO}(hr:row∈f.n.2):xu row<2 ^ (8 * m):=by
 refine zel (λz hz=>?_) (Nat.pow_pos (by decide))
 have:=((h.nr row hr).2.2 z hz).2;have:=h.mm;omega
theorem zpc{f:A2.F}{m n:Nat}(h:GI f m n){bs ee:List aT}:MM f m (KT f m (bs.length+2)) (eS bs f (yQ m (bs.length+2) f.n.2.length) (xb (th f) 256) (uB (th f) 256) (yO m f.n.2++ee)) (bs.length+1) where
 mm:=h.mm
 hs:=h.hs
 ns:=h.ns.2
 nf:=h.nf
 nxl:=by rw[KT,gk,Lb,h.nl]
 M:=by rw[DU,zoE]
 X:=λp hp=>by
  obtain⟨j,hj,rfl⟩:=iH.1 hp;have pN:j<f.n.2.length:=Cd.1 hj;have bZ:f.n.2[j]?=some f.n.2[j]:=fQ pN;have h1:nth (yO m f.n.2++ee) j=some (.cells (dR m (xu f.n.2[j])) 5):=by
   rw[zg,fI (by simp[yO];exact pN),yO,gj,bZ];rfl
  simp only[bZ,aS,ga];exact⟨uY.trans h1,zmY h (List.getElem_mem pN)⟩
def BuP(_f:A2.F)(aK:Nat->Nat->Nat)(s0:Nat)(lab:Nat->Int)(v:V)(B:List aT):Prop :=
 (∃i b NB,0<i/\(zj aK s0 i).length=i/\jd (zj aK s0 i)<=600/\v=.br [tn b NB ((zj aK s0 i).map lab),.bT]/\RW aK s0 B b i NB) \/
 (∃i,600<jd (zj aK s0 i)/\v=.br [.agg [.aG,.aG],.ec 396 (.obj 2)])
theorem zjS{f:A2.F}{m b:Nat}:(KT f m b).map (·.2)=f.n.2.map xu:=by
 rw[KT,List.map_map];apply Fa;intro j;rw[gj,gj];rcases eI j f.n.2.length with h|h
 ·rw[uG h,fQ h];simp[fQ h]
 ·rw[uF (by simpa using h),uF h];rfl
theorem u7:qC prog 37=some false:=by kernel_rfl
theorem fcl{f:A2.F}:V.laid (A2.fv f)=A2.fc f:=zmI f
theorem KU:∀env,kB prog 66 #[] env=some (.agg [.aG,.aG]):=λenv=>by kernel_rfl
set_option maxHeartbeats 1000000 in
theorem zkU(hg:GS gl){n m:Nat}{f:A2.F}{act:A2.cO}{ck rk:Bool}(hn:m+1000<=n)(AV:m<2 ^ 36)(DT:gl.hk 24 [A2.fv f]=some (.bool ck))(SX:gl.hk 72 [A2.fv f,A2.iv act]=some (.bool rk))(R9:gl.g 0 0=some (.ec 396 (.obj 0)))(Ak:gl.g 2 0=some (.ec 396 (.obj 2)))
  (hF:ck=true->rk=true->GI f m (n - 3)/\(∀r∈act.2,0<=r/\r.toNat<f.f.2.length)/\act.2.length<n - 3/\act.2.length<2 ^ 60) :
  ∃v H',zk prog gl (n+1+1) 28 [A2.fv f,A2.iv act] ⟨[],[]⟩=some (.ret v,H') /\
   if ck=true/\rk=true then ∃nx:aN,nx.map (·.2)=f.n.2.map xu/\BuP f (tj f nx m) (qi f.f.2 act.2 0) (λw=>wm f.s.2.length (wl m w) (-1)) v H'.au else v=.br [.agg [.aG,.aG],.ec 396 (.obj 0)]:=by
 suffices bK:(go ⟨prog,gl,zk prog gl (n+1),eC⟩ (n+1) (Fx prog f28.results.toList λv H1=>if ck=true/\rk=true then ∃nx:aN,nx.map (·.2)=f.n.2.map xu/\BuP f (tj f nx m) (qi f.f.2 act.2 0) (λw=>wm f.s.2.length (wl m w) (-1)) v H1.au else v=.br [.agg [.aG,.aG],.ec 396 (.obj 0)]) [.c (f28.body.getD .skip)] .normal ⟨[A2.fv f,A2.iv act]++List.replicate 31 (.br []),⟨[],[]⟩,[],[]⟩) by
  obtain⟨v,H1,h0,hp⟩:=zJ (gl:=gl) (f:=28) (bs:=[]) (es:=[]) (args:=[A2.fv f,A2.iv act]) (n:=n+1) (hg.hk _ _ (by decide)) (λH=>hg.eV _ _ _ _ (by decide)) func28 rfl (by rw[hg.uq];exact bK)
  refine⟨v,_,h0,?_⟩;split
  ·rename_i hc;rw[if_pos hc] at hp;obtain⟨nx,h1,hp⟩:=hp;refine⟨nx,h1,?_⟩;rcases hp with⟨i,b,NB,q1,q2,q3,rfl,q5⟩|hp
   ·refine .inl ⟨i,b,NB,q1,q2,q3,rfl,?_⟩;obtain⟨k,hk⟩:∃k,k∈NB:=by
     cases NB with
     | nil=>have:=q5.len;simp at this;omega
     | cons k l=>exact⟨k,eT ..⟩
    rw[show zX ([]:List aT).length [] _ H1=⟨H1.au,H1.bC++[]⟩ from vZ (by
     have h1:(fA b k).top<=aI (NB.map (fA b)):=zn (iH.2 ⟨k,hk,rfl⟩);have h2:(aW (zm 1 27 (NB.map (fA b)))).top=aI (NB.map (fA b)):=by rw[ji,vy]
     simp only[fA,V.top] at h1;simp only[tn,V.top,aI,h2,List.length_nil]
     omega)]
    exact q5
   ·exact .inr hp
  next hc=>rw[if_neg hc] at hp;exact hp
 have J4:dD (A2.fv f)=true:=rfl;have G4:∀env t,qE env t (some (A2.fv f))=some (A2.fv f,env):=λ_ _=>rfl;have Az:aW (A2.fv f)=A2.fv f:=rfl;have Hr:∀H,Cx.bD ⟨prog,gl.g,zk prog gl (n+1),eC⟩ 24 [A2.fv f] H=some (.val (.bool ck),H):=λH=>zq func24 rfl (vY DT)
 have VC:∀H,Cx.bD ⟨prog,gl.g,zk prog gl (n+1),eC⟩ 72 [A2.fv f,A2.iv act] H=some (.val (.bool rk),H):=λH=>zq func72 rfl (vY SX);have EI:∀x e,zl prog ⟨[.cells (A2.fc f) 30,x],e⟩ gl.g 30 (.ptr 0 0)=some (A2.fv f):=λx e=>by
  rw[jW,show Hp.get ⟨[.cells (A2.fc f) 30,x],e⟩ 0=some (.cells (A2.fc f) 30) from rfl,jy,qu,Gw,Gx];simp[wV,A2.fv,A2.fc]
 have OU:∀H,zl prog H gl.g 37 (.eN 0 0)=some (.ec 396 (.obj 0)):=λH=>by simp[zl,u7,R9]
 have VD:∀H,zl prog H gl.g 37 (.eN 2 0)=some (.ec 396 (.obj 2)):=λH=>by simp[zl,u7,Ak]
 have tv:∀k,aW (V.ec 396 (.obj k))=.ec 396 (.obj k):=λ_=>rfl;simp only[f28,ga,zh];refine zi ?_
 simp only[qx,aH,zh,wG,qM,z9,zM,qH,aj,qg,aM,aq,aS,zc,aZ,List.length_nil,nI,bh,bg,zd,bS,bU,List.replicate,G4,qc J4,fcl,Sz,zL (show dD (V.agg [.aG,.aG])=true from rfl),V.cells]
 refine zi ?_;have DY:∀B e env,nth B 1=some (.cells [.aG,.aG] 66)->qo prog 66 ⟨B,e⟩ [] [] (some (.agg [.aG,.aG],env)) (some (.ptr 1 0))=some (.skip,⟨env,⟨B,e⟩,[],[]⟩):=λB e env hB=>by
  have rZ:Hp.get ⟨B,e⟩ 1=some (.cells [.aG,.aG] 66):=hB;rw[zA mS rZ rfl rfl (by simp) rfl,jT (by simp[V.top,aI])]
  show some (OR.skip,St.mk env ⟨B.set 1 (.cells [.aG,.aG] 66),e⟩ [] [])=_;rw[jY hB]
 have Js:∀B e,nth B 1=some (.cells [.aG,.aG] 66)->zl prog ⟨B,e⟩ (λ_ _=>none) 66 (.ptr 1 0)=some (.agg [.aG,.aG]):=λB e hB=>by
  have rZ:Hp.get ⟨B,e⟩ 1=some (.cells [.aG,.aG] 66):=hB;rw[jW,rZ,jy,qu,pY,mS];rfl
 let PE:aC->Hp->Prop:=λenv H=>env.length=33/\nth env 4=some (.ptr 1 0)/\nth H.au 1=some (.cells [.aG,.aG] 66)/\¬(ck=true/\rk=true)
 rcases Decidable.em (ck=true/\rk=true) with tP|tP
 rotate_left
 rcases Bool.eq_false_or_eq_true ck with nE|nE
 rotate_left
 subst nE;simp only[BA,az,ak,aj,aq,aA,zd,ze,bS,bU,j5,qj,jm,cC,wL,oN,EI,Az,Hr,iI,oN];refine .inl ?_;refine vN (P:=PE) ?_ ⟨rfl,rfl,rfl,tP⟩
 rotate_left
 rotate_left
 subst nE;obtain rfl:rk=false:=by cases rk with
  | false=>rfl
  | true=>exact absurd ⟨rfl,rfl⟩ tP
 simp only[BA,az,ak,aj,aq,aA,zd,ze,bS,bU,j5,qj,jm,cE,wK,oN,mG,EI,Az,Hr,VC,iI,A2.bH,oN,mG];refine .inl ?_;refine vN (P:=PE) ?_ ⟨rfl,rfl,rfl,tP⟩
 rotate_left
 rotate_left
 obtain⟨rfl,rfl⟩:=tP;simp only[BA,az,ak,aj,aq,aA,zd,ze,bS,bU,j5,qj,jm,cE,wK,mG,EI,Az,Hr,VC,iI,A2.bH,mG];refine .inr ?_;obtain⟨pE,NC,abg,ND⟩:=hF rfl rfl
 obtain⟨n',rfl⟩:∃n',n=n'+1:=⟨n - 1,by omega⟩
 obtain⟨ee,rI,Bn⟩:=zbX hg (n:=n') (f:=f) (m:=m) (bs:=[.cells (A2.fc f) 30,.cells [.aG,.aG] 66]) (es:=[]) pE.ns.2 pE.nf (by rw[pE.nl];exact pE.ns.2) pE.mm (by rw[pE.nl];have:=pE.ns.1;omega) (by have:=pE.ns.1;omega) (by omega) (λrow bZ=>⟨by have:=(pE.nr row bZ).1;omega,(pE.nr row bZ).2⟩) pE.hs
 have HJ:=zpc pE (bs:=[.cells (A2.fc f) 30,.cells [.aG,.aG] 66]) (ee:=ee);obtain⟨HB,tV⟩:∃HB,HB=eS [.cells (A2.fc f) 30,.cells [.aG,.aG] 66] f (yQ m ([aT.cells (A2.fc f) 30,.cells [.aG,.aG] 66].length+2) f.n.2.length) (xb (th f) 256) (uB (th f) 256) (yO m f.n.2++ee):=⟨_,rfl⟩;have A3:nth HB 1=some (.cells [.aG,.aG] 66):=by rw[tV];rfl
 rw[<- tV] at HJ;have NF:Cx.bD ⟨prog,gl.g,zk prog gl (n'+1+1),eC⟩ 73 [A2.fv f] ⟨[.cells (A2.fc f) 30,.cells [.aG,.aG] 66],[]⟩=some (.val (.ptr 3 0),⟨HB,rI⟩):=by
  rw[tV];exact zq func73 rfl Bn
 have arD:2<=HB.length:=by
  rw[zg] at A3;have:=(cP.1 A3).1;omega
 obtain⟨u,Hb,hb,Ca⟩:=zen hg (n:=n'+1) (bm:=3) (m:=m) (most:=600) (act:=act) (es:=rI) (by omega) AV (dB _) HJ NC (λrow bZ=>⟨by have:=(pE.fr row bZ).1;omega,(pE.fr row bZ).2⟩) (by omega) ND
 have dg:Cx.bD ⟨prog,gl.g,zk prog gl (n'+1+1),eC⟩ 74 [.ptr 3 0,A2.iv act,.int .i64 600] ⟨HB,rI⟩=some (.val u,Hb):=zq func74 rfl hb;have Df:=zjS (f:=f) (m:=m) (b:=[aT.cells (A2.fc f) 30,.cells [.aG,.aG] 66].length+2);generalize KT f m ([aT.cells (A2.fc f) 30,.cells [.aG,.aG] 66].length+2)=nx at Ca HJ Df
 obtain⟨DL,BL,ot,dv,cn,ok,rfl,rfl,DZ⟩:∃(DL:aC)(BL:List aT)(ot:aN)(dv:V)(cn:Int)(ok:Bool),u=.br [dv,.int .i64 cn,.bool ok]/\Hb=⟨HB++BL,ot⟩/\dv=.agg DL/\DL.map aW=DL/\DL.length=2/\(if ok=true then ∃i NB,0<i/\(zj (tj f nx m) (qi f.f.2 act.2 0) i).length=i/\jd (zj (tj f nx m) (qi f.f.2 act.2 0) i)<=600/\dv=tn (HB.length+7) NB ((zj (tj f nx m) (qi f.f.2 act.2 0) i).map λw=>wm f.s.2.length (wl m w) (-1))/\RW (tj f nx m) (qi f.f.2 act.2 0) (HB++BL) (HB.length+7) i NB else ∃i,600<jd (zj (tj f nx m) (qi f.f.2 act.2 0) i)):=by
  rcases Ca with⟨i,NB,bl,ot,q1,q2,q3,rfl,rfl,q6⟩|⟨i,dh,bl,ot,z,q1,rfl,rfl⟩
  ·exact⟨_,bl,ot,_,_,true,rfl,rfl,rfl,by simp[qS],rfl,by rw[if_pos rfl];exact⟨i,NB,q1,q2,by omega,rfl,q6⟩⟩
  ·exact⟨_,bl,ot,_,_,false,rfl,rfl,rfl,by simp[qS],rfl,by rw[if_neg (by simp)];exact⟨i,by omega⟩⟩
 obtain⟨rfl,HH,HI,DZ⟩:=DZ;have O9:∀env t,qE env t (some (.agg DL))=some (.agg DL,env):=λ_ _=>rfl;refine zi ?_
 simp only[qx,zK,qw,qM,zV,ki,az,qm,ak,zM,aj,zt,aM,aq,zS,qQ,qU,qk,aU,aS,qL,aA,a_,bt,zc,aV,oO,Nat.reduceAdd,aY,zd,ze,bS,bU,EI,Az,NF,A2.bH,dg,kY,ew,Sz,zL (show dD (V.agg [.aG,.aG])=true from rfl),V.cells,O9]
 obtain⟨B6,KV⟩:∃B6,B6=HB++(BL++[aT.cells DL 66]):=⟨_,rfl⟩;obtain⟨e6,he6⟩:∃e6,e6=vi ot (HB.length+BL.length) (.agg DL):=⟨_,rfl⟩;have NG:∀env,qo prog 66 ⟨HB++(BL++[aT.cells [.aG,.aG] 66]),ot⟩ [] [] (some (.agg DL,env)) (some (.ptr (HB.length+BL.length) 0))=some (.skip,⟨env,⟨B6,e6⟩,[],[]⟩):=λenv=>by
  have rZ:Hp.get ⟨HB++(BL++[aT.cells [.aG,.aG] 66]),ot⟩ (HB.length+BL.length)=some (.cells [.aG,.aG] 66):=by
   show nth _ _=_;rw[<- aY,<- aV,zg,eM (dB _),Bb];rfl
  rw[zA mS rZ rfl (by show(DL.map aW).length=2;rw[HH,HI]) (by simp) rfl]
  have h1:(HB++(BL++[aT.cells [V.aG,.aG] 66])).set (HB.length+BL.length) (.cells DL 66)=B6:=by
   rw[<- aY,<- aV,tW _ _ (dB _),Bb,KV,aY];rfl
  have h2:Vm.storeCells [V.aG,.aG] 0 DL=DL:=by
   match DL,HI with
   | [a,b],_=>rfl
  rw[show V.laid (.agg DL)=DL from HH,h2];show some (OR.skip,St.mk env (Hp.bQ ⟨(HB++(BL++[aT.cells [V.aG,.aG] 66])).set (HB.length+BL.length) (.cells DL 66),ot⟩ _ _) [] [])=_;rw[h1,gK,he6]
 simp only[NG,bx,aq]
 simp only[BA,aq,zd,ze,bS,bU];have Jt:nth B6 1=some (.cells [.aG,.aG] 66):=by
  rw[KV,zg,fI (by omega),<- zg,A3]
 have hl6:zl prog ⟨B6,e6⟩ gl.g 66 (.ptr (HB.length+BL.length) 0)=some (.agg DL):=by
  have rZ:Hp.get ⟨B6,e6⟩ (HB.length+BL.length)=some (.cells DL 66):=by
   show nth _ _=_;rw[KV,<- aY,<- aV,zg,eM (dB _),Bb];rfl
  rw[jW,rZ,jy,qu,pY,mS,wV,if_pos (by omega),iW,rM (by omega)]
 refine zi ?_;cases ok with
 | false =>
  simp only[BA,ak,aq,zd,ze,bS,bU,iI,oN];refine .inl ?_;rw[if_neg (by simp)] at DZ
  obtain⟨i9,DZ⟩:=DZ;refine vN (P:=λenv H=>env.length=33/\nth env 4=some (.ptr 1 0)/\nth H.au 1=some (.cells [.aG,.aG] 66)) ?_ ⟨rfl,rfl,Jt⟩;rintro env ⟨B,e⟩ lk ⟨hlen,e4,hB⟩;refine wH (tk:=[]) (by kernel_rfl) ?_
  apply Exists.intro;apply And.intro;refine qy (m:=0) (v:=.agg [.aG,.aG]) (by kernel_rfl) rfl (by simp only[BA,KU];rfl) (by kernel_rfl) (by kernel_rfl) (by kernel_rfl) ?_
  dsimp only[aq]
  refine kn (m:=0) (v:=.ec 396 (.obj 2)) (by kernel_rfl) rfl (by simp only[BA,ak,VD,tv];rfl) (by kernel_rfl) (by kernel_rfl) (by kernel_rfl) (by kernel_rfl) ?_
  dsimp only[aq]
  refine vd (m:=1) (cs':=[⟨4,⟨B,e⟩,[],[]⟩,⟨0,⟨B,e⟩,[],[]⟩]) (by kernel_rfl) rfl (by simp only[BA,Nat.reduceEqDiff,ak,za,bG,Nat.reduceLT,bz,hlen,e4,DY _ _ _ hB];rfl) (by kernel_rfl) (by kernel_rfl) (λK=>?_) ?_
  rotate_left
  dsimp only[aq]
  refine qy (m:=7) (v:=.ec 396 (.obj 2)) (by kernel_rfl) rfl (by simp only[BA,Nat.reduceEqDiff,za,bG,Nat.reduceLT,bz,hlen];rfl) (by kernel_rfl) (by kernel_rfl) (by kernel_rfl) wI
  ·simp only[aq];simp only[go_ret,zr,Fx,wi]
   refine⟨trivial,[.agg [.aG,.aG],.ec 396 (.obj 2)],?_,?_⟩
   ·simp only[zy,za,bG,hlen,Nat.reduceLT,Nat.reduceEqDiff,aF,bz,e4,Js _ _ hB,qU]
   ·exact⟨nx,Df,.inr ⟨i9,DZ,rfl⟩⟩
  ·refine j9 ?_ ?_ ?_ ?_
   ·kernel_rfl
   ·rfl
   ·intro c hc;cases hc
   ·unfold Cx.fR;refine wc λq hq=>?_;simp only[dN,Cc,Bc] at hq;rcases hq with rfl|rfl
    ·split
     ·rfl
     ·split
      next h=>cases h
      ·refine O6 ?_;exact i_ (by simp only[BA,ak,jr,VD,tv];rfl)
    ·kernel_rfl
 | true =>
  simp only[BA,ak,aq,zd,ze,bS,bU,iI,mG];refine .inr ?_;rw[if_pos rfl] at DZ;obtain⟨i,NB,q1,q2,q3,q4,q5⟩:=DZ;obtain⟨e7,he7⟩:∃e7,e7=vi e6 1 (.agg DL):=⟨_,rfl⟩
  have abj:∀env,qo prog 66 ⟨B6,e6⟩ [] [] (some (.agg DL,env)) (some (.ptr 1 0))=some (.skip,⟨env,⟨B6.set 1 (.cells DL 66),e7⟩,[],[]⟩):=λenv=>by
   have rZ:Hp.get ⟨B6,e6⟩ 1=some (.cells [.aG,.aG] 66):=Jt;rw[zA mS rZ rfl (by show(DL.map aW).length=2;rw[HH,HI]) (by simp) rfl]
   have h2:Vm.storeCells [V.aG,.aG] 0 DL=DL:=by
    match DL,HI with
    | [a,b],_=>rfl
   rw[show V.laid (.agg DL)=DL from HH,h2];show some (OR.skip,St.mk env (Hp.bQ ⟨B6.set 1 (.cells DL 66),e6⟩ _ _) [] [])=_;rw[gK,he7]
  have hl7:zl prog ⟨B6.set 1 (.cells DL 66),e7⟩ (λ_ _=>none) 66 (.ptr 1 0)=some (.agg DL):=by
   have rZ:Hp.get ⟨B6.set 1 (.cells DL 66),e7⟩ 1=some (.cells DL 66):=by
    show nth _ _=_;rw[kJ Jt,if_pos rfl]
   rw[jW,rZ,jy,qu,pY,mS,wV,if_pos (by omega),iW,rM (by omega)]
  refine zi ?_;simp only[BA,ak,aj,aq,zd,ze,bS,bU,hl6,O9,abj];simp only[go_ret,zr,Fx]
  refine⟨trivial,[.agg DL,.bT],?_,?_⟩
  ·simp only[zy,zd,ze,hl7,qU]
  ·refine⟨nx,Df,.inl ⟨i,HB.length+7,NB,q1,q2,q3,?_,?_⟩⟩
   ·rw[<- q4];rfl
   ·refine q5.mono λk x hk h=>?_;show nth (B6.set 1 _) _=_;rw[kJ Jt,if_neg (by omega),KV,<- aY]
    exact vz h
 all_goals
  rintro env ⟨B,e⟩ lk ⟨hlen,e4,hB,tP⟩;refine wH (tk:=[]) (by kernel_rfl) ?_
  apply Exists.intro;apply And.intro;refine qy (m:=0) (v:=.agg [.aG,.aG]) (by kernel_rfl) rfl (by simp only[BA,KU];rfl) (by kernel_rfl) (by kernel_rfl) (by kernel_rfl) ?_
  dsimp only[aq]
  refine kn (m:=0) (v:=.ec 396 (.obj 0)) (by kernel_rfl) rfl (by simp only[BA,ak,OU,tv];rfl) (by kernel_rfl) (by kernel_rfl) (by kernel_rfl) (by kernel_rfl) ?_
  dsimp only[aq]
  refine vd (m:=1) (cs':=[⟨4,⟨B,e⟩,[],[]⟩,⟨0,⟨B,e⟩,[],[]⟩]) (by kernel_rfl) rfl (by simp only[BA,Nat.reduceEqDiff,ak,za,bG,Nat.reduceLT,bz,hlen,e4,DY _ _ _ hB];rfl) (by kernel_rfl) (by kernel_rfl) (λK=>?_) ?_
  rotate_left
  dsimp only[aq]
  refine qy (m:=7) (v:=.ec 396 (.obj 0)) (by kernel_rfl) rfl (by simp only[BA,Nat.reduceEqDiff,za,bG,Nat.reduceLT,bz,hlen];rfl) (by kernel_rfl) (by kernel_rfl) (by kernel_rfl) wI
  ·simp only[aq];simp only[go_ret,zr,Fx,wi]
   refine⟨trivial,[.agg [.aG,.aG],.ec 396 (.obj 0)],?_,?_⟩
   ·simp only[zy,za,bG,hlen,Nat.reduceLT,Nat.reduceEqDiff,aF,bz,e4,Js _ _ hB,qU]
   ·split<;>first|rfl|(rename_i h;exact absurd h (by simp))
  ·refine j9 ?_ ?_ ?_ ?_
   ·kernel_rfl
   ·rfl
   ·intro c hc;cases hc
   ·unfold Cx.fR;refine wc λq hq=>?_;simp only[dN,Cc,Bc] at hq;rcases hq with rfl|rfl
    ·split
     ·rfl
     ·split
      next h=>cases h
      ·refine O6 ?_;exact i_ (by simp only[BA,ak,jr,OU,tv];rfl)
    ·kernel_rfl
end
section
section
variable{aK:Nat->Nat->Nat}{s0:Nat}
theorem zbl{j:Nat}(h:(zj aK s0 j)[j]?=none):∀d,zj aK s0 (j+d)=zj aK s0 j
 | 0=>rfl
 | d+1=>by
  have ih:=zbl h d;rw[<- oO];have h1:(zj aK s0 j)[j+d]?=none:=by
   rw[List.getElem?_eq_none_iff] at h ⊢;omega
  simp only[zj,ih,h1]
theorem xw{i j:Nat}(h:(zj aK s0 i).length=i):∃rs,zj aK s0 i=zj aK s0 j++rs:=by
 rcases Nat.le_total j i with NZ|NZ
 ·exact Vt NZ
 ·have:=zbl (aK:=aK) (s0:=s0) (j:=i) (by rw[List.getElem?_eq_none_iff];omega) (j - i)
  rw[show i+(j - i)=j by omega] at this
  exact⟨[],by rw[this,mT]⟩
theorem zcA{i j:Nat}(h:(zj aK s0 i).length=i)(h':(zj aK s0 j).length=j):i=j:=by
 obtain⟨r1,e1⟩:=xw (j:=j) h;obtain⟨r2,e2⟩:=xw (j:=i) h';have l1:=congrArg List.length e1;have l2:=congrArg List.length e2;rw[aV] at l1 l2;omega
theorem wO{i j:Nat}(h:(zj aK s0 i).length=i)(hj:j<i):∃w,(zj aK s0 j)[j]?=some w:=by
 cases hx:(zj aK s0 j)[j]? with
 | some w=>exact⟨w,rfl⟩
 | none =>
  have:=zbl hx (i - j);rw[show j+(i - j)=i by omega] at this
  rw[List.getElem?_eq_none_iff] at hx;rw[this] at h;omega
theorem xx{j w:Nat}(h:(zj aK s0 j)[j]?=some w):(wU aK s0 j).length=256:=by
 simp only[wU,h,gk,Lb]
theorem RW.get{B:List aT}{b i:Nat}{NB:bL}(h:RW aK s0 B b i NB):∀j,j<i->∃k,NB[j]?=some k/\nth B (b+k)=some (.cells ((wU aK s0 j).map A2.ie) 3):=by
 induction h with
 | nil=>intro j hj;omega
 | @snoc i k NB h hk hb ih =>
  intro j hj;have hl:=h.len;rcases eI j i with pN|pN
  ·obtain⟨k',h1,h2⟩:=ih j pN;exact⟨k',by rw[fI (by omega),h1],h2⟩
  ·obtain rfl:j=i:=by omega
   exact⟨k,by rw[eM (by omega),hl,Bb];rfl,hb⟩
def v7(aK:Nat->Nat->Nat)(s0:Nat)(lab:Nat->Int)(i:Nat):A2.D:=((true,(List.range i).map λj=>(true,wU aK s0 j)),(true,(zj aK s0 i).map lab))
theorem SY{n:Nat}{e:aB}{xs:aC}:aW (zm n e xs)=Sx.lv n true xs:=by cases xs<;>rfl
theorem O_{n:Nat}{nl:Bool}{xs:aC}(h:0<xs.length):Sx.lv n nl xs=.sl n xs .no:=by
 rcases Sx.cJ n nl xs with e|⟨e0,_⟩
 ·exact e
 ·rw[e0] at h;cases h
theorem zpd{l:List Int}(h:0<l.length):A2.iv (true,l)=.sl 1 (l.map A2.ie) .no:=O_ (by rw[gk];exact h)
theorem zmZ{lab:Nat->Int}{B:List aT}{es:aN}{b i:Nat}{NB:bL}(h:RW aK s0 B b i NB)(hi:0<i)(hc:(zj aK s0 i).length=i) :
  nh ⟨B,es⟩ (.br [tn b NB ((zj aK s0 i).map lab),.bT]) (.br [A2.rK (v7 aK s0 lab i),.bT]):=by
 have hl:=h.len;have bZ:∀j,j<i->A2.iv (true,wU aK s0 j)=.sl 1 ((wU aK s0 j).map A2.ie) .no:=λj hj=>by
  obtain⟨w,hw⟩:=wO hc hj;exact zpd (by rw[xx hw];exact Nat.succ_pos _)
 have e1:aW (zm 1 27 (NB.map (fA b)))=.sl 1 (NB.map (fA b)) .no:=by rw[SY,O_ (by rw[gk,hl];exact hi)]
 have e2:A2.rv (v7 aK s0 lab i).1=.sl 1 (((List.range i).map λj=>(true,wU aK s0 j)).map A2.iv) .no:=O_ (by simpa[v7] using hi)
 have e3:aW (zm 1 3 (((zj aK s0 i).map lab).map A2.ie))=A2.iv (v7 aK s0 lab i).2:=SY;have f1:nh ⟨B,es⟩ (.sl 1 (NB.map (fA b)) .no) (.sl 1 (((List.range i).map λj=>(true,wU aK s0 j)).map A2.iv) .no):=by
  refine .sl (by simp[hl]) (λj x hj=>?_) (λj y hj=>?_) (λj x y hj hy=>?_)
  ·rw[gj] at hj;obtain⟨k,_,rfl⟩:=mA.1 hj;exact⟨rfl,rfl⟩
  ·rw[gj,gj] at hj;have CO:j<i:=by
    rcases eI j i with h1|h1
    ·exact h1
    ·rw[uF (by simpa using h1)] at hj;cases hj
   rw[uG CO] at hj;simp only[aS,bu] at hj;rw[<- hj,bZ j CO];exact⟨rfl,rfl⟩
  ·have CO:j<i:=by
    rcases eI j i with h1|h1
    ·exact h1
    ·rw[uF (by simpa[hl] using h1)] at hj;cases hj
   obtain⟨k,k1,k2⟩:=h.get j CO;rw[gj,k1] at hj;rw[gj,gj,uG CO] at hy;simp only[aS,bu] at hj hy;rw[<- hj,<- hy,bZ j CO];obtain⟨w,hw⟩:=wO hc CO;have NH:((wU aK s0 j).map A2.ie).length=256:=by rw[gk,xx hw]
   have:=nh.sr (H:=⟨B,es⟩) (b:=b+k) (off:=0) (len:=256) (cap:=256) (cs:=(wU aK s0 j).map A2.ie) (t:=3) (by rw[zg] at k2;exact k2) (A2.gT (λ_=>rfl) _) (by omega)
   rw[iW,rM (by omega)] at this
   exact this
 refine .br rfl λj x y hj hy=>?_
 match j,hj,hy with
 | 0,hj,hy =>
  cases hj;cases hy;refine .agg rfl (λj y hj=>?_) λj x y hj hy=>?_
  ·match j,hj with
   | 0,hj=>cases hj;rw[e2];rfl
   | 1,hj=>cases hj;rw[<- e3];cases ((zj aK s0 i).map lab).map A2.ie<;>rfl
   | j+2,hj=>simp at hj
  ·match j,hj,hy with
   | 0,hj,hy=>cases hj;cases hy;rw[e1,e2];exact f1
   | 1,hj,hy =>
    cases hj;cases hy;rw[e3];exact .same (A2.mD _)
   | j+2,hj,hy=>simp at hj
 | 1,hj,hy=>cases hj;cases hy;exact .same rfl
 | j+2,hj,hy=>simp at hj
end
theorem zm0{f:A2.F}{nx GJ:aN}(h:nx.map (·.2)=GJ.map (·.2)){y k q:Nat}:xa f nx y k q=xa f GJ y k q:=by
 have hk:(nx[k]?).map (·.2)=(GJ[k]?).map (·.2):=by rw[<- gj,<- gj,h]
 unfold xa;cases hs:f.s.2[k]? with
 | none=>rfl
 | some s =>
  cases h1:nx[k]? with
  | none =>
   rw[h1] at hk;cases h2:GJ[k]? with
   | none=>rfl
   | some p=>rw[h2] at hk;cases hk
  | some p =>
   rw[h1] at hk;cases h2:GJ[k]? with
   | none=>rw[h2] at hk;cases hk
   | some p' =>
    rw[h2] at hk;have:p.2=p'.2:=D5 hk;simp only[this]
theorem zjT{f:A2.F}{nx GJ:aN}(h:nx.map (·.2)=GJ.map (·.2)){m:Nat}:tj f nx m=tj f GJ m:=by
 funext w y
 have:∀(l:bL)(q:Nat),Cs f nx y l q=Cs f GJ y l q:=by
  intro l
  induction l with
  | nil=>intro q;rfl
  | cons k l ih =>
   intro q;show Cs f nx y l (xa f nx y k q)=Cs f GJ y l (xa f GJ y k q);rw[zm0 h];exact ih _
 exact this _ _
end
end Go.Proofs.YthohlnmcjkjeiaaGreatDoor
