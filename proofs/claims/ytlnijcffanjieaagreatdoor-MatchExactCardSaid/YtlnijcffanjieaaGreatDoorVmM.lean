/- Seat 7: Ends is walked. Conditions: none but those named. -/
import Derived.Test.YtlnijcffanjieaaGreatDoorVmL
set_option linter.defProp false
namespace Go.Proofs.YtlnijcffanjieaaGreatDoor
open Go Go.Vm
open Go.Proofs.Tryz
set_option maxRecDepth 100000
section
variable{gl:Gl}
def Dc:V:=.bf 373 (.obj 0)
structure GWC(gl:Gl):Prop extends GW gl where
 chk:∀e,Wf e->Can e->gl.hk 11 [enc e]=some (.bool (v4 e))
 g0:gl.g 0 0=some Dc
 hkN:∀f args,([14,16].any (Nat.beq f))=true->gl.hk f args=none
def Rl(hg:GWC gl){e:E}(hw:Wf e)(hc:Can e){n:Nat}(hn:1<=n)(H:Hp):Cx.cX ⟨prog,gl.g,zl prog gl n,uR⟩ 11 [.agg (aE e)] H=some (.val (.bool (v4 e)),H):=by
 have:=yM (n:=n - 1) (H:=H) (hg.chk e hw hc);rw[show n - 1+1=n by omega,zV] at this
 exact zR func11 rfl this
def GA:jI prog 38=some false:=by kernel_rfl
def zn4{H:Hp}{g:Nat->Nat->bS}{b:Nat}{e:E}(h:H.get b=some (.cells (aE e) 27)):zA prog H g 27 (.ptr b 0)=some (.agg (aE e)):=by
 rw[vd Jm C7 h (by rw[qC];decide),E0,Af (by rw[qC];decide)]
def e_(e:E)(t:aR):Bool:=v4 e && decide (t.length<=65536)
def q7(e:E)(t:aR):aR:=match h_ e with|some w=>vm w t|none=>[]
end
section
variable{gl:Gl}
def vj(e:E)(t:aR):fS:=match h_ e with|some w=>tP (mV w 0 t) (t.length == 0)|none=>c_
def EA(e:E)(t:aR):V:=if e_ e t then .bx [bI (vj e t),.bq] else .bx [bI c_,Dc]
def Uz(hg:GWC gl){e:E}{nl:Bool}{t:aR}(hw:Wf e)(hc:Can e)(hr:Rg e)(ht:∀b∈t,b<256){n:Nat}(hn:2 * YtlnijcffanjieaaGreatDoor.hg e+t.length+2<=n):∃H',zl prog gl (n+1) 16 [enc e,zI nl t] ⟨[],[]⟩=some (.ret (EA e t),H'):=by
 suffices eG:go ⟨prog,gl.g,zl prog gl n,gl.uq⟩ n (Fx prog f16.results.toList λu H1=>u=EA e t) [.c (f16.body.getD .skip)] .normal ⟨[.agg (aE e),zI nl t]++List.replicate 40 (.bx []),⟨[],[]⟩,[],[]⟩ by
  rw[zV];obtain⟨u,H1,h1,rfl⟩:=jm (gl:=gl) (f:=16) (bs:=[]) (es:=[]) (args:=[.agg (aE e),zI nl t]) (n:=n) (hg.hkN _ _ (by decide)) (λH=>hg.fB _ _ _ _) func16 rfl eG
  exact⟨_,h1⟩
 rw[hg.uq];have M6:=Rl hg hw hc (n:=n) (by omega)
 simp only[f16,tS,zc];refine ze ?_;simp only[zt,ah,zc,wb,jf,zi,zh,zH,aF,qt,zn,au,aI,cA,qc,fY,List.length_nil,eM,iQ,gF,zb,cM,cN,qQ (show eF (.agg (aE e))=true from rfl),V.laid,wx,Pf,List.replicate,List.length_nil]
 have lz:∀g S,zA prog ⟨[.cells (aE e) 27,S],[]⟩ g 27 (.ptr 0 0)=some (.agg (aE e)):=λg S=>zn4 rfl;have b8:∀env s bs es,qV prog 24 ⟨aN.cells (aE e) 27::aN.cells (bI c_).cells 24::bs,es⟩ [] [] (some (bI s,env)) (some (.ptr 1 0))=some (.skip,⟨env,⟨aN.cells (aE e) 27::.cells (bI s).cells 24::bs,es⟩,[],[]⟩):=λenv s bs es=>by rw[LM rfl];rfl
 have hlr:∀g s bs es,zA prog ⟨aN.cells (aE e) 27::.cells (bI s).cells 24::bs,es⟩ g 24 (.ptr 1 0)=some (bI s):=λg s bs es=>LL rfl;refine ze ?_;simp only[zt,zr,zw,SM,jH,bt,zQ,aq,zd,au,aI,zp,vF,zu,cG,cA,qn,fH,iC,Bm,zb,zg,cM,cN,lz,M6,NG];have AP:∀H,zA prog H gl.g 38 (.gj 0 0)=some Dc:=λH=>by simp[zA,GA,hg.g0]
 cases LY:v4 e
 ·simp only[zt,ah,zc,bC,zr,zE,qD,wU,aq,aF,zd,au,aI,zB,zp,cG,cA,fK,zP,zY,qZ,zb,zg,cM,cN,jb,zF,qa,gS,yh,Dr,zS,xL,Qw]
  refine .inl ?_;refine xH [1] [(false,false),(true,false),(false,true),(false,false)] (tk:=[]) (by kernel_rfl) (by kernel_rfl) ?_
  simp only[zw,zC,jd,zi,aq,zh,zd,zn,aI,zu,cG,cA,fK,fW,zb,zg,cM,cN,oB,sI,Q7,zeX,kA,wo,GA,Ra,vf,AP,Dc,qo,qu,b8];refine⟨λ_=>zfX (p:=.gj 0 0) rfl (AP _) rfl,?_⟩;simp only[go_ret,zo,je,Fx]
  refine⟨trivial,[bI c_,Dc],?_,?_⟩
  ·simp only[zG,zb,zg,hlr];rfl
  ·simp only[EA,e_,LY,fN,G3,bH,aZ];rfl
 ·simp only[zt,ah,zc,bC,zr,zE,qD,wU,aq,aF,zd,au,aI,zB,zp,cG,cA,zP,zY,q5,zb,zg,cM,cN,jb,zF,qa,eX,kZ,pI,zS,xL,Qw]
  by_cases hlen:(t.length:Int) > 65536
  ·refine .inl ⟨by simpa using hlen,?_⟩
   refine xH [1] [(false,false),(true,false),(false,true),(false,false)] (tk:=[]) (by kernel_rfl) (by kernel_rfl) ?_
   simp only[zw,zC,jd,zi,aq,zh,zd,zn,aI,zu,cG,cA,fK,fW,zb,zg,cM,cN,oB,sI,Q7,zeX,kA,wo,GA,Ra,vf,AP,Dc,qo,qu,b8];refine⟨λ_=>zfX (p:=.gj 0 0) rfl (AP _) rfl,?_⟩;simp only[go_ret,zo,je,Fx]
   refine⟨trivial,[bI c_,Dc],?_,?_⟩
   ·simp only[zG,zb,zg,hlr];rfl
   ·have:¬t.length<=65536:=by omega
    simp only[EA,e_,LY,fN,this,decide_false,Bool.and_false,bH,aZ];rfl
  ·refine .inr ⟨by simpa using hlen,?_⟩
   have hle:t.length<=65536:=by omega
   have Js:=Rj LY;obtain⟨v,bs',fJ,UA,fZ,Bt,fG⟩:=zn1 hg.toGW _ e (bV _) Js (n - 1) (by omega) [.cells (aE e) 27,.cells (bI c_).cells 24] []
   rw[show n - 1+1=n by omega,zV,uf] at UA
   have Rm:=zR (gl:=gl.g) (uq:=uR) func45 rfl UA;have hE:e_ e t=true:=by simp[e_,LY,hle]
   obtain⟨l,rfl,hl⟩:=fZ;simp only[iQ,gF] at Rm fG;cases GB:h_ e with
   | none =>
    rw[GB] at fG;obtain rfl:v=.bq:=fG;refine ze ?_;simp only[zt,ah,zc,zw,zi,jH,bt,zQ,aq,zh,zd,zn,au,aI,vF,zu,cG,cA,qn,fH,iC,Bm,zb,zg,cM,cN,lz,Rm,zjp]
    refine ze ?_;simp only[zt,ah,zc,bC,zr,zE,aq,aF,zd,au,aI,zp,fK,zP,zY,zb,zg,cM,cN,iK,zg7,fK,Cz,pJ,E1]
    refine ze ?_;simp only[zt,ah,zC,jd,zi,aq,zh,zH,aF,zd,zn,au,bK,aI,zu,cA,zb,zg,cM,cN,Ra,vf,b8]
    simp only[go_ret,zo,je,Fx]
    refine⟨trivial,[bI c_,.bq],?_,?_⟩
    ·simp only[zG,zb,zg,hlr];rfl
    ·simp only[EA,hE,vj,GB,fN,aT];rfl
   | some w =>
    rw[GB] at fG;obtain⟨hi,r9,fP⟩:=fG;have hFW:=BX _ e w (bV _) GB;have R4:=BY _ e w (bV _) Js hr GB;obtain⟨vt,vu,rfl⟩:=fP.bf;refine ze ?_;simp only[zt,ah,zc,zw,zi,jH,bt,zQ,aq,zh,zd,zn,au,aI,vF,zu,cG,cA,qn,fH,iC,Bm,zb,zg,cM,cN,lz,Rm,qu]
    refine ze ?_;simp only[zt,ah,zc,bC,zr,zE,aq,aF,zd,au,aI,zp,fK,zP,zY,zb,zg,cM,cN,qo,zg6,fK,bH,pJ,Cg]
    refine ze ?_;simp only[zt,ah,zU,zr,wU,aq,aF,zd,au,aI,cG,cA,zb,zg,cM,cN,zS,xL]
    have G9:∀k:Nat,((k:Int) == 0)=(k == 0):=λk=>by
     cases k with
     | zero=>rfl
     | succ k=>exact(beq_false_of_ne (by omega)).trans (beq_false_of_ne (by omega)).symm
    refine km (λm s=>∃k env B w',m+k=t.length/\s=⟨env,⟨B,fJ⟩,[],[]⟩/\env.length=42/\nth env 1=some (zI nl t)/\nth env 4=some (.ptr 1 0)/\nth env 6=some (.bf vt vu)/\nth env 24=some (zI nl t)/\nth env 25=some (.int .i64 t.length)/\nth env 26=some (.int .i64 (k:Nat))/\At B w' 2 hi (.bf vt vu)/\nth B 1=some (.cells (bI c_).cells 24)/\hi<=B.length/\2<=B.length/\FW w'=FW w/\Ap w'/\mV w 0 t=mV w' k (t.drop k)) t.length (by omega) ⟨0,_,_,w,rfl,rfl,rfl,rfl,rfl,rfl,rfl,rfl,rfl,fP,rfl,r9,by simp,rfl,R4,rfl⟩ ?_
    rintro m s ⟨k,env,B,w',Ck,rfl,aW,g1,g4,g6,g24,g25,g26,fP,Qo,hhB,hB2,ach,Pt,cj⟩;simp only[zc];refine ze ?_;simp only[zt,ah,zc,bC,zU,zE,aq,zd,au,aI,zB,zp,zP,zY,aT,za,Nat.reduceLT,aT,g25,g26,aW,jr]
    by_cases hk:k<t.length
    ·refine .inl ⟨by simp;omega,?_⟩
     obtain⟨b,hb⟩:∃b,t[k]?=some b:=⟨t[k],by simp[hk]⟩
     have Pu:b<256:=ht b (oH hb);have fD:t.drop k=b::t.drop (k+1):=by
      rw[J6 hk];rw[lB hk] at hb;rw[tU hb]
     rw[fD] at cj;simp only[mV] at cj;obtain⟨j_,a1,a2,a3,a4⟩:=Rc hg.toGW (FW w') fP Pt hhB (bV _) (n:=n) (by omega) (k == 0) b Pu fJ
     have b8:=λenv=>jV (lk:=[]) (df:=[]) (env:=env) a1;rw[hg.uq] at b8
     try simp only[bC,zc,zU]
     refine ze ?_;simp only[zt,ah,zr,zw,zi,qK,Nat.reduceEqDiff,aq,zh,ZN,zd,zn,au,aI,zB,On,cG,cA,gW,aT,za,cI,Nat.reduceLT,aT,aZ,g24,g26,aW,zS,gW,zn2 hb,Rk]
     refine ze ?_;simp only[zt,ah,wh,zr,zE,Nat.reduceEqDiff,bt,zQ,aq,aF,zd,au,aI,zB,zp,aT,za,cI,Nat.reduceLT,aT,aZ,g6,aW,qo,qE,G9,zW,b8]
     refine ze ?_;simp only[zt,ah,zr,zE,Nat.reduceEqDiff,aq,aF,zd,au,aI,zB,aT,za,cI,Nat.reduceLT,aT,aZ,g26,aW,qf (show k<2 ^ 60 by omega),zo,bL]
     refine⟨m - 1,by omega,k+1,_,j_,_,by omega,rfl,?_,?_,?_,?_,?_,?_,?_,a2,(a4 1 (by omega)).trans Qo,by omega,by omega,(A_ _ _ _ _ (bV _)).trans ach,uX _ _ _ _ (bV _) Pt,cj⟩
     ·simp[aW]
     ·simp[za,g1]
     ·simp[za,g4]
     ·simp[za,g6]
     ·simp[za,g24]
     ·simp[za,g25]
     ·simp[za,aW]
    ·refine .inr ⟨by simp;omega,?_⟩
     obtain rfl:k=t.length:=by omega
     rw[List.drop_length] at cj;simp only[mV] at cj;have hnx:=λenv=>jV (lk:=[]) (df:=[]) (env:=env) (Uh hg.toGW (FW w') fP Pt hhB (bV _) (n:=n) (by omega) (t.length == 0) fJ)
     rw[hg.uq] at hnx;have LX:∀env s,qV prog 24 ⟨B,fJ⟩ [] [] (some (bI s,env)) (some (.ptr 1 0))=some (.skip,⟨env,Hp.set ⟨B,fJ⟩ 1 (.cells (bI s).cells 24),[],[]⟩):=λenv s=>LM Qo;have aci:∀g s,zA prog (Hp.set ⟨B,fJ⟩ 1 (.cells (bI s).cells 24)) g 24 (.ptr 1 0)=some (bI s):=λg s=>LL (by rw[W4,show Hp.get ⟨B,fJ⟩ 1=some _ from Qo];simp)
     simp only[jY,q8,qB,zo,dV,zc,pP,aT,zo];refine ze ?_;simp only[zt,ah,zr,zC,zE,zi,wU,Nat.reduceEqDiff,bt,zQ,aq,zh,zH,aF,zd,zn,au,bK,aI,zB,zp,zu,cG,cA,aT,za,cI,Nat.reduceLT,aT,aZ,g1,g4,g6,aW,zS,xL,qo,qE,G9,zW,hnx,vf,LX]
     simp only[go_ret,zo,Fx]
     refine⟨trivial,[bI (tP w' (t.length == 0)),.bq],?_,?_⟩
     ·simp[zG,za,aW,g4,aci];rfl
     ·simp only[EA,hE,vj,GB,cj,fN,aT];rfl
end
section
open Go.Vm.Sx
variable{gl:Gl}[ir gl]
def zsc{x:V}:we prog [34] [.d x] 0:=by
 refine⟨λe=>?_,trivial⟩;rw[underlying34];simp
def zpx{x y:V}:we prog [36,36] [.d x,.d y] 0:=by
 refine⟨λe=>?_,λe=>?_,trivial⟩<;>rw[underlying36]<;>simp
def ztu(cU:GL gl):∀(e:E),Wf e->Ev prog gl 11 [.d (enc e)] [] (.bool (v4 e)) []
 | .mk op pl s0 s1 s2 s3 text mn mx nl args,hw=>by
  refine qv (xs:=[enc (.mk op pl s0 s1 s2 s3 text mn mx nl args)]) cU.top (cU.no 11 rfl) Gq func11 (by kernel_rfl) Q_ (by simp[aA,cL]) (N:=1) ?_
  have hc:=qM (zrW cU (.mk op pl s0 s1 s2 s3 text mn mx nl args) hw 1 0 0);simp only[M5,LH,Pc,enc] at hc;simp only[gH,hO,Nat.reduceAdd,Jc,enc,v4];simp only[qq,qp,dM,jv,vH,jS,j8,qL,vz,xF,Lx,dL,oP,ku,zK,zT,vJ,bG,aG,bw,aQ,lK,BF,dY,eo,cw,dI,zB,wm,pP,fY,List.length_nil,jg,hc,qg]
def oV(l:aR):V:=lv 1 true (kD l)
def zqq(l:aR):fm (.sl 1) (oV l)=true:=zqY ..
def UB(l:aR):vL (oV l)=kD l:=znB ..
def zpy(l:aR):aX (oV l)=oV l:=BN ..
def oE:∀l:aR,aA (kD l)=0
 | []=>rfl
 | a::l=>by simp only[kD,iC,aA];exact oE l
def zha(l:aR):(oV l).top=0:=by unfold oV;rw[TQ];exact oE l
def xM(l:aR):(kD l).length=l.length:=by simp[kD]
def ziQ{l:aR}{i n:Nat}(h:l[i]?=some n):nth (kD l) i=some (.int .i64 (n:Nat)):=by rw[zf,kD,pH,h];rfl
def wJ(nl:Bool)(t:aR):fm (.sl 1) (zI nl t)=true:=zqY ..
def kT(nl:Bool)(t:aR):vL (zI nl t)=t.map λb=>V.int .u8 (b:Nat):=znB ..
def kB(nl:Bool)(t:aR):(zI nl t).top=0:=by
 unfold zI;rw[TQ]
 induction t with
 | nil=>rfl
 | cons a t ih=>simp only[iC,aA];exact ih
def zpz(nl:Bool)(t:aR)(n:Nat):Ot (zI nl t) 0 (n:Int)=zI (nl && t.isEmpty) (t.take n):=by
 rcases gr 1 nl (t.map λb=>V.int .u8 (b:Nat)) with h|⟨h0,h⟩
 ·rw[zI,h];simp only[Ot,zI,lv,List.map_take,rM,Mf,E0];cases nl with
  | false=>simp
  | true =>
   cases t with
   | nil=>simp[lv] at h
   | cons a t=>simp
 ·have:t=[]:=by simpa using h0
  subst this;rw[zI,h];cases nl with
  | false=>simp[lv] at h
  | true=>simp[Ot,zI,lv]
def LZ(t:aR):aR:=if 40<t.length/\t.length<=65536 then t.take 40 else t
def zn5(nl:Bool)(t:aR):zI nl t=zI (nl && t.isEmpty) t:=by
 cases nl<;>cases t<;>rfl
def ztv(cU:GL gl)(nl:Bool)(t:aR):Ev prog gl 13 [.d (zI nl t)] [] (zI (nl && t.isEmpty) (LZ t)) []:=by
 refine qv (xs:=[zI nl t]) cU.top (cU.no 13 rfl) Gu func13 (by kernel_rfl) zsc (by simp[aA,kB]) (N:=1) ?_
 simp only[Jg]
 by_cases h1:40<t.length
 ·by_cases h2:t.length<=65536
  ·have e1:gh 40 (t.length:Int)=true:=yf (by omega)
   have e2:Eg (t.length:Int) 65536=true:=OQ (by omega)
   have e3:Eg 40 (t.length:Int)=true:=OQ (by omega)
   have e4:=zpz nl t 40;have hT:LZ t=t.take 40:=if_pos ⟨h1,h2⟩;rw[hT];have e5:Ot (zI nl t) 0 40=zI (nl && t.isEmpty) (t.take 40):=e4;simp only[vi,jv,jS,oP,bk,bG,cV,Q2,wZ,wJ,kT,e1,e2,oO];rw[OU]
   ·simp only[qq,qp,jS,j8,zK,zT,bG,aG,bw,aQ,eo,e5]
   ·simp only[jS,Bool.and_true,bk,bG,cV,Q2,kT,e3,oO];rfl
  ·have e1:gh 40 (t.length:Int)=true:=yf (by omega)
   have e2:Eg (t.length:Int) 65536=false:=zp4 (by omega)
   have hT:LZ t=t:=if_neg (by omega)
   rw[hT,<- zn5];simp only[w8,qq,qp,jv,jS,j8,Bool.and_false,zK,zT,bk,bG,cV,aG,bw,aQ,eo,Q2,wZ,wJ,kT,e1,e2,oO,zS]
 ·have e1:gh 40 (t.length:Int)=false:=yZ (by omega)
  have hT:LZ t=t:=if_neg (by omega)
  rw[hT,<- zn5];simp only[w8,qq,qp,jv,jS,j8,G3,zK,zT,bk,bG,cV,aG,bw,aQ,eo,Q2,wZ,wJ,kT,e1,oO,zS]
def Pv:aR->aR->Bool
 | [],_=>true
 | a::r,b::q=>(a == b) && Pv r q
 | _::_,[]=>true
def FE:∀{a b:aR},a.length=b.length->Pv a b=decide (a=b)
 | [],[],_=>rfl
 | a::r,b::q,h=>by
  simp only[Pv,FE (a:=r) (b:=q) (by simpa using h),rZ]
  by_cases h1:a=b<;>simp[h1]
def ztw(cU:GL gl)(a b:aR)(hl:a.length<=maxLen):Ev prog gl 21 [.d (oV a),.d (oV b)] [] (.bool (decide (a=b))) []:=by
 refine qv (xs:=[oV a,oV b]) cU.top (cU.no 21 rfl) Gt func21 (by kernel_rfl) zpx (by simp[aA,zha]) (N:=a.length+1) ?_
 have Ik:=iy;simp only[Jf]
 by_cases hlen:a.length=b.length
 ·rw[<- FE hlen];have key:∀(r q:aR)(i:Nat),a.drop i=r->b.drop i=q->r.length=q.length->∀k,r.length<k->xG (rV prog gl) gl.g (a.length+1) Ei [oV a,oV b] k [.int .i64 (i:Int)]=some (0,[.bool (Pv r q)]):=by
   simp only[Ei];intro r
   induction r with
   | nil =>
    intro q i hd hq hl k hk;obtain⟨k,rfl⟩:∃k',k=k'+1:=⟨k - 1,by omega⟩
    refine jl ?_;have h1:=Hw (wH hd);simp only[w8,qq,nh,qp,jS,j8,zK,zT,bk,bG,cV,aG,bw,aQ,eo,qz,wc,UB,xM,h1,Pv]
   | cons x r ih =>
    intro q i hd hq hl k hk;obtain⟨k,rfl⟩:∃k',k=k'+1:=⟨k - 1,by omega⟩
    cases q with
    | nil=>simp at hl
    | cons y q =>
     obtain⟨ha,hi,sA⟩:=wG hd;obtain⟨hb,hi2,uM⟩:=wG hq;have h1:=Hv hi;have h2:=ziQ ha;have h3:=ziQ hb;have h4:=Ek (i:=i) (by omega)
     have he:((x:Int) == (y:Int))=(x == y):=by
      rw[FY];simp;omega
     cases hc:x == y with
     | true =>
      rw[hc] at he;simp only[Pv,hc,ug];refine kP (vs:=[.int .i64 ((i+1:Nat):Int)]) ?_ (ih q (i+1) sA uM (by simpa using hl) k (by simp at hk;omega))
      simp only[vi,w8,qq,OV,jv,jS,j8,vz,pI,OP,zK,zT,bk,bG,cV,aG,bw,qz,wc,jE,fz,OS,UB,xM,h1,h2,h3,h4,he,rM]
     | false =>
      rw[hc] at he;simp only[Pv,hc,G3];refine jl ?_;simp only[vi,qq,nh,qp,OV,jv,jS,j8,vz,Dr,OP,zK,zT,bk,bG,cV,aG,bw,aQ,eo,qz,wc,jE,OS,UB,xM,h1,h2,h3,he,rM]
  have he:((a.length:Int) == (b.length:Int))=true:=by rw[hlen];simp
  simp only[w8,jv,OT,jS,j8,pI,bk,bG,cV,aG,bw,jE,zqq,UB,xM,he];exact kX (key a b 0 rfl rfl hlen _ (by omega))
 ·have he:((a.length:Int) == (b.length:Int))=false:=beq_false_of_ne (by omega)
  have cg:decide (a=b)=false:=decide_eq_false (λh=>hlen (by rw[h]))
  rw[cg];simp only[vi,qq,qp,jv,jS,j8,Dr,zK,zT,bk,bG,cV,aG,bw,aQ,eo,jE,zqq,UB,xM,he]
end
section
open Go.Vm.Sx
def dR(k n:Nat):List (Nat×GS):=(List.range n).map λi=>(k+i,.drop)
def ack:List (Nat×JS):=[(250,⟨[(6,(.one (.int .i64))),(7,(.one (.int .i64))),(11,.drop),(12,.drop),(13,.drop),(16,.drop),(17,.drop),(18,.drop),(21,.drop),(22,.drop),(23,.drop),(24,.drop),(25,.drop),(26,.drop),(27,.drop),(28,.drop),(29,.drop),(41,.drop),(42,.drop),(43,.drop),(46,.drop),(47,.drop),(48,.drop),(58,.drop),(59,.drop),(60,.drop),(63,.drop),(64,.drop),(65,.drop),(73,.drop),(74,.drop),(75,.drop),(76,.drop),(77,.drop),(78,.drop),(79,.drop),(80,.drop),(83,.drop),(84,.drop),(85,.drop),(86,.drop),(87,.drop),(88,.drop),(89,.drop),(90,.drop),(97,.drop),(98,.drop),(100,.drop),(101,.drop),(102,.drop),(103,.drop),(104,.drop),(105,.drop),(106,.drop),(107,.drop),(108,.drop),(109,.drop),(110,.drop),(111,.drop),(112,.drop),(113,.drop),(114,.drop),(115,.drop),(116,.drop),(117,.drop),(118,.drop),(119,.drop),(120,.drop)],[]⟩)]
def pE:Tree :=
 (.ite (.and (.cmp .lss (.var 13) (.len (.var 11))) (.cmp .leq (.var 12) (.lit (65536))))
                   (.elem (.var 11) (.var 13)
                   (.iN 14 gH
                   (.call 80 [(.d (.agg (hO 15 false))),(.d (.one (.i .i64 (.bin .sub .i64 (.var 1) (.lit (1))))))] [] []
                   (.gG 25 (.int .i64)
                   (.out [(.i .i64 (.bin .add .i64 (.var 12) (.var 25))),(.i .i64 (.bin .add .i64 (.var 13) (.lit (1))))])))))
                   (.p9
                    (.bO (.sc (.one (.v 12 true)))
                    (.out [(.v 14 false)]))))
def Ju:Tree :=
 (.iN 0 gH
 (.gG 1 (.int .i64)
 (.ite (.or (.or (.or (.cmp .lss (.var 1) (.lit (1))) (.not (.cmp .eql (.var 3) (.lit (0))))) (.not (.nZ .eql (.var 8) (.lit [])))) (.and (.not (.cmp .eql (.var 2) (.lit (2)))) (.not (.and (.cmp .eql (.var 4) (.lit (0))) (.and (.cmp .eql (.var 5) (.lit (0))) (.and (.cmp .eql (.var 6) (.lit (0))) (.cmp .eql (.var 7) (.lit (0)))))))))
   (.bO (.sc (.one (.i .i64 (.lit (65537)))))
   (.out [(.v 12 false)]))
   (.ite (.cmp .eql (.var 2) (.lit (1)))
     (.ite (.or (.or (.cmp .gtr (.len (.var 11)) (.lit (0))) (.not (.cmp .eql (.var 9) (.lit (0))))) (.not (.cmp .eql (.var 10) (.lit (0)))))
       (.bO (.sc (.one (.i .i64 (.lit (65537)))))
       (.out [(.v 12 false)]))
       (.loop [(.i .i64 (.lit (1))),(.i .i64 (.lit (0)))] pE))
     (.ite (.cmp .eql (.var 2) (.lit (2)))
       (.ite (.or (.or (.cmp .gtr (.len (.var 11)) (.lit (0))) (.not (.cmp .eql (.var 9) (.lit (0))))) (.not (.cmp .eql (.var 10) (.lit (0)))))
         (.bO (.sc (.one (.i .i64 (.lit (65537)))))
         (.out [(.v 12 false)]))
         (.loop [(.i .i64 (.lit (1))),(.i .i64 (.lit (0)))] pE))
       (.ite (.cmp .eql (.var 2) (.lit (5)))
         (.ite (.or (.or (.cmp .lss (.len (.var 11)) (.lit (2))) (.not (.cmp .eql (.var 9) (.lit (0))))) (.not (.cmp .eql (.var 10) (.lit (0)))))
           (.bO (.sc (.one (.i .i64 (.lit (65537)))))
           (.out [(.v 12 false)]))
           (.loop [(.i .i64 (.lit (1))),(.i .i64 (.lit (0)))] pE))
         (.ite (.cmp .eql (.var 2) (.lit (6)))
           (.ite (.or (.or (.cmp .lss (.len (.var 11)) (.lit (2))) (.not (.cmp .eql (.var 9) (.lit (0))))) (.not (.cmp .eql (.var 10) (.lit (0)))))
             (.bO (.sc (.one (.i .i64 (.lit (65537)))))
             (.out [(.v 12 false)]))
             (.loop [(.i .i64 (.lit (1))),(.i .i64 (.lit (0)))] pE))
           (.ite (.cmp .eql (.var 2) (.lit (7)))
             (.ite (.or (.not (.cmp .eql (.len (.var 11)) (.lit (1)))) (.not (.or (.and (.cmp .eql (.var 9) (.lit (0))) (.or (.cmp .eql (.var 10) (.lit (-1))) (.cmp .eql (.var 10) (.lit (1))))) (.and (.cmp .eql (.var 9) (.lit (1))) (.cmp .eql (.var 10) (.lit (-1)))))))
               (.bO (.sc (.one (.i .i64 (.lit (65537)))))
               (.out [(.v 12 false)]))
               (.loop [(.i .i64 (.lit (1))),(.i .i64 (.lit (0)))] pE))
             (.bO (.sc (.one (.i .i64 (.lit (65537)))))
             (.out [(.v 12 false)]))))))))))
def acm:List (Nat×JS):=[]
def Jv:Tree :=
 (.iN 0 gH
 (.call 80 [(.d (.agg (hO 1 true))),(.d (.one (.i .i64 (.lit (4096)))))] [] []
 (.gG 11 (.int .i64)
 (.bO (.sc (.one (.b (.cmp .leq (.var 11) (.lit (65536))))))
 (.out [(.v 12 false)])))))
def acn:List (Nat×JS):=[(13810,⟨[(4,(.one (.int .i64)))]++dR 31 13,[]⟩),
 (1722,⟨[(3,(.one (.int .i64)))]++dR 15 14,[]⟩)]
def EB:Tree :=
 (.ite (.cmp .lss (.var 11) (.len (.var 10)))
           (.elem (.var 10) (.var 11)
           (.iN 12 gH
           (.call 84 [(.d (.agg (hO 13 false)))] [] []
           (.gG 23 .bool
           (.ite (.var 23)
             (.p9
              (.bO (.sc (.one (.b (.lit true))))
              (.out [(.v 24 false)])))
             (.out [(.i .i64 (.bin .add .i64 (.var 11) (.lit (1))))]))))))
           (.p9
            (.bO (.sc (.one (.b (.lit false))))
            (.out [(.v 12 false)]))))
def EC:Tree :=
 (.ite (.cmp .lss (.var 11) (.len (.var 10)))
         (.elem (.var 10) (.var 11)
         (.iN 12 gH
         (.call 84 [(.d (.agg (hO 13 false)))] [] []
         (.gG 23 .bool
         (.ite (.not (.var 23))
           (.p9
            (.bO (.sc (.one (.b (.lit false))))
            (.out [(.v 24 false)])))
           (.out [(.i .i64 (.bin .add .i64 (.var 11) (.lit (1))))]))))))
         (.p9
          (.bO (.sc (.one (.b (.lit true))))
          (.out [(.v 12 false)]))))
def Jw:Tree :=
 (.iN 0 gH
 (.ite (.cmp .eql (.var 1) (.lit (2)))
   (.bO (.sc (.one (.b (.not (.and (.cmp .eql (.var 3) (.lit (0))) (.and (.cmp .eql (.var 4) (.lit (0))) (.and (.cmp .eql (.var 5) (.lit (0))) (.cmp .eql (.var 6) (.lit (0))))))))))
   (.out [(.v 11 false)]))
   (.ite (.cmp .eql (.var 1) (.lit (5)))
     (.loop [(.i .i64 (.lit (0)))] EC)
     (.ite (.cmp .eql (.var 1) (.lit (6)))
       (.loop [(.i .i64 (.lit (0)))] EB)
       (.ite (.cmp .eql (.var 1) (.lit (7)))
         (.ite (.not (.cmp .eql (.var 8) (.lit (0))))
           (.elem (.var 10) (.lit (0))
           (.iN 11 gH
           (.call 84 [(.d (.agg (hO 12 false)))] [] []
           (.gG 22 .bool
           (.bO (.sc (.one (.v 22 true)))
           (.out [(.v 23 false)]))))))
           (.bO (.sc (.one (.b (.lit true))))
           (.out [(.v 11 false)])))
         (.bO (.sc (.one (.b (.lit true))))
         (.out [(.v 11 false)])))))))
def aco:List (Nat×JS):=[]
def Jy:Tree :=
 (.iN 0 [(.int .u64),(.int .u64),(.int .u64),(.int .u64)]
 (.gG 1 (.int .i64)
 (.ite (.cmp .eql (.bin .quo .i64 (.var 1) (.lit (64))) (.lit (0)))
   (.iM (.cmp .geq (.conv .u64 (.bin .rem .i64 (.var 1) (.lit (64)))) (.lit (0)))
   (.bO (.sc (.one (.b (.cmp .eql (.bin .rem .u64 (.bin .shr .u64 (.var 2) (.conv .u64 (.bin .rem .i64 (.var 1) (.lit (64))))) (.lit (2))) (.lit (1))))))
   (.out [(.v 6 false)])))
   (.ite (.cmp .eql (.bin .quo .i64 (.var 1) (.lit (64))) (.lit (1)))
     (.iM (.cmp .geq (.conv .u64 (.bin .rem .i64 (.var 1) (.lit (64)))) (.lit (0)))
     (.bO (.sc (.one (.b (.cmp .eql (.bin .rem .u64 (.bin .shr .u64 (.var 3) (.conv .u64 (.bin .rem .i64 (.var 1) (.lit (64))))) (.lit (2))) (.lit (1))))))
     (.out [(.v 6 false)])))
     (.ite (.cmp .eql (.bin .quo .i64 (.var 1) (.lit (64))) (.lit (2)))
       (.iM (.cmp .geq (.conv .u64 (.bin .rem .i64 (.var 1) (.lit (64)))) (.lit (0)))
       (.bO (.sc (.one (.b (.cmp .eql (.bin .rem .u64 (.bin .shr .u64 (.var 4) (.conv .u64 (.bin .rem .i64 (.var 1) (.lit (64))))) (.lit (2))) (.lit (1))))))
       (.out [(.v 6 false)])))
       (.ite (.cmp .eql (.bin .quo .i64 (.var 1) (.lit (64))) (.lit (3)))
         (.iM (.cmp .geq (.conv .u64 (.bin .rem .i64 (.var 1) (.lit (64)))) (.lit (0)))
         (.bO (.sc (.one (.b (.cmp .eql (.bin .rem .u64 (.bin .shr .u64 (.var 5) (.conv .u64 (.bin .rem .i64 (.var 1) (.lit (64))))) (.lit (2))) (.lit (1))))))
         (.out [(.v 6 false)])))
         (.iM (.lit false)
         (.out []))))))))
def acp:List (Nat×JS):=[(26,⟨[(5,(.one (.int .i64)))]++dR 6 10,[(0,[(some (.int .u64)),(some (.int .u64)),(some (.int .u64)),(some (.int .u64))])]⟩)]
def ED:Tree :=
 (.ite (.cmp .lss (.var 10) (.lit (256)))
     (.call 81 [(.d (.agg [(.v 6 true),(.v 7 true),(.v 8 true),(.v 9 true)])),(.d (.one (.v 10 true)))] [] []
     (.gG 15 .bool
     (.ite (.var 15)
       (.call 103 [(.d (.agg [(.v 11 false),(.v 12 false),(.v 13 false),(.v 14 false)])),(.d (.one (.v 10 true)))] [] []
       (.iN 16 [(.int .u64),(.int .u64),(.int .u64),(.int .u64)]
       (.out [(.i .i64 (.bin .add .i64 (.var 10) (.lit (1)))),(.v 17 true),(.v 18 true),(.v 19 true),(.v 20 true)])))
       (.out [(.i .i64 (.bin .add .i64 (.var 10) (.lit (1)))),(.v 11 false),(.v 12 false),(.v 13 false),(.v 14 false)]))))
     (.p9
      (.bO (.sc (.agg [(.v 11 true),(.v 12 true),(.v 13 true),(.v 14 true)]))
      (.out [(.v 15 false)]))))
def Jz:Tree :=
 (.iN 0 [(.int .u64),(.int .u64),(.int .u64),(.int .u64)]
 (.iN 1 [(.int .u64),(.int .u64),(.int .u64),(.int .u64)]
 (.loop [(.i .i64 (.lit (0))),(.v 2 true),(.v 3 true),(.v 4 true),(.v 5 true)] ED)))
def acq:List (Nat×JS):=[]
def JA:Tree :=
 (.gG 0 (.int .i64)
 (.bO (.sc (.agg [(.v 0 true),(.i .i64 (.lit (0))),(.i .i64 (.lit (0))),(.i .i64 (.lit (0))),(.k .aU)]))
 (.out [(.v 1 false)])))
def acr:List (Nat×JS):=[(58,⟨[(3,(.one (.sl 1))),(4,(.one (.int .i64)))]++dR 5 14,[]⟩)]
def EE:Tree :=
 (.ite (.cmp .lss (.var 2) (.len (.var 0)))
     (.elem (.var 0) (.var 2)
     (.gG 3 .bool
     (.ite (.var 3)
       (.bO (.sc (.one (.v 2 true)))
       (.iM (.own 1 3)
       (.iM (.room (.snoc (.var 1) 4) 8)
       (.out [(.sl 1 (.snoc (.var 1) 4) (.yes 3)),(.i .i64 (.bin .add .i64 (.var 2) (.lit (1))))]))))
       (.out [(.v 1 false),(.i .i64 (.bin .add .i64 (.var 2) (.lit (1))))]))))
     (.p9
      (.bO (.sc (.one (.v 1 false)))
      (.out [(.v 3 false)]))))
def JB:Tree :=
 (.gG 0 (.sl 1)
 (.loop [(.k .aU),(.i .i64 (.lit (0)))] EE))
def acs:List (Nat×JS):=[(122,⟨[(4,(.one (.int .i64)))]++dR 7 18,[(2,[none,none,none,none,none,none,none,none,none,(some (.sl 10))])]⟩)]
def EF:Tree :=
 (.ite (.cmp .lss (.var 11) (.len (.var 10)))
     (.iM (.lJ 12)
     (.elem (.var 10) (.var 11)
     (.iN 13 gH
     (.call 27 [(.d (.agg (hO 14 false)))] [] []
     (.iN 24 gH
     (.bO (.sc (.agg (hO 25 false)))
     (.iM (.own 12 27)
     (.iM (.room (.snoc (.var 12) 35) 104)
     (.out [(.i .i64 (.bin .add .i64 (.var 11) (.lit (1)))),(.sl 10 (.snoc (.var 12) 35) (.yes 27))])))))))))
     (.p9
      (.bO (.sc (.agg [(.v 1 true),(.v 2 true),(.v 3 true),(.v 4 true),(.v 5 true),(.v 6 true),(.v 7 true),(.v 8 true),(.v 9 true),(.v 12 true)]))
      (.out [(.v 13 false)]))))
def JC:Tree :=
 (.iN 0 gH
 (.loop [(.i .i64 (.lit (0))),(.k .aU)] EF))
def acu:List (Nat×JS):=[(58,⟨[(5,(.one (.int .i64))),(12,.drop),(13,.drop),(14,.drop),(15,.drop),(16,.drop),(19,.drop),(20,.drop),(21,.drop),(22,.drop),(23,.drop),(26,.drop),(27,.drop),(28,.drop),(29,.drop),(30,.drop),(33,.drop),(34,.drop),(35,.drop),(36,.drop),(37,.drop),(40,.drop),(41,.drop),(42,.drop),(43,.drop),(44,.drop),(47,.drop),(48,.drop),(49,.drop),(50,.drop),(51,.drop),(52,.drop),(53,.drop),(55,.drop),(56,.drop),(57,.drop),(58,.drop),(59,.drop),(60,.drop),(61,.drop),(62,.drop),(63,.drop),(64,.drop),(65,.drop),(66,.drop),(67,.drop),(68,.drop),(69,.drop),(70,.drop),(71,.drop),(72,.drop),(73,.drop)],[]⟩)]
def EG:Tree :=
 (.ite (.cmp .lss (.var 22) (.len (.var 11)))
       (.elem (.var 11) (.var 22)
       (.iN 23 gH
       (.elem (.var 21) (.var 22)
       (.iN 34 gH
       (.call 34 [(.d (.agg (hO 24 false))),(.d (.agg (hO 35 false)))] [] []
       (.gG 45 .bool
       (.ite (.not (.var 45))
         (.p9
          (.bO (.sc (.one (.b (.lit false))))
          (.out [(.v 46 false)])))
         (.out [(.i .i64 (.bin .add .i64 (.var 22) (.lit (1))))]))))))))
       (.p9
        (.bO (.sc (.one (.b (.lit true))))
        (.out [(.v 23 false)]))))
def JD:Tree :=
 (.iN 0 gH
 (.iN 1 gH
 (.ite (.or (.or (.or (.or (.or (.or (.not (.cmp .eql (.var 2) (.var 12))) (.not (.cmp .eql (.var 3) (.var 13)))) (.not (.and (.cmp .eql (.var 4) (.var 14)) (.and (.cmp .eql (.var 5) (.var 15)) (.and (.cmp .eql (.var 6) (.var 16)) (.cmp .eql (.var 7) (.var 17))))))) (.not (.nZ .eql (.var 8) (.var 18)))) (.not (.cmp .eql (.var 9) (.var 19)))) (.not (.cmp .eql (.var 10) (.var 20)))) (.not (.cmp .eql (.len (.var 11)) (.len (.var 21)))))
   (.bO (.sc (.one (.b (.lit false))))
   (.out [(.v 22 false)]))
   (.loop [(.i .i64 (.lit (0)))] EG))))
def acv:List (Nat×JS):=[(58,⟨[(5,(.one (.int .i64)))]++dR 11 15,[]⟩)]
def EH:Tree :=
 (.ite (.cmp .lss (.var 2) (.len (.var 0)))
       (.elem (.var 0) (.var 2)
       (.gG 3 (.int .u8)
       (.elem (.var 1) (.var 2)
       (.gG 4 (.int .u8)
       (.ite (.not (.cmp .eql (.var 3) (.var 4)))
         (.p9
          (.bO (.sc (.one (.b (.lit false))))
          (.out [(.v 5 false)])))
         (.out [(.i .i64 (.bin .add .i64 (.var 2) (.lit (1))))]))))))
       (.p9
        (.bO (.sc (.one (.b (.lit true))))
        (.out [(.v 3 false)]))))
def JE:Tree :=
 (.gG 0 (.sl 1)
 (.gG 1 (.sl 1)
 (.ite (.not (.cmp .eql (.len (.var 0)) (.len (.var 1))))
   (.bO (.sc (.one (.b (.lit false))))
   (.out [(.v 2 false)]))
   (.loop [(.i .i64 (.lit (0)))] EH))))
def acw:List (Nat×JS):=[(15098,⟨[(9,(.one (.int .i64)))]++dR 54 17,[(2,[(some (.int .u64)),(some (.int .u64)),(some (.int .u64)),(some (.int .u64))])]⟩),
 (7542,⟨[(2,(.one (.sl 1))),(8,(.one (.int .i64)))]++dR 27 25,[(2,[(some (.int .u64)),(some (.int .u64)),(some (.int .u64)),(some (.int .u64))])]⟩)]
def EI:Tree :=
 (.ite (.cmp .lss (.var 13) (.len (.var 12)))
           (.elem (.var 12) (.var 13)
           (.iN 18 gH
           (.call 56 [(.d (.agg (hO 19 false))),(.d (.one (.v 1 true))),(.d (.one (.v 2 true)))] [] []
           (.iN 29 [(.int .u64),(.int .u64),(.int .u64),(.int .u64)]
           (.call 85 [(.d (.agg [(.v 14 false),(.v 15 false),(.v 16 false),(.v 17 false)])),(.d (.agg [(.v 30 false),(.v 31 false),(.v 32 false),(.v 33 false)]))] [] []
           (.iN 34 [(.int .u64),(.int .u64),(.int .u64),(.int .u64)]
           (.out [(.i .i64 (.bin .add .i64 (.var 13) (.lit (1)))),(.v 35 true),(.v 36 true),(.v 37 true),(.v 38 true)])))))))
           (.p9
            (.bO (.sc (.agg [(.v 14 true),(.v 15 true),(.v 16 true),(.v 17 true)]))
            (.out [(.v 18 false)]))))
def EJ:Tree :=
 (.ite (.cmp .lss (.var 15) (.len (.var 12)))
           (.elem (.var 12) (.var 15)
           (.iN 20 gH
           (.call 56 [(.d (.agg (hO 21 false))),(.d (.one (.v 1 true))),(.d (.one (.v 14 true)))] [] []
           (.iN 31 [(.int .u64),(.int .u64),(.int .u64),(.int .u64)]
           (.call 85 [(.d (.agg [(.v 16 false),(.v 17 false),(.v 18 false),(.v 19 false)])),(.d (.agg [(.v 32 false),(.v 33 false),(.v 34 false),(.v 35 false)]))] [] []
           (.iN 36 [(.int .u64),(.int .u64),(.int .u64),(.int .u64)]
           (.elem (.var 12) (.var 15)
           (.iN 41 gH
           (.call 54 [(.d (.agg (hO 42 false))),(.d (.one (.v 1 true))),(.d (.one (.v 14 true)))] [] []
           (.gG 52 (.sl 1)
           (.out [(.v 52 false),(.i .i64 (.bin .add .i64 (.var 15) (.lit (1)))),(.v 37 true),(.v 38 true),(.v 39 true),(.v 40 true)])))))))))))
           (.p9
            (.bO (.sc (.agg [(.v 16 true),(.v 17 true),(.v 18 true),(.v 19 true)]))
            (.out [(.v 20 false)]))))
def JF:Tree :=
 (.iN 0 gH
 (.gG 1 (.sl 1)
 (.gG 2 (.sl 1)
 (.ite (.cmp .eql (.var 3) (.lit (2)))
   (.elem (.var 2) (.len (.var 1))
   (.gG 13 .bool
   (.ite (.var 13)
     (.bO (.sc (.agg [(.v 5 true),(.v 6 true),(.v 7 true),(.v 8 true)]))
     (.out [(.v 14 false)]))
     (.bO (.sc (.agg [(.i .u64 (.lit (0))),(.i .u64 (.lit (0))),(.i .u64 (.lit (0))),(.i .u64 (.lit (0)))]))
     (.out [(.v 14 false)])))))
   (.ite (.cmp .eql (.var 3) (.lit (5)))
     (.call 84 [(.d (.agg (hO 3 true)))] [] []
     (.gG 13 .bool
     (.ite (.not (.var 13))
       (.bO (.sc (.agg [(.i .u64 (.lit (0))),(.i .u64 (.lit (0))),(.i .u64 (.lit (0))),(.i .u64 (.lit (0)))]))
       (.out [(.v 14 false)]))
       (.loop [(.v 2 false),(.i .i64 (.lit (0))),(.i .u64 (.lit (0))),(.i .u64 (.lit (0))),(.i .u64 (.lit (0))),(.i .u64 (.lit (0)))] EJ))))
     (.ite (.cmp .eql (.var 3) (.lit (6)))
       (.loop [(.i .i64 (.lit (0))),(.i .u64 (.lit (0))),(.i .u64 (.lit (0))),(.i .u64 (.lit (0))),(.i .u64 (.lit (0)))] EI)
       (.ite (.cmp .eql (.var 3) (.lit (7)))
         (.ite (.cmp .eql (.var 11) (.lit (-1)))
           (.call 83 [(.d (.agg (hO 3 true))),(.d (.one (.v 1 true))),(.d (.one (.v 2 true)))] [] []
           (.gG 13 (.sl 1)
           (.call 82 [(.d (.one (.v 2 true))),(.d (.one (.v 13 true)))] [] []
           (.gG 14 (.sl 1)
           (.elem (.var 12) (.lit (0))
           (.iN 15 gH
           (.call 56 [(.d (.agg (hO 16 false))),(.d (.one (.v 1 true))),(.d (.one (.v 14 true)))] [] []
           (.iN 26 [(.int .u64),(.int .u64),(.int .u64),(.int .u64)]
           (.bO (.sc (.agg [(.v 27 true),(.v 28 true),(.v 29 true),(.v 30 true)]))
           (.out [(.v 31 false)]))))))))))
           (.elem (.var 12) (.lit (0))
           (.iN 13 gH
           (.call 56 [(.d (.agg (hO 14 false))),(.d (.one (.v 1 true))),(.d (.one (.v 2 true)))] [] []
           (.iN 24 [(.int .u64),(.int .u64),(.int .u64),(.int .u64)]
           (.bO (.sc (.agg [(.v 25 true),(.v 26 true),(.v 27 true),(.v 28 true)]))
           (.out [(.v 29 false)])))))))
         (.bO (.sc (.agg [(.i .u64 (.lit (0))),(.i .u64 (.lit (0))),(.i .u64 (.lit (0))),(.i .u64 (.lit (0)))]))
         (.out [(.v 13 false)])))))))))
def acy:List (Nat×JS):=[(7258,⟨[(9,(.one .bool)),(10,(.one (.int .i64)))]++dR 30 20,[]⟩),
 (28,⟨[(7,(.one (.sl 1))),(8,.drop),(9,.drop),(10,.drop),(18,.drop),(19,.drop),(20,.drop),(21,.drop),(22,.drop),(23,.drop),(24,.drop),(25,.drop),(26,.drop),(27,.drop),(28,.drop),(29,.drop),(30,.drop),(31,.drop),(32,.drop),(33,.drop),(34,.drop),(35,.drop),(36,.drop),(37,.drop),(38,.drop),(39,.drop),(40,.drop),(41,.drop),(42,.drop),(43,.drop),(44,.drop),(45,.drop),(46,.drop),(47,.drop),(48,.drop),(49,.drop)],[]⟩)]
def uY:Tree :=
 (.ite (.cmp .lss (.var 40) (.len (.var 25)))
         (.ite (.var 39)
           (.elem (.var 38) (.var 40)
           (.gG 41 .bool
           (.elem (.var 25) (.var 40)
           (.gG 42 .bool
           (.out [(.b (.beq (.var 41) (.var 42))),(.i .i64 (.bin .add .i64 (.var 40) (.lit (1))))])))))
           (.out [(.b (.lit false)),(.i .i64 (.bin .add .i64 (.var 40) (.lit (1))))]))
         (.p9
          (.ite (.var 39)
            (.p9
             (.ite (.cmp .eql (.var 10) (.lit (0)))
               (.call 82 [(.d (.one (.v 25 true))),(.d (.one (.v 2 true)))] [] []
               (.gG 41 (.sl 1)
               (.bO (.sc (.one (.v 41 true)))
               (.out [(.v 42 false)]))))
               (.bO (.sc (.one (.v 25 true)))
               (.out [(.v 41 false)]))))
            (.out [(.v 38 true)]))))
def BZ:Tree :=
 (.ite (.cmp .eql (.var 11) (.lit (-1)))
     (.elem (.var 12) (.lit (0))
     (.iN 26 gH
     (.call 54 [(.d (.agg (hO 27 false))),(.d (.one (.v 1 true))),(.d (.one (.v 25 true)))] [] []
     (.gG 37 (.sl 1)
     (.call 82 [(.d (.one (.v 25 true))),(.d (.one (.v 37 true)))] [] []
     (.gG 38 (.sl 1)
     (.loop [(.b (.lit true)),(.i .i64 (.lit (0)))] uY)))))))
     (.p9
      (.ite (.cmp .eql (.var 10) (.lit (0)))
        (.call 82 [(.d (.one (.v 25 true))),(.d (.one (.v 2 true)))] [] []
        (.gG 26 (.sl 1)
        (.bO (.sc (.one (.v 26 true)))
        (.out [(.v 27 false)]))))
        (.bO (.sc (.one (.v 25 true)))
        (.out [(.v 26 false)])))))
def JG:Tree :=
 (.iN 0 gH
 (.gG 1 (.sl 1)
 (.gG 2 (.sl 1)
 (.elem (.var 12) (.lit (0))
 (.iN 13 gH
 (.call 54 [(.d (.agg (hO 14 false))),(.d (.one (.v 1 true))),(.d (.one (.v 2 true)))] [] []
 (.gG 24 (.sl 1)
 (.loop [(.v 24 false)] BZ))))))))
def acz:List (Nat×JS):=[]
def JH:Tree :=
 (.iN 0 gH
 (.gG 1 (.sl 1)
 (.call 51 [(.d (.agg (hO 2 true)))] [] []
 (.gG 12 .bool
 (.ite (.or (.not (.var 12)) (.cmp .gtr (.len (.var 1)) (.lit (65536))))
   (.call 52 [(.d (.one (.i .i64 (.lit (15)))))] [] []
   (.iN 13 [(.int .i64),(.int .i64),(.int .i64),(.int .i64),(.sl 1)]
   (.bO (.bx [(.one (.k .aU)),(.agg [(.v 14 true),(.v 15 true),(.v 16 true),(.v 17 true),(.v 18 true)])])
   (.out [(.v 19 false)]))))
   (.call 55 [(.d (.one (.v 1 true)))] [] []
   (.gG 13 (.sl 1)
   (.call 54 [(.d (.agg (hO 2 true))),(.d (.one (.v 1 true))),(.d (.one (.v 13 true)))] [] []
   (.gG 14 (.sl 1)
   (.call 53 [(.d (.one (.v 14 true)))] [] []
   (.gG 15 (.sl 1)
   (.bO (.bx [(.one (.v 15 true)),(.agg [(.i .i64 (.lit (0))),(.i .i64 (.lit (0))),(.i .i64 (.lit (0))),(.i .i64 (.lit (0))),(.k .aU)])])
   (.out [(.v 16 false)])))))))))))))
def acA:List (Nat×JS):=[]
def JI:Tree :=
 (.iN 0 gH
 (.gG 1 (.sl 1)
 (.call 51 [(.d (.agg (hO 2 true)))] [] []
 (.gG 12 .bool
 (.ite (.or (.not (.var 12)) (.cmp .gtr (.len (.var 1)) (.lit (65536))))
   (.call 52 [(.d (.one (.i .i64 (.lit (15)))))] [] []
   (.iN 13 [(.int .i64),(.int .i64),(.int .i64),(.int .i64),(.sl 1)]
   (.bO (.bx [(.agg [(.i .u64 (.lit (0))),(.i .u64 (.lit (0))),(.i .u64 (.lit (0))),(.i .u64 (.lit (0)))]),(.agg [(.v 14 true),(.v 15 true),(.v 16 true),(.v 17 true),(.v 18 true)])])
   (.out [(.v 19 false)]))))
   (.call 55 [(.d (.one (.v 1 true)))] [] []
   (.gG 13 (.sl 1)
   (.call 56 [(.d (.agg (hO 2 true))),(.d (.one (.v 1 true))),(.d (.one (.v 13 true)))] [] []
   (.iN 14 [(.int .u64),(.int .u64),(.int .u64),(.int .u64)]
   (.bO (.bx [(.agg [(.v 15 true),(.v 16 true),(.v 17 true),(.v 18 true)]),(.agg [(.i .i64 (.lit (0))),(.i .i64 (.lit (0))),(.i .i64 (.lit (0))),(.i .i64 (.lit (0))),(.k .aU)])])
   (.out [(.v 19 false)])))))))))))
def GC:vv prog ack 80=some Ju:=by kernel_rfl
def GD:vv prog acm 51=some Jv:=by kernel_rfl
def GF:vv prog acn 84=some Jw:=by kernel_rfl
def GG:vv prog aco 81=some Jy:=by kernel_rfl
def GH:vv prog acp 85=some Jz:=by kernel_rfl
def GI:vv prog acq 52=some JA:=by kernel_rfl
def GJ:vv prog acr 53=some JB:=by kernel_rfl
def GK:vv prog acs 27=some JC:=by kernel_rfl
def GM:vv prog acu 34=some JD:=by kernel_rfl
def GN:vv prog acv 59=some JE:=by kernel_rfl
def GO:vv prog acw 56=some JF:=by kernel_rfl
def GP:vv prog acy 83=some JG:=by kernel_rfl
def GQ:vv prog acz 29=some JH:=by kernel_rfl
def GR:vv prog acA 30=some JI:=by kernel_rfl
end
section
open Go.Vm.Sx
variable{gl:Gl}[ir gl]
def gB:E->Bool
 | .mk op _ _ _ _ _ _ mn mx _ args =>
  if op == 1 then (gh 0 (args.length:Int) || !(mn == 0)) || !(mx == 0) else if op == 2 then (gh 0 (args.length:Int) || !(mn == 0)) || !(mx == 0) else
  if op == 5 then (gh (args.length:Int) 2 || !(mn == 0)) || !(mx == 0) else if op == 6 then (gh (args.length:Int) 2 || !(mn == 0)) || !(mx == 0) else
  if op == 7 then !((args.length:Int) == 1) || !(mn == 0 && (mx == -1 || mx == 1) || mn == 1 && mx == -1) else true
def Ba:E->Int->Bool
 | .mk op pl s0 s1 s2 s3 text _ _ _ _,left=>((gh left 1 || !(pl == 0)) || !(sU text [])) || (!(op == 2) && !(s0 == 0 && (s1 == 0 && (s2 == 0 && s3 == 0))))
mutual
def tQ:E->Int->Int
 | .mk op pl s0 s1 s2 s3 text mn mx nl args,left=>if Ba (.mk op pl s0 s1 s2 s3 text mn mx nl args) left then 65537 else if gB (.mk op pl s0 s1 s2 s3 text mn mx nl args) then 65537 else sO (IntKind.i64.wrap (left - 1)) 1 args
def sO:Int->Int->List E->Int
 | _,n,[]=>n
 | d,n,a::l=>if Eg n 65536 then sO d (IntKind.i64.wrap (n+tQ a d)) l else n
end
def zsd(cU:GL gl):∀(e:E),Wf e->∀d,Ev prog gl 80 [.d (enc e),.d (.int .i64 d)] [] (.int .i64 (tQ e d)) []
 | .mk op pl s0 s1 s2 s3 text mn mx nl args,hw=>by
  intro d;have Ik:=iy;have hlen:=hw.2.1;have de:∀i a,args[i]?=some a->∀d,rV prog gl 80 [.d (enc a),.d (.int .i64 d)] []=some (.int .i64 (tQ a d),[]):=λi a h d =>
   have ha:=oH h
   qM (zsd cU a (hw.2.2.mem ha) d)
  refine qv (xs:=[enc (.mk op pl s0 s1 s2 s3 text mn mx nl args),.int .i64 d]) cU.top (cU.no 80 rfl) GC func80 (by kernel_rfl) zp9 (by simp[aA,cL];rfl) (N:=args.length+1) ?_
  have key:∀(l:List E)(i:Nat)(n:Int),args.drop i=l->∀k,l.length<k->xG (rV prog gl) gl (args.length+1) pE
    [.agg [.int .i64 op,.int .i64 pl,.int .u64 s0,.int .u64 s1,.int .u64 s2,.int .u64 s3,.str text,.int .i64 mn,.int .i64 mx,qS nl (bl args)],.int .i64 d,.int .i64 op,.int .i64 pl,.int .u64 s0,.int .u64 s1,.int .u64 s2,.int .u64 s3,.str text,.int .i64 mn,.int .i64 mx,qS nl (bl args)]
    k [.int .i64 n,.int .i64 (i:Int)]=some (0,[.int .i64 (sO (IntKind.i64.wrap (d - 1)) n l)]):=by
   simp only[gH,hO,Nat.reduceAdd,pE];intro l
   induction l with
   | nil =>
    intro i n hd k hk;obtain⟨k,rfl⟩:∃k',k=k'+1:=⟨k - 1,by omega⟩
    refine jl ?_;have h1:=Hw (wH hd);simp only[SA,zX,h1,aK,sO]
   | cons a l ih =>
    intro i n hd k hk;obtain⟨k,rfl⟩:∃k',k=k'+1:=⟨k - 1,by omega⟩
    obtain⟨ha,hi,sA⟩:=wG hd;have h1:=Hv hi;cases h5:Eg n 65536 with
    | false =>
     refine jl ?_;simp only[SA,zX,h1,h5,aK,sO,aZ,bH]
    | true =>
    refine kP (vs:=[.int .i64 (IntKind.i64.wrap (n+tQ a (IntKind.i64.wrap (d - 1)))),.int .i64 ((i+1:Nat):Int)]) ?_ (by simp only[sO,h5,aT];exact ih (i+1) _ sA k (by simp at hk;omega))
    have hc:=de i a ha;have h2:=kS ha;have h4:=Ek (i:=i) (by omega)
    obtain⟨An,DB,DC,DD,DE,DF,lR,DG,DH,nl',dU⟩:=a;simp only[enc] at hc h2;simp only[SA,jg,zX,h1,h2,h4,h5,hc,aK,rM]
  simp only[gH,Ju,enc,tQ];simp only[SA,jg];cases hh:Ba (.mk op pl s0 s1 s2 s3 text mn mx nl args) d with
  | true =>
   refine(vi (by exact hh)).trans ?_
   simp only[SA,aT]
  | false =>
  refine(w8 (by exact hh)).trans ?_
  simp only[bH,aZ];cases h1:op == 1 with
  | true =>
   cases hb:gB (.mk op pl s0 s1 s2 s3 text mn mx nl args) with
   | true =>
    have bY:=hb;simp only[gB,h1,aT] at bY;simp only[SA,zX,h1,bY,aK,aT]
   | false =>
    have bY:=hb;simp only[gB,h1,aT] at bY;simp only[SA,zX,h1,bY,aK,aZ,bH];exact kX (key args 0 _ (by simp) _ (by omega))
  | false =>
  cases h2:op == 2 with
  | true =>
   cases hb:gB (.mk op pl s0 s1 s2 s3 text mn mx nl args) with
   | true =>
    have bY:=hb;simp only[gB,h1,h2,aT,aZ,bH] at bY;simp only[SA,zX,h1,h2,bY,aK,aT]
   | false =>
    have bY:=hb;simp only[gB,h1,h2,aT,aZ,bH] at bY;simp only[SA,zX,h1,h2,bY,aK,aZ,bH];exact kX (key args 0 _ (by simp) _ (by omega))
  | false =>
  cases h3:op == 5 with
  | true =>
   cases hb:gB (.mk op pl s0 s1 s2 s3 text mn mx nl args) with
   | true =>
    have bY:=hb;simp only[gB,h1,h2,h3,aT,aZ,bH] at bY;simp only[SA,zX,h1,h2,h3,bY,aK,aT]
   | false =>
    have bY:=hb;simp only[gB,h1,h2,h3,aT,aZ,bH] at bY;simp only[SA,zX,h1,h2,h3,bY,aK,aZ,bH];exact kX (key args 0 _ (by simp) _ (by omega))
  | false =>
  cases h4:op == 6 with
  | true =>
   cases hb:gB (.mk op pl s0 s1 s2 s3 text mn mx nl args) with
   | true =>
    have bY:=hb;simp only[gB,h1,h2,h3,h4,aT,aZ,bH] at bY;simp only[SA,zX,h1,h2,h3,h4,bY,aK,aT]
   | false =>
    have bY:=hb;simp only[gB,h1,h2,h3,h4,aT,aZ,bH] at bY;simp only[SA,zX,h1,h2,h3,h4,bY,aK,aZ,bH];exact kX (key args 0 _ (by simp) _ (by omega))
  | false =>
  cases h5:op == 7 with
  | true =>
   cases hb:gB (.mk op pl s0 s1 s2 s3 text mn mx nl args) with
   | true =>
    have bY:=hb;simp only[gB,h1,h2,h3,h4,h5,aT,aZ,bH] at bY;simp only[SA,zX,h1,h2,h3,h4,h5,bY,aK,aT]
   | false =>
    have bY:=hb;simp only[gB,h1,h2,h3,h4,h5,aT,aZ,bH] at bY;simp only[SA,zX,h1,h2,h3,h4,h5,bY,aK,aZ,bH];exact kX (key args 0 _ (by simp) _ (by omega))
  | false=>simp only[SA,gB,h1,h2,h3,h4,h5,aT,aZ,bH]
termination_by e=>hg e
decreasing_by simp only[hg];have:=xI ha;omega
mutual
def eH:E->E
 | .mk op pl s0 s1 s2 s3 text mn mx _ args=>.mk op pl s0 s1 s2 s3 text mn mx true (uZ args)
def uZ:List E->List E
 | []=>[]
 | a::l=>eH a::uZ l
end
def sP:∀l,uZ l=l.map eH
 | []=>rfl
 | a::l=>by simp[uZ,sP l]
mutual
def Roomy:E->Prop
 | .mk _ _ _ _ _ _ _ _ _ _ args=>args.length * 104<=140737488355328/\sQ args
def sQ:List E->Prop
 | []=>True
 | a::l=>Roomy a/\sQ l
end
def sQ.mem{a:E}:∀{l:List E},sQ l->a∈l->Roomy a
 | e::l,h,ha=>by
  rcases cS.1 ha with rfl|ha
  ·exact h.1
  ·exact sQ.mem h.2 ha
def HA(l:List E):V:=match l with|[]=>.aU|_=>.sl 10 (bl l) (.yes 27)
def zrh(l:List E):vL (HA l)=bl l:=by cases l<;>simp[HA,vL,bl]
def zjL(l:List E):BE (HA l)=true:=by cases l<;>simp[HA,BE]
def zpA(l:List E):Qz 27 (HA l)=true:=by cases l<;>simp[HA,Qz]
def zpB(l:List E):aX (HA l)=qS true (bl l):=by cases l<;>simp[HA,aX,qS,bl]
def zn6(l:List E)(a:E):V.sl 10 (bl l++[enc a]) (.yes 27)=HA (l++[a]):=by
 have:bl (l++[a])=bl l++[enc a]:=by induction l with|nil=>rfl|cons b l ih=>simp[bl,ih]
 cases l<;>simp_all [HA,bl]
def zse(cU:GL gl):∀(e:E),Wf e->Roomy e->Ev prog gl 27 [.d (enc e)] [] (enc (eH e)) []
 | .mk op pl s0 s1 s2 s3 text mn mx nl args,hw,hr=>by
  have Ik:=iy;have hlen:=hw.2.1;have mG:=hr.1;have de:∀i a,args[i]?=some a->rV prog gl 27 [.d (enc a)] []=some (enc (eH a),[]):=λi a h =>
   have ha:=oH h
   qM (zse cU a (hw.2.2.mem ha) (hr.2.mem ha))
  refine qv (xs:=[enc (.mk op pl s0 s1 s2 s3 text mn mx nl args)]) cU.top (cU.no 27 rfl) GK func27 (by kernel_rfl) Q_ (by simp[aA,cL]) (N:=args.length+1) ?_
  have key:∀(l:List E)(i:Nat),args.drop i=l->∀k,l.length<k->xG (rV prog gl) gl (args.length+1) EF
    [.agg [.int .i64 op,.int .i64 pl,.int .u64 s0,.int .u64 s1,.int .u64 s2,.int .u64 s3,.str text,.int .i64 mn,.int .i64 mx,qS nl (bl args)],.int .i64 op,.int .i64 pl,.int .u64 s0,.int .u64 s1,.int .u64 s2,.int .u64 s3,.str text,.int .i64 mn,.int .i64 mx,qS nl (bl args)]
    k [.int .i64 (i:Int),HA ((args.take i).map eH)]=some (0,[.agg [.int .i64 op,.int .i64 pl,.int .u64 s0,.int .u64 s1,.int .u64 s2,.int .u64 s3,.str text,.int .i64 mn,.int .i64 mx,qS true (bl (args.map eH))]]):=by
   simp only[gH,hO,Nat.reduceAdd,EF];intro l
   induction l with
   | nil =>
    intro i hd k hk;obtain⟨k,rfl⟩:∃k',k=k'+1:=⟨k - 1,by omega⟩
    refine jl ?_;have h1:=Hw (wH hd);have h2:args.take i=args:=Af (wH hd);simp only[SA,zX,h1,h2,aK,zpB]
   | cons a l ih =>
    intro i hd k hk;obtain⟨k,rfl⟩:∃k',k=k'+1:=⟨k - 1,by omega⟩
    obtain⟨ha,hi,sA⟩:=wG hd;refine kP (vs:=[.int .i64 ((i+1:Nat):Int),HA ((args.take (i+1)).map eH)]) ?_ (ih (i+1) sA k (by simp at hk;omega))
    have hc:=de i a ha;have h1:=Hv hi;have h2:=kS ha;have h4:=Ek (i:=i) (by omega)
    have h5:jJ (bl ((args.take i).map eH)++[enc (eH a)]).length 104=true:=by
     simp only[jJ,oI,aK,oO,tR,fY,List.length_nil,bN];exact⟨HK (by omega),HK (by omega)⟩
    have h6:(args.take (i+1)).map eH=(args.take i).map eH++[eH a]:=by
     rw[G1,ha];simp
    rw[h6,<- zn6];obtain⟨An,DB,DC,DD,DE,DF,lR,DG,DH,nl',dU⟩:=a;simp only[enc,eH] at hc h2 h5;simp only[SA,jg,zX,h1,h2,h4,h5,hc,aK,rM,zjL,zpA,zrh,enc,eH]
  simp only[gH,JC,enc,eH,sP];simp only[SA,jg];exact kX (key args 0 (by simp) _ (by omega))
termination_by e=>hg e
decreasing_by simp only[hg];have:=xI ha;omega
def XD(e:E):Bool:=Eg (tQ e 4096) 65536
def zsf(cU:GL gl):∀(e:E),Wf e->Ev prog gl 51 [.d (enc e)] [] (.bool (XD e)) []
 | .mk op pl s0 s1 s2 s3 text mn mx nl args,hw=>by
  refine qv (xs:=[enc (.mk op pl s0 s1 s2 s3 text mn mx nl args)]) cU.top (cU.no 51 rfl) GD func51 (by kernel_rfl) Q_ (by simp[aA,cL]) (N:=1) ?_
  have hc:=qM (zsd cU (.mk op pl s0 s1 s2 s3 text mn mx nl args) hw 4096);simp only[gH,hO,Nat.reduceAdd,Jv,enc,XD] at hc ⊢;simp only[SA,jg,qg,hc]
end
section
open Go.Vm.Sx
mutual
def nodes:E->Nat
 | .mk _ _ _ _ _ _ _ _ _ _ args=>1+c8 args
def c8:List E->Nat
 | []=>0
 | a::l=>nodes a+c8 l
end
def GU:∀e,1<=nodes e
 | .mk ..=>by simp only[nodes];omega
def u0:∀l,l.length<=c8 l
 | []=>by simp[c8]
 | a::l=>by have:=GU a;have:=u0 l;simp only[c8,fY];omega
def Bd(d:Int):Int:=1048576 * (5003 - d)
mutual
def FF:∀(e:E)(d:Int),Wf e->0<=d->d<=5001->1<=fQ e d/\fQ e d<=Bd d
 | .mk _ _ _ _ _ _ _ _ _ _ args,d,hw,h0,h1=>by
  simp only[fQ];cases hd:gh 5000 d with
  | true=>simp only[aT,Bd];omega
  | false =>
   have sA:d<=5000:=by
    rcases Int.lt_or_le 5000 d with h|h
    ·rw[yf h] at hd;cases hd
    ·exact h
   simp only[bH,aZ];rw[Gv (x:=d+1) (by omega) (by omega)]
   have:=u5 args (d+1) 1 hw.2.2 (by omega) (by omega) (by omega) (by simp only[Bd];omega)
   refine⟨by omega,?_⟩
   have:=this.2;simp only[Bd] at this ⊢;omega
def u5:∀(l:List E)(d n:Int),Jh l->0<=d->d<=5001->1<=n->n<=Bd (d - 1)->n<=l9 d n l/\l9 d n l<=Bd (d - 1)
 | [],d,n,_,h0,h1,hn,hb=>by simp only[l9];omega
 | a::l,d,n,hw,h0,h1,hn,hb=>by
  obtain⟨a1,a2⟩:=FF a d hw.1 h0 h1;simp only[l9];cases hc:gh n 1048576 with
  | false=>simp only[bH,aZ];omega
  | true =>
   have ez:=IY.1 hc;simp only[aT];simp only[Bd] at a2 hb;rw[Gv (by omega) (by omega)]
   have:=u5 l d (n+fQ a d) hw.2 h0 h1 (by omega) (by simp only[Bd];omega)
   exact⟨by omega,this.2⟩
end
mutual
def u6:∀(e:E)(d:Int),Wf e->0<=d->d<=5001->fQ e d<=20000->(nodes e:Int)<=fQ e d
 | .mk _ _ _ _ _ _ _ _ _ _ args,d,hw,h0,h1,hs=>by
  simp only[fQ] at hs ⊢;cases hd:gh 5000 d with
  | true=>rw[hd] at hs;simp only[aT] at hs;omega
  | false =>
   rw[hd] at hs;have sA:d<=5000:=by
    rcases Int.lt_or_le 5000 d with h|h
    ·rw[yf h] at hd;cases hd
    ·exact h
   simp only[bH,aZ] at hs ⊢;rw[Gv (x:=d+1) (by omega) (by omega)] at hs ⊢
   have g1:=tA args (d+1) 1 hw.2.2 (by omega) (by omega) (by omega) (by simp only[Bd];omega) hs
   simp only[nodes];omega
def tA:∀(l:List E)(d n:Int),Jh l->0<=d->d<=5001->1<=n->n<=Bd (d - 1)->l9 d n l<=20000->n+(c8 l:Int)<=l9 d n l
 | [],d,n,hw,h0,h1,hn,hb,hs=>by simp only[l9,c8] at hs ⊢;omega
 | a::l,d,n,hw,h0,h1,hn,hb,hs=>by
  obtain⟨a1,a2⟩:=FF a d hw.1 h0 h1;simp only[l9] at hs ⊢;cases hc:gh n 1048576 with
  | false =>
   rw[hc] at hs;simp only[bH,aZ] at hs;rw[yf (by omega)] at hc;cases hc
  | true =>
   have ez:=IY.1 hc;rw[hc] at hs;simp only[aT] at hs ⊢;simp only[Bd] at a2 hb;rw[Gv (by omega) (by omega)] at hs ⊢
   have bY:n+fQ a d<=Bd (d - 1):=by simp only[Bd];omega
   have:=(u5 l d (n+fQ a d) hw.2 h0 h1 (by omega) bY).1
   have g1:=tA l d (n+fQ a d) hw.2 h0 h1 (by omega) bY hs
   have f1:=u6 a d hw.1 h0 h1 (by omega)
   simp only[c8];omega
end
def zjM{e:E}(hw:Wf e)(h:fQ e 0<=20000):(nodes e:Int)<=fQ e 0:=u6 e 0 hw (by decide) (by decide) h
end
section
open Go.Vm.Sx
mutual
def EK:E->Nat
 | .mk op _ _ _ _ _ _ _ _ _ args=>(if op == 2 then 1 else 0)+tB args
def tB:List E->Nat
 | []=>0
 | a::l=>EK a+tB l
end
mutual
def sq:E->Int->Bool
 | .mk op pl s0 s1 s2 s3 text mn mx nl args,d=>decide (d<=4096) && (mT (.mk op pl s0 s1 s2 s3 text mn mx nl args) && (fX (.mk op pl s0 s1 s2 s3 text mn mx nl args) && oW args (d+1)))
def oW:List E->Int->Bool
 | [],_=>true
 | a::l,d=>sq a d && oW l d
end
mutual
def FG:∀e,EK e<=nodes e
 | .mk op _ _ _ _ _ _ _ _ _ args=>by
  have:=Dd args;simp only[EK,nodes];split<;>omega
def Dd:∀l,tB l<=c8 l
 | []=>by simp[tB]
 | a::l=>by have:=FG a;have:=Dd l;simp only[tB,c8];omega
end
mutual
def u7:∀(e:E)(d n s:Int),0<=d->d<=4097->0<=n->n+(nodes e:Int)<=65536->0<=s->s+(nodes e:Int)<=65536->(dg e d n s).1=sq e d/\(sq e d=true->(dg e d n s).2.1=n+nodes e/\(dg e d n s).2.2=s+EK e)
 | .mk op pl s0 s1 s2 s3 text mn mx nl args,d,n,s,h0,h1,h2,h3,h4,h5=>by
  simp only[nodes] at h3 h5;simp only[dg,sq];rw[Gv (x:=n+1) (by omega) (by omega),yZ (x:=65536) (by omega),Bl]
  cases hd:gh 4096 d with
  | true =>
   have:=IY.1 hd;simp only[aT];rw[decide_eq_false (by omega)]
   simp
  | false =>
   have sA:d<=4096:=by
    rcases Int.lt_or_le 4096 d with h|h
    ·rw[yf h] at hd;cases hd
    ·exact h
   rw[decide_eq_true sA,ug];simp only[bH,aZ];cases hl:mT (.mk op pl s0 s1 s2 s3 text mn mx nl args) with
   | false=>simp
   | true =>
   cases hk:fX (.mk op pl s0 s1 s2 s3 text mn mx nl args) with
   | false=>simp
   | true =>
   simp only[aT,ug];rw[Gv (x:=d+1) (by omega) (by omega),Gv (x:=s+1) (by omega) (by omega)]
   cases ho:op == 2 with
   | true =>
    simp only[aT];obtain⟨g1,g2⟩:=ot args (d+1) (n+1) (s+1) (by omega) (by omega) (by omega) (by omega) (by omega) (by omega)
    refine⟨g1,λhg=>?_⟩;obtain⟨g3,g4⟩:=g2 hg;rw[g3,g4];simp only[nodes,EK,ho,aT];omega
   | false =>
    simp only[bH,aZ];obtain⟨g1,g2⟩:=ot args (d+1) (n+1) s (by omega) (by omega) (by omega) (by omega) (by omega) (by omega)
    refine⟨g1,λhg=>?_⟩;obtain⟨g3,g4⟩:=g2 hg;rw[g3,g4];simp only[nodes,EK,ho,bH,aZ];omega
def ot:∀(l:List E)(d n s:Int),0<=d->d<=4097->0<=n->n+(c8 l:Int)<=65536->0<=s->s+(c8 l:Int)<=65536->(eE d l n s).1=oW l d/\(oW l d=true->(eE d l n s).2.1=n+c8 l/\(eE d l n s).2.2=s+tB l)
 | [],d,n,s,_,_,_,_,_,_=>by simp[eE,oW,c8,tB]
 | a::l,d,n,s,h0,h1,h2,h3,h4,h5=>by
  simp only[c8] at h3 h5;obtain⟨g1,g2⟩:=u7 a d n s h0 h1 h2 (by omega) h4 (by omega)
  simp only[eE,oW];cases hg:sq a d with
  | false =>
   rw[hg] at g1;simp[g1]
  | true =>
   rw[hg] at g1;obtain⟨g3,g4⟩:=g2 hg;have:=FG a;simp only[g1,aT,ug,g3,g4];obtain⟨f1,f2⟩:=ot l d (n+nodes a) (s+EK a) h0 h1 (by omega) (by omega) (by omega) (by omega)
   refine⟨f1,λhh=>?_⟩;obtain⟨f3,f4⟩:=f2 hh;rw[f3,f4];simp only[c8,tB];omega
end
def JJ:∀(e:E)(d:Int),(Ba e (4097 - d) || gB e)=!(decide (d<=4096) && (mT e && fX e))
 | .mk op pl s0 s1 s2 s3 text mn mx nl args,d=>by
  have hd:gh (4097 - d) 1=!(decide (d<=4096)):=by
   by_cases h:d<=4096
   ·rw[decide_eq_true h,yZ (by omega)];rfl
   ·rw[decide_eq_false h,yf (by omega)];rfl
  have lH:gh 0 (args.length:Int)=!((args.length:Int) == 0):=by
   by_cases h:args.length=0
   ·rw[yZ (by omega)];simp[h]
   ·rw[yf (by omega),beq_eq_false_iff_ne.2 (by omega)];rfl
  have Aj:gh (args.length:Int) 2=!(gh 1 (args.length:Int)):=by
   by_cases h:args.length<2
   ·rw[yf (by omega),yZ (by omega)];rfl
   ·rw[yZ (by omega),yf (by omega)];rfl
  simp only[Ba,gB,mT,fX,hd,lH,Aj];generalize decide (d<=4096)=b1;generalize (pl == 0)=b2;generalize sU text []=b3;generalize (s0 == 0 && (s1 == 0 && (s2 == 0 && s3 == 0)))=b4;generalize ((args.length:Int) == 0)=b5;generalize (gh 1 (args.length:Int))=b6;generalize ((args.length:Int) == 1)=b7;have e1:(op == 1)=true->(op == 7)=false:=by intro h;have:=beq_iff_eq.1 h;subst this;rfl
  have e2:(op == 2)=true->(op == 7)=false:=by intro h;have:=beq_iff_eq.1 h;subst this;rfl
  have e5:(op == 5)=true->(op == 7)=false/\(op == 2)=false:=by intro h;have:=beq_iff_eq.1 h;subst this;exact⟨rfl,rfl⟩
  have e6:(op == 6)=true->(op == 7)=false/\(op == 2)=false:=by intro h;have:=beq_iff_eq.1 h;subst this;exact⟨rfl,rfl⟩
  have e7:(op == 7)=true->(op == 2)=false:=by intro h;have:=beq_iff_eq.1 h;subst this;rfl
  generalize (mn == 0)=m0 at *;generalize (mx == 0)=x0 at *;generalize (mn == 1)=m1 at *;generalize (mx == 1)=x1 at *;generalize (mx == -1)=x2 at *;cases h1:op == 1 with
  | true =>
   have:=e1 h1;cases h2:op == 2 with
   | true=>have a:=beq_iff_eq.1 h1;have b:=beq_iff_eq.1 h2;omega
   | false=>rw[this];clear e1 e2 e5 e6 e7;simp only[aT];revert b1 b2 b3 b4 b5 m0 x0;decide
  | false =>
  cases h2:op == 2 with
  | true=>rw[e2 h2];clear e1 e2 e5 e6 e7;simp only[aT,aZ,bH];revert b1 b2 b3 b4 b5 m0 x0;decide
  | false =>
  cases h5:op == 5 with
  | true=>rw[(e5 h5).1];clear e1 e2 e5 e6 e7;simp only[aT,aZ,bH];revert b1 b2 b3 b4 b6 m0 x0;decide
  | false =>
  cases h6:op == 6 with
  | true=>rw[(e6 h6).1];clear e1 e2 e5 e6 e7;simp only[aT,aZ,bH];revert b1 b2 b3 b4 b6 m0 x0;decide
  | false =>
  cases h7:op == 7 with
  | true=>clear e1 e2 e5 e6 e7;simp only[aT,aZ,bH];revert b1 b2 b3 b4 b7 m0 m1 x0 x1 x2;decide
  | false=>clear e1 e2 e5 e6 e7;simp only[aZ,bH];revert b1 b2 b3 b4 m0 x0;decide
mutual
def De:∀(e:E)(d:Int),0<=d->d<=4097->nodes e<=65536->1<=tQ e (4097 - d)/\tQ e (4097 - d)<=65537 * (nodes e:Int)/\(sq e d=true->tQ e (4097 - d)=nodes e)/\(sq e d=false->65537<=tQ e (4097 - d))
 | .mk op pl s0 s1 s2 s3 text mn mx nl args,d,h0,h1,h2=>by
  have Ng:=JJ (.mk op pl s0 s1 s2 s3 text mn mx nl args) d;simp only[nodes] at h2;simp only[tQ,sq];rw[<- Bool.and_assoc,<- Bool.and_assoc,Bool.and_assoc (decide (d<=4096))];cases hg:(decide (d<=4096) && (mT (.mk op pl s0 s1 s2 s3 text mn mx nl args) && fX (.mk op pl s0 s1 s2 s3 text mn mx nl args))) with
  | false =>
   rw[hg] at Ng;have:(if Ba (.mk op pl s0 s1 s2 s3 text mn mx nl args) (4097 - d) then (65537:Int) else if gB (.mk op pl s0 s1 s2 s3 text mn mx nl args) then 65537 else sO (IntKind.i64.wrap (4097 - d - 1)) 1 args)=65537:=by
    cases hh:Ba (.mk op pl s0 s1 s2 s3 text mn mx nl args) (4097 - d) with
    | true=>simp
    | false =>
     rw[hh] at Ng;simp at Ng;simp[Ng]
   rw[this];simp only[nodes,G3];refine⟨by omega,by omega,λh=>by simp at h,λ_=>by omega⟩
  | true =>
   rw[hg] at Ng;simp only[pI,KD] at Ng;have sA:d<=4096:=by simp only[bN,decide_eq_true_eq] at hg;exact hg.1
   simp only[Ng.1,Ng.2,bH,aZ,ug];rw[Gv (by omega) (by omega),show(4097:Int) - d - 1=4097 - (d+1) by omega]
   obtain⟨g1,g2,g3,g4⟩:=Bb args (d+1) 1 1 (by omega) (by omega) (by omega) (by omega) (by omega) (by omega)
   simp only[nodes];refine⟨g1,by omega,λh=>by have:=g3 h (by omega);omega,g4⟩
def Bb:∀(l:List E)(d n:Int)(m:Nat),0<=d->d<=4097->1<=n->1<=m->n<=65537 * (m:Int)->m+c8 l<=65536->n<=sO (4097 - d) n l/\sO (4097 - d) n l<=65537 * ((m:Int)+c8 l)/\(oW l d=true->n+(c8 l:Int)<=65536->sO (4097 - d) n l=n+c8 l)/\(oW l d=false->65537<=sO (4097 - d) n l)
 | [],d,n,m,h0,h1,h2,h3,h4,h5=>by simp only[sO,c8,oW];exact⟨by omega,by omega,λ_ _=>by omega,λh=>by cases h⟩
 | a::l,d,n,m,h0,h1,h2,h3,h4,h5=>by
  simp only[c8] at h5 ⊢;obtain⟨a1,a2,a3,a4⟩:=De a d h0 h1 (by omega)
  simp only[sO,oW];cases hc:Eg n 65536 with
  | false =>
   have hn:65536<n:=by
    rcases Int.lt_or_le 65536 n with h|h
    ·exact h
    ·rw[OQ h] at hc;cases hc
   simp only[bH,aZ];exact⟨by omega,by omega,λ_ _=>by omega,λ_=>by omega⟩
  | true =>
   have hn:=TP.1 hc;simp only[aT];rw[Gv (by omega) (by omega)]
   obtain⟨g1,g2,g3,g4⟩:=Bb l d (n+tQ a (4097 - d)) (m+nodes a) h0 h1 (by omega) (by omega) (by omega) (by omega)
   refine⟨by omega,by omega,λh hle=>?_,λh=>?_⟩
   ·simp only[bN] at h;have:=a3 h.1;have:=g3 h.2 (by omega)
    omega
   ·cases hga:sq a d with
    | false=>have:=a4 hga;omega
    | true =>
     rw[hga,ug] at h;exact g4 h
end
mutual
def tC:∀(e:E),nodes e<=1000000->Roomy e
 | .mk _ _ _ _ _ _ _ _ _ _ args,h=>by
  simp only[nodes] at h;have:=u0 args;exact⟨by omega,rF args (by omega)⟩
def rF:∀(l:List E),c8 l<=1000000->sQ l
 | [],_=>trivial
 | a::l,h=>by
  simp only[c8] at h;exact⟨tC a (by omega),rF l (by omega)⟩
end
def zn7(e:E)(h:nodes e<=65536):v4 e=sq e 1:=(u7 e 1 0 0 (by omega) (by omega) (by omega) (by omega) (by omega) (by omega)).1
def zkZ(e:E)(h:nodes e<=65536):XD e=v4 e:=by
 obtain⟨k1,k2,k3,k4⟩:=De e 1 (by omega) (by omega) (by omega)
 simp only[show(4097:Int) - 1=4096 from rfl] at k1 k2 k3 k4;rw[zn7 _ h];unfold XD;cases hg:sq e 1 with
 | true=>rw[k3 hg];exact OQ (by omega)
 | false=>exact zp4 (by have:=k4 hg;omega)
end
section
open Go.Vm.Sx
def UC:List (Nat×JS):=[]
def B6:Tree :=
 (.iN 0 [(.int .u64),(.int .u64),(.int .u64),(.int .u64)]
 (.gG 1 (.int .i64)
 (.call 81 [(.d (.agg [(.v 2 true),(.v 3 true),(.v 4 true),(.v 5 true)])),(.d (.one (.v 1 true)))] [] []
 (.gG 6 .bool
 (.ite (.not (.var 6))
   (.ite (.cmp .eql (.bin .quo .i64 (.var 1) (.lit (64))) (.lit (0)))
     (.iM (.cmp .geq (.conv .u64 (.bin .rem .i64 (.var 1) (.lit (64)))) (.lit (0)))
     (.bO (.sc (.agg [(.i .u64 (.bin .add .u64 (.var 2) (.bin .shl .u64 (.lit (1)) (.conv .u64 (.bin .rem .i64 (.var 1) (.lit (64))))))),(.v 3 true),(.v 4 true),(.v 5 true)]))
     (.out [(.v 7 false)])))
     (.ite (.cmp .eql (.bin .quo .i64 (.var 1) (.lit (64))) (.lit (1)))
       (.iM (.cmp .geq (.conv .u64 (.bin .rem .i64 (.var 1) (.lit (64)))) (.lit (0)))
       (.bO (.sc (.agg [(.v 2 true),(.i .u64 (.bin .add .u64 (.var 3) (.bin .shl .u64 (.lit (1)) (.conv .u64 (.bin .rem .i64 (.var 1) (.lit (64))))))),(.v 4 true),(.v 5 true)]))
       (.out [(.v 7 false)])))
       (.ite (.cmp .eql (.bin .quo .i64 (.var 1) (.lit (64))) (.lit (2)))
         (.iM (.cmp .geq (.conv .u64 (.bin .rem .i64 (.var 1) (.lit (64)))) (.lit (0)))
         (.bO (.sc (.agg [(.v 2 true),(.v 3 true),(.i .u64 (.bin .add .u64 (.var 4) (.bin .shl .u64 (.lit (1)) (.conv .u64 (.bin .rem .i64 (.var 1) (.lit (64))))))),(.v 5 true)]))
         (.out [(.v 7 false)])))
         (.ite (.cmp .eql (.bin .quo .i64 (.var 1) (.lit (64))) (.lit (3)))
           (.iM (.cmp .geq (.conv .u64 (.bin .rem .i64 (.var 1) (.lit (64)))) (.lit (0)))
           (.bO (.sc (.agg [(.v 2 true),(.v 3 true),(.v 4 true),(.i .u64 (.bin .add .u64 (.var 5) (.bin .shl .u64 (.lit (1)) (.conv .u64 (.bin .rem .i64 (.var 1) (.lit (64)))))))]))
           (.out [(.v 7 false)])))
           (.iM (.lit false)
           (.out []))))))
   (.bO (.sc (.agg [(.v 2 true),(.v 3 true),(.v 4 true),(.v 5 true)]))
   (.out [(.v 7 false)])))))))
def EL:vv prog UC 103=some B6:=by kernel_rfl
end
section
open Go.Vm.Sx
def zqr{b:Nat}(h:b<256):fz .quo .i64 (b:Int) 64=((b / 64:Nat):Int):=by
 have:(b:Int).tdiv 64=((b / 64:Nat):Int):=by rw[Int.tdiv_eq_ediv_of_nonneg (by omega)];rfl
 simp only[fz,this];exact Gv (by omega) (by omega)
def zqs{b:Nat}:fz .rem .i64 (b:Int) 64=((b % 64:Nat):Int):=by
 have:(b:Int).tmod 64=((b % 64:Nat):Int):=by rw[Int.tmod_eq_emod_of_nonneg (by omega)];rfl
 simp only[fz,this]
def XF{x:Int}{k:Nat}(h0:AE x)(hk:k<64):(fz .rem .u64 (fz .shr .u64 x (k:Int)) 2 == 1)=x.toNat.testBit k:=by
 rw[zqa h0 hk];have:((x.toNat >>> k:Nat):Int).tmod 2=((x.toNat >>> k % 2:Nat):Int):=by rw[Int.tmod_eq_emod_of_nonneg (Int.natCast_nonneg _)];rfl
 simp only[fz,this];rw[Nat.testBit_eq_decide_div_mod_eq,U_];rcases Nat.mod_two_eq_zero_or_one (x.toNat / 2 ^ k) with h|h<;>rw[h]<;>rfl
def XG{x:Int}{k:Nat}(h0:AE x)(hk:k<64)(h:x.toNat.testBit k=false):fz .add .u64 x (fz .shl .u64 1 (k:Int))=Gw x ((2 ^ k:Nat):Int):=by
 obtain⟨n,rfl⟩:∃n:Nat,x=n:=⟨x.toNat,by have:=h0.1;omega⟩
 have hn:n<2 ^ 64:=by have:=h0.2;omega
 have hp:2 ^ k<2 ^ 64:=Nat.pow_lt_pow_right (by decide) hk
 have hs:fz .shl .u64 1 (k:Int)=((2 ^ k:Nat):Int):=by
  have h1:¬((k:Int)<0):=by omega
  have h2:min (k:Int).toNat IntKind.u64.bits=k:=by simp only[rM,IntKind.bits];omega
  have h3:(1:Int) * 2 ^ k=((2 ^ k:Nat):Int):=by simp
  simp only[fz,h2,h3];exact T8 hp
 rw[hs];have N_:(n+2 ^ k) % 2 ^ 64=n ||| 2 ^ k:=by
  have hz:BitVec.ofNat 64 n &&& BitVec.twoPow 64 k=0#64:=by
   rw[BitVec.and_twoPow,if_neg];simp only[BitVec.getLsbD_ofNat,rM] at h ⊢;simp[h]
  have:=congrArg BitVec.toNat (BitVec.add_eq_or_of_and_eq_zero _ _ hz);rw[BitVec.toNat_add,BitVec.toNat_or,BitVec.toNat_ofNat,BitVec.toNat_twoPow,FV hn,FV hp] at this;exact this
 simp only[fz,Gw,rM];rw[<- N_];simp only[IntKind.wrap,IntKind.bits,IntKind.signed];simp
variable{gl:Gl}[ir gl]
def zqt{x y:V}:we prog [24,3] [.d x,.d y] 0:=by
 refine⟨λe=>?_,λe=>?_,trivial⟩
 ·rw[underlying24];simp
 ·rw[underlying3];simp
def zri(cU:GL gl)(s:fS)(hs:lS s)(b:Nat)(hb:b<256):Ev prog gl 81 [.d (bI s),.d (.int .i64 b)] [] (.bool (qN s b)) []:=by
 refine qv (xs:=[bI s,.int .i64 b]) cU.top (cU.no 81 rfl) GG func81 (by kernel_rfl) zqt (by simp[aA,V.top,bI]) (N:=1) ?_
 have hm:b % 64<64:=Nat.mod_lt _ (by decide)
 have ru:Eg 0 ((b % 64:Nat):Int)=true:=OQ (by omega)
 obtain⟨r0,r1,r2,r3⟩:=hs;have e0:=XF r0 hm;have e1:=XF r1 hm;have e2:=XF r2 hm;have e3:=XF r3 hm;have q:=zqr hb;have rm:=zqs (b:=b);have cv:IntKind.u64.wrap ((b % 64:Nat):Int)=((b % 64:Nat):Int):=T8 (by omega)
 simp only[fz] at e0 e1 e2 e3 q rm;have hd:b / 64=0\/b / 64=1\/b / 64=2\/b / 64=3:=by omega
 simp only[Jy,bI,qN,xJ];rcases hd with h|h|h|h<;>rw[h] at q<;>simp only[h,Nat.reduceEqDiff,aT,aZ,PW]
 ·have q':IntKind.i64.wrap ((b:Int).tdiv 64)=0:=q;simp only[SA,q',rm,cv,ru,e0,Int.reduceBEq]
 ·have q':IntKind.i64.wrap ((b:Int).tdiv 64)=1:=q;simp only[SA,q',rm,cv,ru,e1,Int.reduceBEq]
 ·have q':IntKind.i64.wrap ((b:Int).tdiv 64)=2:=q;simp only[SA,q',rm,cv,ru,e2,Int.reduceBEq]
 ·have q':IntKind.i64.wrap ((b:Int).tdiv 64)=3:=q;simp only[SA,q',rm,cv,ru,e3,Int.reduceBEq]
def L0(b i:Nat):Int:=if b / 64=i then ((2 ^ (b % 64):Nat):Int) else 0
def Pw(b:Nat):fS:=(L0 b 0,L0 b 1,L0 b 2,L0 b 3)
def XH(b i:Nat):AE (L0 b i):=by
 unfold L0;have hp:2 ^ (b % 64)<2 ^ 64:=Nat.pow_lt_pow_right (by decide) (Nat.mod_lt _ (by decide))
 split
 ·exact⟨Int.natCast_nonneg _,Int.ofNat_lt.2 hp⟩
 ·exact⟨by decide,by decide⟩
def zn8(b:Nat):lS (Pw b):=⟨XH ..,XH ..,XH ..,XH ..⟩
def zhd{b c:Nat}(hb:b<256)(hc:c<256):qN (Pw b) c=decide (c=b):=by
 have key:∀i,c / 64=i->(L0 b i).toNat.testBit (c % 64)=decide (c=b):=λi hi=>by
  unfold L0
  by_cases h:b / 64=i
  ·rw[if_pos h,rM,Nat.testBit_two_pow]
   congr 1
   exact propext ⟨λe=>by omega,λe=>by omega⟩
  ·rw[if_neg h];rw[decide_eq_false (by intro e;subst e;exact h hi)]
   simp
 unfold qN xJ Pw;have hd:c / 64=0\/c / 64=1\/c / 64=2\/c / 64=3:=by omega
 rcases hd with h|h|h|h<;>simp only[h,Nat.reduceEqDiff,aT,aZ,PW]<;>exact key _ h
def XI{x:Int}(h:AE x):Gw x 0=x:=by
 have:=h.1;simp[Gw];omega
def zsg(cU:GL gl)(s:fS)(hs:lS s)(b:Nat)(hb:b<256):Ev prog gl 103 [.d (bI s),.d (.int .i64 b)] [] (bI (wL s (Pw b))) []:=by
 refine qv (xs:=[bI s,.int .i64 b]) cU.top (cU.no 103 rfl) EL func103 (by kernel_rfl) zqt (by simp[aA,V.top,bI]) (N:=1) ?_
 have hm:b % 64<64:=Nat.mod_lt _ (by decide)
 have ru:Eg 0 ((b % 64:Nat):Int)=true:=OQ (by omega)
 have EM:=qM (zri cU s hs b hb);have eW:qN s b=true->wL s (Pw b)=s:=λh=>Xo (Pe hs (zn8 b)) hs λc hc=>by
  rw[y7,zhd hb hc]
  by_cases e:c=b
  ·subst e;rw[h];rfl
  ·simp[e]
 have q:=zqr hb;have rm:=zqs (b:=b);have cv:IntKind.u64.wrap ((b % 64:Nat):Int)=((b % 64:Nat):Int):=T8 (by omega)
 cases hh:qN s b with
 | true =>
  rw[eW hh];rw[hh] at EM;simp only[B6,bI] at EM ⊢;simp only[SA,EM]
 | false =>
 rw[hh] at EM;obtain⟨r0,r1,r2,r3⟩:=hs;have a0:=XG (k:=b % 64) r0 hm;have a1:=XG (k:=b % 64) r1 hm;have a2:=XG (k:=b % 64) r2 hm;have a3:=XG (k:=b % 64) r3 hm;have z0:=XI r0;have z1:=XI r1;have z2:=XI r2;have z3:=XI r3;simp only[fz] at a0 a1 a2 a3 q rm;have hd:b / 64=0\/b / 64=1\/b / 64=2\/b / 64=3:=by omega
 simp only[qN,xJ] at hh;simp only[B6,bI,wL,Pw,L0] at EM ⊢;rcases hd with h|h|h|h<;>rw[h] at q<;>simp only[h,Nat.reduceEqDiff,aT,aZ,PW] at hh ⊢
 ·have q':IntKind.i64.wrap ((b:Int).tdiv 64)=0:=q;have a0:=a0 hh;simp only[SA,EM,q',rm,cv,ru,a0,z1,z2,z3,Int.reduceBEq]
 ·have q':IntKind.i64.wrap ((b:Int).tdiv 64)=1:=q;have a1:=a1 hh;simp only[SA,EM,q',rm,cv,ru,a1,z0,z2,z3,Int.reduceBEq]
 ·have q':IntKind.i64.wrap ((b:Int).tdiv 64)=2:=q;have a2:=a2 hh;simp only[SA,EM,q',rm,cv,ru,a2,z0,z1,z3,Int.reduceBEq]
 ·have q':IntKind.i64.wrap ((b:Int).tdiv 64)=3:=q;have a3:=a3 hh;simp only[SA,EM,q',rm,cv,ru,a3,z0,z1,z2,Int.reduceBEq]
def FH(s t:fS):Nat->fS
 | 0=>s
 | n+1=>if qN t n then wL (FH s t n) (Pw n) else FH s t n
def XJ{s t:fS}(hs:lS s):∀n,lS (FH s t n)
 | 0=>hs
 | n+1=>by
  unfold FH;split
  ·exact Pe (XJ hs n) (zn8 n)
  ·exact XJ hs n
def ziR{s t:fS}:∀n,n<=256->∀c,c<256->qN (FH s t n) c=(qN s c || (decide (c<n) && qN t c))
 | 0,_,c,_=>by simp[FH]
 | n+1,h,c,hc=>by
  unfold FH;have ih:=ziR (s:=s) (t:=t) n (by omega) c hc
  by_cases e:c=n
  ·subst e;cases ht:qN t c with
   | true=>rw[if_pos rfl,y7,zhd hc hc];simp
   | false=>rw[if_neg (by decide),ih,ht];simp
  ·have acD:decide (c<n+1)=decide (c<n):=by congr 1;exact propext ⟨λ_=>by omega,λ_=>by omega⟩
   rw[acD,<- ih];split
   ·rw[y7,zhd (by omega) hc];simp[e]
   ·rfl
def zn9{s t:fS}(hs:lS s)(ht:lS t):FH s t 256=wL s t:=Xo (XJ hs 256) (Pe hs ht) λc hc=>by
 rw[ziR 256 (by omega) c hc,y7,decide_eq_true hc,ug]
def zsh(cU:GL gl)(s t:fS)(hs:lS s)(ht:lS t):Ev prog gl 85 [.d (bI s),.d (bI t)] [] (bI (wL s t)) []:=by
 refine qv (xs:=[bI s,bI t]) cU.top (cU.no 85 rfl) GH func85 (by kernel_rfl) zqb (by simp[aA,V.top,bI]) (N:=257) ?_
 rw[<- zn9 hs ht];simp only[Jz,bI];simp only[SA];refine wg (st:=λi=>[.int .i64 (i:Int),.int .u64 (FH s t i).1,.int .u64 (FH s t i).2.1,.int .u64 (FH s t i).2.2.1,.int .u64 (FH s t i).2.2.2]) (m:=256) (λi hi=>?_) ?_ (by omega)
 ·have h1:gh (i:Int) 256=true:=yf (by omega)
  have h4:=Ek (i:=i) (by omega)
  have EM:=qM (zri cU t ht i hi);have UD:=qM (zsg cU (FH s t i) (XJ hs i) i hi);simp only[bI] at EM UD;simp only[ED,FH];cases hh:qN t i with
  | true =>
   rw[hh] at EM;simp only[SA,h1,h4,EM,UD,aT]
  | false =>
   rw[hh] at EM;simp only[SA,h1,h4,EM,aZ,bH]
 ·have h1:gh ((256:Nat):Int) 256=false:=rfl;simp only[ED];simp only[SA,h1]
end
section
def oF:∀(t:aR)(w:Wd)(i x:Nat),x∈eu w i t->i<x
 | [],_,_,_,h=>by simp[eu] at h
 | b::t,w,i,x,h=>by
  simp only[eu,rO] at h;rcases h with h|h
  ·split at h
   ·simp at h;omega
   ·cases h
  ·have:=oF t _ _ _ h;omega
def u_:∀(t:aR)(w:Wd)(i k:Nat),(i+k+1)∈eu w i t ↔ ∃b,t[k]?=some b/\(fu (mV w i (t.take k)) (i+k == 0) b).2=true
 | [],_,_,_=>by simp[eu]
 | b::t,w,i,0=>by
  simp only[eu,rO,List.take_zero,mV,rP,Ce,aO,exists_eq_left'];constructor
  ·rintro(h|h)
   ·split at h
    ·assumption
    ·cases h
   ·have:=oF t _ _ _ h;omega
  ·intro h;rw[if_pos h];exact .inl (by simp)
 | b::t,w,i,k+1=>by
  have ih:=u_ t (fu w (i == 0) b).1 (i+1) k;have e1:i+1+k+1=i+(k+1)+1:=by omega
  have e2:i+1+k=i+(k+1):=by omega
  rw[e1,e2] at ih;simp only[eu,rO,List.take_succ_cons,mV,HJ];rw[<- ih];constructor
  ·rintro(h|h)
   ·split at h
    ·simp at h
    ·cases h
   ·exact h
  ·exact .inr
def v_:∀(t:aR)(w:Wd)(i:Nat),(eu w i t).length<=t.length
 | [],_,_=>by simp[eu]
 | b::t,w,i=>by
  have:=v_ t (fu w (i == 0) b).1 (i+1);simp only[eu,oI,fY];split<;>simp<;>omega
def zoa(w:Wd)(t:aR):(vm w t).length<=t.length+1:=by
 have:=v_ t w 0;simp only[vm,oI];split<;>simp<;>omega
def ziS(e:E)(t:aR):(q7 e t).length<=t.length+1:=by
 unfold q7;split
 ·exact zoa ..
 ·simp
def zf3(w:Wd)(t:aR):0∈vm w t ↔ gJ w=true:=by
 simp only[vm,rO];constructor
 ·rintro(h|h)
  ·split at h
   ·assumption
   ·cases h
  ·have:=oF _ _ _ _ h;omega
 ·intro h;rw[if_pos h];exact .inl (by simp)
def zl9(w:Wd)(t:aR)(k:Nat):(k+1)∈vm w t ↔ ∃b,t[k]?=some b/\(fu (mV w 0 (t.take k)) (k == 0) b).2=true:=by
 have:=u_ t w 0 k;rw[eM] at this;rw[<- this];simp only[vm,rO];constructor
 ·rintro(h|h)
  ·split at h
   ·simp at h
   ·cases h
  ·exact h
 ·exact .inr
mutual
def B7:Wd->Prop
 | .mZ=>True
 | .one _ m=>m=false
 | .both a b _ la=>B7 a/\B7 b/\la=false
 | .alt l _ la=>Df l/\la=false
 | .rep w _ _=>B7 w
def Df:List Wd->Prop
 | []=>True
 | w::l=>B7 w/\Df l
end
def Dg:∀(a b:aR)(w:Wd)(i:Nat),mV w i (a++b)=mV (mV w i a) (i+a.length) b
 | [],b,w,i=>rfl
 | x::a,b,w,i=>by
  simp only[iQ,mV,fY];rw[Dg a b,show i+1+a.length=i+(a.length+1) by omega]
end
section
abbrev Wo:=aR
inductive gY(L:Wo->Prop):Wo->Prop
 |one {u:Wo}:L u->gY L u
 |more {u v:Wo}:L u->gY L v->gY L (u++v)
def gY.app{L:Wo->Prop}{u v:Wo}(h:gY L u)(k:gY L v):gY L (u++v):=by
 induction h with
 | one h=>exact .more h k
 | more h _ ih=>rw[nI];exact .more h ih
def gY.mono{L M:Wo->Prop}{u:Wo}(hm:∀u,L u->M u)(h:gY L u):gY M u:=by
 induction h with
 | one h=>exact .one (hm _ h)
 | more h _ ih=>exact .more (hm _ h) ih
def gY.nil{L:Wo->Prop}{u:Wo}(h:gY L u)(hu:u=[]):L []:=by
 induction h with
 | one h=>rw[hu] at h;exact h
 | more h _ ih=>rw[List.append_eq_nil_iff] at hu;rw[<- hu.1];exact h
mutual
def LW:Wd->Wo->Prop
 | .mZ=>λu=>u=[]
 | .one s _=>λu=>∃c,u=[c]/\qN s c=true
 | .both a b _ _=>λu=>∃x y,u=x++y/\LW a x/\LW b y
 | .alt l _ _=>Kw l
 | .rep w lp nl=>λu=>(nl=true/\u=[])\/(if lp then gY (LW w) u else LW w u)
def Kw:List Wd->Wo->Prop
 | []=>λ_=>False
 | w::l=>λu=>LW w u\/Kw l u
end
mutual
def JK:Wd->Prop
 | .mZ=>True
 | .one s _=>∃c,qN s c=true
 | .both a b nl _=>JK a/\JK b/\nl=(gJ a && gJ b)
 | .alt l nl _=>EN l/\l≠[]/\nl=l.any gJ
 | .rep w _ nl=>JK w/\(gJ w=true->nl=true)
def EN:List Wd->Prop
 | []=>True
 | w::l=>JK w/\EN l
end
mutual
def rG:∀{w:Wd},JK w->(gJ w=true ↔ LW w [])
 | .mZ,_=>by simp[gJ,LW]
 | .one s m,_=>by simp[gJ,LW]
 | .both a b nl la,h=>by
  have ha:=rG h.1;have hb:=rG h.2.1;rw[show gJ (.both a b nl la)=nl from rfl,h.2.2,bN,ha,hb];constructor
  ·rintro⟨h1,h2⟩;exact⟨[],[],rfl,h1,h2⟩
  ·rintro⟨x,y,Bo,h1,h2⟩;obtain⟨rfl,rfl⟩:=List.append_eq_nil_iff.1 Bo.symm;exact⟨h1,h2⟩
 | .alt l nl la,h=>by
  rw[show gJ (.alt l nl la)=nl from rfl,h.2.2];exact JL h.1
 | .rep w lp nl,h=>by
  have hw:=rG h.1;rw[show gJ (.rep w lp nl)=nl from rfl];constructor
  ·exact λh=>.inl ⟨h,rfl⟩
  ·rintro(h1|h1)
   ·exact h1.1
   ·refine h.2 (hw.2 ?_);split at h1
    ·exact h1.nil rfl
    ·exact h1
def JL:∀{l:List Wd},EN l->(l.any gJ=true ↔ Kw l [])
 | [],_=>by simp[Kw]
 | w::l,h=>by
  have h1:=rG h.1;have h2:=JL h.2;simp only[List.any_cons,gZ,Kw,h1,h2]
end
mutual
def rI:∀{w:Wd},JK w->∃u,LW w u
 | .mZ,_=>⟨[],by simp[LW]⟩
 | .one s m,h=>by
  obtain⟨c,hc⟩:=h;exact⟨[c],c,rfl,hc⟩
 | .both a b nl la,h=>by
  obtain⟨x,hx⟩:=rI h.1;obtain⟨y,hy⟩:=rI h.2.1;exact⟨x++y,x,y,rfl,hx,hy⟩
 | .alt l nl la,h=>JM h.1 h.2.1
 | .rep w lp nl,h=>by
  obtain⟨x,hx⟩:=rI h.1;refine⟨x,.inr ?_⟩;cases lp with
  | true=>exact .one hx
  | false=>exact hx
def JM:∀{l:List Wd},EN l->l≠[]->∃u,Kw l u
 | [],_,h=>(h rfl).elim
 | w::l,h,_=>by
  obtain⟨x,hx⟩:=rI h.1;exact⟨x,.inl hx⟩
end
def zrj(w:Wd)(bg:Bool)(c:Nat):gJ (fu w bg c).1=gJ w:=by cases w<;>simp only[fu,gJ]
def Dh:∀(w:Wd)(bg:Bool)(c:Nat),(fu w bg c).2=m5 (fu w bg c).1
 | .mZ,_,_=>by simp only[fu,m5]
 | .one _ _,_,_=>by simp only[fu,m5]
 | .both _ _ _ _,_,_=>by simp only[fu,m5]
 | .alt _ _ _,_,_=>by simp only[fu,m5]
 | .rep w lp n,bg,c=>by simp only[fu,m5];exact Dh w _ c
def rn(w:Wd)(bg:Nat->Bool)(t:Nat->Nat):Nat->Wd
 | 0=>w
 | n+1=>(fu (rn w bg t n) (bg n) (t n)).1
def XK(w:Wd)(bg:Nat->Bool)(t:Nat->Nat):∀n,gJ (rn w bg t n)=gJ w
 | 0=>rfl
 | n+1=>by rw[rn,zrj,XK w bg t n]
def sg(t:Nat->Nat)(i n:Nat):Wo:=(List.range' i (n - i)).map t
def wy(t:Nat->Nat)(i n:Nat):(sg t i n).length=n - i:=by simp[sg]
def kC(t:Nat->Nat)(n:Nat):sg t n n=[]:=by simp[sg]
def kU(t:Nat->Nat){i j n:Nat}(h1:i<=j)(h2:j<=n):sg t i n=sg t i j++sg t j n:=by
 unfold sg;rw[<- List.map_append];have:List.range' i (n - i)=List.range' i (j - i)++List.range' j (n - j):=by
  have h:=List.range'_append_1 (s:=i) (m:=j - i) (n:=n - j);rw[show i+(j - i)=j by omega,show j - i+(n - j)=n - i by omega] at h
  exact h.symm
 rw[this]
def UE(t:Nat->Nat){i n:Nat}(h:i<=n):sg t i (n+1)=sg t i n++[t n]:=by
 rw[kU t h (Nat.le_succ n)]
 congr 1
 simp[sg]
def Nh{t:Nat->Nat}{i n:Nat}{x y:Wo}(h:i<=n)(hx:sg t i n=x++y):∃j,i<=j/\j<=n/\x=sg t i j/\y=sg t j n:=by
 have hl:=congrArg List.length hx;rw[wy,oI] at hl;have h1:i<=i+x.length:=by omega
 have h2:i+x.length<=n:=by omega
 have hs:=kU t h1 h2;rw[hx] at hs;have:=List.append_inj hs (by rw[wy];omega)
 exact⟨i+x.length,h1,h2,this.1,this.2⟩
def Acc(L:Wo->Prop)(bg:Nat->Bool)(t:Nat->Nat)(n:Nat):Prop:=∃i,i<n/\bg i=true/\L (sg t i n)
def JN(a:Wd)(bg:Nat->Bool)(t:Nat->Nat)(i:Nat):Bool:=bg i && gJ a || m5 (rn a bg t i)
def zhf(a b:Wd)(nl la:Bool)(bg:Nat->Bool)(t:Nat->Nat):∀n,∃L1,rn (.both a b nl la) bg t n=.both (rn a bg t n) (rn b (JN a bg t) t n) nl L1
 | 0=>⟨la,rfl⟩
 | n+1=>by
  obtain⟨L1,h⟩:=zhf a b nl la bg t n;simp only[rn,h,fu,XK,JN];exact⟨_,rfl⟩
def zpD(a b:Wd)(nl la:Bool)(bg:Nat->Bool)(t:Nat->Nat)(n:Nat):m5 (rn (.both a b nl la) bg t (n+1))=(m5 (rn b (JN a bg t) t (n+1)) || m5 (rn a bg t (n+1)) && gJ b):=by
 obtain⟨L1,h⟩:=zhf a b nl la bg t n;simp only[rn,h,fu,XK,JN,m5,Dh]
def zjO(l:List Wd)(nl la:Bool)(bg:Nat->Bool)(t:Nat->Nat):∀n,∃L1,rn (.alt l nl la) bg t n=.alt (l.map λw=>rn w bg t n) nl L1
 | 0=>⟨la,by simp[rn]⟩
 | n+1=>by
  obtain⟨L1,h⟩:=zjO l nl la bg t n;simp only[rn,h,fu,uU,List.map_map];exact⟨_,rfl⟩
def Di:∀(l:List Wd)(bg:Bool)(c:Nat),(sJ l bg c).2=l.any λw=>(fu w bg c).2
 | [],_,_=>rfl
 | w::l,bg,c=>by simp only[sJ,List.any_cons,Di l]
def zrk(l:List Wd)(nl la:Bool)(bg:Nat->Bool)(t:Nat->Nat)(n:Nat):m5 (rn (.alt l nl la) bg t (n+1))=l.any λw=>m5 (rn w bg t (n+1)):=by
 obtain⟨L1,h⟩:=zjO l nl la bg t n;simp only[rn,h,fu,Di,List.any_map,m5]
 congr 1
 funext w
 simp only[Function.comp_apply,Dh]
def JO(w:Wd)(lp nl:Bool)(bg:Nat->Bool)(t:Nat->Nat)(i:Nat):Bool:=bg i || lp && m5 (rn (.rep w lp nl) bg t i)
def UF(w:Wd)(lp nl:Bool)(bg:Nat->Bool)(t:Nat->Nat):∀n,rn (.rep w lp nl) bg t n=.rep (rn w (JO w lp nl bg t) t n) lp nl
 | 0=>rfl
 | n+1=>by
  have h:=UF w lp nl bg t n;simp only[rn,h,fu,JO,m5]
def Px(w:Wd)(lp nl:Bool)(bg:Nat->Bool)(t:Nat->Nat)(i:Nat):JO w lp nl bg t i=(bg i || lp && m5 (rn w (JO w lp nl bg t) t i)):=by
 conv=>lhs;unfold JO
 rw[UF];rfl
mutual
def nk:∀(w:Wd),JK w->B7 w->∀(bg:Nat->Bool)(t:Nat->Nat)(n:Nat),m5 (rn w bg t n)=true ↔ Acc (LW w) bg t n
 | .mZ,_,_,bg,t,n=>by
  have:∀n,rn .mZ bg t n=.mZ:=λn=>by
   induction n with
   | zero=>rfl
   | succ n ih=>simp only[rn,ih,fu]
  rw[this];simp only[m5,bH,false_iff];rintro⟨i,hi,_,h⟩;have:=congrArg List.length (show sg t i n=[] from h);rw[wy,List.length_nil] at this;omega
 | .one s m,_,hd,bg,t,0=>by
  have hm:m=false:=hd;subst hm;simp only[rn,m5,bH,false_iff];rintro⟨i,hi,_⟩;omega
 | .one s m,_,hd,bg,t,n+1=>by
  have:∃m',rn (.one s m) bg t n=.one s m':=by
   clear hd
   induction n with
   | zero=>exact⟨m,rfl⟩
   | succ n ih =>
    obtain⟨m',h⟩:=ih;simp only[rn,h,fu];exact⟨_,rfl⟩
  obtain⟨m',h⟩:=this;simp only[rn,h,fu,m5,bN];constructor
  ·rintro⟨h1,h2⟩;exact⟨n,PV n,h1,t n,by rw[UE t (bV n),kC];rfl,h2⟩
  ·rintro⟨i,hi,h1,c,h2,h3⟩;have hl:=congrArg List.length h2;rw[wy] at hl;simp at hl;obtain rfl:i=n:=by omega
   rw[UE t (bV i),kC] at h2;simp at h2;rw[h2];exact⟨h1,h3⟩
 | .both a b nl la,eA,hd,bg,t,0=>by
  have hm:la=false:=hd.2.2;subst hm;simp only[rn,m5,bH,false_iff];rintro⟨i,hi,_⟩;omega
 | .both a b nl la,eA,hd,bg,t,n+1=>by
  have hA:=nk a eA.1 hd.1 bg t;have hB:=nk b eA.2.1 hd.2.1 (JN a bg t) t (n+1);have ea:=rG eA.1;have eb:=rG eA.2.1;rw[zpD,gZ,bN,hB,hA,eb];constructor
  ·rintro(⟨i,hi,h1,h2⟩|⟨⟨i,hi,h1,h2⟩,h3⟩)
   ·simp only[JN,gZ,bN] at h1;rcases h1 with⟨h1,h4⟩|h1
    ·exact⟨i,hi,h1,[],_,rfl,ea.1 h4,h2⟩
    ·obtain⟨j,hj,h5,h6⟩:=(hA i).1 h1;exact⟨j,by omega,h5,_,_,kU t (DK hj) (DK hi),h6,h2⟩
   ·exact⟨i,hi,h1,_,[],(uf _).symm,h2,h3⟩
  ·rintro⟨i,hi,h1,x,y,Bo,hx,hy⟩;obtain⟨j,h2,h3,rfl,rfl⟩:=Nh (DK hi) Bo;rcases iT j (n+1) with h4|h4
   ·refine .inl ⟨j,h4,?_,hy⟩;simp only[JN,gZ,bN];rcases iT i j with h5|h5
    ·exact .inr ((hA j).2 ⟨i,h5,h1,hx⟩)
    ·obtain rfl:i=j:=by omega
     rw[kC] at hx;exact .inl ⟨h1,ea.2 hx⟩
   ·obtain rfl:j=n+1:=by omega
    rw[kC] at hy;exact .inr ⟨⟨i,hi,h1,hx⟩,hy⟩
 | .alt l nl la,eA,hd,bg,t,0=>by
  have hm:la=false:=hd.2;subst hm;simp only[rn,m5,bH,false_iff];rintro⟨i,hi,_⟩;omega
 | .alt l nl la,eA,hd,bg,t,n+1=>by
  rw[zrk];exact FI l eA.1 hd.1 bg t (n+1)
 | .rep w lp nl,eA,hd,bg,t,n=>by
  have hA:=nk w eA.1 hd (JO w lp nl bg t) t;have key:∀n,m5 (rn w (JO w lp nl bg t) t n)=true ↔ Acc (LW (.rep w lp nl)) bg t n:=by
   intro n
   induction n using Nat.strongRecOn with
   | ind n ih =>
    rw[hA];constructor
    ·rintro⟨i,hi,h1,h2⟩;rw[Px,gZ,bN] at h1;rcases h1 with h1|⟨h1,h3⟩
     ·refine⟨i,hi,h1,.inr ?_⟩;split
      ·exact .one h2
      ·exact h2
     ·obtain⟨j,hj,h4,h5⟩:=(ih i hi).1 h3;refine⟨j,by omega,h4,.inr ?_⟩
      rw[if_pos h1,kU t (DK hj) (DK hi)];rcases h5 with⟨_,h5⟩|h5
      ·have:=congrArg List.length h5;rw[wy,List.length_nil] at this;omega
      ·rw[if_pos h1] at h5;exact h5.app (.one h2)
    ·rintro⟨i,hi,h1,h2⟩;have hb:JO w lp nl bg t i=true:=by rw[Px,h1];rfl
     rcases h2 with⟨_,h2⟩|h2
     ·have:=congrArg List.length h2;rw[wy,List.length_nil] at this;omega
     ·split at h2
      ·rename_i hlp;obtain⟨u,hu⟩:∃u,u=sg t i n:=⟨_,rfl⟩;rw[<- hu] at h2;clear h1
       induction h2 generalizing i with
       | one h=>exact⟨i,hi,hb,by rw[<- hu];exact h⟩
       | more h k ih2 =>
        obtain⟨j,g1,g2,rfl,rfl⟩:=Nh (DK hi) hu.symm;rcases iT j n with g3|g3
        ·refine ih2 j g3 ?_ rfl;rcases iT i j with g4|g4
         ·rw[Px,gZ,bN];exact .inr ⟨hlp,(hA j).2 ⟨i,g4,hb,h⟩⟩
         ·obtain rfl:i=j:=by omega
          exact hb
        ·obtain rfl:j=n:=by omega
         exact⟨i,hi,hb,h⟩
      ·exact⟨i,hi,hb,h2⟩
  rw[UF];exact key n
def FI:∀(l:List Wd),EN l->Df l->∀(bg:Nat->Bool)(t:Nat->Nat)(n:Nat),(l.any λw=>m5 (rn w bg t n))=true ↔ Acc (Kw l) bg t n
 | [],_,_,bg,t,n=>by
  simp only[List.any_nil,bH,false_iff];rintro⟨_,_,_,h⟩;exact h
 | w::l,eA,hd,bg,t,n=>by
  have h1:=nk w eA.1 hd.1 bg t n;have h2:=FI l eA.2 hd.2 bg t n;simp only[List.any_cons,gZ,h1,h2];constructor
  ·rintro(⟨i,a,b,c⟩|⟨i,a,b,c⟩)
   ·exact⟨i,a,b,.inl c⟩
   ·exact⟨i,a,b,.inr c⟩
  ·rintro⟨i,a,b,c|c⟩
   ·exact .inl ⟨i,a,b,c⟩
   ·exact .inr ⟨i,a,b,c⟩
end
end
section
def Nx(L:Wo->Prop)(bg:Nat->Bool)(t:Nat->Nat)(n c:Nat):Prop:=∃i,i<=n/\bg i=true/\∃v,L (sg t i n++c::v)
def XL{a:Wo}:∀{x y v:Wo}{c:Nat},a++c::v=x++y->(∃v',x=a++c::v')\/∃z,a=x++z/\y=z++c::v:=by
 intro x y v c h;rcases List.append_eq_append_iff.1 h with⟨z,h1,h2⟩|⟨z,h1,h2⟩
 ·cases z with
  | nil=>exact .inr ⟨[],by simpa using h1.symm,by simpa using h2.symm⟩
  | cons b z =>
   simp only[iQ,rZ] at h2;exact .inl ⟨z,by rw[h1,<- h2.1]⟩
 ·exact .inr ⟨z,h1,h2⟩
mutual
def w_:∀(w:Wd),JK w->B7 w->∀(bg:Nat->Bool)(t:Nat->Nat)(n c:Nat),qN (tP (rn w bg t n) (bg n)) c=true ↔ Nx (LW w) bg t n c
 | .mZ,_,_,bg,t,n,c=>by
  have:∀n,rn .mZ bg t n=.mZ:=λn=>by
   induction n with
   | zero=>rfl
   | succ n ih=>simp only[rn,ih,fu]
  rw[this];simp only[tP,wq,bH,false_iff];rintro⟨i,_,_,v,h⟩;have h':sg t i n++c::v=[]:=h;simp at h'
 | .one s m,_,hd,bg,t,n,c=>by
  have:∃m',rn (.one s m) bg t n=.one s m':=by
   clear hd
   induction n with
   | zero=>exact⟨m,rfl⟩
   | succ n ih =>
    obtain⟨m',h⟩:=ih;simp only[rn,h,fu];exact⟨_,rfl⟩
  obtain⟨m',h⟩:=this;rw[h];simp only[tP];constructor
  ·intro h1;cases hb:bg n with
   | false=>rw[hb] at h1;simp[wq] at h1
   | true =>
    rw[hb] at h1;exact⟨n,bV n,hb,[],c,by rw[kC];rfl,by simpa using h1⟩
  ·rintro⟨i,hi,hb,v,c',h1,h2⟩;have hl:=congrArg List.length h1;rw[oI,wy] at hl;simp at hl;obtain rfl:i=n:=by omega
   rw[kC] at h1;simp only[gF,rZ] at h1;rw[hb,h1.1];exact h2
 | .both a b nl la,eA,hd,bg,t,n,c=>by
  have hA:=w_ a eA.1 hd.1 bg t n c;have hB:=w_ b eA.2.1 hd.2.1 (JN a bg t) t n c;have hE:=nk a eA.1 hd.1 bg t;have ea:=rG eA.1;obtain⟨L1,h⟩:=zhf a b nl la bg t n;rw[h];simp only[tP,y7,gZ,XK];have e1:(bg n && gJ a || m5 (rn a bg t n))=JN a bg t n:=rfl
  rw[e1,hA,hB];constructor
  ·rintro(⟨i,hi,h1,v,h2⟩|⟨i,hi,h1,v,h2⟩)
   ·obtain⟨y,hy⟩:=rI eA.2.1;exact⟨i,hi,h1,v++y,_,y,by simp,h2,hy⟩
   ·simp only[JN,gZ,bN] at h1;rcases h1 with⟨h1,h4⟩|h1
    ·exact⟨i,hi,h1,v,[],_,rfl,ea.1 h4,h2⟩
    ·obtain⟨j,hj,h5,h6⟩:=(hE i).1 h1;refine⟨j,by omega,h5,v,_,_,?_,h6,h2⟩
     rw[kU t (DK hj) hi,nI]
  ·rintro⟨i,hi,h1,v,x,y,Bo,hx,hy⟩;rcases XL Bo with⟨v',rfl⟩|⟨z,h2,rfl⟩
   ·exact .inl ⟨i,hi,h1,v',hx⟩
   ·obtain⟨j,g1,g2,rfl,rfl⟩:=Nh hi h2;refine .inr ⟨j,g2,?_,v,hy⟩;simp only[JN,gZ,bN];rcases iT i j with h5|h5
    ·exact .inr ((hE j).2 ⟨i,h5,h1,hx⟩)
    ·obtain rfl:i=j:=by omega
     rw[kC] at hx;exact .inl ⟨h1,ea.2 hx⟩
 | .alt l nl la,eA,hd,bg,t,n,c=>by
  obtain⟨L1,h⟩:=zjO l nl la bg t n;rw[h];simp only[tP];rw[FJ l eA.1 hd.1 bg t n c c_,wq];simp[LW]
 | .rep w lp nl,eA,hd,bg,t,n,c=>by
  have hA:=w_ w eA.1 hd (JO w lp nl bg t) t n c;have hE:=nk w eA.1 hd (JO w lp nl bg t) t;have hR:=nk (.rep w lp nl) eA hd bg t;rw[UF];simp only[tP];rw[<- Px,hA];constructor
  ·rintro⟨i,hi,h1,v,h2⟩;rw[Px,gZ,bN] at h1;rcases h1 with h1|⟨h1,h3⟩
   ·refine⟨i,hi,h1,v,.inr ?_⟩;split
    ·exact .one h2
    ·exact h2
   ·have h3':m5 (rn (.rep w lp nl) bg t i)=true:=by rw[UF];exact h3
    obtain⟨j,hj,h4,h5⟩:=(hR i).1 h3';refine⟨j,by omega,h4,v,.inr ?_⟩
    rw[if_pos h1,kU t (DK hj) hi,nI];rcases h5 with⟨_,h5⟩|h5
    ·have:=congrArg List.length h5;rw[wy,List.length_nil] at this;omega
    ·rw[if_pos h1] at h5;exact h5.app (.one h2)
  ·rintro⟨i,hi,h1,v,h2⟩;have hb:JO w lp nl bg t i=true:=by rw[Px,h1];rfl
   rcases h2 with⟨_,h2⟩|h2
   ·simp at h2
   ·split at h2
    ·rename_i hlp;obtain⟨u,hu⟩:∃u,u=sg t i n++c::v:=⟨_,rfl⟩;rw[<- hu] at h2;clear h1
     induction h2 generalizing i with
     | one h=>exact⟨i,hi,hb,v,by rw[<- hu];exact h⟩
     | more h k ih2 =>
      rcases XL hu.symm with⟨v',rfl⟩|⟨z,h2,rfl⟩
      ·exact⟨i,hi,hb,v',h⟩
      ·obtain⟨j,g1,g2,rfl,rfl⟩:=Nh hi h2;refine ih2 j g2 ?_ rfl;rcases iT i j with g4|g4
       ·rw[Px,gZ,bN];exact .inr ⟨hlp,(hE j).2 ⟨i,g4,hb,h⟩⟩
       ·obtain rfl:i=j:=by omega
        exact hb
    ·exact⟨i,hi,hb,v,h2⟩
def FJ:∀(l:List Wd),EN l->Df l->∀(bg:Nat->Bool)(t:Nat->Nat)(n c:Nat)(s:fS),qN (sK (l.map λw=>rn w bg t n) (bg n) s) c=true ↔ qN s c=true\/Nx (Kw l) bg t n c
 | [],_,_,bg,t,n,c,s=>by
  simp only[Bm,sK];constructor
  ·exact .inl
  ·rintro(h|⟨_,_,_,_,h⟩)
   ·exact h
   ·exact h.elim
 | w::l,eA,hd,bg,t,n,c,s=>by
  have h1:=w_ w eA.1 hd.1 bg t n c;simp only[iC,sK];rw[FJ l eA.2 hd.2 bg t n c,y7,gZ,h1];constructor
  ·rintro((h|⟨i,a,b,v,d⟩)|⟨i,a,b,v,d⟩)
   ·exact .inl h
   ·exact .inr ⟨i,a,b,v,.inl d⟩
   ·exact .inr ⟨i,a,b,v,.inr d⟩
  ·rintro(h|⟨i,a,b,v,d|d⟩)
   ·exact .inl (.inl h)
   ·exact .inl (.inr ⟨i,a,b,v,d⟩)
   ·exact .inr ⟨i,a,b,v,d⟩
end
def GX(i:Nat):Bool:=i == 0
def tf(t:Wo)(i:Nat):Nat:=t.getD i 0
def Py(t:Wo):∀(n:Nat),n<=t.length->sg (tf t) 0 n=t.take n
 | 0,_=>by simp[sg]
 | n+1,h=>by
  rw[UE _ (dJ n),Py t n (by omega),List.take_succ_eq_append_getElem (by omega)]
  congr 1
  simp[tf,lB (show n<t.length by omega)]
def XM(w:Wd)(t:Wo):∀(n:Nat),n<=t.length->mV w 0 (t.take n)=rn w GX (tf t) n
 | 0,_=>by simp[mV,rn]
 | n+1,h=>by
  have hl:(t.take n).length=n:=by rw[tR];omega
  rw[List.take_succ_eq_append_getElem (by omega),Dg,XM w t n (by omega),hl]
  simp only[mV,rn,eM,GX]
  congr 2
  simp[tf,lB (show n<t.length by omega)]
def zsi{L:Wo->Prop}{t:Nat->Nat}{n:Nat}:Acc L GX t n ↔ 0<n/\L (sg t 0 n):=by
 constructor
 ·rintro⟨i,h1,h2,h3⟩;obtain rfl:i=0:=by simpa[GX] using h2
  exact⟨h1,h3⟩
 ·rintro⟨h1,h2⟩;exact⟨0,h1,rfl,h2⟩
def zpE{w:Wd}(eA:JK w)(hd:B7 w)(t:Wo)(n:Nat):n∈vm w t ↔ n<=t.length/\LW w (t.take n):=by
 cases n with
 | zero=>rw[zf3,rG eA];simp
 | succ k =>
  rw[zl9];constructor
  ·rintro⟨b,hb,h⟩;have hk:k<t.length:=(dW.1 hb).1;rw[Dh,XM w t k (by omega)] at h
   have e:(fu (rn w GX (tf t) k) (k == 0) b).1=rn w GX (tf t) (k+1):=by
    simp only[rn,GX]
    congr 2
    simp[tf,hb]
   rw[e,nk w eA hd,zsi,Py t (k+1) hk] at h;exact⟨hk,h.2⟩
  ·rintro⟨hk,h⟩;obtain⟨b,hb⟩:∃b,t[k]?=some b:=⟨t[k],by simp[show k<t.length from hk]⟩
   refine⟨b,hb,?_⟩;rw[Dh,XM w t k (by omega)]
   have e:(fu (rn w GX (tf t) k) (k == 0) b).1=rn w GX (tf t) (k+1):=by
    simp only[rn,GX]
    congr 2
    simp[tf,hb]
   rw[e,nk w eA hd,zsi,Py t (k+1) hk];exact⟨Nat.succ_pos k,h⟩
def zsj{w:Wd}(eA:JK w)(hd:B7 w)(t:Wo)(c:Nat):qN (tP (mV w 0 t) (t.length == 0)) c=true ↔ ∃v,LW w (t++c::v):=by
 have h:=XM w t t.length (bV _);rw[G2] at h;rw[h];have:=w_ w eA hd GX (tf t) t.length c;rw[show(t.length == 0)=GX t.length from rfl,this];have hs:=Py t t.length (bV _);rw[G2] at hs;constructor
 ·rintro⟨i,_,h2,v,h3⟩;obtain rfl:i=0:=by simpa[GX] using h2
  rw[hs] at h3;exact⟨v,h3⟩
 ·rintro⟨v,h3⟩;exact⟨0,dJ _,rfl,v,by rw[hs];exact h3⟩
end
section
mutual
def dh:E->Wo->Prop
 | .mk op _ s0 s1 s2 s3 _ mn mx _ args=>λu =>
  if op=2 then ∃c,u=[c]/\qN (s0,s1,s2,s3) c=true
  else if op=5 then oN args u
  else if op=6 then rJ args u
  else if op=7 then (mn=0/\u=[])\/(if mx<0 then gY (mb args) u else mb args u)
  else u=[]
def oN:List E->Wo->Prop
 | []=>λu=>u=[]
 | e::l=>λu=>∃x y,u=x++y/\dh e x/\oN l y
def rJ:List E->Wo->Prop
 | []=>λ_=>False
 | e::l=>λu=>dh e u\/rJ l u
def mb:List E->Wo->Prop
 | []=>λ_=>False
 | e::_=>dh e
end
def UG(L:Wo->Prop):Option Wd->Prop
 | none=>∀u,¬L u
 | some w=>JK w/\B7 w/\LW w=L
def zma{L:Wo->Prop}(h:∀u,¬L u):∀u,¬gY L u:=λu hp=>by
 induction hp with
 | one k=>exact h _ k
 | more k _ _=>exact h _ k
def JP:∀(l:List E),(∀a∈l,UG (dh a) (h_ a))->UG (oN l) (fI l)
 | [],_=>⟨trivial,trivial,rfl⟩
 | a::l,h=>by
  have ha:=h a (ew ..);have hl:=JP l λb hb=>h b (cZ _ hb);simp only[fI];cases h1:fI l with
  | none =>
   rw[h1] at hl;rintro u ⟨x,y,_,_,hy⟩;exact hl y hy
  | some w =>
   rw[h1] at hl;cases h2:h_ a with
   | none =>
    rw[h2] at ha;rintro u ⟨x,y,_,hx,_⟩;exact ha x hx
   | some x =>
    rw[h2] at ha;obtain⟨a1,a2,a3⟩:=ha;obtain⟨b1,b2,b3⟩:=hl;refine⟨⟨a1,b1,rfl⟩,⟨a2,b2,rfl⟩,?_⟩;simp only[LW,oN,a3,b3]
def JQ:∀(l:List E),(∀a∈l,UG (dh a) (h_ a))->EN (cQ l)/\Df (cQ l)/\Kw (cQ l)=rJ l
 | [],_=>⟨trivial,trivial,rfl⟩
 | a::l,h=>by
  have ha:=h a (ew ..);obtain⟨b1,b2,b3⟩:=JQ l λb hb=>h b (cZ _ hb);simp only[cQ];cases h2:h_ a with
  | none =>
   rw[h2] at ha;refine⟨b1,b2,?_⟩
   funext u
   simp only[rJ,b3];exact propext ⟨.inr,λh=>h.resolve_left (ha u)⟩
  | some x =>
   rw[h2] at ha;obtain⟨a1,a2,a3⟩:=ha;exact⟨⟨a1,b1⟩,⟨a2,b2⟩,by simp only[Kw,rJ,a3,b3]⟩
def Rn{pl s0 s1 s2 s3 mn mx:Int}{tx:aR}{nl:Bool}{args:List E}(h:fX (.mk 7 pl s0 s1 s2 s3 tx mn mx nl args)=true):(∃a,args=[a])/\(mn=0\/mn=1):=by
 simp[fX] at h;obtain⟨h1,h2⟩:=h;refine⟨List.length_eq_one_iff.1 (by omega),?_⟩
 omega
def B8:∀(N:Nat)(e:E),YtlnijcffanjieaaGreatDoor.hg e<=N->AH e->Rg e->UG (dh e) (h_ e)
 | 0,e,h,_,_=>by cases e;simp only[YtlnijcffanjieaaGreatDoor.hg] at h;omega
 | N+1,.mk op pl s0 s1 s2 s3 text mn mx nl args,h,hc,hr=>by
  simp only[YtlnijcffanjieaaGreatDoor.hg] at h;have hm:∀a∈args,UG (dh a) (h_ a):=λa ha=>by
   have h1:=xI ha;exact B8 N a (by omega) (hc.2.2.2.mem ha) (hr.2.mem ha)
  simp only[h_];split
  ·rename_i h2;split
   next h3=>rintro u hu;simp only[dh,if_pos h2] at hu;obtain⟨c,_,hu⟩:=hu;rw[h3,wq] at hu;cases hu
   ·rename_i h3;obtain⟨b,_,hb⟩:=ziJ hr.1 h3;refine⟨⟨b,hb⟩,rfl,?_⟩
    funext u
    simp only[LW,dh,if_pos h2]
  ·rename_i n2;split
   ·rename_i h5;have:=JP args hm;have e:dh (.mk op pl s0 s1 s2 s3 text mn mx nl args)=oN args:=by funext u;simp only[dh,if_neg n2,if_pos h5]
    rw[e];exact this
   ·rename_i n5;split
    ·rename_i h6;have e:dh (.mk op pl s0 s1 s2 s3 text mn mx nl args)=rJ args:=by funext u;simp only[dh,if_neg n2,if_neg n5,if_pos h6]
     obtain⟨b1,b2,b3⟩:=JQ args hm;rw[e,<- b3];split
     next AG=>have:cQ args=[]:=List.isEmpty_iff.1 AG;rw[this];exact λu hu=>hu
     ·rename_i AG;refine⟨⟨b1,λh=>AG (by rw[h];rfl),rfl⟩,⟨b2,rfl⟩,?_⟩
      simp only[LW]
    ·rename_i n6;split
     ·rename_i h7;subst h7;obtain⟨⟨a,rfl⟩,hmn⟩:=Rn hc.2.1;have ha:=hm a (by simp)
      have e:dh (.mk 7 pl s0 s1 s2 s3 text mn mx nl [a])=λu=>(mn=0/\u=[])\/(if mx<0 then gY (dh a) u else dh a u):=by
       funext u
       simp only[dh,mb];simp
      rw[e];simp only[mz];cases hf:h_ a with
      | none =>
       rw[hf] at ha;simp only;have lC:∀u,¬(if mx<0 then gY (dh a) u else dh a u):=λu=>by
        split
        ·exact zma ha u
        ·exact ha u
       by_cases hp:0<mn
       ·rw[if_pos hp];rintro u (⟨h0,_⟩|h0)
        ·omega
        ·exact lC u h0
       ·rw[if_neg hp];refine⟨trivial,trivial,?_⟩
        funext u
        simp only[LW];exact propext ⟨λh0=>.inl ⟨by omega,h0⟩,λh0=>(h0.resolve_right (lC u)).2⟩
      | some x =>
       rw[hf] at ha;obtain⟨a1,a2,a3⟩:=ha;refine⟨⟨a1,λhx=>by simp[hx]⟩,a2,?_⟩
       funext u
       simp only[LW,a3,decide_eq_true_eq,gZ,beq_iff_eq];refine propext ⟨?_,?_⟩
       ·rintro(⟨h0|h0,h1⟩|h0)
        ·exact .inl ⟨h0,h1⟩
        ·refine .inr ?_;have:=(rG a1).1 h0;rw[a3] at this;rw[h1];split
         ·exact .one this
         ·exact this
        ·exact .inr h0
       ·rintro(⟨h0,h1⟩|h0)
        ·exact .inl ⟨.inl h0,h1⟩
        ·exact .inr h0
     ·rename_i n7;refine⟨trivial,trivial,?_⟩
      funext u
      simp only[LW,dh,if_neg n2,if_neg n5,if_neg n6,if_neg n7]
end
section
open Go.Vm.Sx
def eY(l:List Bool):aj:=l.map V.bool
def dn(l:List Bool):V:=lv 1 false (eY l)
def Cu(l:List Bool):fm (.sl 1) (dn l)=true:=zqY ..
def xN(l:List Bool):vL (dn l)=eY l:=znB ..
def qI(l:List Bool):aX (dn l)=dn l:=BN ..
def oG:∀l:List Bool,aA (eY l)=0
 | []=>rfl
 | a::l=>by simp only[eY,iC,aA];exact oG l
def vA(l:List Bool):(dn l).top=0:=by unfold dn;rw[TQ];exact oG l
def L2(l:List Bool):(eY l).length=l.length:=by simp[eY]
def Pz{l:List Bool}{i:Nat}{b:Bool}(h:l[i]?=some b):nth (eY l) i=some (.bool b):=by rw[zf,eY,pH,h];rfl
variable{gl:Gl}[ir gl]
def zsk{x:V}:we prog [3] [.d x] 0:=by
 refine⟨λe=>?_,trivial⟩;rw[underlying3];simp
def zrl{x:V}:we prog [106] [.d x] 0:=by
 refine⟨λe=>?_,trivial⟩;rw[underlying106];simp
def zsl{x y:V}:we prog [27,27] [.d x,.d y] 0:=by
 refine⟨λe=>?_,λe=>?_,trivial⟩<;>rw[underlying27]<;>simp
def wd(c:Int):V:=.agg [.int .i64 c,.int .i64 0,.int .i64 0,.int .i64 0,.aU]
def zsm(cU:GL gl)(c:Int):Ev prog gl 52 [.d (.int .i64 c)] [] (wd c) []:=by
 refine qv (xs:=[.int .i64 c]) cU.top (cU.no 52 rfl) GI func52 (by kernel_rfl) zsk (by simp[aA,V.top]) (N:=1) ?_
 simp only[JA,wd];simp only[SA]
def FK(l:List Bool)(n:Nat):aR:=(List.range n).filter λi=>l.getD i false
def zsn(l:List Bool)(n:Nat):FK l (n+1)=FK l n++(if l.getD n false then [n] else []):=by
 simp only[FK,List.range_succ,List.filter_append,List.filter_cons,List.filter_nil]
def zpF(l:List Bool)(n:Nat):(FK l n).length<=n:=by
 have:=List.length_filter_le (λi=>l.getD i false) (List.range n);simpa[FK] using this
def ztx(cU:GL gl)(l:List Bool)(hl:l.length<=70000):Ev prog gl 53 [.d (dn l)] [] (acc 1 3 (kD (FK l l.length))) []:=by
 refine qv (xs:=[dn l]) cU.top (cU.no 53 rfl) GJ func53 (by kernel_rfl) zrl (by simp[aA,vA]) (N:=l.length+1) ?_
 simp only[JB];simp only[SA,Cu];refine wg (st:=λi=>[acc 1 3 (kD (FK l i)),.int .i64 (i:Int)]) (m:=l.length) (λi hi=>?_) ?_ (by omega)
 ·have h1:=Hv hi;obtain⟨b,hb⟩:∃b,l[i]?=some b:=⟨l[i],by simp[hi]⟩
  have h2:=Pz hb;have h3:l.getD i false=b:=by rw[Ny,hb];rfl
  have h4:=Ek (i:=i) (by omega)
  have Ct:=zpF l i;simp only[EE];rw[zsn,h3];cases b with
  | true =>
   have h5:jJ (kD (FK l i)++[V.int .i64 (i:Int)]).length 8=true:=by
    refine Sx.gR ?_ ?_<;>simp only[oI,xM,fY,List.length_nil]<;>omega
   have h6:kD (FK l i++[i])=kD (FK l i)++[V.int .i64 (i:Int)]:=by simp[kD]
   rw[if_pos rfl,h6,<- znC];simp only[SA,xN,L2,h1,h2,h4,h5,zpd,zqZ,rM]
  | false =>
   simp only[SA,xN,L2,h1,h2,h4,rM,aZ,bH,uf]
 ·have h1:=Hw (bV l.length);simp only[EE];simp only[SA,xN,L2,h1]
mutual
def gC:E->Bool
 | .mk op _ s0 s1 s2 s3 _ mn _ _ args=>if op == 2 then !(s0 == 0 && (s1 == 0 && (s2 == 0 && s3 == 0))) else if op == 5 then ia args else if op == 6 then oX args else if op == 7 then (mn == 0) || Bc args else true
def ia:List E->Bool
 | []=>true
 | a::l=>gC a && ia l
def oX:List E->Bool
 | []=>false
 | a::l=>gC a || oX l
def Bc:List E->Bool
 | []=>false
 | a::_=>gC a
end
def zso(cU:GL gl):∀(e:E),Wf e->AH e->Ev prog gl 84 [.d (enc e)] [] (.bool (gC e)) []
 | .mk op pl s0 s1 s2 s3 text mn mx nl args,hw,hc=>by
  have Ik:=iy;have hlen:=hw.2.1;have de:∀i a,args[i]?=some a->rV prog gl 84 [.d (enc a)] []=some (.bool (gC a),[]):=λi a h =>
   have ha:=oH h
   qM (zso cU a (hw.2.2.mem ha) (oq.mem hc.2.2.2 ha))
  refine qv (xs:=[enc (.mk op pl s0 s1 s2 s3 text mn mx nl args)]) cU.top (cU.no 84 rfl) GF func84 (by kernel_rfl) Q_ (by simp[aA,cL]) (N:=args.length+1) ?_
  have k5:∀(l:List E)(i:Nat),args.drop i=l->∀k,l.length<k->xG (rV prog gl) gl (args.length+1) EC [.agg [.int .i64 op,.int .i64 pl,.int .u64 s0,.int .u64 s1,.int .u64 s2,.int .u64 s3,.str text,.int .i64 mn,.int .i64 mx,qS nl (bl args)],.int .i64 op,.int .i64 pl,.int .u64 s0,.int .u64 s1,.int .u64 s2,.int .u64 s3,.str text,.int .i64 mn,.int .i64 mx,qS nl (bl args)] k [.int .i64 (i:Int)]=some (0,[.bool (ia l)]):=by
   simp only[gH,hO,Nat.reduceAdd,EC];intro l
   induction l with
   | nil =>
    intro i hd k hk;obtain⟨k,rfl⟩:∃k',k=k'+1:=⟨k - 1,by omega⟩
    refine jl ?_;have h1:=Hw (wH hd);simp only[SA,zX,h1,aK,ia]
   | cons a l ih =>
    intro i hd k hk;obtain⟨k,rfl⟩:∃k',k=k'+1:=⟨k - 1,by omega⟩
    obtain⟨ha,hi,sA⟩:=wG hd;have h1:=Hv hi;have hc:=de i a ha;have h2:=kS ha;have h4:=Ek (i:=i) (by omega)
    cases hs:gC a with
    | false =>
     rw[hs] at hc;refine jl ?_;simp only[ia,hs,G3];obtain⟨An,DB,DC,DD,DE,DF,lR,DG,DH,nl',dU⟩:=a;simp only[enc] at hc h2;simp only[SA,jg,zX,h1,h2,hc,aK,rM]
    | true =>
     rw[hs] at hc;refine kP (vs:=[.int .i64 ((i+1:Nat):Int)]) ?_ (by simp only[ia,hs,ug];exact ih (i+1) sA k (by simp at hk;omega))
     obtain⟨An,DB,DC,DD,DE,DF,lR,DG,DH,nl',dU⟩:=a;simp only[enc] at hc h2;simp only[SA,jg,zX,h1,h2,h4,hc,aK,rM]
  have k6:∀(l:List E)(i:Nat),args.drop i=l->∀k,l.length<k->xG (rV prog gl) gl (args.length+1) EB [.agg [.int .i64 op,.int .i64 pl,.int .u64 s0,.int .u64 s1,.int .u64 s2,.int .u64 s3,.str text,.int .i64 mn,.int .i64 mx,qS nl (bl args)],.int .i64 op,.int .i64 pl,.int .u64 s0,.int .u64 s1,.int .u64 s2,.int .u64 s3,.str text,.int .i64 mn,.int .i64 mx,qS nl (bl args)] k [.int .i64 (i:Int)]=some (0,[.bool (oX l)]):=by
   simp only[gH,hO,Nat.reduceAdd,EB];intro l
   induction l with
   | nil =>
    intro i hd k hk;obtain⟨k,rfl⟩:∃k',k=k'+1:=⟨k - 1,by omega⟩
    refine jl ?_;have h1:=Hw (wH hd);simp only[SA,zX,h1,aK,oX]
   | cons a l ih =>
    intro i hd k hk;obtain⟨k,rfl⟩:∃k',k=k'+1:=⟨k - 1,by omega⟩
    obtain⟨ha,hi,sA⟩:=wG hd;have h1:=Hv hi;have hc:=de i a ha;have h2:=kS ha;have h4:=Ek (i:=i) (by omega)
    cases hs:gC a with
    | true =>
     rw[hs] at hc;refine jl ?_;simp only[oX,hs,Bool.true_or];obtain⟨An,DB,DC,DD,DE,DF,lR,DG,DH,nl',dU⟩:=a;simp only[enc] at hc h2;simp only[SA,jg,zX,h1,h2,hc,aK,rM]
    | false =>
     rw[hs] at hc;refine kP (vs:=[.int .i64 ((i+1:Nat):Int)]) ?_ (by simp only[oX,hs,Bl];exact ih (i+1) sA k (by simp at hk;omega))
     obtain⟨An,DB,DC,DD,DE,DF,lR,DG,DH,nl',dU⟩:=a;simp only[enc] at hc h2;simp only[SA,jg,zX,h1,h2,h4,hc,aK,rM]
  simp only[gH,hO,Nat.reduceAdd,Jw,enc,gC];cases h2:op == 2 with
  | true=>simp only[SA,jg,h2,aT]
  | false =>
  cases h5:op == 5 with
  | true =>
   simp only[SA,jg,h2,h5,aT,aZ,bH];exact kX (k5 args 0 (by simp) _ (by omega))
  | false =>
  cases h6:op == 6 with
  | true =>
   simp only[SA,jg,h2,h5,h6,aT,aZ,bH];exact kX (k6 args 0 (by simp) _ (by omega))
  | false =>
  cases h7:op == 7 with
  | false=>simp only[SA,jg,h2,h5,h6,h7,aZ,bH]
  | true =>
  cases hm:mn == 0 with
  | true=>simp only[SA,jg,h2,h5,h6,h7,hm,aT,aZ,bH]
  | false =>
   have az:op=7:=by simpa using h7
   subst az;obtain⟨⟨a,rfl⟩,_⟩:=Rn hc.2.1;have lX:=de 0 a rfl;have hn:nth (bl [a]) 0=some (enc a):=rfl;obtain⟨An,DB,DC,DD,DE,DF,lR,DG,DH,nl',dU⟩:=a;simp only[enc] at lX hn;simp only[SA,jg,zX,h2,h5,h6,h7,hm,lX,hn,show gh 0 0=false from rfl,aT,aZ,bH,Bc,Mf]
termination_by e=>hg e
decreasing_by simp only[hg];have:=xI ha;omega
def zsp(cU:GL gl):∀(e:E),Wf e->Ev prog gl 34 [.d (enc (eH e)),.d (enc e)] [] (.bool true) []
 | .mk op pl s0 s1 s2 s3 text mn mx nl args,hw=>by
  have Ik:=iy;have hlen:=hw.2.1;have de:∀i a,args[i]?=some a->rV prog gl 34 [.d (enc (eH a)),.d (enc a)] []=some (.bool true,[]):=λi a h =>
   have ha:=oH h
   qM (zsp cU a (hw.2.2.mem ha))
  refine qv (xs:=[enc (eH (.mk op pl s0 s1 s2 s3 text mn mx nl args)),enc (.mk op pl s0 s1 s2 s3 text mn mx nl args)]) cU.top (cU.no 34 rfl) GM func34 (by kernel_rfl) zsl (by simp[aA,cL]) (N:=args.length+1) ?_
  have uy:sU text text=true:=pZ text;simp only[gH,JD,enc,eH,sP];simp only[SA,jg,zX,aK,oO,beq_self_eq_true,uy,Bool.or_self];refine wg (st:=λi=>[.int .i64 (i:Int)]) (m:=args.length) (λi hi=>?_) ?_ (by omega)
  ·obtain⟨a,ha⟩:∃a,args[i]?=some a:=⟨args[i],by simp[hi]⟩
   have h1:=Hv hi;have h2:=kS ha;have h3:nth (bl (args.map eH)) i=some (enc (eH a)):=kS (by rw[pH,ha];rfl)
   have h4:=Ek (i:=i) (by omega)
   have hc:=de i a ha;simp only[gH,hO,Nat.reduceAdd,EG];obtain⟨An,DB,DC,DD,DE,DF,lR,DG,DH,nl',dU⟩:=a;simp only[enc,eH] at hc h2 h3;simp only[SA,jg,zX,aK,oO,h1,h2,h3,h4,hc,rM]
  ·have h1:=Hw (bV args.length);simp only[gH,hO,Nat.reduceAdd,EG];simp only[SA,zX,aK,oO,h1]
termination_by e=>hg e
decreasing_by simp only[hg];have:=xI ha;omega
end
end Go.Proofs.YtlnijcffanjieaaGreatDoor
