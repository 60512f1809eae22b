/- Seat 8: expressions as data. Conditions: none but those named. -/
import Derived.Test.YthohlnmcjkjeiaaGreatDoorVmI
import Derived.Test.YthohlnmcjkjeiaaGreatDoorVmK
set_option linter.defProp false
namespace Go.Proofs.YthohlnmcjkjeiaaGreatDoor
open Go Go.Vm
open Go.Proofs.Tryz
set_option maxRecDepth 100000
section
inductive E where
 |mk (op pl s0 s1 s2 s3:Int) (text:bR) (mn mx:Int) (nl:Bool) (args:List E)
def yH(nl:Bool)(l:aA):V:=if nl && l.isEmpty then .aJ else .sl 10 l .no
mutual
def enc:E->V
 | .mk op pl s0 s1 s2 s3 text mn mx nl args=>.agg [.int .i64 op,.int .i64 pl,.int .u64 s0,.int .u64 s1,.int .u64 s2,.int .u64 s3,.str text,.int .i64 mn,.int .i64 mx,yH nl (fy args)]
def fy:List E->aA
 | []=>[]
 | e::es=>enc e::fy es
end
def di:∀(l:List E),(fy l).length=l.length
 | []=>rfl
 | e::l=>by simp[fy,di l]
def tQ:∀(l:List E)(i:Nat),(fy l)[i]?=(l[i]?).map enc
 | [],i=>by simp[fy]
 | e::l,0=>by simp[fy]
 | e::l,i+1=>by simp[fy,tQ l i]
def vv(nl:Bool)(l:aA):yH nl l=.sl 10 l .no\/(l=[]/\yH nl l=.aJ):=by
 unfold yH;split
 next h=>rw[cR] at h;exact .inr ⟨by simpa using h.2,rfl⟩
 ·exact .inl rfl
def jW{nl:Bool}{l:aA}:aT (yH nl l)=yH nl l:=by
 rcases vv nl l with h|⟨_,h⟩<;>rw[h]<;>rfl
def zo4{nl:Bool}{l:aA}:(yH nl l).top=aI l:=by
 rcases vv nl l with h|⟨hl,h⟩<;>rw[h]
 ·rfl
 ·rw[hl];rfl
mutual
def l7:∀(e:E),(enc e).top=0
 | .mk op pl s0 s1 s2 s3 text mn mx nl args=>by
  simp only[enc,V.top,aI,zo4,Af args];rfl
def Af:∀(l:List E),aI (fy l)=0
 | []=>rfl
 | e::l=>by simp[fy,aI,l7 e,Af l]
end
def Ld{x:Int}(h1:-9223372036854775808<=x)(h2:x<=9223372036854775807):IntKind.i64.wrap x=x:=by
 simp only[IntKind.wrap,IntKind.bits,IntKind.signed];simp;omega
def We{i:Nat}(h:i<9223372036854775807):IntKind.i64.wrap ((i:Int)+1)=((i+1:Nat):Int):=by
 rw[Ld (by omega) (by omega)];omega
mutual
def Wf:E->Prop
 | .mk _ _ _ _ _ _ text _ _ _ args=>text.length<=maxLen/\args.length<=maxLen/\Py args
def Py:List E->Prop
 | []=>True
 | e::l=>Wf e/\Py l
end
def Py.mem{a:E}:∀{l:List E},Py l->a∈l->Wf a
 | e::l,h,ha=>by
  rcases dh.1 ha with rfl|ha
  ·exact h.1
  ·exact Py.mem h.2 ha
def Ag:maxLen<=9223372036854775807:=by decide
mutual
def hg:E->Nat
 | .mk _ _ _ _ _ _ _ _ _ _ args=>Wg args+args.length+2
def Wg:List E->Nat
 | []=>0
 | e::l=>max (hg e) (Wg l)
end
def zrm{a:E}:∀{l:List E},a∈l->hg a<=Wg l
 | e::l,h=>by
  simp only[Wg];rcases dh.1 h with rfl|h
  ·exact Eo _ _
  ·exact cZ (zrm h) (II _ _)
end
section
open Go.Vm.Sx
def yI(nl:Bool)(l:aA):fh (.sl 10) (yH nl l)=true:=by
 rcases vv nl l with h|⟨_,h⟩<;>rw[h]<;>rfl
def wu(nl:Bool)(l:aA):vL (yH nl l)=l:=by
 rcases vv nl l with h|⟨h0,h⟩<;>rw[h]
 ·rfl
 ·rw[h0];rfl
def zo5{l:List E}{i:Nat}{a:E}(h:l[i]?=some a):nth (fy l) i=some (enc a):=by rw[zV,tQ,h];rfl
variable{gl:Gl}[mw gl]
structure GL(gl:Gl):Prop where
 top:∀g off v,gl g off=some v->v.top=0
 no:∀f,[14,15,20,21,22,26,28,30,45,73,74].any (Nat.beq f)=false->∀args,gl.hk f args=none
def SD{x:V}:vG prog [53] [.d x] 0:=by
 refine⟨λe=>?_,trivial⟩;rw[underlying53];simp
def sC:E->Bool
 | .mk op pl s0 s1 s2 s3 text mn mx _ _=>((pl == 0 && rZ text []) && (op == 2 || (s0 == 0 && (s1 == 0 && (s2 == 0 && s3 == 0))))) && (op == 7 || (mn == 0 && mx == 0))
def n6:E->Bool
 | .mk op _ _ _ _ _ _ mn mx _ args =>
  if op == 1 then (args.length:Int) == 0 else if op == 2 then (args.length:Int) == 0 else if op == 5 then gx 1 (args.length:Int) else if op == 6 then gx 1 (args.length:Int) else
  if op == 7 then (args.length:Int) == 1 && ((mn == 0 && mx == -1 || mn == 1 && mx == -1) || mn == 0 && mx == 1) else false
def zsH(ez:GL gl):∀(e:E),Ev prog gl 153 [.d (enc e)] [] (.bool (sC e)) []
 | .mk op pl s0 s1 s2 s3 text mn mx nl args=>by
  refine kR (xs:=[enc (.mk op pl s0 s1 s2 s3 text mn mx nl args)]) ez.top (ez.no 153 rfl) C1 func153 (by kernel_rfl) SD (by simp[aI,l7]) (N:=1) ?_
  simp only[Bl,D5,enc]
  simp only[qV,qD,a_,jG,jH,qz,jI,jJ,aX,fo,jd,qo,qy,bt,bL,dH,qk,bB,qq,jp,qT,qU,qR,fI,yI,sC]
def zsI(ez:GL gl):∀(e:E),Ev prog gl 154 [.d (enc e)] [] (.bool (n6 e)) []
 | .mk op pl s0 s1 s2 s3 text mn mx nl args=>by
  refine kR (xs:=[enc (.mk op pl s0 s1 s2 s3 text mn mx nl args)]) ez.top (ez.no 154 rfl) C2 func154 (by kernel_rfl) SD (by simp[aI,l7]) (N:=1) ?_
  simp only[Bl,D6,enc,n6];cases h1:op == 1 with
  | true=>simp only[jM,qV,qD,a_,jG,jH,qz,jI,jJ,aX,fo,jd,qo,qy,bt,bL,cj,qk,bB,qq,jp,qT,qR,yI,wu,h1,di,aU]
  | false =>
  cases h2:op == 2 with
  | true=>simp only[jM,jN,qV,qD,a_,jG,jH,qz,jI,jJ,aX,fo,jd,qo,qy,bt,bL,cj,qk,bB,qq,jp,qT,qR,yI,wu,h1,h2,di,aU,bZ,dF]
  | false =>
  cases h3:op == 5 with
  | true=>simp only[jM,jN,qV,qD,a_,jG,jH,qz,jI,jJ,aX,fo,jd,qo,qy,bt,bL,cj,qk,bB,qq,jp,qT,qP,qR,yI,wu,h1,h2,h3,di,aU,bZ,dF]
  | false =>
  cases h4:op == 6 with
  | true=>simp only[jM,jN,qV,qD,a_,jG,jH,qz,jI,jJ,aX,fo,jd,qo,qy,bt,bL,cj,qk,bB,qq,jp,qT,qP,qR,yI,wu,h1,h2,h3,h4,di,aU,bZ,dF]
  | false =>
  cases h5:op == 7 with
  | true=>simp only[jM,jN,qV,qD,a_,jG,jH,qz,jI,jJ,aX,fo,jd,qo,qy,bt,bL,cj,qk,bB,qq,jp,qT,qR,yI,wu,h1,h2,h3,h4,h5,di,aU,bZ,dF]
  | false=>simp only[jN,qV,qD,a_,jG,jH,qz,jI,jJ,aX,fo,jd,qo,qy,bt,bL,qk,bB,qq,jp,qT,qR,yI,h1,h2,h3,h4,h5,bZ,dF]
mutual
def ew:E->Int->Int->Int->Bool×Int×Int
 | .mk op pl s0 s1 s2 s3 text mn mx nl args,d,n,s =>
  if (gx 65536 (IntKind.i64.wrap (n+1)) || gx 4096 d) then (false,IntKind.i64.wrap (n+1),s) else
  if sC (.mk op pl s0 s1 s2 s3 text mn mx nl args) then
   if n6 (.mk op pl s0 s1 s2 s3 text mn mx nl args) then ir (IntKind.i64.wrap (d+1)) args (IntKind.i64.wrap (n+1)) (if op == 2 then IntKind.i64.wrap (s+1) else s)
   else (false,IntKind.i64.wrap (n+1),s)
  else (false,IntKind.i64.wrap (n+1),s)
def ir:Int->List E->Int->Int->Bool×Int×Int
 | _,[],n,s=>(true,n,s)
 | d,a::l,n,s=>if (ew a d n s).1 then ir d l (ew a d n s).2.1 (ew a d n s).2.2 else ew a d n s
end
def JK(e:E)(d:Int):List AV:=[.d (enc e),.d (.int .i64 d),.p 0 0,.p 1 0]
def Ir(n s:Int):List (aA×aq):=[([.int .i64 n],3),([.int .i64 s],3)]
def Lf(r:Bool×Int×Int):List aA:=[[.int .i64 r.2.1],[.int .i64 r.2.2]]
def JL:yR prog f122.params.toList=some [(3,[.int .i64]),(3,[.int .i64])]:=by kernel_rfl
def zsJ{x y:V}:vG prog [53,3,221,221] [.d x,.d y,.p 0 0,.p 1 0] 0:=by
 refine⟨λe=>?_,λe=>?_,⟨3,underlying221⟩,rfl,rfl,⟨3,underlying221⟩,rfl,rfl,trivial⟩
 ·rw[underlying53];simp
 ·rw[underlying3];simp
def zo7(ez:GL gl):∀(e:E),Wf e->∀d n s,Ev prog gl 122 (JK e d) (Ir n s) (.bool (ew e d n s).1) (Lf (ew e d n s))
 | .mk op pl s0 s1 s2 s3 text mn mx nl args,hw=>by
  intro d n s;have Gg:=Ag;have hlen:=hw.2.1;have gO:∀i a,args[i]?=some a->∀d n s,sA prog gl 122 (JK a d) (Ir n s)=some (.bool (ew a d n s).1,Lf (ew a d n s)):=λi a h d n s =>
   have ha:=nF h
   ke (zo7 ez a (hw.2.2.mem ha) d n s)
  refine zl0 (N:=args.length+1) (zkS ez.top) (ez.no 122 rfl) C3 func122 JL (gA:=JK _ d) (by rw[params122];exact zsJ) (fp:=Ir n s) (show CZ [(3,[.int .i64]),(3,[.int .i64])] (Ir n s) from⟨rfl,rfl,rfl,rfl,rfl,rfl,trivial⟩) (λx hx=>?_) (show CY (Ir n s) (Lf _) from⟨rfl,rfl,trivial⟩) ?_
  ·simp only[JK,dh,AV.d.injEq,reduceCtorEq,List.not_mem_nil,or_false] at hx;rcases hx with rfl|rfl
   ·exact l7 _
   ·rfl
  have key:∀(l:List E)(i:Nat)(n' s':Int),args.drop i=l->∀k,l.length<k->K8 (sA prog gl) gl (args.length+1) s6
    [.agg [.int .i64 op,.int .i64 pl,.int .u64 s0,.int .u64 s1,.int .u64 s2,.int .u64 s3,.str text,.int .i64 mn,.int .i64 mx,yH nl (fy args)],.int .i64 d,.ef,.ef,.int .i64 n,.int .i64 s,.int .i64 op,.int .i64 pl,.int .u64 s0,.int .u64 s1,.int .u64 s2,.int .u64 s3,.str text,.int .i64 mn,.int .i64 mx,yH nl (fy args),.bool true,.bool true]
    k [.int .i64 (i:Int),.int .i64 n',.int .i64 s']=some (0,[.bool (ir (IntKind.i64.wrap (d+1)) l n' s').1,.int .i64 (ir (IntKind.i64.wrap (d+1)) l n' s').2.1,.int .i64 (ir (IntKind.i64.wrap (d+1)) l n' s').2.2]):=by
   simp only[Bl,s5,Nat.reduceAdd,s6];intro l
   induction l with
   | nil =>
    intro i n' s' hd k hk;obtain⟨k,rfl⟩:∃k',k=k'+1:=⟨k - 1,by omega⟩
    refine y7 ?_;have h1:=K7 (zgZ hd)
    simp only[jN,qV,aZ,qD,jG,jH,qo,qy,bt,bL,cj,qk,bB,qq,jp,qT,qN,wu,h1,di,ir]
   | cons a l ih =>
    intro i n' s' hd k hk;obtain⟨k,rfl⟩:∃k',k=k'+1:=⟨k - 1,by omega⟩
    obtain⟨ha,hi,Cq⟩:=zgY hd;have h1:=K6 hi;have hc:=gO i a ha (IntKind.i64.wrap (d+1)) n' s';have h2:=zo5 ha;have h4:=We (i:=i) (by omega)
    have hf:ir (IntKind.i64.wrap (d+1)) (a::l) n' s'=if (ew a (IntKind.i64.wrap (d+1)) n' s').1 then ir (IntKind.i64.wrap (d+1)) l (ew a (IntKind.i64.wrap (d+1)) n' s').2.1 (ew a (IntKind.i64.wrap (d+1)) n' s').2.2 else ew a (IntKind.i64.wrap (d+1)) n' s':=by simp only[ir]
    rw[hf];cases hp:(ew a (IntKind.i64.wrap (d+1)) n' s').1 with
    | false =>
     refine y7 ?_;simp only[dF,bZ,hp];rw[hp] at hc;obtain⟨Cv,Is,Iu,Iv,Iw,Iy,pW,Iz,IA,AP,lI⟩:=a;simp only[enc,JK,Ir,Lf] at hc h2
     simp only[jM,qV,aZ,qD,qE,a_,qX,qF,jG,jH,qz,jI,jJ,jf,aX,fo,fz,jd,je,qo,qy,qH,bt,bL,cj,qk,bB,qq,jq,fF,qK,jp,qT,qA,qN,fK,jb,aV,aP,zg,zr,dW,bq,List.length_nil,yI,wu,jW,h1,h2,hc,di,l9]
    | true =>
     simp only[aU];refine zfM (vs:=[.int .i64 ((i+1:Nat):Int),.int .i64 (ew a (IntKind.i64.wrap (d+1)) n' s').2.1,.int .i64 (ew a (IntKind.i64.wrap (d+1)) n' s').2.2]) ?_ (ih (i+1) _ _ Cq k (by simp at hk;omega))
     rw[hp] at hc;obtain⟨Cv,Is,Iu,Iv,Iw,Iy,pW,Iz,IA,AP,lI⟩:=a;simp only[enc,JK,Ir,Lf] at hc h2
     simp only[jM,jN,qV,qE,a_,qX,qF,jG,jH,qz,jI,jJ,jf,aX,fo,eU,jd,je,qo,qy,qH,bt,bL,cj,qk,bB,qq,jq,fF,qK,qT,qA,qN,fK,jb,aV,aP,zg,zr,dW,bq,List.length_nil,yI,wu,jW,h1,h2,h4,hc,di,l9]
  have SE:=ke (zsH ez (.mk op pl s0 s1 s2 s3 text mn mx nl args));have Wh:=ke (zsI ez (.mk op pl s0 s1 s2 s3 text mn mx nl args));simp only[enc] at SE Wh;simp only[Bl,s5,Nat.reduceAdd,D7,JK,Ir,Lf,xH,k_,bW,cM,pU,enc,ew];cases h1:(gx 65536 (IntKind.i64.wrap (n+1)) || gx 4096 d) with
  | true=>simp only[jN,qV,qD,a_,qX,jG,jH,qz,jI,jJ,aX,fo,eU,jd,qo,qy,qH,bt,bL,qk,bB,qq,jp,qT,qP,fK,aV,yI,h1,aU]
  | false =>
  cases h2:sC (.mk op pl s0 s1 s2 s3 text mn mx nl args) with
  | false=>simp only[jM,jN,qV,qD,a_,qX,qF,jG,jH,qz,jI,jJ,jf,aX,fo,fz,jd,qo,qy,qH,bt,bL,qk,bB,qq,jq,fF,qK,jp,qT,qA,qP,fK,aV,aP,zg,zr,yI,jW,h1,SE,h2,bZ,dF]
  | true =>
  cases h3:n6 (.mk op pl s0 s1 s2 s3 text mn mx nl args) with
  | false=>simp only[jM,qV,qD,a_,qX,qF,jG,jH,qz,jI,jJ,jf,aX,fo,fz,jd,qo,qy,qH,bt,bL,qk,bB,qq,jq,fF,qK,jp,qT,qA,qP,fK,aV,aP,zg,zr,yI,jW,h1,SE,Wh,h2,h3,aU,bZ,dF]
  | true =>
  cases aF:op == 2 with
  | true =>
   simp only[jM,jN,a_,qX,qF,qB,jG,jH,qz,jI,jJ,jf,aX,fo,eU,fz,jd,qo,qy,qH,bt,bL,qk,bB,qq,jq,fF,qK,qT,qA,qP,qR,fK,aV,aP,zg,zr,yI,jW,h1,SE,Wh,h2,h3,aF,aU,bZ,dF]
   exact zh5 (key args 0 _ _ (by simp) _ (by omega))
  | false =>
   simp only[jM,jN,a_,qX,qF,qB,jG,jH,qz,jI,jJ,jf,aX,fo,eU,fz,jd,qo,qy,qH,bt,bL,qk,bB,qq,jq,fF,qK,qT,qA,qP,qR,fK,aV,aP,zg,zr,yI,jW,h1,SE,Wh,h2,h3,aF,aU,bZ,dF]
   exact zh5 (key args 0 _ _ (by simp) _ (by omega))
termination_by e=>hg e
decreasing_by simp only[hg];have:=zrm ha;omega
end
section
variable{gl:Gl}
def aaV:prog.underlying 224=some (.array 64 5):=by kernel_rfl
def sz5:jh prog 5=some 1:=by kernel_rfl
def aaW:ka prog 5=some false:=by kernel_rfl
def u3:prog.underlying 3=some (.int .i64):=by kernel_rfl
def u5:prog.underlying 5=some (.int .u8):=by kernel_rfl
def zo8(hg:GW gl){n:Nat}{H:Hp}{k m:Nat}(hw:2 ^ (k+1) * m+2 ^ k<2 ^ 64):qt prog gl (n+1) 96 [.int .u64 ((2 ^ (k+1) * m+2 ^ k:Nat):Int)] H=some (.ret (.int .i64 (k:Nat)),H):=by
 obtain⟨bs,es⟩:=H;have hk:k<64:=Sv hw;obtain⟨w,w',hwd,DI,aaX,hand⟩:=zqK (P:=prog) hw;obtain⟨x,ix,hmul,aaY,Wi,aaZ⟩:=zqJ (P:=prog) hk;rw[<- hwd];clear hwd hw;have iX:jl bs.length es 0 ⟨bs,[]⟩=⟨bs,es⟩:=by
  have:=kg (bs:=bs) (ls:=[]) (es:=es) (t:=0) (ga _)
  rwa [oZ] at this
 suffices d_:(go ⟨prog,gl,qt prog gl n,gE⟩ n (Fx prog f96.results.toList λw H1=>w=.int .i64 (k:Nat)/\H1=⟨bs,[]⟩) [.c (f96.body.getD .skip)] .normal ⟨[.int .u64 (w:Nat)]++List.replicate 13 (.bz []),⟨bs,[]⟩,[],[]⟩) by
  obtain⟨w,H1,h0,rfl,rfl⟩:=jZ (gl:=gl) (f:=96) (bs:=bs) (es:=es) (args:=[.int .u64 (w:Nat)]) (n:=n) (hg.hk _ _ (by decide)) (λH=>hg.iA _ _ _ _) func96 rfl (by rw[hg.uq];exact d_)
  rw[h0];exact congrArg (λx=>some (Out.ret _,x)) iX
 simp only[f96,t_,zD];refine qx ?_;simp only[qi,ah,zD,zq,zj,aH,bG,zH,au,qb,dJ,dM,List.replicate,cF,cq]
 refine qx ?_;simp only[qi,ah,zD,zJ,zw,zA,aB,aH,zR,z6,zk,au,qb,dJ,dM,zg,zf,yq,zU]
 refine .inr ⟨by simp;omega,?_⟩
 simp only[aC,zD]
 refine qx ?_;have JM:q7 prog 224 (.gI 4 0) ((ix:Nat):Int)=some (.gI 4 ix):=by
  simp only[q7,aaV,sz5];simp only[l9];rw[if_pos (by omega)]
  simp
 have lR:qJ prog ⟨bs,[]⟩ gl.g 5 (.gI 4 ix)=some (.int .u8 (k:Nat)):=by
  simp only[qJ,aaW,Option.bind_eq_bind,bC,dF,bZ];rw[hg.tab _ Wi,aaZ]
 have mY:vw prog 5 3 (.int .u8 (k:Nat))=some (.int .i64 (k:Nat)):=by
  simp only[vw,u5,u3,Option.bind_eq_bind,bC];rw[yF (by omega) (by omega)]
 simp only[qi,ah,zw,zA,z4,zc,zI,zjd (a:=5) (b:=3) (hm:=rfl),show gE (Km 5)=false from rfl,zq,zu,aB,aH,zR,z6,zk,au,qb,dJ,dM,zg,zod,bC,bG,aaX,hand,hmul,aaY,qM,JM,lR,mY,zt,zH,go_ret,jc,Fx]
 refine⟨trivial,[.int .i64 (k:Nat)],?_,rfl,trivial⟩;simp only[ja,zR,z6]
end
section
variable{gl:Gl}
def FF:rU prog 27 3 1 8:=⟨by kernel_rfl,by kernel_rfl,by kernel_rfl,by decide,by kernel_rfl,by kernel_rfl,by kernel_rfl⟩
def zjW{p:Nat->Bool}:∀i,aI (Ad p i)=0
 | 0=>rfl
 | i+1=>by
  have h:∀(xs ys:aA),aI xs=0->aI ys=0->aI (xs++ys)=0:=by
   intro xs ys h1 h2
   induction xs with
   | nil=>exact h2
   | cons x xs ih =>
    simp only[aI,cF,Nat.max_eq_zero_iff] at h1 ⊢;exact⟨h1.1,ih h1.2⟩
  refine h _ _ (zjW i) ?_;unfold V5
  induction wK (wi p i) with
  | nil=>rfl
  | cons x xs ih=>simp only[bW,aI,V.top,ih];rfl
def zet{p:Nat->Bool}(i:Nat):(aT (qu 1 3 (Ad p i))).top=0:=by
 have h:=zjW (p:=p) i;cases hL:Ad p i with
 | nil=>rfl
 | cons x xs=>rw[hL] at h;simpa[qu,aT,V.top] using h
def zjX(hg:GW gl){n:Nat}(hn:70<=n){H:Hp}{b off:Nat}{pre post:aA}{p:Nat->Bool}{ty:aq}(hb:H.get b=some (.cells (pre++pv 19 p++post) ty))(ho:pre.length=off) :
  qt prog gl (n+1) 59 [.ptr b off] H=some (.ret (aT (qu 1 3 (Ad p 19))),H):=by
 obtain⟨bs,es⟩:=H;have m8:Hp.get ⟨bs,[]⟩ b=some (.cells (pre++pv 19 p++post) ty):=hb;have iX:jl bs.length es 0 ⟨bs,[]⟩=⟨bs,es⟩:=by
  have:=kg (bs:=bs) (ls:=[]) (es:=es) (t:=0) (ga _)
  rwa [oZ] at this
 generalize hL:Ad p 19=L
 suffices d_:(go ⟨prog,gl,qt prog gl n,gE⟩ n (Fx prog f59.results.toList λw H1=>w=aT (qu 1 3 L)/\H1=⟨bs,[]⟩) [.c (f59.body.getD .skip)] .normal ⟨[.ptr b off]++List.replicate 28 (.bz []),⟨bs,[]⟩,[],[]⟩) by
  obtain⟨w,H1,h0,h1,h2⟩:=jZ (gl:=gl) (f:=59) (bs:=bs) (es:=es) (args:=[.ptr b off]) (n:=n) (hg.hk _ _ (by decide)) (λH=>hg.iA _ _ _ _) func59 rfl (by rw[hg.uq];exact d_)
  rw[h0,h1,h2];have:(aT (qu 1 3 L)).top=0:=by
   rw[<- hL];exact zet 19
  rw[this];exact congrArg (λx=>some (Out.ret _,x)) iX
 simp only[f59,t_,zD];refine qx ?_;simp only[qi,ah,zD,zq,zj,aH,bG,zH,au,qb,dJ,dM,List.replicate,cF,cq]
 refine qx ?_;simp only[qi,ah,zD,zq,zj,aH,bG,zH,au,qb,dJ,dM]
 refine qx ?_;simp only[qi,ah,zx,zw,aB,aH,zR,zk,au,qb,dJ,dM,zS]
 refine vo (λm s=>∃i env,m+i=19/\s=⟨env,⟨bs,[]⟩,[],[]⟩/\env.length=29/\nth env 3=some (qu 1 3 (Ad p i))/\nth env 6=some (.ptr b off)/\nth env 7=some (.int .i64 (i:Nat))) 19 (by omega) ⟨0,_,rfl,rfl,rfl,rfl,rfl,rfl⟩ ?_
 rintro m s ⟨i,env,Wj,rfl,hlen,h3,h6,h7⟩;simp only[zD];refine qx ?_;simp only[qi,ah,zD,zJ,zA,aB,aH,h7,zk,au,qb,zb,hlen,Nat.reduceLT,aU,zg,zf,vU,zU]
 by_cases hi:i<19
 ·refine .inl ⟨by simp;omega,?_⟩
  simp only[aC,zD,zx]
  refine wt (tk:=[]) (by kernel_rfl) (by kernel_rfl) ?_
  have eC:nth (pre++pv 19 p++post) (off+i)=some (.int .u64 (wi p i:Nat)):=by
   rw[zV,<- ho,M_ kw hi,xy hi]
  have lR:qJ prog ⟨bs,[]⟩ gl.g 48 (.ptr b (off+i))=some (.int .u64 (wi p i:Nat)):=jy nu m8 eC;simp only[qn,ak,zx,qj,nu,cg,zw,zd,zc,zI,zq,zu,aB,h6,h7,zk,au,qb,zb,ee,hlen,Nat.reduceEqDiff,Nat.reduceLT,aU,bZ,zS,zg,zt,zH,bG,bC,aG,qM,Wd hi,lR]
  refine vo (λm s=>∃w acc env,(wK w).length=m/\w<2 ^ 64/\acc++((wK w).map λj=>.int .i64 ((64 * i+j:Nat):Int))=Ad p (i+1)/\s=⟨env,⟨bs,[]⟩,[],[]⟩/\env.length=29/\nth env 3=some (qu 1 3 acc)/\nth env 4=some (.int .i64 (i:Nat))/\nth env 5=some (.int .u64 (w:Nat))/\nth env 6=some (.ptr b off)/\nth env 7=some (.int .i64 (i:Nat))) (wK (wi p i)).length (by have:=zdZ (w:=wi p i);omega) ⟨wi p i,Ad p i,_,rfl,wz,rfl,rfl,?_,?_,?_,?_,?_,?_⟩ ?_
  ·simp[hlen]
  ·simp[zb,h3]
  ·simp[zb,hlen]
  ·simp[zb,hlen]
  ·simp[zb,h6]
  ·simp[zb,h7]
  clear h3 h6 h7 hlen;rintro m s ⟨w,acc,env,hm,hw,AQ,rfl,hlen,h3,h4,h5,h6,h7⟩;simp only[zD];refine qx ?_;simp only[qi,ah,zJ,zw,zA,aB,aH,h5,zk,au,qb,zb,ee,hlen,Nat.reduceEqDiff,Nat.reduceLT,aU,bZ,zg,zf,UW,zU]
  by_cases DI:w=0
  ·subst DI;rw[tM,cM,oZ] at AQ;subst AQ;refine .inr ⟨by decide,?_⟩
   simp only[ky,jC,jc,dr,jm,dW,aU,qm];refine qx ?_;simp only[qi,ah,zw,zA,aB,aH,h7,zk,au,qb,zb,ee,hlen,Nat.reduceEqDiff,Nat.reduceLT,aU,bZ,zg,vj (show i<2 ^ 60 by omega),jc,bT]
   refine⟨18 - i,by omega,i+1,_,by omega,rfl,?_,?_,?_,?_⟩
   ·simp[hlen]
   ·simp[zb,h3]
   ·simp[zb,h6]
   ·simp[zb,hlen]
  ·refine .inl ⟨by simp;omega,?_⟩
   obtain⟨k,mm,C4⟩:=B1 w DI;have Kt:=λ(H:Hp)=>zo8 hg (n:=n - 1) (H:=H) (k:=k) (m:=mm) (by rw[<- C4];exact hw)
   rw[<- C4,show n - 1+1=n by omega] at Kt
   simp only[aC,zD,zx]
   refine Pr (tk:=[19]) (by kernel_rfl) ?_
   have fN:Cx.dZ ⟨prog,gl.g,qt prog gl n,gE⟩ 96 [.int .u64 (w:Nat)] ⟨bs,[]⟩=some (.val (.int .i64 (k:Nat)),⟨bs,[]⟩):=ji func96 rfl (Kt _);have hk:k<64:=Sv (by rw[<- C4];exact hw)
   have SF:acc.length+1<=64 * (i+1):=by
    have h1:=congrArg List.length AQ;have h2:=Pu (p:=p) (i+1);have h3:(wK w).length≠0:=by
     rw[C4,V4 (by rw[<- C4];exact hw)];simp
    simp only[bY,eF] at h1;omega
   have lU:=vu FF (H:=⟨bs,[]⟩) (xs:=acc) (ys:=[V.int .i64 ((64 * i+k:Nat):Int)]) (o:=.no) (by simp) (eP (by simp;omega) (by simp;omega))
   have Lg:=FF.JI (v:=.int .i64 ((64 * i+k:Nat):Int)) rfl rfl;have hmul:∀(u v:aO),jY prog .mul 3 u v (some (.int .i64 64)) (some (.int .i64 (i:Nat)))=some (.int .i64 ((64 * i:Nat):Int)):=λu v=>zjU (a:=64) (by omega)
   have Nf:nth (((env.set 13 (V.int .u64 (w:Nat))).set 14 (V.bool ((w:Int) != 0)))) 3=some (qu 1 3 acc):=by simp[zb,h3]
   simp only[qi,zL,zC,xz Nf,zA,zW,aL,qd,ne_eq,cY,zX,vC (cx:=⟨prog,gl.g,qt prog gl n,gE⟩) (show sS prog gE 27=false by kernel_rfl),aB,aH,h4,h5,zk,zH,au,qb,zb,ee,hlen,Nat.reduceEqDiff,Nat.reduceLT,aU,bZ,zg,zK,zi,bW,cM,qp,fN,hmul,V_ (show 64 * i+k<2 ^ 60 by omega),Lg]
   rw[xz (n:=1) (e:=3) (xs:=acc) (by simp[zb,hlen])]
   simp only[Fz,bC,lU,au,qb,qi,ah,qm,zq]
   rw[xz (n:=1) (e:=3) (xs:=acc++[V.int .i64 ((64 * i+k:Nat):Int)]) (by simp[zb,hlen])]
   simp only[zH,au,qb]
   refine qx ?_;have FE:w - 1<2 ^ 64:=by omega
   simp only[qi,ah,zw,zA,zq,zu,aB,aH,h5,zk,zH,au,qb,zb,ee,hlen,Nat.reduceEqDiff,Nat.reduceLT,aU,bZ,zg,zt,zg8 DI hw,zdY hw FE,jc,bT]
   have lz:wK w=k::wK (w &&& (w - 1)):=by
    rw[C4];exact V4 (by rw[<- C4];exact hw)
   refine⟨(wK (w &&& (w - 1))).length,by rw[<- hm,lz];simp,w &&& (w - 1),acc++[V.int .i64 ((64 * i+k:Nat):Int)],_,rfl,Nat.lt_of_le_of_lt Nat.and_le_left hw,?_,rfl,?_,?_,?_,?_,?_,?_⟩
   ·rw[<- AQ,lz];simp
   ·simp[hlen]
   ·simp[zb,hlen]
   ·simp[zb,h4]
   ·simp[zb,hlen]
   ·simp[zb,h6]
   ·simp[zb,h7]
 ·obtain rfl:i=19:=by omega
  refine .inr ⟨by decide,?_⟩
  rw[hL] at h3;simp only[ky,jC,jc,dr,jm,dW,aU,zD];refine qx ?_;have pz:aT (aT (qu 1 3 L))=aT (qu 1 3 L):=by cases L<;>rfl
  have iu:∀e:aA,nth e 28=some (aT (qu 1 3 L))->take e (.tmp 28)=some (aT (qu 1 3 L),e):=λe he=>by
   rw[zu,he];cases L<;>rfl
  simp only[qi,ah,zw,zq,aB,h3,zk,au,qb,zb,hlen,Nat.reduceEqDiff,Nat.reduceLT,aU,bZ]
  rw[iu _ (by simp[zb,hlen])]
  simp only[zH,au,qb,go_ret,jc,Fx]
  refine⟨trivial,[aT (qu 1 3 L)],?_,rfl,trivial⟩;simp[ja,zb,hlen]
end
section
variable{gl:Gl}
def zfZ(hg:GW gl){n:Nat}(hn:20<=n){bs:List br}{es:bk}{b off b' off':Nat}{pre post pre' post':aA}{p q:Nat->Bool}{ty ty':aq}(hb:nth bs b=some (.cells (pre++pv 19 p++post) ty))(ho:pre.length=off)(dK:nth bs b'=some (.cells (pre'++pv 19 q++post') ty'))(Im:pre'.length=off')(cG:b'≠b) :
  qt prog gl (n+1) 58 [.ptr b off,.ptr b' off'] ⟨bs,es⟩=some (.ret (.bz []),⟨bs.set b (.cells (pre++pv 19 (jn p q)++post) ty),es⟩):=by
 have iX:jl bs.length es 0 ⟨bs.set b (.cells (pre++pv 19 (jn p q)++post) ty),[]⟩=⟨bs.set b (.cells (pre++pv 19 (jn p q)++post) ty),es⟩:=by
  have:=kg (bs:=bs.set b (.cells (pre++pv 19 (jn p q)++post) ty)) (ls:=[]) (es:=es) (t:=0) (ga _)
  rwa [oZ,ee] at this
 suffices d_:(go ⟨prog,gl,qt prog gl n,gE⟩ n (Fx prog f58.results.toList λw H1=>w=.bz []/\H1=⟨bs.set b (.cells (pre++pv 19 (jn p q)++post) ty),[]⟩) [.c (f58.body.getD .skip)] .normal ⟨[.ptr b off,.ptr b' off']++List.replicate 20 (.bz []),⟨bs,[]⟩,[],[]⟩) by
  obtain⟨w,H1,h0,rfl,rfl⟩:=jZ (gl:=gl) (f:=58) (bs:=bs) (es:=es) (args:=[.ptr b off,.ptr b' off']) (n:=n) (hg.hk _ _ (by decide)) (λH=>hg.iA _ _ _ _) func58 rfl (by rw[hg.uq];exact d_)
  rw[h0,show(V.bz []).top=0 from rfl,iX]
 simp only[f58,t_,zD];refine qx ?_;simp only[qi,ah,zx,zw,aB,aH,zk,au,qb,dJ,dM,List.replicate,cF,cq]
 let Hi:Nat->Hp:=λi=>⟨bs.set b (.cells (pre++pv 19 (uK p q i)++post) ty),[]⟩
 refine vo (λm s=>∃i env,m+i=19/\s=⟨env,Hi i,[],[]⟩/\env.length=22/\nth env 0=some (.ptr b off)/\nth env 1=some (.ptr b' off')/\nth env 5=some (.int .i64 (i:Nat))) 19 (by omega) ?_ ?_
 ·have SG:Hi 0=⟨bs,[]⟩:=by
   simp only[Hi,zjT];rw[show bs.set b (.cells (pre++pv 19 p++post) ty)=bs from y8 hb]
  refine⟨0,_,rfl,by rw[SG],?_,?_,?_,?_⟩<;>rfl
 rintro m s ⟨i,env,Wj,rfl,hlen,h0,h1,h5⟩;simp only[zD];refine qx ?_;simp only[qi,ah,zD,zJ,zA,aB,aH,h5,zk,au,qb,zb,hlen,Nat.reduceLT,aU,zg,zf,vU,zU]
 have G2:∀r:aA,nth (bs.set b (.cells r ty)) b=some (.cells r ty):=λr=>by
  have bD:b<bs.length:=by rw[zV] at hb;exact(eE.1 hb).1
  rw[zV,s7,if_pos rfl,if_pos bD]
 by_cases hi:i<19
 ·refine .inl ⟨by simp;omega,?_⟩
  simp only[aC,zD,zx]
  refine qx ?_;simp only[qi,ah,zw,zq,zu,aB,h5,zk,au,qb,zb,ee,hlen,Nat.reduceEqDiff,Nat.reduceLT,aU,bZ,zg,zt,zH]
  refine wt (tk:=[]) (by kernel_rfl) (by kernel_rfl) ?_
  have AH:(Hi i).get b=some (.cells (pre++pv 19 (uK p q i)++post) ty):=G2 _;have Ng:(Hi i).get b'=some (.cells (pre'++pv 19 q++post') ty'):=by
   show nth (bs.set b _) b'=_;rw[zV,s7,if_neg (Ne.symm cG),<- zV,dK]
  have eC:nth (pre++pv 19 (uK p q i)++post) (off+i)=some (.int .u64 (wi p i:Nat)):=by
   rw[zV,<- ho,M_ kw hi,xy hi,zjR]
  have C5:nth (pre'++pv 19 q++post') (off'+i)=some (.int .u64 (wi q i:Nat)):=by
   rw[zV,<- Im,M_ kw hi,xy hi]
  have lR:qJ prog (Hi i) gl.g 48 (.ptr b (off+i))=some (.int .u64 (wi p i:Nat)):=jy nu AH eC;have Nh:qJ prog (Hi i) gl.g 48 (.ptr b' (off'+i))=some (.int .u64 (wi q i:Nat)):=jy nu Ng C5;have nN:wQ [] b (off+i) 1 ((pre++pv 19 (uK p q i)++post).drop (off+i))=true:=zdX λk h=>by
   obtain rfl:k=0:=by omega
   exact⟨_,by rw[cL,<- zV,eC],rfl⟩
  simp only[qn,ak,qj,nu,cg,zw,zd,zc,zI,zA,zh,zu,aB,h0,h1,zk,au,qb,zb,ee,hlen,Nat.reduceEqDiff,Nat.reduceLT,aU,bZ,zS,zg,zt,bG,bC,aG,qM,Wd hi,lR,Nh,zfV wz wz]
  rw[jt EU AH rfl rfl (by simp[kw,<- ho];omega) nN]
  simp only[az,qm,qb,V.laid,Vm.storeCells]
  rw[vY (by simp[V.top])]
  have hH:(Hi i).set b (.cells ((pre++pv 19 (uK p q i)++post).set (off+i) (.int .u64 ((wi p i ||| wi q i:Nat):Int))) ty)=Hi (i+1):=by
   rw[<- ho,zh8 kw hi,zjS];simp only[Hi,Hp.set,List.set_set]
  rw[hH];refine qx ?_;simp only[qi,ah,zA,zw,aB,aH,h5,zk,au,qb,zb,ee,hlen,Nat.reduceEqDiff,Nat.reduceLT,aU,bZ,zg,vj (show i<2 ^ 60 by omega),jc,bT]
  refine⟨18 - i,by omega,i+1,_,by omega,rfl,?_,?_,?_,?_⟩<;>simp[zb,hlen,h0,h1]
 ·obtain rfl:i=19:=by omega
  refine .inr ⟨by decide,?_⟩
  simp only[ky,jC,jc,dr,jm,dW,aU,Fx];refine⟨trivial,[],rfl,rfl,?_⟩;simp only[Hi,zl5]
def zjY{b v off i:Nat}(h:i<19):q7 prog 115 (.gY b v off) i=some (.gY b v (off+i)):=by
 simp only[q7,u60,EU];simp;omega
def zo9(hg:GW gl){n:Nat}(hn:20<=n){bs:List br}{es:bk}{b off b' off':Nat}{pre post pre' post':aA}{p q:Nat->Bool}{v:Nat}{ty':aq}(hb:nth bs b=some (.ul v 19 (pre++pv 19 p++post) 115))(ho:pre.length=off)(dK:nth bs b'=some (.cells (pre'++pv 19 q++post') ty'))(Im:pre'.length=off')(cG:b'≠b) :
  qt prog gl (n+1) 58 [.gY b v off,.ptr b' off'] ⟨bs,es⟩=some (.ret (.bz []),⟨bs.set b (.ul v 19 (pre++pv 19 (jn p q)++post) 115),es⟩):=by
 have iX:jl bs.length es 0 ⟨bs.set b (.ul v 19 (pre++pv 19 (jn p q)++post) 115),[]⟩=⟨bs.set b (.ul v 19 (pre++pv 19 (jn p q)++post) 115),es⟩:=by
  have:=kg (bs:=bs.set b (.ul v 19 (pre++pv 19 (jn p q)++post) 115)) (ls:=[]) (es:=es) (t:=0) (ga _)
  rwa [oZ,ee] at this
 suffices d_:(go ⟨prog,gl,qt prog gl n,gE⟩ n (Fx prog f58.results.toList λw H1=>w=.bz []/\H1=⟨bs.set b (.ul v 19 (pre++pv 19 (jn p q)++post) 115),[]⟩) [.c (f58.body.getD .skip)] .normal ⟨[.gY b v off,.ptr b' off']++List.replicate 20 (.bz []),⟨bs,[]⟩,[],[]⟩) by
  obtain⟨w,H1,h0,rfl,rfl⟩:=jZ (gl:=gl) (f:=58) (bs:=bs) (es:=es) (args:=[.gY b v off,.ptr b' off']) (n:=n) (hg.hk _ _ (by decide)) (λH=>hg.iA _ _ _ _) func58 rfl (by rw[hg.uq];exact d_)
  rw[h0,show(V.bz []).top=0 from rfl,iX]
 simp only[f58,t_,zD];refine qx ?_;simp only[qi,ah,zx,zw,aB,aH,zk,au,qb,dJ,dM,List.replicate,cF,cq]
 let Hi:Nat->Hp:=λi=>⟨bs.set b (.ul v 19 (pre++pv 19 (uK p q i)++post) 115),[]⟩
 refine vo (λm s=>∃i env,m+i=19/\s=⟨env,Hi i,[],[]⟩/\env.length=22/\nth env 0=some (.gY b v off)/\nth env 1=some (.ptr b' off')/\nth env 5=some (.int .i64 (i:Nat))) 19 (by omega) ?_ ?_
 ·have SG:Hi 0=⟨bs,[]⟩:=by
   simp only[Hi,zjT];rw[show bs.set b (.ul v 19 (pre++pv 19 p++post) 115)=bs from y8 hb]
  refine⟨0,_,rfl,by rw[SG],?_,?_,?_,?_⟩<;>rfl
 rintro m s ⟨i,env,Wj,rfl,hlen,h0,h1,h5⟩;simp only[zD];refine qx ?_;simp only[qi,ah,zD,zJ,zA,aB,aH,h5,zk,au,qb,zb,hlen,Nat.reduceLT,aU,zg,zf,vU,zU]
 have G2:∀r:aA,nth (bs.set b (.ul v 19 r 115)) b=some (.ul v 19 r 115):=λr=>by
  have bD:b<bs.length:=by rw[zV] at hb;exact(eE.1 hb).1
  rw[zV,s7,if_pos rfl,if_pos bD]
 by_cases hi:i<19
 ·refine .inl ⟨by simp;omega,?_⟩
  simp only[aC,zD,zx]
  refine qx ?_;simp only[qi,ah,zw,zq,zu,aB,h5,zk,au,qb,zb,ee,hlen,Nat.reduceEqDiff,Nat.reduceLT,aU,bZ,zg,zt,zH]
  refine wt (tk:=[]) (by kernel_rfl) (by kernel_rfl) ?_
  have AH:(Hi i).get b=some (.ul v 19 (pre++pv 19 (uK p q i)++post) 115):=G2 _;have Ng:(Hi i).get b'=some (.cells (pre'++pv 19 q++post') ty'):=by
   show nth (bs.set b _) b'=_;rw[zV,s7,if_neg (Ne.symm cG),<- zV,dK]
  have eC:nth (pre++pv 19 (uK p q i)++post) (off+i)=some (.int .u64 (wi p i:Nat)):=by
   rw[zV,<- ho,M_ kw hi,xy hi,zjR]
  have C5:nth (pre'++pv 19 q++post') (off'+i)=some (.int .u64 (wi q i:Nat)):=by
   rw[zV,<- Im,M_ kw hi,xy hi]
  have lR:qJ prog (Hi i) gl.g 48 (.gY b v (off+i))=some (.int .u64 (wi p i:Nat)):=zha nu AH eC;have Nh:qJ prog (Hi i) gl.g 48 (.ptr b' (off'+i))=some (.int .u64 (wi q i:Nat)):=jy nu Ng C5
  simp only[qn,ak,qj,nu,cg,zw,zd,zc,zI,zA,zh,zu,aB,h0,h1,zk,au,qb,zb,ee,hlen,Nat.reduceEqDiff,Nat.reduceLT,aU,bZ,zS,zY,zg,zt,bG,bC,aG,qM,Wd hi,zjY hi,lR,Nh,zfV wz wz]
  rw[znl EU AH rfl rfl rfl (by simp[kw,<- ho];omega)]
  simp only[az,qm,qb,V.cells,Vm.storeCells]
  rw[vY (by simp[V.top])]
  have hH:(Hi i).set b (.ul v 19 ((pre++pv 19 (uK p q i)++post).set (off+i) (.int .u64 ((wi p i ||| wi q i:Nat):Int))) 115)=Hi (i+1):=by
   rw[<- ho,zh8 kw hi,zjS];simp only[Hi,Hp.set,List.set_set]
  rw[hH];refine qx ?_;simp only[qi,ah,zA,zw,aB,aH,h5,zk,au,qb,zb,ee,hlen,Nat.reduceEqDiff,Nat.reduceLT,aU,bZ,zg,vj (show i<2 ^ 60 by omega),jc,bT]
  refine⟨18 - i,by omega,i+1,_,by omega,rfl,?_,?_,?_,?_⟩<;>simp[zb,hlen,h0,h1]
 ·obtain rfl:i=19:=by omega
  refine .inr ⟨by decide,?_⟩
  simp only[ky,jC,jc,dr,jm,dW,aU,Fx];refine⟨trivial,[],rfl,rfl,?_⟩;simp only[Hi,zl5]
end
section
variable{gl:Gl}
def Lh:rU prog 149 157 11 112:=⟨by kernel_rfl,by kernel_rfl,by kernel_rfl,by decide,by kernel_rfl,by kernel_rfl,by kernel_rfl⟩
def C6:jD prog 151 0=some 0:=by kernel_rfl
def C7:ka prog 149=some false:=by kernel_rfl
def B5:ka prog 157=some true:=by kernel_rfl
def AR:jh prog 157=some 11:=by kernel_rfl
def zr5(hg:GW gl){n:Nat}{H:Hp}{b:Nat}{c:V}{ty:aq}{i:Option Nat}{xs:List aA}{x:aA}(hb:H.get b=some (.cells [c] ty))(hu:UL H 11 157 c i xs)(hib:i≠some b)(hx:x.length=11)(Fm:x.map aT=x)(gH:kr (xs.length+1) 112=true) :
  ∃H' c' j,qt prog gl (n+1) 88 [.ptr b 0,.agg x] H=some (.ret (.bz []),H')/\H'.get b=some (.cells [c'] ty)/\UL H' 11 157 c' (some j) (xs++[x])/\j≠b/\(i=some j\/H.aj.length<=j)/\rT H H' (λd=>d=b\/i=some d):=by
 obtain⟨bs,es⟩:=H;have bD:b<bs.length:=wg hb;have m8:Hp.get ⟨bs,[]⟩ b=some (.cells [c] ty):=hb;have Ni:UL ⟨bs,[]⟩ 11 157 c i xs:=hu;have Pz:c.top<=bs.length/\(c=.aJ\/∃j v l,c=.eo j v l):=by
  cases i with
  | none=>obtain⟨rfl,_⟩:=hu;exact⟨ga _,.inl rfl⟩
  | some j=>obtain⟨v,rfl,hj⟩:=hu;exact⟨wg hj,.inr ⟨_,_,_,rfl⟩⟩
 suffices d_:(go ⟨prog,gl,qt prog gl n,gE⟩ n (Fx prog [] λv H1=>v=.bz []/\∃c' j,(∀d,d<bs.length->d≠b->i≠some d->H1.get d=Hp.get ⟨bs,es⟩ d)/\H1.get b=some (.cells [c'] ty)/\UL H1 11 157 c' (some j) (xs++[x])/\j≠b/\(i=some j\/bs.length<=j/\(b,j+1)∈H1.aW)/\bs.length<=H1.aj.length) [.c (f88.body.getD .skip)] .normal ⟨[.ptr b 0,.agg x]++List.replicate 12 (.bz []),⟨bs,[]⟩,[],[]⟩) by
  obtain⟨v,H1,h0,rfl,c',j,h2,h3,h4,h5,h6,h7⟩:=jZ (gl:=gl) (f:=88) (bs:=bs) (es:=es) (args:=[.ptr b 0,.agg x]) (n:=n) (hg.hk _ _ (by decide)) (λH=>hg.iA _ _ _ _) func88 rfl (by rw[hg.uq];exact d_)
  have hj:(jl bs.length es 0 H1).get j=H1.get j:=by
   rcases h6 with rfl|⟨h6,h8⟩
   ·exact jR (hu.lt)
   ·exact zaP h8 bD (by omega) _
  exact⟨_,c',j,h0,(jR bD).trans h3,h4.frame λk hk=>by cases hk;exact hj,h5,h6.imp id And.left,yG h7,λd hd hn=>(jR hd).trans (h2 d hd (λe=>hn (.inl e)) (λe=>hn (.inr e)))⟩
 have oT:fH (.agg x)=true:=rfl;have lR:qJ prog (Hp.push ⟨bs,[]⟩ (.cells x 157)) gl.g 157 (.ptr bs.length 0)=some (.agg x):=by
  rw[wc B5 AR V6 (by simp[hx])]
  simp[<- hx]
 have AT:=Lh.JI (v:=.agg x) rfl hx;have IW:UL (Hp.push ⟨bs,[]⟩ (.cells x 157)) 11 157 c i xs:=Ni.frame λj hj=>by
  subst hj;obtain⟨v,_,h⟩:=Ni;rw[h];exact q6 h
 have lU:=Lh.app (env:=[.ptr b 0,.agg x,.bz [],.ptr bs.length 0,.ptr b 0,.ptr b 0,.ptr b 0,.ptr b (0+0),c,.agg x,.sl 11 [.agg x] (.yes 157),.bz [],.bz [],.bz []]) (H:=Hp.push ⟨bs,[]⟩ (.cells x 157)) (lk:=[]) (df:=[]) (ys:=[.agg x]) (o:=.no) (by simp) IW gH
 simp only[f88,t_,zD];refine qx ?_;simp only[qi,ah,qf,zu,zy,zR,z6,wn oT,au,qb,dJ,dM,List.replicate,cF,cq,V.laid,Fm]
 refine wt (tk:=[8]) (by kernel_rfl) (by kernel_rfl) ?_
 simp only[qn,qj,cg,C7,zL,zB,ne_eq,Nat.reduceEqDiff,cY,zd,za,aB,zR,z6,zk,au,qb,dJ,dM,zS,bC,aG,C6,ze,qa]
 rw[zia (c:=c) C7 (q6 m8) rfl Pz.2]
 simp only[au,qb,dJ,dM,qn,qj,cg,B5,zM,ne_eq,Nat.reduceEqDiff,cY,aB,zR,z6,zS,List.all_nil,bC,
  lR,bG,zk,zp,zK,zX,AT,zbo (cx:=⟨prog,gl.g,qt prog gl n,gE⟩) (show sS prog gE 149=true by kernel_rfl)]
 cases i with
 | none =>
  obtain⟨rfl,rfl⟩:=hu;simp only[ai];rw[lU];simp only[au,qb,dJ,dM,qn,ak,qj,cg,zd,za,zh,zu,aB,zR,z6,zk,zS,bC,aG,C6,ze,qa,zv,cL]
  rw[jt (cs:=[.aJ]) (ty:=ty) Lh.st (q6 (q6 m8)) rfl rfl (by simp) (by simp[wQ,locked])]
  simp only[az,qb,jc,Fx,Vm.storeCells,V.laid,j6,dJ]
  refine⟨trivial,[],rfl,rfl,.eo (bs.length+1) 0 1,bs.length+1,?_,?_,?_,by omega,.inr ⟨by omega,?_⟩,?_⟩
  ·intro d hd EH _;rw[bX,kq,fX,fX];cases hg:Hp.get ⟨bs,[]⟩ d with
   | none=>exact absurd hg (by simp[Hp.get,zV,hd])
   | some y=>simp only[if_neg EH];exact hg.symm
  ·rw[bX,kq,q6 (q6 m8)];simp
  ·refine⟨0,rfl,?_⟩;rw[bX,kq];have:Hp.get (Hp.push (Hp.push ⟨bs,[]⟩ (.cells x 157)) (.ul 0 11 (dz [.agg x]) 157)) (bs.length+1)=some (.ul 0 11 (dz [.agg x]) 157):=by
    rw[fX,zoV (by simp[Hp.push])];simp[Hp.push]
   rw[this];have cG:bs.length+1≠b:=by omega
   simp[cG,dz,V.cells]
  ·exact zjP (v:=.eo (bs.length+1) 0 1) (by simp[V.top];omega)
  ·rw[Pn,wO,j6,j6];show bs.length<=bs.length+1+1;omega
 | some j =>
  obtain⟨v,rfl,hj⟩:=Ni;have uN:j≠b:=λe=>hib (by rw[e])
  have Ah:j<bs.length:=wg hj;simp only[zT] at lU ⊢;rw[lU];simp only[au,qb,dJ,dM,qn,ak,qj,cg,zd,za,zh,zu,aB,zR,z6,zk,zS,bC,aG,C6,ze,qa,zv,cL]
  have pH:∀y,(((Hp.push ⟨bs,[]⟩ (.cells x 157)).set j y).bI j (.bz [.agg x])).get b=some (.cells [.eo j v xs.length] ty):=λy=>by
   rw[bX,kq,q6 m8];simp[Ne.symm uN]
  rw[jt (cs:=[.eo j v xs.length]) (ty:=ty) Lh.st (pH _) rfl rfl (by simp) (by simp[wQ,locked])]
  simp only[az,qb,jc,Fx,Vm.storeCells,V.laid,dJ]
  refine⟨trivial,[],rfl,rfl,.eo j (v+1) (xs.length+1),j,?_,?_,?_,uN,.inl rfl,?_⟩
  ·intro d hd EH hdj;have Nj:d≠j:=λe=>hdj (by rw[e])
   rw[bX,kq,bX,kq,fX];cases hg:Hp.get ⟨bs,[]⟩ d with
   | none=>exact absurd hg (by simp[Hp.get,zV,hd])
   | some y=>simp only[if_neg EH,if_neg Nj];exact hg.symm
  ·rw[bX,kq,pH];simp
  ·refine⟨v+1,by simp,?_⟩
   rw[bX,kq,bX,kq,q6 hj];simp[uN,dz,V.cells]
  ·simp[Pn,wO,j6]
def Nk:rU prog 152 117 39 312:=⟨by kernel_rfl,by kernel_rfl,by kernel_rfl,by decide,by kernel_rfl,by kernel_rfl,by kernel_rfl⟩
def EZ:jD prog 154 0=some 0:=by kernel_rfl
def E0:ka prog 152=some false:=by kernel_rfl
def uO:ka prog 117=some true:=by kernel_rfl
def sM:jh prog 117=some 39:=by kernel_rfl
def zr6(hg:GW gl){n:Nat}{H:Hp}{b:Nat}{c:V}{ty:aq}{i:Option Nat}{xs:List aA}{x:aA}(hb:H.get b=some (.cells [c] ty))(hu:UL H 39 117 c i xs)(hib:i≠some b)(hx:x.length=39)(Fm:x.map aT=x)(gH:kr (xs.length+1) 312=true) :
  ∃H' c' j,qt prog gl (n+1) 91 [.ptr b 0,.agg x] H=some (.ret (.bz []),H')/\H'.get b=some (.cells [c'] ty)/\UL H' 39 117 c' (some j) (xs++[x])/\j≠b/\(i=some j\/H.aj.length<=j)/\rT H H' (λd=>d=b\/i=some d):=by
 obtain⟨bs,es⟩:=H;have bD:b<bs.length:=wg hb;have m8:Hp.get ⟨bs,[]⟩ b=some (.cells [c] ty):=hb;have Ni:UL ⟨bs,[]⟩ 39 117 c i xs:=hu;have Pz:c.top<=bs.length/\(c=.aJ\/∃j v l,c=.eo j v l):=by
  cases i with
  | none=>obtain⟨rfl,_⟩:=hu;exact⟨ga _,.inl rfl⟩
  | some j=>obtain⟨v,rfl,hj⟩:=hu;exact⟨wg hj,.inr ⟨_,_,_,rfl⟩⟩
 suffices d_:(go ⟨prog,gl,qt prog gl n,gE⟩ n (Fx prog [] λv H1=>v=.bz []/\∃c' j,(∀d,d<bs.length->d≠b->i≠some d->H1.get d=Hp.get ⟨bs,es⟩ d)/\H1.get b=some (.cells [c'] ty)/\UL H1 39 117 c' (some j) (xs++[x])/\j≠b/\(i=some j\/bs.length<=j/\(b,j+1)∈H1.aW)/\bs.length<=H1.aj.length) [.c (f91.body.getD .skip)] .normal ⟨[.ptr b 0,.agg x]++List.replicate 12 (.bz []),⟨bs,[]⟩,[],[]⟩) by
  obtain⟨v,H1,h0,rfl,c',j,h2,h3,h4,h5,h6,h7⟩:=jZ (gl:=gl) (f:=91) (bs:=bs) (es:=es) (args:=[.ptr b 0,.agg x]) (n:=n) (hg.hk _ _ (by decide)) (λH=>hg.iA _ _ _ _) func91 rfl (by rw[hg.uq];exact d_)
  have hj:(jl bs.length es 0 H1).get j=H1.get j:=by
   rcases h6 with rfl|⟨h6,h8⟩
   ·exact jR (hu.lt)
   ·exact zaP h8 bD (by omega) _
  exact⟨_,c',j,h0,(jR bD).trans h3,h4.frame λk hk=>by cases hk;exact hj,h5,h6.imp id And.left,yG h7,λd hd hn=>(jR hd).trans (h2 d hd (λe=>hn (.inl e)) (λe=>hn (.inr e)))⟩
 have oT:fH (.agg x)=true:=rfl;have lR:qJ prog (Hp.push ⟨bs,[]⟩ (.cells x 117)) gl.g 117 (.ptr bs.length 0)=some (.agg x):=by
  rw[wc uO sM V6 (by simp[hx])]
  simp[<- hx]
 have AT:=Nk.JI (v:=.agg x) rfl hx;have IW:UL (Hp.push ⟨bs,[]⟩ (.cells x 117)) 39 117 c i xs:=Ni.frame λj hj=>by
  subst hj;obtain⟨v,_,h⟩:=Ni;rw[h];exact q6 h
 have lU:=Nk.app (env:=[.ptr b 0,.agg x,.bz [],.ptr bs.length 0,.ptr b 0,.ptr b 0,.ptr b 0,.ptr b (0+0),c,.agg x,.sl 39 [.agg x] (.yes 117),.bz [],.bz [],.bz []]) (H:=Hp.push ⟨bs,[]⟩ (.cells x 117)) (lk:=[]) (df:=[]) (ys:=[.agg x]) (o:=.no) (by simp) IW gH
 simp only[f91,t_,zD];refine qx ?_;simp only[qi,ah,qf,zu,zy,zR,z6,wn oT,au,qb,dJ,dM,List.replicate,cF,cq,V.laid,Fm]
 refine wt (tk:=[8]) (by kernel_rfl) (by kernel_rfl) ?_
 simp only[qn,qj,cg,E0,zL,zB,ne_eq,Nat.reduceEqDiff,cY,zd,za,aB,zR,z6,zk,au,qb,dJ,dM,zS,bC,aG,EZ,ze,qa]
 rw[zia (c:=c) E0 (q6 m8) rfl Pz.2]
 simp only[au,qb,dJ,dM,qn,qj,cg,uO,zM,ne_eq,Nat.reduceEqDiff,cY,aB,zR,z6,zS,List.all_nil,bC,
  lR,bG,zk,zp,zK,zX,AT,zbo (cx:=⟨prog,gl.g,qt prog gl n,gE⟩) (show sS prog gE 152=true by kernel_rfl)]
 cases i with
 | none =>
  obtain⟨rfl,rfl⟩:=hu;simp only[ai];rw[lU];simp only[au,qb,dJ,dM,qn,ak,qj,cg,zd,za,zh,zu,aB,zR,z6,zk,zS,bC,aG,EZ,ze,qa,zv,cL]
  rw[jt (cs:=[.aJ]) (ty:=ty) Nk.st (q6 (q6 m8)) rfl rfl (by simp) (by simp[wQ,locked])]
  simp only[az,qb,jc,Fx,Vm.storeCells,V.laid,j6,dJ]
  refine⟨trivial,[],rfl,rfl,.eo (bs.length+1) 0 1,bs.length+1,?_,?_,?_,by omega,.inr ⟨by omega,?_⟩,?_⟩
  ·intro d hd EH _;rw[bX,kq,fX,fX];cases hg:Hp.get ⟨bs,[]⟩ d with
   | none=>exact absurd hg (by simp[Hp.get,zV,hd])
   | some y=>simp only[if_neg EH];exact hg.symm
  ·rw[bX,kq,q6 (q6 m8)];simp
  ·refine⟨0,rfl,?_⟩;rw[bX,kq];have:Hp.get (Hp.push (Hp.push ⟨bs,[]⟩ (.cells x 117)) (.ul 0 39 (dz [.agg x]) 117)) (bs.length+1)=some (.ul 0 39 (dz [.agg x]) 117):=by
    rw[fX,zoV (by simp[Hp.push])];simp[Hp.push]
   rw[this];have cG:bs.length+1≠b:=by omega
   simp[cG,dz,V.cells]
  ·exact zjP (v:=.eo (bs.length+1) 0 1) (by simp[V.top];omega)
  ·rw[Pn,wO,j6,j6];show bs.length<=bs.length+1+1;omega
 | some j =>
  obtain⟨v,rfl,hj⟩:=Ni;have uN:j≠b:=λe=>hib (by rw[e])
  have Ah:j<bs.length:=wg hj;simp only[zT] at lU ⊢;rw[lU];simp only[au,qb,dJ,dM,qn,ak,qj,cg,zd,za,zh,zu,aB,zR,z6,zk,zS,bC,aG,EZ,ze,qa,zv,cL]
  have pH:∀y,(((Hp.push ⟨bs,[]⟩ (.cells x 117)).set j y).bI j (.bz [.agg x])).get b=some (.cells [.eo j v xs.length] ty):=λy=>by
   rw[bX,kq,q6 m8];simp[Ne.symm uN]
  rw[jt (cs:=[.eo j v xs.length]) (ty:=ty) Nk.st (pH _) rfl rfl (by simp) (by simp[wQ,locked])]
  simp only[az,qb,jc,Fx,Vm.storeCells,V.laid,dJ]
  refine⟨trivial,[],rfl,rfl,.eo j (v+1) (xs.length+1),j,?_,?_,?_,uN,.inl rfl,?_⟩
  ·intro d hd EH hdj;have Nj:d≠j:=λe=>hdj (by rw[e])
   rw[bX,kq,bX,kq,fX];cases hg:Hp.get ⟨bs,[]⟩ d with
   | none=>exact absurd hg (by simp[Hp.get,zV,hd])
   | some y=>simp only[if_neg EH,if_neg Nj];exact hg.symm
  ·rw[bX,kq,pH];simp
  ·refine⟨v+1,by simp,?_⟩
   rw[bX,kq,bX,kq,q6 hj];simp[uN,dz,V.cells]
  ·simp[Pn,wO,j6]
end
section
variable{gl:Gl}
def JN:prog.underlying 149=some (.slice 157):=Lh.u
def zsK(hg:GW gl){n:Nat}{H:Hp}{b j:Nat}{c:V}{ty:aq}{xs:List aA}{x:aA}(hb:H.get b=some (.cells [c] ty))(hu:UL H 11 157 c (some j) (xs++[x]))(uN:j≠b)(hx:x.length=11)(Fm:x.map aT=x)(Eu:aI x=0)(lu:∀y∈xs,y.length=11)(hlen:xs.length<140737488355328) :
  ∃H' c',qt prog gl (n+1) 90 [.ptr b 0] H=some (.ret (.agg x),H')/\H'.get b=some (.cells [c'] ty)/\UL H' 11 157 c' (some j) xs/\rT H H' (λd=>d=b\/d=j):=by
 obtain⟨bs,es⟩:=H;have bD:b<bs.length:=wg hb;obtain⟨v,rfl,hj⟩:=hu;have Ah:j<bs.length:=wg hj;have m8:Hp.get ⟨bs,[]⟩ b=some (.cells [.eo j v (xs++[x]).length] ty):=hb;have hj0:Hp.get ⟨bs,[]⟩ j=some (.ul v 11 (xs++[x]).flatten 157):=hj;obtain⟨z,OC,KG,C8,SH⟩:=Lh.zero;have mO:(xs++[x]).flatten.length=xs.length * 11+11:=by
  rw[v4 (n:=11) (by intro y hy;rcases uo.1 hy with h|h;exact lu y h;simp at h;rw[h,hx])]
  simp[Nat.succ_mul]
 suffices d_:(go ⟨prog,gl,qt prog gl n,gE⟩ n (Fx prog f90.results.toList λw H1=>w=.agg x/\∃c',(∀d,d<bs.length->d≠b->d≠j->H1.get d=Hp.get ⟨bs,es⟩ d)/\H1.get b=some (.cells [c'] ty)/\UL H1 11 157 c' (some j) xs/\bs.length<=H1.aj.length) [.c (f90.body.getD .skip)] .normal ⟨[.ptr b 0]++List.replicate 30 (.bz []),⟨bs,[]⟩,[],[]⟩) by
  obtain⟨w,H1,h0,rfl,c',h2,h3,h4,h7⟩:=jZ (gl:=gl) (f:=90) (bs:=bs) (es:=es) (args:=[.ptr b 0]) (n:=n) (hg.hk _ _ (by decide)) (λH=>hg.iA _ _ _ _) func90 rfl (by rw[hg.uq];exact d_)
  exact⟨_,c',h0,(jR bD).trans h3,h4.frame λk hk=>by cases hk;exact jR Ah,yG h7,λd hd hn=>(jR hd).trans (h2 d hd (λe=>hn (.inl e)) (λe=>hn (.inr e)))⟩
 simp only[f90,t_,zD];refine qx ?_;simp only[qi,ah,zD,zl,OC,jQ KG,au,qb,dJ,dM,List.replicate,cF,cq]
 refine wt (tk:=[]) (by kernel_rfl) (by kernel_rfl) ?_
 have Nl:(Hp.push ⟨bs,[]⟩ (.cells z.cells 157)).get b=some (.cells [.eo j v (xs++[x]).length] ty):=q6 m8;have Nm:(Hp.push ⟨bs,[]⟩ (.cells z.cells 157)).get j=some (.ul v 11 (xs++[x]).flatten 157):=q6 hj0;have dS:∀u w,jY prog .sub 3 u w (some (.int .i64 ((xs++[x]).length:Int))) (some (.int .i64 1))=some (.int .i64 (xs.length:Int)):=λu w=>by
  rw[UU,yF (by simp only[bY,Ds];omega) (by simp only[bY,Ds];omega)];simp
 have Nn:qJ prog (Hp.push ⟨bs,[]⟩ (.cells z.cells 157)) gl.g 157 (.gY j v (xs.length * 11))=some (.agg x):=by
  rw[zjQ B5 AR Nm (by rw[mO];omega)]
  rw[List.flatten_append,List.drop_append_of_le_length (by rw[v4 lu];omega),List.drop_eq_nil_of_le (by rw[v4 lu];omega)]
  simp[<- hx]
 have B6:qJ prog (Hp.push ⟨bs,[]⟩ (.cells z.cells 157)) gl.g 149 (.ptr b 0)=some (.eo j v (xs++[x]).length):=jy C7 Nl rfl;have JM:q7 prog 149 (.eo j v (xs++[x]).length) (xs.length:Int)=some (.gY j v (xs.length * 11)):=by
  rw[V7 JN AR (by simp only[bY,Ds];omega),l9]
 simp only[qn,ak,qj,cg,B5,C7,zw,zI,zd,za,qc,zA,zc,zl,OC,jQ KG,zh,zu,aB,aH,zR,z6,zk,au,qb,dJ,dM,zS,zT,zg,zp,zY,zy,bG,bC,aG,C6,ze,qa,cL,
  B6,Pw JN,dS,qM,JM,Nn]
 obtain⟨HA,JO⟩:∃HA,HA=Hp.push ⟨bs,[]⟩ (.cells z.cells 157):=⟨_,rfl⟩;rw[<- JO] at Nl Nm B6 ⊢;have No:HA.aj.length=bs.length+1:=by rw[JO,j6]
 have h2A:HA.get bs.length=some (.cells z.cells 157):=by rw[JO];exact V6
 have hkA:∀d,d<bs.length->HA.get d=Hp.get ⟨bs,es⟩ d:=λd hd=>by rw[JO,kz hd];rfl
 rw[jt (v:=.agg x) AR (wA (H:=HA)) rfl (by simp[V.laid,hx]) (by rw[C8];omega) (vZ SH (by rw[C8];omega))]
 simp only[az,qb,zD,V.laid,Fm,yY (show z.cells.length=x.length by rw[C8,hx])]
 rw[vY (v:=.agg x) (by simp[V.top,Eu])]
 obtain⟨HB,C9⟩:∃HB,HB=Hp.set (HA.push (.cells z.cells 157)) HA.aj.length (.cells x 157):=⟨_,rfl⟩;rw[<- C9,No];have JP:HB.get b=some (.cells [.eo j v (xs++[x]).length] ty):=by rw[C9,ju (by omega),kz (by omega),Nl]
 have SI:HB.get j=some (.ul v 11 (xs++[x]).flatten 157):=by rw[C9,ju (by omega),kz (by omega),Nm]
 have h2B:HB.get bs.length=some (.cells z.cells 157):=by rw[C9,ju (by omega),kz (by omega),h2A]
 have h3B:HB.get (bs.length+1)=some (.cells x 157):=by rw[C9,<- No,w8 wA]
 have Li:∀d,d<bs.length->HB.get d=Hp.get ⟨bs,es⟩ d:=λd hd=>by rw[C9,ju (by omega),kz (by omega),hkA d hd]
 have hlB:HB.aj.length=bs.length+2:=by rw[C9,wO,j6,No]
 refine wt (tk:=[]) (by kernel_rfl) (by kernel_rfl) ?_
 have Np:qJ prog HB gl.g 149 (.ptr b 0)=some (.eo j v (xs++[x]).length):=jy C7 JP rfl
 simp only[qn,qj,cg,C7,zw,zI,zd,za,qc,zA,zg5,zfS (cx:=⟨prog,gl.g,qt prog gl n,gE⟩) (show sS prog gE 149=true by kernel_rfl),aB,dU,aH,zR,z6,zk,au,qb,dJ,dM,zS,zT,zg,bG,bC,aG,C6,ze,qa,cL,
  Np,Pw JN,dS]
 have Nq:∀env,Pq prog 149 env HB [] [] (some (.eo j v (xs++[x]).length)) (some none) (some (some (.int .i64 (xs.length:Int))))=some (.val (.eo j (v+1) xs.length),⟨env,(HB.set j (.ul (v+1) 11 xs.flatten 157)).bI j .ef,[],[]⟩):=λenv=>by
  have hle:xs.length<=(xs++[x]).length:=by simp
  simp only[Pq,JN,SI,AR,l9,hle,Bt,Int.natCast_nonneg,aU];rw[List.flatten_append,<- v4 lu,List.take_left]
 rw[Nq];simp only[qn,ak,zD,qj,cg,zd,za,zh,zu,aB,zR,z6,zk,au,qb,dJ,dM,zS,zv,bC,aG,C6,ze,qa,cL]
 rw[jt (cs:=[.eo j v (xs++[x]).length]) (ty:=ty) Lh.st (by rw[kM (Ne.symm uN),JP]) rfl rfl (by simp) (by simp[wQ,locked])]
 obtain⟨HC,C_⟩:∃HC,HC=Hp.bI (Hp.set ((HB.set j (.ul (v+1) 11 xs.flatten 157)).bI j .ef) b (.cells (Vm.storeCells [.eo j v (xs++[x]).length] 0 (V.laid (.eo j (v+1) xs.length))) ty)) b (.eo j (v+1) xs.length):=⟨_,rfl⟩;rw[<- C_];have hbC:HC.get b=some (.cells [.eo j (v+1) xs.length] ty):=by rw[C_,V8 (by rw[kM (Ne.symm uN),JP])];rfl
 have hjC:HC.get j=some (.ul (v+1) 11 xs.flatten 157):=by rw[C_,kM uN,V8 SI]
 have SJ:HC.get bs.length=some (.cells z.cells 157):=by rw[C_,kM (by omega),kM (by omega),h2B]
 have h3C:HC.get (bs.length+1)=some (.cells x 157):=by rw[C_,kM (by omega),kM (by omega),h3B]
 have hkC:∀d,d<bs.length->d≠b->d≠j->HC.get d=Hp.get ⟨bs,es⟩ d:=λd hd h1 h2=>by rw[C_,kM h1,kM h2,Li d hd]
 have hlC:HC.aj.length=bs.length+2:=by rw[C_,V9,V9,hlB]
 simp only[az,qb]
 refine qx ?_;have Nr:qJ prog HC gl.g 157 (.ptr (bs.length+1) 0)=some (.agg x):=by
  rw[wc B5 AR h3C (by simp[hx])];simp[<- hx]
 simp only[qi,ah,zI,zh,zu,aB,zR,z6,zk,au,qb,dJ,dM,zS,zp,zy,bG,bC,Nr]
 rw[jt (v:=.agg x) AR SJ rfl (by simp[V.laid,hx]) (by rw[C8];omega) (vZ SH (by rw[C8];omega))]
 simp only[az,qb,go_ret,jc,Fx,V.laid,Fm,yY (show z.cells.length=x.length by rw[C8,hx])]
 rw[vY (v:=.agg x) (by simp[V.top,Eu])]
 obtain⟨HD,E1⟩:∃HD,HD=Hp.set HC bs.length (.cells x 157):=⟨_,rfl⟩;rw[<- E1];have h2D:HD.get bs.length=some (.cells x 157):=by rw[E1,w8 SJ]
 refine⟨trivial,[.agg x],?_,rfl,.eo j (v+1) xs.length,λd hd h1 h2=>by rw[E1,ju (by omega),hkC d hd h1 h2],by rw[E1,ju (by omega),hbC],⟨v+1,rfl,by rw[E1,ju (by omega),hjC]⟩,by rw[E1,wO,hlC];omega⟩
 simp only[ja,zR,z6];rw[wc B5 AR h2D (by simp[hx])]
 simp[aT,<- hx]
def JQ:prog.underlying 152=some (.slice 117):=Nk.u
def zsL(hg:GW gl){n:Nat}{H:Hp}{b j:Nat}{c:V}{ty:aq}{xs:List aA}{x:aA}(hb:H.get b=some (.cells [c] ty))(hu:UL H 39 117 c (some j) (xs++[x]))(uN:j≠b)(hx:x.length=39)(Fm:x.map aT=x)(Eu:aI x=0)(lu:∀y∈xs,y.length=39)(hlen:xs.length<140737488355328) :
  ∃H' c',qt prog gl (n+1) 93 [.ptr b 0] H=some (.ret (.agg x),H')/\H'.get b=some (.cells [c'] ty)/\UL H' 39 117 c' (some j) xs/\rT H H' (λd=>d=b\/d=j):=by
 obtain⟨bs,es⟩:=H;have bD:b<bs.length:=wg hb;obtain⟨v,rfl,hj⟩:=hu;have Ah:j<bs.length:=wg hj;have m8:Hp.get ⟨bs,[]⟩ b=some (.cells [.eo j v (xs++[x]).length] ty):=hb;have hj0:Hp.get ⟨bs,[]⟩ j=some (.ul v 39 (xs++[x]).flatten 117):=hj;obtain⟨z,OC,KG,C8,SH⟩:=Nk.zero;have mO:(xs++[x]).flatten.length=xs.length * 39+39:=by
  rw[v4 (n:=39) (by intro y hy;rcases uo.1 hy with h|h;exact lu y h;simp at h;rw[h,hx])]
  simp[Nat.succ_mul]
 suffices d_:(go ⟨prog,gl,qt prog gl n,gE⟩ n (Fx prog f93.results.toList λw H1=>w=.agg x/\∃c',(∀d,d<bs.length->d≠b->d≠j->H1.get d=Hp.get ⟨bs,es⟩ d)/\H1.get b=some (.cells [c'] ty)/\UL H1 39 117 c' (some j) xs/\bs.length<=H1.aj.length) [.c (f93.body.getD .skip)] .normal ⟨[.ptr b 0]++List.replicate 30 (.bz []),⟨bs,[]⟩,[],[]⟩) by
  obtain⟨w,H1,h0,rfl,c',h2,h3,h4,h7⟩:=jZ (gl:=gl) (f:=93) (bs:=bs) (es:=es) (args:=[.ptr b 0]) (n:=n) (hg.hk _ _ (by decide)) (λH=>hg.iA _ _ _ _) func93 rfl (by rw[hg.uq];exact d_)
  exact⟨_,c',h0,(jR bD).trans h3,h4.frame λk hk=>by cases hk;exact jR Ah,yG h7,λd hd hn=>(jR hd).trans (h2 d hd (λe=>hn (.inl e)) (λe=>hn (.inr e)))⟩
 simp only[f93,t_,zD];refine qx ?_;simp only[qi,ah,zD,zl,OC,jQ KG,au,qb,dJ,dM,List.replicate,cF,cq]
 refine wt (tk:=[]) (by kernel_rfl) (by kernel_rfl) ?_
 have Nl:(Hp.push ⟨bs,[]⟩ (.cells z.cells 117)).get b=some (.cells [.eo j v (xs++[x]).length] ty):=q6 m8;have Nm:(Hp.push ⟨bs,[]⟩ (.cells z.cells 117)).get j=some (.ul v 39 (xs++[x]).flatten 117):=q6 hj0;have dS:∀u w,jY prog .sub 3 u w (some (.int .i64 ((xs++[x]).length:Int))) (some (.int .i64 1))=some (.int .i64 (xs.length:Int)):=λu w=>by
  rw[UU,yF (by simp only[bY,Ds];omega) (by simp only[bY,Ds];omega)];simp
 have Nn:qJ prog (Hp.push ⟨bs,[]⟩ (.cells z.cells 117)) gl.g 117 (.gY j v (xs.length * 39))=some (.agg x):=by
  rw[zjQ uO sM Nm (by rw[mO];omega)]
  rw[List.flatten_append,List.drop_append_of_le_length (by rw[v4 lu];omega),List.drop_eq_nil_of_le (by rw[v4 lu];omega)]
  simp[<- hx]
 have B6:qJ prog (Hp.push ⟨bs,[]⟩ (.cells z.cells 117)) gl.g 152 (.ptr b 0)=some (.eo j v (xs++[x]).length):=jy E0 Nl rfl;have JM:q7 prog 152 (.eo j v (xs++[x]).length) (xs.length:Int)=some (.gY j v (xs.length * 39)):=by
  rw[V7 JQ sM (by simp only[bY,Ds];omega),l9]
 simp only[qn,ak,qj,cg,uO,E0,zw,zI,zd,za,qc,zA,zc,zl,OC,jQ KG,zh,zu,aB,aH,zR,z6,zk,au,qb,dJ,dM,zS,zT,zg,zp,zY,zy,bG,bC,aG,EZ,ze,qa,cL,
  B6,Pw JQ,dS,qM,JM,Nn]
 obtain⟨HA,JO⟩:∃HA,HA=Hp.push ⟨bs,[]⟩ (.cells z.cells 117):=⟨_,rfl⟩;rw[<- JO] at Nl Nm B6 ⊢;have No:HA.aj.length=bs.length+1:=by rw[JO,j6]
 have h2A:HA.get bs.length=some (.cells z.cells 117):=by rw[JO];exact V6
 have hkA:∀d,d<bs.length->HA.get d=Hp.get ⟨bs,es⟩ d:=λd hd=>by rw[JO,kz hd];rfl
 rw[jt (v:=.agg x) sM (wA (H:=HA)) rfl (by simp[V.laid,hx]) (by rw[C8];omega) (vZ SH (by rw[C8];omega))]
 simp only[az,qb,zD,V.laid,Fm,yY (show z.cells.length=x.length by rw[C8,hx])]
 rw[vY (v:=.agg x) (by simp[V.top,Eu])]
 obtain⟨HB,C9⟩:∃HB,HB=Hp.set (HA.push (.cells z.cells 117)) HA.aj.length (.cells x 117):=⟨_,rfl⟩;rw[<- C9,No];have JP:HB.get b=some (.cells [.eo j v (xs++[x]).length] ty):=by rw[C9,ju (by omega),kz (by omega),Nl]
 have SI:HB.get j=some (.ul v 39 (xs++[x]).flatten 117):=by rw[C9,ju (by omega),kz (by omega),Nm]
 have h2B:HB.get bs.length=some (.cells z.cells 117):=by rw[C9,ju (by omega),kz (by omega),h2A]
 have h3B:HB.get (bs.length+1)=some (.cells x 117):=by rw[C9,<- No,w8 wA]
 have Li:∀d,d<bs.length->HB.get d=Hp.get ⟨bs,es⟩ d:=λd hd=>by rw[C9,ju (by omega),kz (by omega),hkA d hd]
 have hlB:HB.aj.length=bs.length+2:=by rw[C9,wO,j6,No]
 refine wt (tk:=[]) (by kernel_rfl) (by kernel_rfl) ?_
 have Np:qJ prog HB gl.g 152 (.ptr b 0)=some (.eo j v (xs++[x]).length):=jy E0 JP rfl
 simp only[qn,qj,cg,E0,zw,zI,zd,za,qc,zA,zg5,zfS (cx:=⟨prog,gl.g,qt prog gl n,gE⟩) (show sS prog gE 152=true by kernel_rfl),aB,dU,aH,zR,z6,zk,au,qb,dJ,dM,zS,zT,zg,bG,bC,aG,EZ,ze,qa,cL,
  Np,Pw JQ,dS]
 have Nq:∀env,Pq prog 152 env HB [] [] (some (.eo j v (xs++[x]).length)) (some none) (some (some (.int .i64 (xs.length:Int))))=some (.val (.eo j (v+1) xs.length),⟨env,(HB.set j (.ul (v+1) 39 xs.flatten 117)).bI j .ef,[],[]⟩):=λenv=>by
  have hle:xs.length<=(xs++[x]).length:=by simp
  simp only[Pq,JQ,SI,sM,l9,hle,Bt,Int.natCast_nonneg,aU];rw[List.flatten_append,<- v4 lu,List.take_left]
 rw[Nq];simp only[qn,ak,zD,qj,cg,zd,za,zh,zu,aB,zR,z6,zk,au,qb,dJ,dM,zS,zv,bC,aG,EZ,ze,qa,cL]
 rw[jt (cs:=[.eo j v (xs++[x]).length]) (ty:=ty) Nk.st (by rw[kM (Ne.symm uN),JP]) rfl rfl (by simp) (by simp[wQ,locked])]
 obtain⟨HC,C_⟩:∃HC,HC=Hp.bI (Hp.set ((HB.set j (.ul (v+1) 39 xs.flatten 117)).bI j .ef) b (.cells (Vm.storeCells [.eo j v (xs++[x]).length] 0 (V.laid (.eo j (v+1) xs.length))) ty)) b (.eo j (v+1) xs.length):=⟨_,rfl⟩;rw[<- C_];have hbC:HC.get b=some (.cells [.eo j (v+1) xs.length] ty):=by rw[C_,V8 (by rw[kM (Ne.symm uN),JP])];rfl
 have hjC:HC.get j=some (.ul (v+1) 39 xs.flatten 117):=by rw[C_,kM uN,V8 SI]
 have SJ:HC.get bs.length=some (.cells z.cells 117):=by rw[C_,kM (by omega),kM (by omega),h2B]
 have h3C:HC.get (bs.length+1)=some (.cells x 117):=by rw[C_,kM (by omega),kM (by omega),h3B]
 have hkC:∀d,d<bs.length->d≠b->d≠j->HC.get d=Hp.get ⟨bs,es⟩ d:=λd hd h1 h2=>by rw[C_,kM h1,kM h2,Li d hd]
 have hlC:HC.aj.length=bs.length+2:=by rw[C_,V9,V9,hlB]
 simp only[az,qb]
 refine qx ?_;have Nr:qJ prog HC gl.g 117 (.ptr (bs.length+1) 0)=some (.agg x):=by
  rw[wc uO sM h3C (by simp[hx])];simp[<- hx]
 simp only[qi,ah,zI,zh,zu,aB,zR,z6,zk,au,qb,dJ,dM,zS,zp,zy,bG,bC,Nr]
 rw[jt (v:=.agg x) sM SJ rfl (by simp[V.laid,hx]) (by rw[C8];omega) (vZ SH (by rw[C8];omega))]
 simp only[az,qb,go_ret,jc,Fx,V.laid,Fm,yY (show z.cells.length=x.length by rw[C8,hx])]
 rw[vY (v:=.agg x) (by simp[V.top,Eu])]
 obtain⟨HD,E1⟩:∃HD,HD=Hp.set HC bs.length (.cells x 117):=⟨_,rfl⟩;rw[<- E1];have h2D:HD.get bs.length=some (.cells x 117):=by rw[E1,w8 SJ]
 refine⟨trivial,[.agg x],?_,rfl,.eo j (v+1) xs.length,λd hd h1 h2=>by rw[E1,ju (by omega),hkC d hd h1 h2],by rw[E1,ju (by omega),hbC],⟨v+1,rfl,by rw[E1,ju (by omega),hjC]⟩,by rw[E1,wO,hlC];omega⟩
 simp only[ja,zR,z6];rw[wc uO sM h2D (by simp[hx])]
 simp[aT,<- hx]
end
section
variable{gl:Gl}
def zjZ{q:Nat->Bool}{k:Nat}:∀{ks:bR}{ns:List (Nat->Bool)},iF q (ks++[k]) ns=(iF q ks ns).set k (jn ((iF q ks ns).getD k λ_=>false) q)
 | [],_=>rfl
 | _::ks,_=>by simp only[cF,iF];exact zjZ
def eW(bs:List br)(i:Option Nat)(ns:List (Nat->Bool)):List br :=
 match i with
 | none=>bs
 | some j=>match nth bs j with
  | some (.ul v sz _ e)=>bs.set j (.ul v sz (ns.map (pv 19)).flatten e)
  | _=>bs
def zd0{bs:List br}{j v sz e:Nat}{cs:aA}{ns:List (Nat->Bool)}(h:nth bs j=some (.ul v sz cs e)):eW bs (some j) ns=bs.set j (.ul v sz (ns.map (pv 19)).flatten e):=by simp only[eW,h]
def xA{bs:List br}{i:Option Nat}{ns:List (Nat->Bool)}:(eW bs i ns).length=bs.length:=by
 unfold eW;split
 ·rfl
 ·split
  ·simp
  ·rfl
def Wk{bs:List br}{i:Option Nat}{ns:List (Nat->Bool)}{d:Nat}(h:i≠some d):nth (eW bs i ns) d=nth bs d:=by
 unfold eW;split
 ·rfl
 ·rename_i j;split
  ·rw[zV,Bs (by intro e;exact h (by rw[e])),zV]
  ·rfl
def Wl{bs:List br}{es:bk}{sz:Nat}{e:aq}{c:V}{i:Option Nat}{xs:List aA}(h:UL ⟨bs,es⟩ sz e c i xs){d:Nat}{cs:aA}{ty:aq}(hd:nth bs d=some (.cells cs ty)):i≠some d:=by
 intro e;subst e;obtain⟨v,_,h2⟩:=h;simp only[Hp.get] at h2;rw[hd] at h2;cases h2
def zl9{bs:List br}{es fs:bk}{e:aq}{c:V}{i:Option Nat}{ns ns':List (Nat->Bool)}(h:UL ⟨bs,es⟩ 19 e c i (ns.map (pv 19)))(hl:ns'.length=ns.length):UL ⟨eW bs i ns',fs⟩ 19 e c i (ns'.map (pv 19)):=by
 cases i with
 | none =>
  obtain⟨h1,h2⟩:=h;have:ns=[]:=by simpa using h2
  subst this;exact⟨h1,by simp[Kh hl]⟩
 | some j =>
  obtain⟨v,h1,h2⟩:=h;have sg:nth bs j=some (.ul v 19 (ns.map (pv 19)).flatten e):=h2;refine⟨v,by rw[h1];simp[hl],?_⟩
  have bD:j<bs.length:=by rw[zV] at sg;exact(eE.1 sg).1
  rw[zd0 sg];simp[Hp.get,zV,bD]
def Wn{bs:List br}{es:bk}{e:aq}{c:V}{i:Option Nat}{ns:List (Nat->Bool)}(h:UL ⟨bs,es⟩ 19 e c i (ns.map (pv 19))):eW bs i ns=bs:=by
 cases i with
 | none=>rfl
 | some j =>
  obtain⟨v,h1,h2⟩:=h;have sg:nth bs j=some (.ul v 19 (ns.map (pv 19)).flatten e):=h2;rw[zd0 sg];exact y8 sg
def zk0{bs:List br}{i:Option Nat}{ns ns':List (Nat->Bool)}:eW (eW bs i ns) i ns'=eW bs i ns':=by
 cases i with
 | none=>rfl
 | some j =>
  simp only[eW];cases h:nth bs j with
  | none=>simp[h]
  | some b =>
   have bD:j<bs.length:=by rw[zV] at h;exact(eE.1 h).1
   cases b<;>simp[h,zV,bD]
def rW:jD prog 113 2=some 2:=by kernel_rfl
def G3:ka prog 111=some false:=by kernel_rfl
def IB:rU prog 111 115 19 152:=⟨by kernel_rfl,by kernel_rfl,by kernel_rfl,by decide,by kernel_rfl,by kernel_rfl,by kernel_rfl⟩
def PA:ka prog 3=some false:=by kernel_rfl
def zbq(hg:GW gl){n:Nat}(hn:1300<=n){bs:List br}{es:bk}{bm bl ol bf ob:Nat}{a0 a1 c:V}{i:Option Nat}{ns:List (Nat->Bool)}{p q:Nat->Bool}{pre post pre' post':aA}{ty ty' PB:aq}
  (hm:nth bs bm=some (.cells [a0,a1,c] PB)) (hu:UL ⟨bs,es⟩ 19 115 c i (ns.map (pv 19)))
  (hl:nth bs bl=some (.cells (pre++pv 19 p++post) ty)) (EA:pre.length=ol) (hf:nth bs bf=some (.cells (pre'++pv 19 q++post') ty')) (hof:pre'.length=ob)
  (eL:∀k∈jo p 19,k<ns.length) :
  qt prog gl (n+1) 57 [.ptr bm 0,.ptr bl ol,.ptr bf ob] ⟨bs,es⟩=some (.ret (.bz []),⟨eW bs i (iF q (jo p 19) ns),es⟩):=by
 generalize hL:jo p 19=L at *;have iX:jl bs.length es 0 ⟨eW bs i (iF q L ns),[]⟩=⟨eW bs i (iF q L ns),es⟩:=by
  have:=kg (bs:=eW bs i (iF q L ns)) (ls:=[]) (es:=es) (t:=0) (ga _)
  rwa [oZ,xA] at this
 suffices d_:(go ⟨prog,gl,qt prog gl n,gE⟩ n (Fx prog f57.results.toList λw H1=>w=.bz []/\H1=⟨eW bs i (iF q L ns),[]⟩) [.c (f57.body.getD .skip)] .normal ⟨[.ptr bm 0,.ptr bl ol,.ptr bf ob]++List.replicate 21 (.bz []),⟨bs,[]⟩,[],[]⟩) by
  obtain⟨w,H1,h0,rfl,rfl⟩:=jZ (gl:=gl) (f:=57) (bs:=bs) (es:=es) (args:=[.ptr bm 0,.ptr bl ol,.ptr bf ob]) (n:=n) (hg.hk _ _ (by decide)) (λH=>hg.iA _ _ _ _) func57 rfl (by rw[hg.uq];exact d_)
  rw[h0,show(V.bz []).top=0 from rfl,iX]
 have hLl:L.length<=1216:=by
  have:=Pu (p:=p) 19;rw[Nb,eF,hL] at this;omega
 have SK:Cx.dZ ⟨prog,gl.g,qt prog gl n,gE⟩ 59 [.ptr bl ol] ⟨bs,[]⟩=some (.val (aT (qu 1 3 (L.map λk=>V.int .i64 ((k:Nat):Int)))),⟨bs,[]⟩):=by
  have h:=zjX hg (n:=n - 1) (by omega) (H:=⟨bs,[]⟩) (b:=bl) (off:=ol) (pre:=pre) (post:=post) (p:=p) hl EA
  rw[Nb,hL,show n - 1+1=n by omega] at h
  exact ji func59 rfl h
 simp only[f57,t_,zD];refine qx ?_;simp only[qi,ah,zw,zW,aL,aB,qd,aH,zR,z6,zk,au,qb,dJ,dM,List.replicate,cF,cq,zS,zi,qp,SK,bW,cM,qc,bC,zN,zjV FF.u,bG,eF]
 simp only[zx];refine vo (λm s=>∃k env,m+k=L.length/\s=⟨env,⟨eW bs i (iF q (L.take k) ns),[]⟩,[],[]⟩/\env.length=24/\nth env 0=some (.ptr bm 0)/\nth env 2=some (.ptr bf ob)/\nth env 9=some (aT (qu 1 3 (L.map λk=>V.int .i64 ((k:Nat):Int))))/\nth env 10=some (.int .i64 (L.length:Nat))/\nth env 11=some (.int .i64 (k:Nat))) L.length (by omega) ?_ ?_
 ·have SG:eW bs i (iF q (L.take 0) ns)=bs:=Wn hu;refine⟨0,_,rfl,by rw[SG],?_,?_,?_,?_,?_,?_⟩<;>rfl
 rintro m s ⟨k,env,Mg,rfl,hlen,h0,h2,h9,B7,C'⟩;simp only[zD];refine qx ?_;simp only[qi,ah,zD,zJ,zA,aB,B7,C',zk,au,qb,zb,hlen,Nat.reduceLT,aU,zg,zf,vU,zU]
 by_cases hk:k<L.length
 ·refine .inl ⟨by simp;omega,?_⟩
  simp only[aC,zD,zx]
  have hx:nth (L.map λk=>V.int .i64 ((k:Nat):Int)) k=some (.int .i64 ((L[k]:Nat):Int)):=by rw[zV];simp[hk]
  have iL:∀w:V,nth env 9=some w->aT w=w->aT (aT w)=w:=λw _ h=>by rw[h,h]
  refine qx ?_;have JM:=znm FF.u (show jh prog 3=some 1 by kernel_rfl) hx
  simp only[qi,ah,zc,zI,zq,zu,aB,h9,C',zk,zH,au,qb,zb,ee,hlen,Nat.reduceEqDiff,Nat.reduceLT,aU,bZ,zg,bC,qM,zN,JM,V.cells,qh,zo3 PA,bG,zt]
  refine qx ?_;have hkL:L[k]<ns.length:=eL _ (List.getElem_mem hk);obtain⟨j,rfl⟩:∃j,i=some j:=by
   cases i with
   | none =>
    have:ns=[]:=by simpa using hu.2
    subst this;simp at hkL
   | some j=>exact⟨j,rfl⟩
  have YD:=Wl hu hm;have hjf:=Wl hu hf;have og:=zl9 (fs:=[]) (ns':=iF q (L.take k) ns) hu wb;obtain⟨v,rfl,hj⟩:=og;obtain⟨sj,Lg⟩:∃sj,sj=eW bs (some j) (iF q (L.take k) ns):=⟨_,rfl⟩;have IY:Hp.get ⟨sj,[]⟩ bm=some (.cells [a0,a1,.eo j v (List.map (pv 19) (iF q (L.take k) ns)).length] PB):=by rw[Lg];exact(Wk YD).trans hm
  have Ez:nth sj bf=some (.cells (pre'++pv 19 q++post') ty'):=by rw[Lg];exact(Wk hjf).trans hf
  obtain⟨pr,po,g1,g2,g3⟩:=zjO (ns:=iF q (L.take k) ns) (k:=L[k]) (by rw[wb];exact hkL)
  rw[<- Lg] at hj ⊢;have F1:nth sj j=some (.ul v 19 (pr++pv 19 ((iF q (L.take k) ns).getD L[k] λ_=>false)++po) 115):=by rw[<- g2];exact hj
  have lR:qJ prog ⟨sj,[]⟩ gl.g 111 (.ptr bm (0+2))=some (.eo j v (List.map (pv 19) (iF q (L.take k) ns)).length):=jy G3 IY rfl;have abf:q7 prog 111 (.eo j v (List.map (pv 19) (iF q (L.take k) ns)).length) ((L[k]:Nat):Int)=some (.gY j v (L[k] * 19)):=by
   rw[V7 IB.u IB.s (by rw[eF,wb];omega),l9]
  have MP:=zo9 hg (n:=n - 1) (by omega) (es:=[]) F1 g1 Ez hof (λe=>hjf (by rw[e]))
  rw[show n - 1+1=n by omega,<- g3] at MP
  have fN:Cx.dZ ⟨prog,gl.g,qt prog gl n,gE⟩ 58 [.gY j v (L[k] * 19),.ptr bf ob] ⟨sj,[]⟩=_:=ji func58 rfl MP;simp only[qi,ah,zw,zd,za,zI,zc,zW,aL,qd,aB,h0,h2,zk,au,qb,zb,ee,hlen,Nat.reduceEqDiff,Nat.reduceLT,aU,bZ,zS,zg,zT,zY,bC,bG,aG,rW,ze,qa,qM,lR,abf,zi,qp,fN,bW,cM,qm]
  have hH:sj.set j (.ul v 19 (((iF q (L.take k) ns).set L[k] (jn ((iF q (L.take k) ns).getD L[k] λ_=>false) q)).map (pv 19)).flatten 115)=eW bs (some j) (iF q (L.take (k+1)) ns):=by
   rw[<- zk0 (ns:=iF q (L.take k) ns),<- Lg,zd0 F1,List.take_succ_eq_append_getElem hk,zjZ]
  rw[hH];refine qx ?_;simp only[qi,ah,zA,zw,aB,aH,C',zk,au,qb,zb,ee,hlen,Nat.reduceEqDiff,Nat.reduceLT,aU,bZ,zg,vj (show k<2 ^ 60 by omega),jc,bT]
  refine⟨L.length - (k+1),by omega,k+1,_,by omega,rfl,?_,?_,?_,?_,?_,?_⟩<;>simp[zb,hlen,h0,h2,h9,B7]
 ·obtain rfl:k=L.length:=by omega
  refine .inr ⟨by simp,?_⟩
  simp only[ky,jC,jc,dr,jm,dW,aU,Fx];refine⟨trivial,[],rfl,rfl,?_⟩;rw[List.take_length]
end
section
variable{gl:Gl}
section
variable{B ls:List br}{d k:Nat}{x:br}
def gB(h:d<B.length):nth (B++ls) d=nth B d:=by rw[zV,zV,mz h]
def gN:nth (B++ls) (B.length+k)=nth ls k:=by rw[zV,zV,oe (by omega)];simp
def PC:nth (B++ls) B.length=nth ls 0:=gN (k:=0)
def sN:(B++ls).set (B.length+k) x=B++ls.set k x:=by rw[List.set_append_right _ _ (by omega)];simp
def sN0:(B++ls).set B.length x=B++ls.set 0 x:=sN (k:=0)
def sB(h:d<B.length):(B++ls).set d x=B.set d x++ls:=List.set_append_left _ _ h
def z9{es:bk}:Hp.push ⟨B,es⟩ x=⟨B++[x],es⟩:=rfl
def zQ{es:bk}:Hp.push ⟨B++ls,es⟩ x=⟨B++(ls++[x]),es⟩:=by simp[Hp.push]
end
section
variable{P:aM}{t n:aq}{B ls:List br}{k off:Nat}{cs:aA}{ty:aq}{v:V}{env:aA}{lk:bk}{df:bH}{es:bk}{g:Nat->Nat->cP}
def Wo(hs:jh P t=some n)(hg:nth ls k=some (.cells cs ty))(h1:fH v=true)(h2:v.laid.length=n)(h3:off+n<=cs.length)(h4:cs.all (λc=>!(locked c))=true)(ht:v.top=0) :
  kI P t ⟨B++ls,es⟩ lk df (some (v,env)) (some (.ptr (B.length+k) off))=some (.skip,⟨env,⟨B++ls.set k (.cells (Vm.storeCells cs off v.laid) ty),es⟩,lk,df⟩):=by
 rw[jt hs (show Hp.get ⟨B++ls,es⟩ _=_ from gN.trans hg) h1 h2 h3 (vZ h4 h3),vY (by rw[ht];omega)]
 simp only[Hp.set,sN]
def zpa(hs:jh P t=some n)(hg:nth ls 0=some (.cells cs ty))(h1:fH v=true)(h2:v.laid.length=n)(h3:off+n<=cs.length)(h4:cs.all (λc=>!(locked c))=true)(ht:v.top=0) :
  kI P t ⟨B++ls,es⟩ lk df (some (v,env)) (some (.ptr B.length off))=some (.skip,⟨env,⟨B++ls.set 0 (.cells (Vm.storeCells cs off v.laid) ty),es⟩,lk,df⟩):=Wo (k:=0) hs hg h1 h2 h3 h4 ht
def zr7(ha:ka P t=some false)(hg:nth ls k=some (.cells cs ty))(hn:nth cs off=some v):qJ P ⟨B++ls,es⟩ g t (.ptr (B.length+k) off)=some v:=jy ha (gN.trans hg) hn
def zpb(ha:ka P t=some false)(hg:nth ls 0=some (.cells cs ty))(hn:nth cs off=some v):qJ P ⟨B++ls,es⟩ g t (.ptr B.length off)=some v:=jy ha (PC.trans hg) hn
def zsM(ha:ka P t=some true)(hs:jh P t=some n)(hg:nth ls k=some (.cells cs ty))(hl:off+n<=cs.length):qJ P ⟨B++ls,es⟩ g t (.ptr (B.length+k) off)=some (.agg ((cs.drop off).take n)):=wc ha hs (gN.trans hg) hl
def zrn(ha:ka P t=some true)(hs:jh P t=some n)(hg:nth ls 0=some (.cells cs ty))(hl:off+n<=cs.length):qJ P ⟨B++ls,es⟩ g t (.ptr B.length off)=some (.agg ((cs.drop off).take n)):=wc ha hs (PC.trans hg) hl
end
section
variable{P:aM}{t n:aq}{B ls:List br}{k off bm:Nat}{cs:aA}{ty e:aq}{xs ys:aA}{env:aA}{lk:bk}{df:bH}{es:bk}
def zj0(ha:ka P t=some false)(bD:bm<B.length)(hb:nth B bm=some (.cells cs ty))(hn:nth cs off=some (qu n e xs)) :
  BY P t env ⟨B++ls,es⟩ [] df (some (.ptr bm off))=some (.val (qu n e xs),⟨env,⟨B.set bm (.cells (cs.set off (uL n xs)) ty)++ls,es⟩,uM bm off xs,df⟩):=by
 rw[zfX ha (show Hp.get ⟨B++ls,es⟩ bm=_ from(gB bD).trans hb) hn];simp only[Hp.set,sB bD]
def zhb(hs:jh P t=some 1)(bD:bm<B.length)(ho:off<cs.length)(ht:(qu n e ys).top=0) :
  kI P t ⟨B.set bm (.cells (cs.set off (uL n xs)) ty)++ls,es⟩ (uM bm off xs) df (some (qu n e ys,env)) (some (.ptr bm off))=some (.skip,⟨env,⟨B.set bm (.cells (cs.set off (qu n e ys)) ty)++ls,es⟩,uM bm off xs,df⟩):=by
 have lD:bm<(B.set bm (.cells (cs.set off (uL n xs)) ty)).length:=by rw[ee];exact bD
 rw[jt hs (show Hp.get ⟨_++ls,es⟩ bm=some (.cells (cs.set off (uL n xs)) ty) from(gB lD).trans (by simp[zV,bD])) zid (by rw[Px];rfl) (by rw[ee];omega) (zfY ho),vY (by rw[ht];omega)]
 simp only[Hp.set,sB lD,List.set_set,Px,Vm.storeCells]
end
def cI:Nat->Bool:=λ_=>false
structure Part where
 null:Bool
 first:Nat->Bool
 last:Nat->Bool
def ql(p:Part):aA:=.bool p.null::(pv 19 p.first++pv 19 p.last)
def jO{p:Part}:(ql p).length=39:=by simp[ql,kw]
def zpc{m:Nat}{p:Nat->Bool}:(pv m p).map aT=pv m p:=by
 simp only[pv,List.map_map];rfl
def vd{p:Part}:(ql p).map aT=ql p:=by simp[ql,zpc,zf]
def ko:∀{xs ys:aA},aI xs=0->aI ys=0->aI (xs++ys)=0
 | [],_,_,h=>h
 | x::xs,ys,h1,h2=>by
  simp only[aI,cF,Nat.max_eq_zero_iff] at h1 ⊢;exact⟨h1.1,ko h1.2 h2⟩
def Wp{m:Nat}{p:Nat->Bool}:aI (pv m p)=0:=by
 unfold pv
 induction List.range m with
 | nil=>rfl
 | cons x xs ih=>simp only[bW,aI,V.top,ih];rfl
def xB{p:Part}:aI (ql p)=0:=by
 simp only[ql,aI,V.top,ko Wp Wp];rfl
def Ns:kf prog 117=some (.agg (ql ⟨false,cI,cI⟩)):=by kernel_rfl
def zsN{env:aA}:wx prog 115 #[] env=some (.agg (pv 19 cI)):=by kernel_rfl
def zr8{m:Nat}{p:Nat->Bool}:(pv m p).all (λc=>!(locked c))=true:=by
 simp[pv,locked]
def y9{p:Part}:(ql p).all (λc=>!(locked c))=true:=by
 simp only[ql,List.all_cons,List.all_append,zr8];rfl
def zqO{x:V}{cs:aA}{k:Nat}:Vm.storeCells cs k [x]=cs.set k x:=rfl
def FG{B ls:List br}{k:Nat}{p:Part}{es:bk}{g:Nat->Nat->cP}(hg:nth ls k=some (.cells (ql p) 117)):qJ prog ⟨B++ls,es⟩ g 117 (.ptr (B.length+k) 0)=some (.agg (ql p)):=by
 rw[zsM uO sM hg (by rw[jO];decide)]
 rw[IJ,<- jO (p:=p),List.take_length]
def SL{B ls:List br}{k:Nat}{p q:Part}{env:aA}{lk:bk}{df:bH}{es:bk}(hg:nth ls k=some (.cells (ql q) 117)):kI prog 117 ⟨B++ls,es⟩ lk df (some (.agg (ql p),env)) (some (.ptr (B.length+k) 0))=some (.skip,⟨env,⟨B++ls.set k (.cells (ql p) 117),es⟩,lk,df⟩):=by
 rw[Wo (k:=k) (v:=.agg (ql p)) sM hg rfl (by simp[V.laid,jO]) (by rw[jO];decide) y9 (by simp[V.top,xB])]
 simp only[V.laid,vd];rw[yY (by rw[jO,jO])]
structure Mk where
 bw:List (Int×Int×Int×Int)
 rules:List Int
 next:List (Nat->Bool)
def G4(s0 s1 s2 s3:Int):V:=.agg [.int .u64 s0,.int .u64 s1,.int .u64 s2,.int .u64 s3]
def SM(q:Int×Int×Int×Int):V:=G4 q.1 q.2.1 q.2.2.1 q.2.2.2
def Mk.lN(m:Mk):aA:=m.bw.map SM
def Mk.gU(m:Mk):aA:=m.rules.map (.int .i64)
def wP{α:Type}{h:α->V}(hh:∀a,(h a).top=0):∀(l:List α),aI (l.map h)=0
 | []=>rfl
 | a::l=>by simp[aI,hh a,wP hh l]
def SN{n:Nat}{e:aq}{xs:aA}(h:aI xs=0):(qu n e xs).top=0:=by
 cases xs with
 | nil=>rfl
 | cons x xs=>simpa[qu,V.top] using h
def MK(n0:Nat)(H:Hp)(bm:Nat)(m:Mk)(i:Option Nat):Prop :=
 ∃c,H.get bm=some (.cells [qu 4 50 m.lN,qu 1 3 m.gU,c] 113)/\UL H 19 115 c i (m.next.map (pv 19))/\∀j,i=some j->n0<=j->bm<j/\(bm,j+1)∈H.aW
def Lj(n0:Nat)(i i':Option Nat):Prop:=i'=i\/i=none/\∃j,i'=some j/\n0<=j
def MK.start{bs:List br}{es:bk}{n0 bm:Nat}{m:Mk}{i:Option Nat}(h:MK n0 ⟨bs,es⟩ bm m i):MK bs.length ⟨bs,[]⟩ bm m i:=by
 obtain⟨c,h1,h2,_⟩:=h;refine⟨c,h1,h2,λj hj hn=>?_⟩;subst hj;exact absurd h2.lt (by simpa using hn)
def MK.finish{bs:List br}{es:bk}{n0 bm t:Nat}{m m':Mk}{i i':Option Nat}{H:Hp}(h:MK n0 ⟨bs,es⟩ bm m i)(_hn:n0<=bs.length)(gm:Lj bs.length i i')(h1:MK bs.length H bm m' i'):MK n0 (jl bs.length es t H) bm m' i':=by
 obtain⟨c,g1,g2,g3⟩:=h;obtain⟨c',k1,k2,k3⟩:=h1;have bD:bm<bs.length:=wg g1;refine⟨c',(jR bD).trans k1,k2.frame λj hj=>?_,λj hj hn=>?_⟩
 ·by_cases MP:j<bs.length
  ·exact jR MP
  ·exact zaP (k3 j hj (by omega)).2 bD (by omega) _
 ·by_cases MP:j<bs.length
  ·have:i=some j:=by
    rcases gm with rfl|⟨_,j',h1,h2⟩
    ·exact hj
    ·rw[hj] at h1;cases h1;omega
   have:=g3 j this hn;refine⟨this.1,?_⟩;unfold jl;obtain⟨b,e⟩:=H;simp only;split<;>exact CA _ this.2
  ·have:=k3 j hj (by omega)
   refine⟨this.1,?_⟩;unfold jl;obtain⟨b,e⟩:=H;simp only;split
   ·refine Ck _ (List.mem_filter.2 ⟨this.2,?_⟩);exact Kj (show bm+1<=bs.length by omega)
   ·exact Ck _ this.2
def zf0{bs:List br}{es:bk}{t:Nat}{H:Hp}{S:Nat->Prop}(h:rT ⟨bs,[]⟩ H S):rT ⟨bs,es⟩ (jl bs.length es t H) S :=
 ⟨yG h.len,λd hd hn=>(jR hd).trans (h.get d hd hn)⟩
def JR:∀{pre xs ys:aA},ys.length=xs.length->Vm.storeCells (pre++ys) pre.length xs=pre++xs:=by
 intro pre xs ys h;apply Dt;intro i;rw[zib]
 by_cases h1:i<pre.length
 ·rw[if_neg (by omega),mz h1,mz h1]
 ·by_cases h2:i<pre.length+xs.length
  ·rw[if_pos ⟨by omega,h2,by rw[bY];omega⟩,oe (by omega)]
  ·rw[if_neg (by omega),uj (by rw[bY];omega),uj (by rw[bY];omega)]
def zpe{p:Part}{l:Nat->Bool}:Vm.storeCells (ql p) 20 (pv 19 l)=ql ⟨p.null,p.first,l⟩:=by
 have h:=JR (pre:=.bool p.null::pv 19 p.first) (xs:=pv 19 l) (ys:=pv 19 p.last) (by rw[kw,kw])
 rw[show(V.bool p.null::pv 19 p.first).length=20 by simp[kw]] at h
 exact h
def zr9{m:Nat}{p:Nat->Bool}:(V.agg (pv m p)).top=0:=by simp[V.top,Wp]
def znn{p:Part}:((ql p).drop 20).take 19=pv 19 p.last:=by
 have h:(ql p).drop 20=pv 19 p.last:=by
  have:=List.drop_left (l₁:=V.bool p.null::pv 19 p.first) (l₂:=pv 19 p.last)
  rwa [show(V.bool p.null::pv 19 p.first).length=20 by simp[kw]] at this
 rw[h];exact En (by rw[kw];decide)
end
section
variable{gl:Gl}
def kF(op:Int)(set:Int×Int×Int×Int)(r:Int)(m:Mk):Part×Mk :=
 if op=1 then (⟨true,cI,cI⟩,m) else (⟨false,jz cI m.bw.length,jz cI m.bw.length⟩,⟨m.bw++[set],m.rules++[r],m.next++[cI]⟩)
def uP:jh prog 53=some 10:=by kernel_rfl
def Da:ka prog 53=some true:=by kernel_rfl
def Db:jD prog 53 0=some 0:=by kernel_rfl
def Nt:jD prog 53 2=some 2:=by kernel_rfl
def iG:jD prog 117 0=some 0:=by kernel_rfl
def oU:jD prog 117 1=some 1:=by kernel_rfl
def oV:jD prog 117 2=some 20:=by kernel_rfl
def AU:jD prog 113 0=some 0:=by kernel_rfl
def G5:jD prog 113 1=some 1:=by kernel_rfl
def PD:ka prog 4=some false:=by kernel_rfl
def sz4:jh prog 4=some 1:=by kernel_rfl
def Nu:jh prog 27=some 1:=by kernel_rfl
def Dc:ka prog 27=some false:=by kernel_rfl
def Dd:ka prog 26=some false:=by kernel_rfl
def SO:jh prog 26=some 1:=by kernel_rfl
def SP:ka prog 50=some true:=by kernel_rfl
def abj:jh prog 50=some 4:=by kernel_rfl
def r28:rU prog 26 50 4 32:=⟨by kernel_rfl,by kernel_rfl,by kernel_rfl,by decide,by kernel_rfl,by kernel_rfl,by kernel_rfl⟩
def zpf(hg:GW gl){n n0:Nat}{H:Hp}{bm:Nat}{m:Mk}{i:Option Nat}{op pl s0 s1 s2 s3 mn mx r:Int}{text:bR}{nl:Bool}{args:List E}
  (hm:MK n0 H bm m i) (Bf:n0<=H.aj.length) (hs:m.bw.length<1216) (hr:m.rules.length<1216) (hx:m.next.length<1216) :
  ∃H' i',qt prog gl (n+2) 92 [.ptr bm 0,enc (.mk op pl s0 s1 s2 s3 text mn mx nl args),.int .i64 r] H=some (.ret (.agg (ql (kF op (s0,s1,s2,s3) r m).1)),H')/\MK n0 H' bm (kF op (s0,s1,s2,s3) r m).2 i'/\Lj H.aj.length i i'/\rT H H' (λd=>d=bm\/i=some d):=by
 obtain⟨bs,es⟩:=H;have I4:=hm.start
 suffices d_:(go ⟨prog,gl,qt prog gl (n+1),gE⟩ (n+1) (Fx prog f92.results.toList λw H1=>w=.agg (ql (kF op (s0,s1,s2,s3) r m).1)/\∃i',MK bs.length H1 bm (kF op (s0,s1,s2,s3) r m).2 i'/\Lj bs.length i i'/\rT ⟨bs,[]⟩ H1 (λd=>d=bm\/i=some d)) [.c (f92.body.getD .skip)] .normal ⟨[.ptr bm 0,enc (.mk op pl s0 s1 s2 s3 text mn mx nl args),.int .i64 r]++List.replicate 56 (.bz []),⟨bs,[]⟩,[],[]⟩) by
  obtain⟨w,H1,h0,rfl,i',h1,h2,h3⟩:=jZ (gl:=gl) (f:=92) (bs:=bs) (es:=es) (args:=[.ptr bm 0,enc (.mk op pl s0 s1 s2 s3 text mn mx nl args),.int .i64 r]) (n:=n+1) (hg.hk _ _ (by decide)) (λH=>hg.iA _ _ _ _) func92 rfl (by rw[hg.uq];exact d_)
  exact⟨_,i',h0,hm.finish Bf h2 h1,h2,zf0 h3⟩
 obtain⟨c,hc,hu,hed⟩:=I4;have bD:bm<bs.length:=wg hc;obtain⟨S,hS⟩:∃S,S=m.lN:=⟨_,rfl⟩;obtain⟨R,hR⟩:∃R,R=m.gU:=⟨_,rfl⟩;have JT:S.length=m.bw.length:=by rw[hS,Mk.lN,eF]
 have hRl:R.length=m.rules.length:=by rw[hR,Mk.gU,eF]
 have hSt:aI S=0:=by rw[hS];exact wP (λ_=>rfl) _
 have hRt:aI R=0:=by rw[hR];exact wP (λ_=>rfl) _
 rw[<- hS,<- hR] at hc;have oT:fH (enc (.mk op pl s0 s1 s2 s3 text mn mx nl args))=true:=rfl;simp only[f92,t_,zD];refine qx ?_;simp only[enc] at oT ⊢
 simp only[qi,ah,zD,qf,zl,zu,zy,au,qb,zg,zr,bW,cM,z9,bY,bq,List.length_nil,cK,b_,cF,cq,zR,z6,dJ,dM,wn oT,Ns,jQ (show fH (V.agg (ql ⟨false,cI,cI⟩))=true from rfl),V.laid,V.cells,jW,List.replicate]
 refine qx ?_
 simp only[qi,ah,zD,zl,au,qb,z9,bY,bq,List.length_nil,cK,Nat.reduceAdd,b_,cF,cq,dJ,dM,Ns,jQ (show fH (V.agg (ql ⟨false,cI,cI⟩))=true from rfl),V.cells]
 generalize hX:br.cells [V.int IntKind.i64 op,V.int IntKind.i64 pl,V.int IntKind.u64 s0,V.int IntKind.u64 s1,V.int IntKind.u64 s2,V.int IntKind.u64 s3,V.str text,V.int IntKind.i64 mn,V.int IntKind.i64 mx,yH nl (fy args)] 53=X;refine qx ?_;have Cm:∀x y,qJ prog ⟨bs++[X,x,y],[]⟩ gl.g 3 (.ptr bs.length 0)=some (.int .i64 op):=λx y=>jy PA (by subst hX;exact PC) rfl
 simp only[qi,ah,zD,zI,zh,zA,za,aB,zu,aH,zo,zk,au,qb,zg,zS,bC,bG,ze,qa,cL,zR,z6,dJ,dM,Db,iG,Cm,yq]
 rw[Wo (k:=2) (cs:=ql ⟨false,cI,cI⟩) (ty:=117) sz4 rfl rfl rfl (by rw[jO];decide) y9 rfl]
 simp only[az,qb,V.laid,zqO,dM,dJ]
 rw[show(ql ⟨false,cI,cI⟩).set 0 (.bool (op == 1))=ql ⟨op == 1,cI,cI⟩ from rfl];refine qx ?_;have Bz:∀x y b p q,qJ prog ⟨bs++[x,y,br.cells (ql ⟨b,p,q⟩) 117],[]⟩ gl.g 4 (.ptr (bs.length+2) 0)=some (.bool b):=λx y b p q=>zr7 (k:=2) PD rfl rfl
 simp only[qi,ah,zD,aC,zI,z4,za,aB,zk,au,qb,zf,zS,bC,bG,ze,qa,cL,zJ,zU,zR,z6,dJ,dM,iG,Bz,FU]
 have hLP:∀x y p es,qJ prog ⟨bs++[x,y,.cells (ql p) 117],es⟩ gl.g 117 (.ptr (bs.length+2) 0)=some (.agg (ql p)):=λx y p es=>FG (k:=2) rfl
 by_cases aF:op=1
 ·subst aF;refine .inr ⟨by decide,?_⟩
  refine qx ?_
  simp only[qi,ah,zI,zh,aB,zu,zy,zk,au,qb,zp,zS,bC,bG,zR,z6,dJ,dM,hLP]
  rw[SL (k:=1) (q:=⟨false,cI,cI⟩) rfl];simp only[az,qb,go_ret,jc,Fx,dM,dJ]
  refine⟨trivial,[.agg (ql ⟨true,cI,cI⟩)],?_,rfl,i,?_,.inl rfl,?_⟩
  ·simp only[ja,zR,z6];rw[FG (k:=1) (p:=⟨1 == 1,cI,cI⟩) rfl];simp[aT]
  ·refine⟨c,(gB bD).trans (by have h:=hc;rw[hS,hR] at h;exact h),hu.frame λj hj=>gB (by subst hj;exact hu.lt),λj hj hn=>?_⟩
   subst hj;exact absurd hu.lt (by simpa using hn)
  ·exact⟨by simp,λd hd _=>gB hd⟩
 ·refine .inl ⟨by simp[aF],?_⟩
  have HU:(op == 1)=false:=by simp[aF]
  simp only[HU];refine qx ?_;have uF:∀ls es,qJ prog ⟨bs++ls,es⟩ gl.g 26 (.ptr bm 0)=some (qu 4 50 S):=λls es=>jy Dd (show Hp.get ⟨bs++ls,es⟩ bm=_ from(gB bD).trans hc) rfl
  simp only[qi,ah,zD,zw,zI,zq,zd,za,qc,aB,zu,zt,zk,zH,au,qb,zS,zN,bC,bG,aG,ze,qa,cL,zR,z6,dJ,dM,AU,uF,zjV r28.u,JT]
  refine qx ?_;have oD:∀(ls:List br)(k off:Nat)(pre post:aA)(p:Nat->Bool),nth ls k=some (.cells (pre++pv 19 p++post) 117)->pre.length=off->Cx.dZ ⟨prog,gl.g,qt prog gl (n+1),gE⟩ 56 [.ptr (bs.length+k) off,.int .i64 (m.bw.length:Int)] ⟨bs++ls,[]⟩=some (.val (.bz []),⟨bs++ls.set k (.cells (pre++pv 19 (jz p m.bw.length)++post) 117),[]⟩):=λls k off pre post p h1 h2=>by
   have:=zl7 hg (n:=n) (bs:=bs++ls) (es:=[]) (b:=bs.length+k) (gN.trans h1) h2 hs;rw[sN] at this;exact ji func56 rfl this
  have hA:=λx y=>oD [x,y,.cells (ql ⟨false,cI,cI⟩) 117] 2 1 [.bool false] (pv 19 cI) cI rfl rfl;have hB:=λx y=>oD [x,y,.cells (ql ⟨false,jz cI m.bw.length,cI⟩) 117] 2 20 (.bool false::pv 19 (jz cI m.bw.length)) [] cI (by simp[ql,nth]) (by simp[kw])
  simp only[qi,ah,zD,zw,za,zW,aL,qd,aB,zk,au,qb,zg,zS,bC,ze,qa,zi,qp,bW,cM,cK,cF,cq,zR,z6,dJ,dM,oU,hA]
  rw[show br.cells (V.bool false::(pv 19 (jz cI m.bw.length)++pv 19 cI)) 117=.cells (ql ⟨false,jz cI m.bw.length,cI⟩) 117 from rfl];refine qx ?_
  simp only[qi,ah,zD,zw,za,zW,aL,qd,aB,zk,au,qb,zg,zS,bC,ze,qa,zi,qp,bW,cM,cK,cF,zR,z6,dJ,dM,oV,hB,oZ]
  rw[show br.cells (V.bool false::(pv 19 (jz cI m.bw.length)++pv 19 (jz cI m.bw.length))) 117=.cells (ql ⟨false,jz cI m.bw.length,jz cI m.bw.length⟩) 117 from rfl];generalize hY:br.cells (ql ⟨false,cI,cI⟩) 117=Y;generalize hZ:br.cells (ql ⟨false,jz cI m.bw.length,jz cI m.bw.length⟩) 117=Z;refine wt (tk:=[31]) (by kernel_rfl) (by kernel_rfl) ?_
  have hbm:bs.length≠bm:=by omega
  have Jc:∀B ls es,qJ prog ⟨B++X::ls,es⟩ gl.g 50 (.ptr B.length 2)=some (G4 s0 s1 s2 s3):=λB ls es=>by
   rw[zrn (cs:=[V.int IntKind.i64 op,V.int IntKind.i64 pl,V.int IntKind.u64 s0,V.int IntKind.u64 s1,V.int IntKind.u64 s2,V.int IntKind.u64 s3,V.str text,V.int IntKind.i64 mn,V.int IntKind.i64 mx,yH nl (fy args)]) (ty:=53) SP abj (by rw[hX];rfl) (by simp)]
   rfl
  have abl:∀(b:br) ls es,qJ prog ⟨bs.set bm b++X::ls,es⟩ gl.g 50 (.ptr bs.length 2)=some (G4 s0 s1 s2 s3):=λb ls es=>by
   have:=Jc (bs.set bm b) ls es
   rwa [ee] at this
  have AW:∀env,BY prog 26 env ⟨bs++[X,Y,Z],[]⟩ [] [] (some (.ptr bm 0))=some (.val (qu 4 50 S),⟨env,⟨bs.set bm (.cells [uL 4 S,qu 1 3 R,c] 113)++[X,Y,Z],[]⟩,uM bm 0 S,[]⟩):=λenv=>zj0 (off:=0) Dd bD hc rfl;have AT:=r28.JI (v:=G4 s0 s1 s2 s3) rfl rfl
  have gH:∀{k b:Nat},k<1216->b<=152->kr (k+1) b=true:=λ{k b} h h'=>eP (by have:=Nat.mul_le_mul (show k+1<=1216 by omega) h';omega) (by omega)
  have lU:∀H,kG prog H 26 (qu 4 50 S) (.sl 4 [G4 s0 s1 s2 s3] .no)=some (qu 4 50 (S++[G4 s0 s1 s2 s3])):=λH=>vu r28 (by simp) (by rw[JT];exact gH hs (by decide))
  simp only[qn,ak,zD,zL,zM,zB,zh,zd,za,zX,ne_eq,Nat.reduceEqDiff,cY,aB,zu,zG,zk,au,qb,zS,zK,bC,bG,aG,ze,qa,cg,cK,cL,qj,aU,zR,z6,dJ,dM,AU,Nt,Dd,SP,AW,abl,zqL hbm,show aT (G4 s0 s1 s2 s3)=G4 s0 s1 s2 s3 from rfl,AT,Fz,lU,AU,vC (cx:=⟨prog,gl.g,qt prog gl (n+1),gE⟩) (show sS prog gE 26=false by kernel_rfl)]
  have eM:∀env,kI prog 26 ⟨bs.set bm (.cells [uL 4 S,qu 1 3 R,c] 113)++[X,Y,Z],[]⟩ (uM bm 0 S) [] (some (qu 4 50 (S++[G4 s0 s1 s2 s3]),env)) (some (.ptr bm 0))=some (.skip,⟨env,⟨bs.set bm (.cells [qu 4 50 (S++[G4 s0 s1 s2 s3]),qu 1 3 R,c] 113)++[X,Y,Z],[]⟩,uM bm 0 S,[]⟩):=λenv =>
   zhb (off:=0) (cs:=[qu 4 50 S,qu 1 3 R,c]) SO bD (by simp) (SN (ko hSt rfl))
  rw[eM];simp only[az,qb]
  refine Pr (tk:=[42]) (by kernel_rfl) ?_
  generalize R8:S++[G4 s0 s1 s2 s3]=S';obtain⟨B,Mw⟩:∃B,B=bs.set bm (.cells [qu 4 50 S',qu 1 3 R,c] 113):=⟨_,rfl⟩;have Wq:B.length=bs.length:=by rw[Mw,ee]
  rw[<- Mw];have SQ:bm<B.length:=by omega
  have JP:nth B bm=some (.cells [qu 4 50 S',qu 1 3 R,c] 113):=by rw[Mw];simp[zV,bD]
  have SS:=FF.JI (v:=.int .i64 r) rfl rfl;have SU:∀H,kG prog H 27 (qu 1 3 R) (.sl 1 [.int .i64 r] .no)=some (qu 1 3 (R++[.int .i64 r])):=λH=>vu FF (by simp) (by rw[hRl];exact gH hr (by decide))
  have SW:∀env,BY prog 27 env ⟨B++[X,Y,Z],[]⟩ [] [] (some (.ptr bm 1))=some (.val (qu 1 3 R),⟨env,⟨B.set bm (.cells [qu 4 50 S',uL 1 R,c] 113)++[X,Y,Z],[]⟩,uM bm 1 R,[]⟩):=λenv=>zj0 (off:=1) Dc SQ JP rfl
  have Nv:∀env,kI prog 27 ⟨B.set bm (.cells [qu 4 50 S',uL 1 R,c] 113)++[X,Y,Z],[]⟩ (uM bm 1 R) [] (some (qu 1 3 (R++[.int .i64 r]),env)) (some (.ptr bm 1))=some (.skip,⟨env,⟨B.set bm (.cells [qu 4 50 S',qu 1 3 (R++[.int .i64 r]),c] 113)++[X,Y,Z],[]⟩,uM bm 1 R,[]⟩):=λenv =>
   zhb (off:=1) (cs:=[qu 4 50 S',qu 1 3 R,c]) Nu SQ (by simp) (SN (ko hRt rfl))
  simp only[qi,ah,zL,zB,zh,zd,za,zX,ne_eq,Nat.reduceEqDiff,cY,aB,zu,zG,zk,au,az,qb,zg,zS,zK,bC,aG,ze,qa,cK,aU,zR,z6,dJ,dM,G5,SW,SS,Fz,SU,Nv,vC (cx:=⟨prog,gl.g,qt prog gl (n+1),gE⟩) (show sS prog gE 27=false by kernel_rfl)]
  generalize Z6:R++[V.int .i64 r]=R';have hBB:B.set bm (.cells [qu 4 50 S',qu 1 3 R',c] 113)=bs.set bm (.cells [qu 4 50 S',qu 1 3 R',c] 113):=by rw[Mw,List.set_set]
  rw[hBB];refine Pr (tk:=[52]) (by kernel_rfl) ?_
  obtain⟨cm,nr⟩:∃cm,cm=[qu 4 50 S',qu 1 3 R',c]:=⟨_,rfl⟩;rw[<- nr];obtain⟨B2,Wr⟩:∃B2,B2=bs.set bm (.cells cm 113):=⟨_,rfl⟩;have JU:B2.length=bs.length:=by rw[Wr,ee]
  have Nw:nth B2 bm=some (.cells cm 113):=by rw[Wr];simp[zV,bD]
  have JV:∀d,d≠bm->nth B2 d=nth bs d:=λd hd=>by rw[Wr,zV,zV,Bs (Ne.symm hd)]
  rw[<- Wr,<- JU];have pS:bm<B2.length:=by omega
  have sW:c=.aJ\/∃j v l,c=.eo j v l:=by
   cases i with
   | none=>exact .inl hu.1
   | some j=>obtain⟨v,h,_⟩:=hu;exact .inr ⟨_,_,_,h⟩
  have abm:Hp.get ⟨B2++[X,Y,Z],[]⟩ bm=some (.cells cm 113):=(gB pS).trans Nw;have SX:∀env,BY prog 111 env ⟨B2++[X,Y,Z],[]⟩ [] [] (some (.ptr bm 2))=some (.val c,⟨env,⟨B2++[X,Y,Z],[]⟩,[],[]⟩):=λenv=>zia G3 abm (by rw[nr];rfl) sW
  have SY:=IB.JI (v:=.agg (pv 19 cI)) rfl kw;have pz:aT c=c:=by rcases sW with rfl|⟨j,v,l,rfl⟩<;>rfl
  have hu3:UL ⟨B2++[X,Y,Z],[]⟩ 19 115 c i (m.next.map (pv 19)):=hu.frame λj hj=>by
   subst hj;have Ah:=hu.lt;have uN:j≠bm:=λe=>Wl hu hc (by rw[e])
   exact(gB (by rw[JU];exact Ah)).trans (JV j uN)
  have SZ:=λenv=>IB.app (env:=env) (lk:=[]) (df:=[]) (ys:=[.agg (pv 19 cI)]) (o:=.no) (by simp) hu3 (by rw[eF];exact gH hx (by decide))
  have hLD:∀ls es p,nth ls 2=some (.cells (ql p) 117)->qJ prog ⟨B2++ls,es⟩ gl.g 117 (.ptr (B2.length+2) 0)=some (.agg (ql p)):=λls es p h=>FG h
  simp only[qi,zL,zB,zO,zd,za,zX,ne_eq,Nat.reduceEqDiff,cY,aB,zk,au,qb,zp,zS,zK,bC,aG,ze,qa,z9,bY,bq,List.length_nil,cK,Nat.reduceAdd,b_,cF,cq,zR,z6,dJ,dM,rW,SX,zsN,SY,pz,zbo (cx:=⟨prog,gl.g,qt prog gl (n+1),gE⟩) (show sS prog gE 111=true by kernel_rfl),SZ]
  have nN:∀lk,wQ lk bm 2 1 (cm.drop 2)=true:=λlk=>by
   rw[nr];rcases sW with rfl|⟨j,v,l,rfl⟩<;>simp[wQ,locked]
  have S1:∀x,Vm.storeCells cm 2 [x]=[qu 4 50 S',qu 1 3 R',x]:=λx=>by rw[nr];rfl
  have iL:2+1<=cm.length:=by rw[nr];simp
  have abn:∀l b v,∃Bu,Hp.bI ⟨l,[]⟩ b v=⟨l,Bu⟩:=λl b v=>by unfold Hp.bI;split<;>exact⟨_,rfl⟩
  have hSR:∀x,[qu 4 50 S',qu 1 3 R',x]=[qu 4 50 (kF op (s0,s1,s2,s3) r m).2.lN,qu 1 3 (kF op (s0,s1,s2,s3) r m).2.gU,x]:=λx=>by
   rw[kF,if_neg aF,<- R8,<- Z6,hS,hR];simp only[Mk.lN,Mk.gU,List.map_append,bW,cM,SM]
  have hP:(kF op (s0,s1,s2,s3) r m).1=⟨false,jz cI m.bw.length,jz cI m.bw.length⟩:=by rw[kF,if_neg aF]
  have hN:(kF op (s0,s1,s2,s3) r m).2.next=m.next++[cI]:=by rw[kF,if_neg aF]
  cases i with
  | none =>
   obtain⟨rfl,hnx⟩:=hu;have S2:m.next=[]:=by simpa using hnx
   have G6:∀env U,kI prog 111 ⟨B2++[X,Y,Z,U],[]⟩ [] [] (some (.eo (B2.length+3) 0 1,env)) (some (.ptr bm 2))=some (.skip,⟨env,⟨B2.set bm (.cells [qu 4 50 S',qu 1 3 R',.eo (B2.length+3) 0 1] 113)++[X,Y,Z,U],[(bm,B2.length+4)]⟩,[],[]⟩):=λenv U=>by
    rw[jt (cs:=cm) (ty:=113) IB.st (show Hp.get ⟨B2++[X,Y,Z,U],[]⟩ bm=some (.cells cm 113) from(gB pS).trans Nw) rfl rfl iL (nN _)];simp only[V.laid,S1,Hp.set,sB pS,Hp.bI,V.top];rw[if_neg (by omega)]
   simp only[qi,ah,zD,zh,zd,za,aB,zu,zv,zk,au,az,qb,zS,bC,aG,ze,qa,cK,zR,z6,dJ,dM,rW,G6]
   obtain⟨B3,Fy⟩:∃B3,B3=B2.set bm (.cells [qu 4 50 S',qu 1 3 R',.eo (B2.length+3) 0 1] 113):=⟨_,rfl⟩;have De:B3.length=B2.length:=by rw[Fy,ee]
   have PE:nth B3 bm=some (.cells [qu 4 50 S',qu 1 3 R',.eo (B2.length+3) 0 1] 113):=by rw[Fy];simp[zV,pS]
   have ue:∀d,d≠bm->nth B3 d=nth bs d:=λd hd=>by rw[Fy,zV,Bs (Ne.symm hd),<- zV,JV d hd]
   rw[<- Fy,<- De];rw[<- De] at PE;refine qx ?_;have Jb:∀U es,qJ prog ⟨B3++[X,Y,Z,U],es⟩ gl.g 117 (.ptr (B3.length+2) 0)=some (.agg (ql ⟨false,jz cI m.bw.length,jz cI m.bw.length⟩)):=λU es=>FG (k:=2) (by rw[<- hZ];rfl)
   simp only[qi,ah,zI,zh,aB,zu,zy,zk,au,qb,zp,zS,bC,bG,zR,z6,dJ,dM,Jb]
   rw[SL (k:=1) (q:=⟨false,cI,cI⟩) (by rw[<- hY];rfl)]
   simp only[az,qb,go_ret,jc,Fx,dM,dJ]
   refine⟨trivial,[.agg (ql ⟨false,jz cI m.bw.length,jz cI m.bw.length⟩)],?_,by rw[hP];rfl,some (B3.length+3),⟨_,(gB (by omega)).trans (PE.trans (by rw[hSR])),⟨0,by rw[hN,S2];rfl,(gN (k:=3)).trans (by rw[hN,S2];rfl)⟩,λj hj hn=>?_⟩,.inr ⟨rfl,_,rfl,by omega⟩,?_⟩
   ·simp only[ja,zR,z6];rw[FG (k:=1) (p:=⟨false,jz cI m.bw.length,jz cI m.bw.length⟩) rfl];simp[aT]
   ·cases hj;exact⟨by omega,by rw[De];simp⟩
   ·exact⟨by simp only[bY];omega,λd hd uX=>(gB (by rw[De,JU];exact hd)).trans (ue d λe=>uX (.inl e))⟩
  | some j =>
   obtain⟨v,rfl,hj⟩:=hu;have Ah:j<bs.length:=wg hj;have uN:j≠bm:=by
    intro e;subst e;rw[hc] at hj;cases hj
   have hj2:nth B2 j=some (.ul v 19 (m.next.map (pv 19)).flatten 115):=(JV j uN).trans hj
   dsimp only
   rw[vY (by simp[V.top,aI,Wp])]
   simp only[Hp.set,sB (show j<B2.length by omega),au,qb]
   obtain⟨B3,Fy⟩:∃B3,B3=B2.set j (.ul (v+1) 19 ((m.next.map (pv 19)).flatten++dz [V.agg (pv 19 cI)]) 115):=⟨_,rfl⟩
   have De:B3.length=B2.length:=by rw[Fy,ee]
   have hb3:nth B3 bm=some (.cells cm 113):=by rw[Fy,zV,Bs uN,<- zV,Nw]
   have hj3:nth B3 j=some (.ul (v+1) 19 ((m.next.map (pv 19)).flatten++dz [V.agg (pv 19 cI)]) 115):=by rw[Fy,zV,FN (by omega)]
   have ue:∀d,d≠bm->d≠j->nth B3 d=nth bs d:=λd hd Gi=>by rw[Fy,zV,Bs (Ne.symm Gi),<- zV,JV d hd]
   rw[<- Fy,<- De];have S3:bm<B3.length:=by omega
   obtain⟨u,og⟩:∃u,u=V.eo j (v+1) ((m.next.map (pv 19)).length+1):=⟨_,rfl⟩
   obtain⟨Bu,Co⟩:=abn (B3.set bm (.cells [qu 4 50 S',qu 1 3 R',u] 113)++[X,Y,Z]) bm u;have G6:∀env,kI prog 111 ⟨B3++[X,Y,Z],[]⟩ [] [] (some (u,env)) (some (.ptr bm 2))=some (.skip,⟨env,⟨B3.set bm (.cells [qu 4 50 S',qu 1 3 R',u] 113)++[X,Y,Z],Bu⟩,[],[]⟩):=λenv=>by
    rw[jt (cs:=cm) (ty:=113) IB.st (show Hp.get ⟨B3++[X,Y,Z],[]⟩ bm=some (.cells cm 113) from(gB S3).trans hb3) (by rw[og];rfl) (by rw[og];rfl) iL (nN _)]
    rw[show u.laid=[u] by rw[og];rfl]
    simp only[S1,Hp.set,sB S3];rw[Co]
   have iu:∀env t,vA env t (some u)=some (u,env):=λ_ _=>by rw[og];rfl
   rw[<- og]
   simp only[qi,ah,zD,zh,zd,za,aB,zu,zk,au,az,qb,zS,bC,aG,ze,qa,cK,zR,z6,dJ,dM,rW,iu,G6]
   obtain⟨B4,Ws⟩:∃B4,B4=B3.set bm (.cells [qu 4 50 S',qu 1 3 R',u] 113):=⟨_,rfl⟩;have S4:B4.length=B3.length:=by rw[Ws,ee]
   have hg4:nth B4 bm=some (.cells [qu 4 50 S',qu 1 3 R',u] 113):=by rw[Ws,zV,FN (by omega)]
   have Nx:∀d,d≠bm->nth B4 d=nth B3 d:=λd hd=>by rw[Ws,zV,Bs (Ne.symm hd),<- zV]
   rw[<- Ws,<- S4];refine qx ?_;have Jb:∀es,qJ prog ⟨B4++[X,Y,Z],es⟩ gl.g 117 (.ptr (B4.length+2) 0)=some (.agg (ql ⟨false,jz cI m.bw.length,jz cI m.bw.length⟩)):=λes=>FG (k:=2) (by rw[<- hZ];rfl)
   simp only[qi,ah,zI,zh,aB,zu,zy,zk,au,qb,zp,zS,bC,bG,zR,z6,dJ,dM,Jb]
   rw[SL (k:=1) (q:=⟨false,cI,cI⟩) (by rw[<- hY];rfl)]
   simp only[az,qb,go_ret,jc,Fx,dM,dJ]
   refine⟨trivial,[.agg (ql ⟨false,jz cI m.bw.length,jz cI m.bw.length⟩)],?_,by rw[hP];rfl,some j,⟨u,(gB (by omega)).trans (hg4.trans (by rw[hSR])),⟨v+1,by rw[og,hN];simp,(gB (by omega)).trans ((Nx j uN).trans (hj3.trans (by rw[hN];simp[dz,V.cells])))⟩,λk hk hn=>?_⟩,.inl rfl,?_⟩
   ·simp only[ja,zR,z6];rw[FG (k:=1) (p:=⟨false,jz cI m.bw.length,jz cI m.bw.length⟩) rfl];simp[aT]
   ·cases hk;omega
   ·exact⟨by simp only[bY];omega,λd hd uX=>(gB (by rw[S4,De,JU];exact hd)).trans ((Nx d λe=>uX (.inl e)).trans (ue d (λe=>uX (.inl e)) (λe=>uX (.inr (by rw[e])))))⟩
end
section
variable{gl:Gl}
def qL(op:Int)(k:Nat)(a b:Part)(ns:List (Nat->Bool)):Part×List (Nat->Bool) :=
 if k=0 then (b,ns)
 else if op=6 then (⟨a.null || b.null,jn a.first b.first,jn a.last b.last⟩,ns)
 else (⟨a.null && b.null,if a.null then jn a.first b.first else a.first,if b.null then jn a.last b.last else b.last⟩,iF b.first (jo a.last 19) ns)
def zj2{bs ls:List br}{i:Option Nat}{ns:List (Nat->Bool)}(h:∀j,i=some j->j<bs.length):eW (bs++ls) i ns=eW bs i ns++ls:=by
 cases i with
 | none=>rfl
 | some j =>
  have hj:=h j rfl;simp only[eW,gB hj];cases nth bs j with
  | none=>rfl
  | some x=>cases x<;>simp[sB hj]
def abp:ka prog 115=some true:=by kernel_rfl
def S5:jh prog 115=some 19:=by kernel_rfl
def PF(p:Part):ql p=[.bool p.null]++pv 19 p.first++pv 19 p.last:=rfl
def S6(p:Part):ql p=(.bool p.null::pv 19 p.first)++pv 19 p.last++[]:=by simp[ql]
def zpg(hg:GW gl){n:Nat}(hn:21<=n){B:List br}{z:br}{a b:Part}:Cx.dZ ⟨prog,gl.g,qt prog gl n,gE⟩ 58 [.ptr B.length 1,.ptr (B.length+1) 1] ⟨B++[.cells (ql a) 117,.cells (ql b) 117,z],[]⟩=some (.val (.bz []),⟨B++[.cells (ql ⟨a.null,jn a.first b.first,a.last⟩) 117,.cells (ql b) 117,z],[]⟩):=by
 have h:=zfZ hg (n:=n - 1) (by omega) (bs:=B++[.cells (ql a) 117,.cells (ql b) 117,z]) (es:=[]) (b:=B.length) (b':=B.length+1) (PC.trans (by rw[PF a];rfl)) rfl ((gN (k:=1)).trans (by rw[PF b];rfl)) rfl (by omega)
 rw[show n - 1+1=n by omega,sN0] at h
 exact ji func58 rfl h
def zph(hg:GW gl){n:Nat}(hn:21<=n){B:List br}{z:br}{a b:Part}:Cx.dZ ⟨prog,gl.g,qt prog gl n,gE⟩ 58 [.ptr B.length 20,.ptr (B.length+1) 20] ⟨B++[.cells (ql a) 117,.cells (ql b) 117,z],[]⟩=some (.val (.bz []),⟨B++[.cells (ql ⟨a.null,a.first,jn a.last b.last⟩) 117,.cells (ql b) 117,z],[]⟩):=by
 have h:=zfZ hg (n:=n - 1) (by omega) (bs:=B++[.cells (ql a) 117,.cells (ql b) 117,z]) (es:=[]) (b:=B.length) (b':=B.length+1) (PC.trans (by rw[S6 a];rfl)) (off:=20) (by simp[kw]) ((gN (k:=1)).trans (by rw[S6 b];rfl)) (off':=20) (by simp[kw]) (by omega)
 rw[show n - 1+1=n by omega,sN0] at h
 simp only[oZ] at h;exact ji func58 rfl h
def zk1(hg:GW gl){n:Nat}(hn:1301<=n){bs:List br}{es:bk}{bm:Nat}{a0 a1 c:V}{i:Option Nat}{ns:List (Nat->Bool)}{op:Int}{k:Nat}{a b:Part}{PB:aq}(hk:k<2 ^ 60)
  (hm:nth bs bm=some (.cells [a0,a1,c] PB)) (hu:UL ⟨bs,es⟩ 19 115 c i (ns.map (pv 19))) (eL:∀k∈jo a.last 19,k<ns.length) :
  qt prog gl (n+1) 94 [.ptr bm 0,.int .i64 op,.int .i64 k,.agg (ql a),.agg (ql b)] ⟨bs,es⟩=some (.ret (.agg (ql (qL op k a b ns).1)),⟨eW bs i (qL op k a b ns).2,es⟩):=by
 have bD:bm<bs.length:=wg (H:=⟨bs,es⟩) hm
 suffices d_:(go ⟨prog,gl,qt prog gl n,gE⟩ n (Fx prog f94.results.toList λw H1=>w=.agg (ql (qL op k a b ns).1)/\∃ls,H1=⟨eW bs i (qL op k a b ns).2++ls,[]⟩) [.c (f94.body.getD .skip)] .normal ⟨[.ptr bm 0,.int .i64 op,.int .i64 k,.agg (ql a),.agg (ql b)]++List.replicate 52 (.bz []),⟨bs,[]⟩,[],[]⟩) by
  obtain⟨w,H1,h0,rfl,ls,rfl⟩:=jZ (gl:=gl) (f:=94) (bs:=bs) (es:=es) (args:=[.ptr bm 0,.int .i64 op,.int .i64 k,.agg (ql a),.agg (ql b)]) (n:=n) (hg.hk _ _ (by decide)) (λH=>hg.iA _ _ _ _) func94 rfl (by rw[hg.uq];exact d_)
  rw[h0];have:=kg (bs:=eW bs i (qL op k a b ns).2) (ls:=ls) (es:=es) (t:=(V.agg (ql (qL op k a b ns).1)).top) (by simp[V.top,xB])
  rw[xA] at this;rw[this]
 have oT:∀p:Part,fH (V.agg (ql p))=true:=λ_=>rfl;simp only[f94,t_,zD];refine qx ?_
 simp only[qi,ah,zD,zx,qf,zl,zu,zy,au,qb,z9,bY,bq,List.length_nil,cK,Nat.reduceAdd,b_,cF,cq,zR,z6,dJ,dM,wn (oT a),wn (oT b),Ns,jQ (oT ⟨false,cI,cI⟩),V.laid,V.cells,vd,List.replicate]
 refine qx ?_
 simp only[qi,ah,zD,zw,zA,zq,aB,zu,aH,zo,zk,zH,au,qb,zg,zf,zJ,zU,zR,z6,dJ,dM,yq]
 have hL0:∀(B ls:List br)(p:Part) es,qJ prog ⟨B++.cells (ql p) 117::ls,es⟩ gl.g 117 (.ptr B.length 0)=some (.agg (ql p)):=λB ls p es=>FG (k:=0) rfl;have Jb:∀(B ls:List br) x (p:Part) es,qJ prog ⟨B++x::.cells (ql p) 117::ls,es⟩ gl.g 117 (.ptr (B.length+1) 0)=some (.agg (ql p)):=λB ls x p es=>FG (k:=1) rfl
 have hN0:∀(B ls:List br)(p:Part) es,qJ prog ⟨B++.cells (ql p) 117::ls,es⟩ gl.g 4 (.ptr B.length 0)=some (.bool p.null):=λB ls p es=>zpb PD rfl rfl;have PG:∀(B ls:List br) x (p:Part) es,qJ prog ⟨B++x::.cells (ql p) 117::ls,es⟩ gl.g 4 (.ptr (B.length+1) 0)=some (.bool p.null):=λB ls x p es=>zr7 (k:=1) PD rfl rfl
 have S7:∀(B:List br) x y (p q:Part) es env,kI prog 117 ⟨B++[x,y,.cells (ql q) 117],es⟩ [] [] (some (.agg (ql p),env)) (some (.ptr (B.length+2) 0))=some (.skip,⟨env,⟨B++[x,y,.cells (ql p) 117],es⟩,[],[]⟩):=λB x y p q es env=>SL (k:=2) rfl
 have S8:∀(B ls:List br)(p:Part) es env v,kI prog 4 ⟨B++.cells (ql p) 117::ls,es⟩ [] [] (some (.bool v,env)) (some (.ptr B.length 0))=some (.skip,⟨env,⟨B++.cells (ql ⟨v,p.first,p.last⟩) 117::ls,es⟩,[],[]⟩):=λB ls p es env v=>by
  rw[zpa (cs:=ql p) (ty:=117) sz4 rfl rfl rfl (by rw[jO];decide) y9 rfl]
  rfl
 have pJ:∀(B:List br) x y (p:Part) es (env:aA),nth env 10=some (.ptr (B.length+2) 0)->ja prog ⟨B++[x,y,.cells (ql p) 117],es⟩ env [.cell 10 117]=some [.agg (ql p)]:=λB x y p es env he=>by
  simp only[ja,he];rw[FG (k:=2) rfl];simp[aT]
 by_cases IC:k=0
 ·subst IC;refine .inl ⟨rfl,?_⟩;refine qx ?_
  simp only[qi,ah,zI,zh,aB,zu,zy,zk,au,az,qb,zp,zS,bC,bG,zR,z6,dJ,dM,Jb,S7,go_ret]
  simp only[jc,Sm,zdT,Fx,show qL op 0 a b ns=(b,ns) from if_pos rfl,Wn hu]
  exact⟨trivial,[.agg (ql b)],pJ _ _ _ _ _ _ rfl,rfl,_,rfl⟩
 ·refine .inr ⟨by simpa using IC,?_⟩
  refine qx ?_
  simp only[qi,ah,zD,aC,qm,zw,zA,zq,aB,zu,aH,zo,zk,zH,au,qb,zg,zf,zJ,zU,zR,z6,dJ,dM,yq]
  obtain⟨an,af,al⟩:=a;obtain⟨bn,bf,bl⟩:=b
  by_cases h6:op=6
  ·subst h6;refine .inl ⟨rfl,?_⟩;refine qx ?_
   simp only[qi,zw,zI,za,aB,zk,au,qb,zf,zS,bC,bG,ze,qa,cL,zR,z6,dJ,dM,iG,hN0]
   have hJ:qL 6 k ⟨an,af,al⟩ ⟨bn,bf,bl⟩ ns=(⟨an || bn,jn af bf,jn al bl⟩,ns):=by rw[qL,if_neg IC,if_pos rfl]
   rcases an with _|_
   all_goals
    simp only[K9,wC,zR,z6,bG,yZ,ij,iq,Lb,Lc]
    simp only[qi,ah,zD,zI,zh,zZ,za,aB,zu,aH,zo,zk,au,qb,zf,zS,bC,ze,qa,cL,z7,zR,z6,dJ,dM,iG]
    simp only[K9,wC,zR,z6,bG,yZ,ij,iq,Lb,Lc]
    try simp only[qi,ah,zD,zI,zh,zZ,za,aB,zu,aH,zo,zk,au,az,qb,zf,zS,bC,bG,ze,qa,cL,z8,zR,z6,dJ,dM,iG,PG,S8]
    refine qx ?_
    simp only[qi,ah,zD,za,zW,aL,qd,aB,zk,au,qb,zS,bC,ze,qa,zi,qp,bW,cM,cK,zR,z6,dJ,dM,oU,zpg hg (show 21<=n by omega)]
    refine qx ?_
    simp only[qi,ah,zD,za,zW,aL,qd,aB,zk,au,qb,zS,bC,ze,qa,zi,qp,bW,cM,cK,zR,z6,dJ,dM,oV,zph hg (show 21<=n by omega)]
    refine qx ?_
    simp only[qi,ah,zI,zh,aB,zu,zy,zk,au,az,qb,zp,zS,bC,bG,zR,z6,dJ,dM,hL0,S7]
    simp only[go_ret,jc,Sm,zdT,Fx,hJ,Wn hu]
    exact⟨trivial,_,pJ _ _ _ _ _ _ rfl,rfl,_,rfl⟩
  ·refine .inr ⟨by simpa using h6,?_⟩
   have hJ:qL op k ⟨an,af,al⟩ ⟨bn,bf,bl⟩ ns=(⟨an && bn,if an then jn af bf else af,if bn then jn al bl else bl⟩,iF bf (jo al 19) ns):=by rw[qL,if_neg IC,if_neg h6]
   have G7:∀j,i=some j->j<bs.length:=λj hj=>by subst hj;exact hu.lt
   have JW:Cx.dZ ⟨prog,gl.g,qt prog gl n,gE⟩ 57 [.ptr bm 0,.ptr bs.length 20,.ptr (bs.length+1) 1] ⟨bs++[br.cells (ql ⟨an,af,al⟩) 117,.cells (ql ⟨bn,bf,bl⟩) 117,.cells (ql ⟨false,cI,cI⟩) 117],[]⟩=some (.val (.bz []),⟨eW bs i (iF bf (jo al 19) ns)++[br.cells (ql ⟨an,af,al⟩) 117,.cells (ql ⟨bn,bf,bl⟩) 117,.cells (ql ⟨false,cI,cI⟩) 117],[]⟩):=by
    have h:=zbq hg (n:=n - 1) (by omega) (bs:=bs++[br.cells (ql ⟨an,af,al⟩) 117,.cells (ql ⟨bn,bf,bl⟩) 117,.cells (ql ⟨false,cI,cI⟩) 117]) (es:=[]) (bm:=bm) (bl:=bs.length) (bf:=bs.length+1) (ns:=ns) (i:=i) ((gB bD).trans hm) (hu.frame λj hj=>gB (G7 j hj)) (PC.trans (by rw[S6 ⟨an,af,al⟩];rfl)) (ol:=20) (by simp[kw]) ((gN (k:=1)).trans (by rw[PF ⟨bn,bf,bl⟩];rfl)) (ob:=1) rfl eL
    rw[show n - 1+1=n by omega,zj2 G7] at h
    exact ji func57 rfl h
   refine qx ?_
   simp only[qi,ah,zD,zw,za,zW,aL,qd,aB,zk,au,qb,zS,bC,ze,qa,zi,qp,bW,cM,cK,zR,z6,dJ,dM,oU,oV,JW]
   obtain⟨B,hB⟩:∃B,B=eW bs i (iF bf (jo al 19) ns):=⟨_,rfl⟩;have Wq:B.length=bs.length:=by rw[hB,xA]
   rw[<- hB,<- Wq];refine qx ?_
   simp only[qi,ah,zD,aC,zI,za,aB,zk,au,qb,zf,zS,bC,bG,ze,qa,cL,zJ,zU,zR,z6,dJ,dM,iG,hN0]
   have h60:∀(B ls:List br) x (p:Part) es,qJ prog ⟨B++x::.cells (ql p) 117::ls,es⟩ gl.g 115 (.ptr (B.length+1) 20)=some (.agg (pv 19 p.last)):=λB ls x p es=>by
    rw[zsM (k:=1) abp S5 rfl (by rw[jO];decide),znn]
   have abr:∀(B ls:List br)(p:Part) l es env,kI prog 115 ⟨B++.cells (ql p) 117::ls,es⟩ [] [] (some (.agg (pv 19 l),env)) (some (.ptr B.length 20))=some (.skip,⟨env,⟨B++.cells (ql ⟨p.null,p.first,l⟩) 117::ls,es⟩,[],[]⟩):=λB ls p l es env=>by
    rw[zpa (cs:=ql p) (ty:=117) S5 rfl rfl (by simp[V.laid,kw]) (by rw[jO];decide) y9 zr9]
    simp only[V.laid,zpc,zpe,dJ]
   cases an
   all_goals
    first
     |refine .inl ⟨rfl,?_⟩
      refine qx ?_
      simp only[qi,ah,zD,za,zW,aL,qd,aB,zk,au,qb,zS,bC,ze,qa,zi,qp,bW,cM,cK,zR,z6,dJ,dM,oU,zpg hg (show 21<=n by omega)]
     |refine .inr ⟨rfl,?_⟩
    refine qx ?_
    simp only[qi,ah,zI,za,aB,zk,au,qb,zf,zS,bC,bG,ze,qa,cL,zJ,zU,zR,z6,dJ,dM,iG,PG]
   all_goals cases bn
   all_goals
    first
     |refine .inl ⟨rfl,?_⟩
      refine qx ?_
      simp only[qi,ah,zD,za,zW,aL,qd,aB,zk,au,qb,zS,bC,ze,qa,zi,qp,bW,cM,cK,zR,z6,dJ,dM,oV,zph hg (show 21<=n by omega)]
     |refine .inr ⟨rfl,?_⟩
      refine qx ?_
      simp only[qi,ah,zD,zI,zh,za,aB,zu,zy,zk,au,az,qb,zp,zS,bC,bG,ze,qa,cK,zR,z6,dJ,dM,oV,h60,abr]
    refine qx ?_
    simp only[qi,zw,zI,za,aB,zk,au,qb,zf,zS,bC,bG,ze,qa,cL,zR,z6,dJ,dM,iG,hN0]
    simp only[K9,wC,zR,z6,bG,yZ,ia,ig,Lb,Lc]
    simp only[qi,ah,zD,zI,zh,zZ,za,aB,zu,aH,zo,zk,au,qb,zf,zS,bC,ze,qa,cL,z8,zR,z6,dJ,dM,iG]
    simp only[K9,wC,zR,z6,bG,yZ,ia,ig,Lb,Lc]
    try simp only[qi,ah,zD,zI,zh,zZ,za,aB,zu,aH,zo,zk,au,az,qb,zf,zS,bC,bG,ze,qa,cL,z7,zR,z6,dJ,dM,iG,PG,S8]
    refine qx ?_
    simp only[qi,ah,zI,zh,aB,zu,zy,zk,au,az,qb,zp,zS,bC,bG,zR,z6,dJ,dM,hL0,S7]
    simp only[go_ret,jc,Fx,hJ,<- hB]
    exact⟨trivial,_,pJ _ _ _ _ _ _ rfl,rfl,_,rfl⟩
end
section
variable{gl:Gl}
def yO(mn mx:Int)(p:Part)(ns:List (Nat->Bool)):Part×List (Nat->Bool) :=
 (⟨p.null || mn == 0,p.first,p.last⟩,if mx<0 then iF p.first (jo p.last 19) ns else ns)
def G8:jD prog 53 4=some 7:=by kernel_rfl
def Ny:jD prog 53 5=some 8:=by kernel_rfl
def zif(hg:GW gl){n:Nat}(hn:1301<=n){bs:List br}{es:bk}{bm:Nat}{a0 a1 c:V}{i:Option Nat}{ns:List (Nat->Bool)}{op pl s0 s1 s2 s3 mn mx:Int}{text:bR}{nl:Bool}{args:List E}{p:Part}{PB:aq}
  (hm:nth bs bm=some (.cells [a0,a1,c] PB)) (hu:UL ⟨bs,es⟩ 19 115 c i (ns.map (pv 19))) (eL:∀k∈jo p.last 19,k<ns.length) :
  qt prog gl (n+1) 95 [.ptr bm 0,enc (.mk op pl s0 s1 s2 s3 text mn mx nl args),.agg (ql p)] ⟨bs,es⟩=some (.ret (.agg (ql (yO mn mx p ns).1)),⟨eW bs i (yO mn mx p ns).2,es⟩):=by
 have bD:bm<bs.length:=wg (H:=⟨bs,es⟩) hm
 suffices d_:(go ⟨prog,gl,qt prog gl n,gE⟩ n (Fx prog f95.results.toList λw H1=>w=.agg (ql (yO mn mx p ns).1)/\∃ls,H1=⟨eW bs i (yO mn mx p ns).2++ls,[]⟩) [.c (f95.body.getD .skip)] .normal ⟨[.ptr bm 0,enc (.mk op pl s0 s1 s2 s3 text mn mx nl args),.agg (ql p)]++List.replicate 20 (.bz []),⟨bs,[]⟩,[],[]⟩) by
  obtain⟨w,H1,h0,rfl,ls,rfl⟩:=jZ (gl:=gl) (f:=95) (bs:=bs) (es:=es) (args:=[.ptr bm 0,enc (.mk op pl s0 s1 s2 s3 text mn mx nl args),.agg (ql p)]) (n:=n) (hg.hk _ _ (by decide)) (λH=>hg.iA _ _ _ _) func95 rfl (by rw[hg.uq];exact d_)
  rw[h0];have:=kg (bs:=eW bs i (yO mn mx p ns).2) (ls:=ls) (es:=es) (t:=(V.agg (ql (yO mn mx p ns).1)).top) (by simp[V.top,xB])
  rw[xA] at this;rw[this]
 have oT:∀p:Part,fH (V.agg (ql p))=true:=λ_=>rfl;have Ll:fH (enc (.mk op pl s0 s1 s2 s3 text mn mx nl args))=true:=rfl;simp only[f95,t_,zD];refine qx ?_;simp only[enc] at Ll ⊢
 simp only[qi,ah,zD,qf,zl,zu,zy,au,qb,zg,zr,bW,cM,z9,bY,bq,List.length_nil,cK,Nat.reduceAdd,b_,cF,cq,zR,z6,dJ,dM,wn Ll,wn (oT p),Ns,jQ (oT ⟨false,cI,cI⟩),V.laid,V.cells,vd,jW,List.replicate]
 generalize hX:br.cells [V.int IntKind.i64 op,V.int IntKind.i64 pl,V.int IntKind.u64 s0,V.int IntKind.u64 s1,V.int IntKind.u64 s2,V.int IntKind.u64 s3,V.str text,V.int IntKind.i64 mn,V.int IntKind.i64 mx,yH nl (fy args)] 53=X;have RJ:∀(B ls:List br) es,qJ prog ⟨B++X::ls,es⟩ gl.g 3 (.ptr B.length 8)=some (.int .i64 mx):=λB ls es=>zpb PA (by rw[<- hX];rfl) rfl
 have hmn:∀(B ls:List br) es,qJ prog ⟨B++X::ls,es⟩ gl.g 3 (.ptr B.length 7)=some (.int .i64 mn):=λB ls es=>zpb PA (by rw[<- hX];rfl) rfl
 have Jb:∀(B ls:List br) x (p:Part) es,qJ prog ⟨B++x::.cells (ql p) 117::ls,es⟩ gl.g 117 (.ptr (B.length+1) 0)=some (.agg (ql p)):=λB ls x p es=>FG (k:=1) rfl;have PG:∀(B ls:List br) x (p:Part) es,qJ prog ⟨B++x::.cells (ql p) 117::ls,es⟩ gl.g 4 (.ptr (B.length+1) 0)=some (.bool p.null):=λB ls x p es=>zr7 (k:=1) PD rfl rfl
 have S7:∀(B:List br) x y (p q:Part) es env,kI prog 117 ⟨B++[x,y,.cells (ql q) 117],es⟩ [] [] (some (.agg (ql p),env)) (some (.ptr (B.length+2) 0))=some (.skip,⟨env,⟨B++[x,y,.cells (ql p) 117],es⟩,[],[]⟩):=λB x y p q es env=>SL (k:=2) rfl
 have abt:∀(B ls:List br) x (p:Part) es env v,kI prog 4 ⟨B++x::.cells (ql p) 117::ls,es⟩ [] [] (some (.bool v,env)) (some (.ptr (B.length+1) 0))=some (.skip,⟨env,⟨B++x::.cells (ql ⟨v,p.first,p.last⟩) 117::ls,es⟩,[],[]⟩):=λB ls x p es env v=>by
  rw[Wo (k:=1) (cs:=ql p) (ty:=117) sz4 rfl rfl rfl (by rw[jO];decide) y9 rfl]
  rfl
 have pJ:∀(B:List br) x y (p:Part) es (env:aA),nth env 6=some (.ptr (B.length+2) 0)->ja prog ⟨B++[x,y,.cells (ql p) 117],es⟩ env [.cell 6 117]=some [.agg (ql p)]:=λB x y p es env he=>by
  simp only[ja,he];rw[FG (k:=2) rfl];simp[aT]
 refine qx ?_
 simp only[qi,ah,zD,aC,zI,zA,za,aB,aH,zk,au,qb,zg,zf,zS,bC,bG,ze,qa,cK,zJ,zU,zR,z6,dJ,dM,Ny,RJ,vU]
 have G7:∀j,i=some j->j<bs.length:=λj hj=>by subst hj;exact hu.lt
 obtain⟨pn,pf,pl⟩:=p;have JW:Cx.dZ ⟨prog,gl.g,qt prog gl n,gE⟩ 57 [.ptr bm 0,.ptr (bs.length+1) 20,.ptr (bs.length+1) 1] ⟨bs++[X,.cells (ql ⟨pn,pf,pl⟩) 117,.cells (ql ⟨false,cI,cI⟩) 117],[]⟩=some (.val (.bz []),⟨eW bs i (iF pf (jo pl 19) ns)++[X,.cells (ql ⟨pn,pf,pl⟩) 117,.cells (ql ⟨false,cI,cI⟩) 117],[]⟩):=by
  have h:=zbq hg (n:=n - 1) (by omega) (bs:=bs++[X,.cells (ql ⟨pn,pf,pl⟩) 117,.cells (ql ⟨false,cI,cI⟩) 117]) (es:=[]) (bm:=bm) (bl:=bs.length+1) (bf:=bs.length+1) (ns:=ns) (i:=i) ((gB bD).trans hm) (hu.frame λj hj=>gB (G7 j hj)) ((gN (k:=1)).trans (by rw[S6 ⟨pn,pf,pl⟩];rfl)) (ol:=20) (by simp[kw]) ((gN (k:=1)).trans (by rw[PF ⟨pn,pf,pl⟩];rfl)) (ob:=1) rfl eL
  rw[show n - 1+1=n by omega,zj2 G7] at h
  exact ji func57 rfl h
 obtain⟨ns',CH⟩:∃ns',ns'=(yO mn mx ⟨pn,pf,pl⟩ ns).2:=⟨_,rfl⟩;rw[<- CH];obtain⟨B,hB⟩:∃B,B=eW bs i ns':=⟨_,rfl⟩;have Wq:B.length=bs.length:=by rw[hB,xA]
 have hP:(yO mn mx ⟨pn,pf,pl⟩ ns).1=⟨pn || mn == 0,pf,pl⟩:=rfl
 rcases Classical.em (mx<0) with h|h
 all_goals
  first
   |refine .inl ⟨by simpa using h,?_⟩
    refine qx ?_;have:ns'=iF pf (jo pl 19) ns:=by rw[CH];exact if_pos h
    rw[<- this] at JW
    simp only[qi,ah,zD,zw,za,zW,aL,qd,aB,zk,au,qb,zS,bC,ze,qa,zi,qp,bW,cM,cK,zR,z6,dJ,dM,oU,oV,JW,<- hB]
    rw[<- Wq]
   |refine .inr ⟨by simpa using h,?_⟩
    have:ns'=ns:=by rw[CH];exact if_neg h
    have hBb:B=bs:=by rw[hB,this];exact Wn hu
    rw[<- hB,<- hBb]
  refine qx ?_
  simp only[qi,zw,zI,za,aB,zk,au,qb,zf,zS,bC,bG,ze,qa,cL,zR,z6,dJ,dM,iG,PG]
  cases pn
 all_goals
  simp only[K9,wC,zR,z6,bG,yZ,ij,iq,Lb,Lc]
  try simp only[qi,zI,zA,zZ,za,aB,aH,zk,au,qb,zf,zS,bC,ze,qa,cK,z7,zR,z6,dJ,dM,G8]
  try simp only[K9,wC,zR,z6,bG,yZ,ij,iq,Lb,Lc]
  try simp only[zI,aB,zk,au,qb,zg,zS,bC,bG,zR,z6,dJ,dM,hmn]
  try simp only[K9,wC,zR,z6,bG,yZ,iq,Lb]
  try simp only[qi,ah,zD,zh,zA,zZ,za,aB,zu,aH,zo,zk,au,az,qb,zg,zf,zS,bC,ze,qa,cL,z8,zR,z6,dJ,dM,yq,iG,abt]
  refine qx ?_
  simp only[qi,ah,zI,zh,aB,zu,zy,zk,au,az,qb,zp,zS,bC,bG,zR,z6,dJ,dM,Jb,S7]
  simp only[go_ret,jc,Fx,hP]
  exact⟨trivial,_,pJ _ _ _ _ _ _ rfl,rfl,_,rfl⟩
def u84:prog.underlying 149=some (.slice 157):=Lh.u
def zno(hg:GW gl){n:Nat}{bs:List br}{es:bk}{b:Nat}{c:V}{ty:aq}{i:Option Nat}{xs:List aA}(hb:nth bs b=some (.cells [c] ty))(hu:UL ⟨bs,es⟩ 11 157 c i xs) :
  qt prog gl (n+1) 89 [.ptr b 0] ⟨bs,es⟩=some (.ret (.bool xs.isEmpty),⟨bs,es⟩):=by
 suffices d_:(go ⟨prog,gl,qt prog gl n,gE⟩ n (Fx prog f89.results.toList λw H1=>w=.bool xs.isEmpty/\H1=⟨bs,[]⟩) [.c (f89.body.getD .skip)] .normal ⟨[.ptr b 0]++List.replicate 8 (.bz []),⟨bs,[]⟩,[],[]⟩) by
  obtain⟨w,H1,h0,rfl,rfl⟩:=jZ (gl:=gl) (f:=89) (bs:=bs) (es:=es) (args:=[.ptr b 0]) (n:=n) (hg.hk _ _ (by decide)) (λH=>hg.iA _ _ _ _) func89 rfl (by rw[hg.uq];exact d_)
  rw[h0];have:=kg (bs:=bs) (ls:=[]) (es:=es) (t:=(V.bool xs.isEmpty).top) (ga _);rw[oZ] at this;rw[this]
 have lR:qJ prog ⟨bs,[]⟩ gl.g 149 (.ptr b 0)=some c:=jy C7 hb rfl;have iL:aT c=c/\kU prog ⟨bs,[]⟩ 149 c=some (xs.length:Int):=by
  cases i with
  | none=>obtain⟨rfl,rfl⟩:=hu;exact⟨rfl,zg9 u84⟩
  | some j=>obtain⟨v,rfl,_⟩:=hu;exact⟨rfl,Pw u84⟩
 have he:((xs.length:Int) == 0)=xs.isEmpty:=by cases xs<;>simp;omega
 simp only[f89,t_,zD];refine qx ?_
 simp only[qi,ah,zD,zq,zj,aH,zH,au,qb,bG,cF,cq,dJ,dM,List.replicate]
 refine qx ?_
 simp only[qi,ah,zw,zI,zA,zq,zd,za,qc,aB,zu,aH,zo,zk,zH,au,qb,zg,zS,bC,bG,aG,ze,qa,cL,zR,z6,dJ,dM,C6,lR,iL.1,iL.2,yq,he]
 simp only[go_ret,jc,Fx]
 exact⟨trivial,[.bool xs.isEmpty],rfl,rfl,trivial⟩
end
section
variable{gl:Gl}
def Wt{P:aM}(iA:∀n f args H,gl.iA n f args H=none){n:Nat}{f:FuncId}{args:aA}{H H':Hp}{o:Out}(h:qt P gl n f args H=some (o,H')):∀e∈H.aW,e∈H'.aW:=by
 intro e he;obtain⟨bs,es⟩:=H;have iX:∀(t:Nat)(H1:Hp),e∈(jl bs.length es t H1).aW:=λt H1=>by
  unfold jl;split<;>exact CA _ he
 cases n with
 | zero=>simp[qt] at h
 | succ n =>
  simp only[qt,jr,fj,iA] at h;split at h
  ·simp only[aR,bS] at h;obtain⟨_,rfl⟩:=h;exact he
  ·split at h<;>try (cases h;done)
   split at h<;>try (cases h;done)
   split at h<;>try (cases h;done)
   split at h<;>try (cases h;done)
   split at h<;>try (cases h;done)
   ·simp only[wy,aR,bS] at h;rw[<- h.2];exact iX _ _
   ·split at h<;>try (cases h;done)
    simp only[qd,wy,aR,bS] at h;rw[<- h.2];exact iX _ _
def bQ:E->aA
 | .mk op pl s0 s1 s2 s3 text mn mx nl args=>[.int .i64 op,.int .i64 pl,.int .u64 s0,.int .u64 s1,.int .u64 s2,.int .u64 s3,.str text,.int .i64 mn,.int .i64 mx,yH nl (fy args)]
def wv(e:E):enc e=.agg (bQ e):=by cases e;rfl
def jS(e:E):(bQ e).length=10:=by cases e;rfl
def xC(e:E):(bQ e).map aT=bQ e:=by cases e;simp[bQ,jW,zg,zr]
def yJ(e:E):aI (bQ e)=0:=by have:=l7 e;rwa [wv] at this
def zcu(e:E):(bQ e).all (λc=>!(locked c))=true:=by
 obtain⟨op,pl,s0,s1,s2,s3,text,mn,mx,nl,args⟩:=e;rcases vv nl (fy args) with h|⟨_,h⟩<;>simp[bQ,h,locked]
def sO(f:E×Nat):aA:=bQ f.1++[.int .i64 (f.2:Int)]
def PI(f:E×Nat):(sO f).length=11:=by simp[sO,jS]
def zig(f:E×Nat):(sO f).map aT=sO f:=by simp[sO,xC,zg]
def zj3(f:E×Nat):aI (sO f)=0:=ko (yJ _) rfl
def Kp(N bm:Nat)(H H':Hp):Prop:=∀d cs ty,d≠bm->d≠N+2->d≠N+3->H.get d=some (.cells cs ty)->H'.get d=some (.cells cs ty)
def Kp.refl{N bm:Nat}{H:Hp}:Kp N bm H H:=λ_ _ _ _ _ _ h=>h
def Kp.trans{N bm:Nat}{A B C:Hp}(h:Kp N bm A B)(k:Kp N bm B C):Kp N bm A C:=λd cs ty h1 h2 h3 h4=>k d cs ty h1 h2 h3 (h d cs ty h1 h2 h3 h4)
structure WS(bs:List br)(bm:Nat)(i0:Option Nat)(H:Hp)(S:List (E×Nat))(ps:List Part)(m:Mk):Prop where
 len:bs.length+4<=H.aj.length
 lt:bm<bs.length
 op:∃c i,H.get (bs.length+2)=some (.cells [c] 151)/\UL H 11 157 c i (S.reverse.map sO)/\∀j,i=some j->bs.length<=j
 dn:∃c i,H.get (bs.length+3)=some (.cells [c] 154)/\UL H 39 117 c i (ps.reverse.map ql)/\∀j,i=some j->bs.length<=j
 Bm:∃i,MK bs.length H bm m i/\Lj bs.length i0 i
 fr:∀d,d<bs.length->d≠bm->i0≠some d->H.get d=nth bs d
def Nz{H:Hp}{sz:Nat}{e:aq}{c:V}{i:Option Nat}{xs:List aA}(h:UL H sz e c i xs){d:Nat}{cs:aA}{ty:aq}(hd:H.get d=some (.cells cs ty)):i≠some d:=by
 intro e;subst e;obtain⟨v,_,h2⟩:=h;rw[hd] at h2;cases h2
def WS.opened{bs:List br}{bm:Nat}{i0:Option Nat}{H H':Hp}{S S':List (E×Nat)}{ps:List Part}{m:Mk}(h:WS bs bm i0 H S ps m)
  (Co:∀e∈H.aW,e∈H'.aW) {co c':V} {io i':Option Nat} (a1:H.get (bs.length+2)=some (.cells [co] 151)) (a2:UL H 11 157 co io (S.reverse.map sO)) (a3:∀j,io=some j->bs.length<=j)
  (h1:H'.get (bs.length+2)=some (.cells [c'] 151)) (h2:UL H' 11 157 c' i' (S'.reverse.map sO))
  (hi:∀j,i'=some j->io=some j\/H.aj.length<=j) (hf:rT H H' (λd=>d=bs.length+2\/io=some d)):WS bs bm i0 H' S' ps m/\Kp bs.length bm H H':=by
 obtain⟨cd,id,b1,b2,b3⟩:=h.dn;obtain⟨im,⟨cm,k1,k2,k3⟩,k4⟩:=h.Bm;have hlen:=h.len;have DO:∀d,io=some d->bs.length<=d/\∃v cs,H.get d=some (.ul v 11 cs 157):=λd hd=>by
  subst hd;obtain⟨v,_,g⟩:=a2;exact⟨a3 d rfl,v,_,g⟩
 have G9:∀d cs ty,d≠bs.length+2->H.get d=some (.cells cs ty)->H'.get d=some (.cells cs ty):=λd cs ty hd hg=>hf.some hg λhc=>by
  rcases hc with rfl|hc
  ·exact hd rfl
  ·obtain⟨_,v,cs',g⟩:=DO d hc;rw[hg] at g;cases g
 have S9:∀d v sz cs e,e≠157->H.get d=some (.ul v sz cs e)->H'.get d=some (.ul v sz cs e):=λd v sz cs e he hg=>hf.some hg λhc=>by
  rcases hc with rfl|hc
  ·rw[a1] at hg;cases hg
  ·obtain⟨_,v',cs',g⟩:=DO d hc;rw[hg] at g;injection g with g;injection g with _ _ _ g;exact he g
 have FH:∀{sz e c i xs},e≠157->UL H sz e c i xs->UL H' sz e c i xs:=λ{sz e c i xs} he hu=>hu.frame λj hj=>by
  subst hj;obtain⟨v,_,g⟩:=hu;rw[g,S9 _ _ _ _ _ he g]
 refine⟨⟨cZ hlen hf.len,h.lt,⟨c',i',h1,h2,λj hj=>?_⟩,⟨cd,id,G9 _ _ _ (by omega) b1,FH (by decide) b2,b3⟩,⟨im,⟨cm,G9 _ _ _ (by have:=h.lt;omega) k1,FH (by decide) k2,λj hj hn=>⟨(k3 j hj hn).1,Co _ (k3 j hj hn).2⟩⟩,k4⟩,λd hd Fw Lm=>?_⟩,λd cs ty _ h2 _ hg=>G9 d cs ty h2 hg⟩
 ·rcases hi j hj with hc|hc
  ·exact(DO j hc).1
  ·omega
 ·rw[<- h.fr d hd Fw Lm];refine hf.get d (by omega) λhc=>?_
  rcases hc with rfl|hc
  ·omega
  ·have:=(DO d hc).1;omega
def WS.S_{bs:List br}{bm:Nat}{i0:Option Nat}{H H':Hp}{S:List (E×Nat)}{ps ps':List Part}{m:Mk}(h:WS bs bm i0 H S ps m)
  (Co:∀e∈H.aW,e∈H'.aW) {co c':V} {io i':Option Nat} (a1:H.get (bs.length+3)=some (.cells [co] 154)) (a2:UL H 39 117 co io (ps.reverse.map ql)) (a3:∀j,io=some j->bs.length<=j)
  (h1:H'.get (bs.length+3)=some (.cells [c'] 154)) (h2:UL H' 39 117 c' i' (ps'.reverse.map ql))
  (hi:∀j,i'=some j->io=some j\/H.aj.length<=j) (hf:rT H H' (λd=>d=bs.length+3\/io=some d)):WS bs bm i0 H' S ps' m/\Kp bs.length bm H H':=by
 obtain⟨cd,id,b1,b2,b3⟩:=h.op;obtain⟨im,⟨cm,k1,k2,k3⟩,k4⟩:=h.Bm;have hlen:=h.len;have DO:∀d,io=some d->bs.length<=d/\∃v cs,H.get d=some (.ul v 39 cs 117):=λd hd=>by
  subst hd;obtain⟨v,_,g⟩:=a2;exact⟨a3 d rfl,v,_,g⟩
 have G9:∀d cs ty,d≠bs.length+3->H.get d=some (.cells cs ty)->H'.get d=some (.cells cs ty):=λd cs ty hd hg=>hf.some hg λhc=>by
  rcases hc with rfl|hc
  ·exact hd rfl
  ·obtain⟨_,v,cs',g⟩:=DO d hc;rw[hg] at g;cases g
 have S9:∀d v sz cs e,e≠117->H.get d=some (.ul v sz cs e)->H'.get d=some (.ul v sz cs e):=λd v sz cs e he hg=>hf.some hg λhc=>by
  rcases hc with rfl|hc
  ·rw[a1] at hg;cases hg
  ·obtain⟨_,v',cs',g⟩:=DO d hc;rw[hg] at g;injection g with g;injection g with _ _ _ g;exact he g
 have FH:∀{sz e c i xs},e≠117->UL H sz e c i xs->UL H' sz e c i xs:=λ{sz e c i xs} he hu=>hu.frame λj hj=>by
  subst hj;obtain⟨v,_,g⟩:=hu;rw[g,S9 _ _ _ _ _ he g]
 refine⟨⟨cZ hlen hf.len,h.lt,⟨cd,id,G9 _ _ _ (by omega) b1,FH (by decide) b2,b3⟩,⟨c',i',h1,h2,λj hj=>?_⟩,⟨im,⟨cm,G9 _ _ _ (by have:=h.lt;omega) k1,FH (by decide) k2,λj hj hn=>⟨(k3 j hj hn).1,Co _ (k3 j hj hn).2⟩⟩,k4⟩,λd hd Fw Lm=>?_⟩,λd cs ty _ _ h3 hg=>G9 d cs ty h3 hg⟩
 ·rcases hi j hj with hc|hc
  ·exact(DO j hc).1
  ·omega
 ·rw[<- h.fr d hd Fw Lm];refine hf.get d (by omega) λhc=>?_
  rcases hc with rfl|hc
  ·omega
  ·have:=(DO d hc).1;omega
def WS.made{bs:List br}{bm:Nat}{i0:Option Nat}{H H':Hp}{S:List (E×Nat)}{ps:List Part}{m m':Mk}(h:WS bs bm i0 H S ps m)
  {i i':Option Nat} (k0:Lj bs.length i0 i) (hm:MK bs.length H bm m i) (IY:MK bs.length H' bm m' i') (hn:Lj H.aj.length i i')
  (hf:rT H H' (λd=>d=bm\/i=some d)):WS bs bm i0 H' S ps m'/\Kp bs.length bm H H':=by
 obtain⟨co,io,a1,a2,a3⟩:=h.op;obtain⟨cd,id,b1,b2,b3⟩:=h.dn;obtain⟨cm,k1,k2,k3⟩:=hm;have hlen:=h.len;have bD:=h.lt;have DO:∀d,i=some d->∃v cs,H.get d=some (.ul v 19 cs 115):=λd hd=>by
  subst hd;obtain⟨v,_,g⟩:=k2;exact⟨v,_,g⟩
 have G9:∀d cs ty,d≠bm->H.get d=some (.cells cs ty)->H'.get d=some (.cells cs ty):=λd cs ty hd hg=>hf.some hg λhc=>by
  rcases hc with rfl|hc
  ·exact hd rfl
  ·obtain⟨v,cs',g⟩:=DO d hc;rw[hg] at g;cases g
 have S9:∀d v sz cs e,e≠115->H.get d=some (.ul v sz cs e)->H'.get d=some (.ul v sz cs e):=λd v sz cs e he hg=>hf.some hg λhc=>by
  rcases hc with rfl|hc
  ·rw[k1] at hg;cases hg
  ·obtain⟨v',cs',g⟩:=DO d hc;rw[hg] at g;injection g with g;injection g with _ _ _ g;exact he g
 have FH:∀{sz e c i xs},e≠115->UL H sz e c i xs->UL H' sz e c i xs:=λ{sz e c i xs} he hu=>hu.frame λj hj=>by
  subst hj;obtain⟨v,_,g⟩:=hu;rw[g,S9 _ _ _ _ _ he g]
 refine⟨⟨cZ hlen hf.len,bD,⟨co,io,G9 _ _ _ (by omega) a1,FH (by decide) a2,a3⟩,⟨cd,id,G9 _ _ _ (by omega) b1,FH (by decide) b2,b3⟩,⟨i',IY,?_⟩,λd hd Fw Lm=>?_⟩,λd cs ty h1 _ _ hg=>G9 d cs ty h1 hg⟩
 ·rcases hn with rfl|⟨rfl,j,rfl,hj⟩
  ·exact k0
  ·rcases k0 with rfl|⟨rfl,j',h1,_⟩
   ·exact .inr ⟨rfl,j,rfl,by omega⟩
   ·cases h1
 ·rw[<- h.fr d hd Fw Lm];refine hf.get d (by omega) λhc=>?_
  rcases hc with rfl|hc
  ·exact Fw rfl
  ·rcases k0 with rfl|⟨rfl,j',h1,h2⟩
   ·exact Lm hc
   ·rw[h1] at hc;cases hc;omega
def WS.push{bs:List br}{bm:Nat}{i0:Option Nat}{H:Hp}{S:List (E×Nat)}{ps:List Part}{m:Mk}(h:WS bs bm i0 H S ps m){x:br}:WS bs bm i0 (H.push x) S ps m/\Kp bs.length bm H (H.push x):=by
 have hf:rT H (H.push x) (λ_=>False):=⟨by rw[j6];omega,λd hd _=>kz hd⟩
 obtain⟨co,io,a1,a2,a3⟩:=h.op;refine h.opened (λe he=>he) a1 a2 a3 (hf.some a1 id) (a2.frame λj hj=>?_) (λj hj=>.inl hj) (hf.mono λ_ _ h=>h.elim);subst hj;exact kz a2.lt
def WS.Df{bs:List br}{bm:Nat}{i0:Option Nat}{H:Hp}{S:List (E×Nat)}{ps:List Part}{m:Mk}(h:WS bs bm i0 H S ps m){b:Nat}{cs cs':aA}{ty ty':aq}(hb:H.get b=some (.cells cs ty))(h0:bs.length<=b)(h2:b≠bs.length+2)(h3:b≠bs.length+3):WS bs bm i0 (H.set b (.cells cs' ty')) S ps m:=by
 obtain⟨co,io,a1,a2,a3⟩:=h.op;obtain⟨cd,id,b1,b2,b3⟩:=h.dn;obtain⟨im,⟨cm,k1,k2,k3⟩,k4⟩:=h.Bm;have bD:=h.lt;have FH:∀{sz e c i xs},UL H sz e c i xs->UL (H.set b (.cells cs' ty')) sz e c i xs:=λ{sz e c i xs} hu=>hu.frame λj hj=>ju λe=>by
  subst hj e;obtain⟨v,_,g⟩:=hu;rw[hb] at g;cases g
 exact⟨by rw[wO];exact h.len,bD,⟨co,io,(ju (Ne.symm h2)).trans a1,FH a2,a3⟩,⟨cd,id,(ju (Ne.symm h3)).trans b1,FH b2,b3⟩,⟨im,⟨cm,(ju (by omega)).trans k1,FH k2,k3⟩,k4⟩,λd hd Fw Lm=>(ju (by omega)).trans (h.fr d hd Fw Lm)⟩
end
section
variable{gl:Gl}
noncomputable abbrev Ln(gl:Gl)(n:Nat):Cx:=⟨prog,gl.g,qt prog gl n,gE⟩
variable{bs:List br}{bm:Nat}{i0:Option Nat}{H:Hp}{S:List (E×Nat)}{ps:List Part}{m:Mk}
def zsa{k:Nat}(h:k<2 ^ 32):kr (k+1) 112=true:=eP (by omega) (by omega)
def zsb{k:Nat}(h:k<2 ^ 32):kr (k+1) 312=true:=eP (by omega) (by omega)
def WS.G_(hg:GW gl){n:Nat}(hn:1<=n)(h:WS bs bm i0 H S ps m)(f:E×Nat)(hr:S.length<2 ^ 32) :
  ∃H',(Ln gl n).dZ 88 [.ptr (bs.length+2) 0,.agg (sO f)] H=some (.val (.bz []),H')/\WS bs bm i0 H' (f::S) ps m/\Kp bs.length bm H H':=by
 obtain⟨co,io,a1,a2,a3⟩:=h.op;obtain⟨H',c',j,h1,h2,h3,h4,h5,h6⟩:=zr5 hg (n:=n - 1) a1 a2 (Nz a2 a1) (PI f) (zig f) (by rw[eF,List.length_reverse];exact zsa hr)
 rw[show n - 1+1=n by omega] at h1
 have:=h.opened (S':=f::S) (Wt hg.iA h1) a1 a2 a3 h2 (by simpa using h3) (λk hk=>by cases hk;exact h5) h6
 exact⟨H',ji func88 rfl h1,this.1,this.2⟩
def WS.abw(hg:GW gl){n:Nat}(hn:1<=n){f:E×Nat}(h:WS bs bm i0 H (f::S) ps m)(hr:S.length<2 ^ 32) :
  ∃H',(Ln gl n).dZ 90 [.ptr (bs.length+2) 0] H=some (.val (.agg (sO f)),H')/\WS bs bm i0 H' S ps m/\Kp bs.length bm H H':=by
 obtain⟨co,io,a1,a2,a3⟩:=h.op;obtain⟨j,rfl⟩:∃j,io=some j:=by
  cases io with
  | none=>exact absurd a2.2 (by simp)
  | some j=>exact⟨j,rfl⟩
 have a2':UL H 11 157 co (some j) (S.reverse.map sO++[sO f]):=by simpa using a2
 obtain⟨H',c',h1,h2,h3,h6⟩:=zsK hg (n:=n - 1) a1 a2' (λe=>Nz a2 a1 (by rw[e])) (PI f) (zig f) (zj3 f) (λy hy=>by obtain⟨z,_,rfl⟩:=ni.1 hy;exact PI z) (by rw[eF,List.length_reverse];omega)
 rw[show n - 1+1=n by omega] at h1
 have:=h.opened (S':=S) (Wt hg.iA h1) a1 a2 a3 h2 h3 (λk hk=>.inl hk) (h6.mono λd _ hd=>by rcases hd with h|h;exact .inl h;exact .inr (by rw[h]))
 exact⟨H',ji func90 rfl h1,this.1,this.2⟩
def WS.D8(hg:GW gl){n:Nat}(hn:1<=n)(h:WS bs bm i0 H S ps m)(p:Part)(hr:ps.length<2 ^ 32) :
  ∃H',(Ln gl n).dZ 91 [.ptr (bs.length+3) 0,.agg (ql p)] H=some (.val (.bz []),H')/\WS bs bm i0 H' S (p::ps) m/\Kp bs.length bm H H':=by
 obtain⟨co,io,a1,a2,a3⟩:=h.dn;obtain⟨H',c',j,h1,h2,h3,h4,h5,h6⟩:=zr6 hg (n:=n - 1) a1 a2 (Nz a2 a1) jO vd (by rw[eF,List.length_reverse];exact zsb hr)
 rw[show n - 1+1=n by omega] at h1
 have:=h.S_ (ps':=p::ps) (Wt hg.iA h1) a1 a2 a3 h2 (by simpa using h3) (λk hk=>by cases hk;exact h5) h6
 exact⟨H',ji func91 rfl h1,this.1,this.2⟩
def WS.JX(hg:GW gl){n:Nat}(hn:1<=n){p:Part}(h:WS bs bm i0 H S (p::ps) m)(hr:ps.length<2 ^ 32) :
  ∃H',(Ln gl n).dZ 93 [.ptr (bs.length+3) 0] H=some (.val (.agg (ql p)),H')/\WS bs bm i0 H' S ps m/\Kp bs.length bm H H':=by
 obtain⟨co,io,a1,a2,a3⟩:=h.dn;obtain⟨j,rfl⟩:∃j,io=some j:=by
  cases io with
  | none=>exact absurd a2.2 (by simp)
  | some j=>exact⟨j,rfl⟩
 have a2':UL H 39 117 co (some j) (ps.reverse.map ql++[ql p]):=by simpa using a2
 obtain⟨H',c',h1,h2,h3,h6⟩:=zsL hg (n:=n - 1) a1 a2' (λe=>Nz a2 a1 (by rw[e])) jO vd xB (λy hy=>by obtain⟨z,_,rfl⟩:=ni.1 hy;exact jO) (by rw[eF,List.length_reverse];omega)
 rw[show n - 1+1=n by omega] at h1
 have:=h.S_ (ps':=ps) (Wt hg.iA h1) a1 a2 a3 h2 h3 (λk hk=>.inl hk) (h6.mono λd _ hd=>by rcases hd with h|h;exact .inl h;exact .inr (by rw[h]))
 exact⟨H',ji func93 rfl h1,this.1,this.2⟩
def WS.emp(hg:GW gl){n:Nat}(hn:1<=n)(h:WS bs bm i0 H S ps m):(Ln gl n).dZ 89 [.ptr (bs.length+2) 0] H=some (.val (.bool S.isEmpty),H):=by
 obtain⟨co,io,a1,a2,a3⟩:=h.op;obtain⟨b,e⟩:=H;have h1:=zno hg (n:=n - 1) (es:=e) a1 a2;rw[show n - 1+1=n by omega] at h1
 have:(S.reverse.map sO).isEmpty=S.isEmpty:=by cases S<;>simp
 rw[this] at h1;exact ji func89 rfl h1
structure Mk.Ok(m:Mk):Prop where
 r:m.rules.length=m.bw.length
 n:m.next.length=m.bw.length
def WS.leaf(hg:GW gl){n:Nat}(hn:2<=n)(h:WS bs bm i0 H S ps m)(dP:m.Ok)(hs:m.bw.length<1216){op pl s0 s1 s2 s3 mn mx r:Int}{text:bR}{nl:Bool}{args:List E} :
  ∃H',(Ln gl n).dZ 92 [.ptr bm 0,enc (.mk op pl s0 s1 s2 s3 text mn mx nl args),.int .i64 r] H=some (.val (.agg (ql (kF op (s0,s1,s2,s3) r m).1)),H')/\WS bs bm i0 H' S ps (kF op (s0,s1,s2,s3) r m).2/\Kp bs.length bm H H':=by
 obtain⟨i,k1,k2⟩:=h.Bm;obtain⟨H',i',h1,h2,h3,h4⟩:=zpf hg (n:=n - 2) (r:=r) (op:=op) (pl:=pl) (s0:=s0) (s1:=s1) (s2:=s2) (s3:=s3) (mn:=mn) (mx:=mx) (text:=text) (nl:=nl) (args:=args) k1 (by have:=h.len;omega) hs (by rw[dP.r];exact hs) (by rw[dP.n];exact hs)
 rw[show n - 2+2=n by omega] at h1
 have:=h.made k2 k1 h2 h3 h4;exact⟨H',ji func92 rfl h1,this.1,this.2⟩
def zf1{bs:List br}{es:bk}{i:Option Nat}{ns:List (Nat->Bool)}{bm:Nat}:rT ⟨bs,es⟩ ⟨eW bs i ns,es⟩ (λd=>d=bm\/i=some d) :=
 ⟨by rw[xA];exact ek _,λd _ hd=>Wk λe=>hd (.inr e)⟩
def MK.eW{bs:List br}{es:bk}{n0 bm:Nat}{m:Mk}{i:Option Nat}(h:MK n0 ⟨bs,es⟩ bm m i){ns:List (Nat->Bool)}(hl:ns.length=m.next.length):MK n0 ⟨eW bs i ns,es⟩ bm { m with next:=ns } i:=by
 obtain⟨c,h1,h2,h3⟩:=h;exact⟨c,(Wk (Wl h2 h1)).trans h1,zl9 h2 hl,h3⟩
def zbs{op:Int}{k:Nat}{a b:Part}{ns:List (Nat->Bool)}:(qL op k a b ns).2.length=ns.length:=by
 unfold qL;split
 ·rfl
 ·split
  ·rfl
  ·simp only[wb]
def zj4{mn mx:Int}{p:Part}{ns:List (Nat->Bool)}:(yO mn mx p ns).2.length=ns.length:=by
 unfold yO;simp only;split
 ·simp only[wb]
 ·rfl
def WS.NA(hg:GW gl){n:Nat}(hn:1302<=n)(h:WS bs bm i0 H S ps m){op:Int}{k:Nat}{a b:Part}(hk:k<2 ^ 60)(eL:∀k∈jo a.last 19,k<m.next.length) :
  ∃H',(Ln gl n).dZ 94 [.ptr bm 0,.int .i64 op,.int .i64 k,.agg (ql a),.agg (ql b)] H=some (.val (.agg (ql (qL op k a b m.next).1)),H')/\WS bs bm i0 H' S ps { m with next:=(qL op k a b m.next).2 }/\Kp bs.length bm H H':=by
 obtain⟨i,k1,k2⟩:=h.Bm;obtain⟨b',e'⟩:=H;obtain⟨c,g1,g2,g3⟩:=k1;have h1:=zk1 hg (n:=n - 1) (by omega) (es:=e') (op:=op) (b:=b) hk g1 g2 eL
 rw[show n - 1+1=n by omega] at h1
 have:=h.made k2 ⟨c,g1,g2,g3⟩ (MK.eW (es:=e') ⟨c,g1,g2,g3⟩ (zbs (op:=op) (k:=k) (a:=a) (b:=b))) (.inl rfl) zf1;exact⟨_,ji func94 rfl h1,this.1,this.2⟩
def WS.He(hg:GW gl){n:Nat}(hn:1302<=n)(h:WS bs bm i0 H S ps m){op pl s0 s1 s2 s3 mn mx:Int}{text:bR}{nl:Bool}{args:List E}{p:Part}(eL:∀k∈jo p.last 19,k<m.next.length) :
  ∃H',(Ln gl n).dZ 95 [.ptr bm 0,enc (.mk op pl s0 s1 s2 s3 text mn mx nl args),.agg (ql p)] H=some (.val (.agg (ql (yO mn mx p m.next).1)),H')/\WS bs bm i0 H' S ps { m with next:=(yO mn mx p m.next).2 }/\Kp bs.length bm H H':=by
 obtain⟨i,k1,k2⟩:=h.Bm;obtain⟨b',e'⟩:=H;obtain⟨c,g1,g2,g3⟩:=k1;have h1:=zif hg (n:=n - 1) (by omega) (es:=e') (op:=op) (pl:=pl) (s0:=s0) (s1:=s1) (s2:=s2) (s3:=s3) (mn:=mn) (mx:=mx) (text:=text) (nl:=nl) (args:=args) g1 g2 eL
 rw[show n - 1+1=n by omega] at h1
 have:=h.made k2 ⟨c,g1,g2,g3⟩ (MK.eW (es:=e') ⟨c,g1,g2,g3⟩ (zj4 (mn:=mn) (mx:=mx) (p:=p))) (.inl rfl) zf1;exact⟨_,ji func95 rfl h1,this.1,this.2⟩
end
section
def p0:Part:=⟨false,cI,cI⟩
def yl(op mn mx:Int)(x:Part×Mk):Part×Mk:=if op=7 then ((yO mn mx x.1 x.2.next).1,{ x.2 with next:=(yO mn mx x.1 x.2.next).2 }) else x
mutual
def gF(r:Int):E->Mk->Part×Mk
 | .mk op _ s0 s1 s2 s3 _ mn mx _ args,m=>match args with
  | []=>kF op (s0,s1,s2,s3) r m
  | a::tl=>yl op mn mx (pX r op 0 p0 (a::tl) m)
def pX(r:Int)(op:Int):Nat->Part->List E->Mk->Part×Mk
 | _,a,[],m=>(a,m)
 | k,a,e::es,m=>pX r op (k+1) (qL op k a (gF r e m).1 (gF r e m).2.next).1 es { (gF r e m).2 with next:=(qL op k a (gF r e m).1 (gF r e m).2.next).2 }
end
def FI(r:Int):E×Nat->List Part->Mk->Option (List Part×Mk)
 | (.mk op _pl s0 s1 s2 s3 _tx _mn _mx _nl [],_d),ps,m=>some ((kF op (s0,s1,s2,s3) r m).1::ps,(kF op (s0,s1,s2,s3) r m).2)
 | (.mk op pl s0 s1 s2 s3 tx mn mx nl (a::tl),0),ps,m=>some ((gF r (.mk op pl s0 s1 s2 s3 tx mn mx nl (a::tl)) m).1::ps,(gF r (.mk op pl s0 s1 s2 s3 tx mn mx nl (a::tl)) m).2)
 | (.mk op _pl _s0 _s1 _s2 _s3 _tx mn mx _nl (a::tl),d+1),b::x::ps,m =>
  some ((yl op mn mx (pX r op (d+1) (qL op d x b m.next).1 ((a::tl).drop (d+1)) { m with next:=(qL op d x b m.next).2 })).1::ps,(yl op mn mx (pX r op (d+1) (qL op d x b m.next).1 ((a::tl).drop (d+1)) { m with next:=(qL op d x b m.next).2 })).2)
 | (.mk _ _ _ _ _ _ _ _ _ _ (_::_),_+1),_,_=>none
def den(r:Int):List (E×Nat)->List Part->Mk->Option (List Part×Mk)
 | [],ps,m=>some (ps,m)
 | f::S,ps,m=>match FI r f ps m with
  | some (ps',m')=>den r S ps' m'
  | none=>none
def Wu{r:Int}{e:E}{ps:List Part}{m:Mk}:FI r (e,0) ps m=some ((gF r e m).1::ps,(gF r e m).2):=by
 obtain⟨op,pl,s0,s1,s2,s3,tx,mn,mx,nl,args⟩:=e;cases args with
 | nil=>simp only[FI,gF]
 | cons a tl=>simp only[FI]
variable{r op pl s0 s1 s2 s3 mn mx:Int}{tx:bR}{nl:Bool}{args:List E}{S:List (E×Nat)}{ps:List Part}{m:Mk}{d:Nat}
def Wv{a:E}{tl:List E}{b x:Part}:FI r (.mk op pl s0 s1 s2 s3 tx mn mx nl (a::tl),d+1) (b::x::ps) m=some ((yl op mn mx (pX r op (d+1) (qL op d x b m.next).1 ((a::tl).drop (d+1)) { m with next:=(qL op d x b m.next).2 })).1::ps,(yl op mn mx (pX r op (d+1) (qL op d x b m.next).1 ((a::tl).drop (d+1)) { m with next:=(qL op d x b m.next).2 })).2):=rfl
def v5{f:E×Nat}{y:List Part×Mk}(h:FI r f ps m=some y):den r (f::S) ps m=den r S y.1 y.2:=by simp only[den,h]
def Ww{a:E}{tl:List E}:gF r (.mk op pl s0 s1 s2 s3 tx mn mx nl (a::tl)) m=yl op mn mx (pX r op 0 p0 (a::tl) m):=by simp only[gF]
def Ta{e:E}{es:List E}{k:Nat}{a:Part}:pX r op k a (e::es) m=pX r op (k+1) (qL op k a (gF r e m).1 (gF r e m).2.next).1 es { (gF r e m).2 with next:=(qL op k a (gF r e m).1 (gF r e m).2.next).2 }:=by simp only[pX]
def zih{k:Nat}{a:Part}:pX r op k a [] m=(a,m):=by simp only[pX]
def Hf:den r ((.mk op pl s0 s1 s2 s3 tx mn mx nl [],d)::S) ps m=den r S ((kF op (s0,s1,s2,s3) r m).1::ps) (kF op (s0,s1,s2,s3) r m).2:=by
 cases d with
 | zero=>exact v5 (y:=(_,_)) (by simp only[FI])
 | succ d=>exact v5 (y:=(_,_)) (by simp only[FI])
def zpi{a:E}{tl:List E}:den r ((.mk op pl s0 s1 s2 s3 tx mn mx nl (a::tl),0)::S) ps m=den r ((a,0)::(.mk op pl s0 s1 s2 s3 tx mn mx nl (a::tl),1)::S) (p0::ps) m:=by
 rw[v5 Wu,v5 Wu,v5 (Wv (d:=0)),Ww,Ta];rfl
def zpj{a:E}{tl:List E}{x b:Part}{c:E}(hc:(a::tl)[d+1]?=some c) :
  den r ((.mk op pl s0 s1 s2 s3 tx mn mx nl (a::tl),d+1)::S) (b::x::ps) m=den r ((c,0)::(.mk op pl s0 s1 s2 s3 tx mn mx nl (a::tl),d+2)::S) ((qL op d x b m.next).1::ps) { m with next:=(qL op d x b m.next).2 }:=by
 obtain⟨bD,mY⟩:=eE.1 hc;have gC:(a::tl).drop (d+1)=c::(a::tl).drop (d+2):=by rw[List.drop_eq_getElem_cons bD,mY]
 rw[v5 Wv,v5 Wu,v5 (Wv (d:=d+1)),gC,Ta]
def zqP{a:E}{tl:List E}{x b:Part}(hd:(a::tl).length<=d+1) :
  den r ((.mk op pl s0 s1 s2 s3 tx mn mx nl (a::tl),d+1)::S) (b::x::ps) m=den r S ((yl op mn mx ((qL op d x b m.next).1,{ m with next:=(qL op d x b m.next).2 })).1::ps) (yl op mn mx ((qL op d x b m.next).1,{ m with next:=(qL op d x b m.next).2 })).2:=by
 rw[v5 Wv,List.drop_eq_nil_of_le hd,zih]
def zcw{q:Int×Int×Int×Int}:m.bw.length<=(kF op q r m).2.bw.length:=by
 unfold kF;split<;>simp
def Tb{x:Part×Mk}:(yl op mn mx x).2.bw=x.2.bw:=by
 unfold yl;split<;>rfl
mutual
def pY:∀(e:E)(m:Mk),m.bw.length<=(gF r e m).2.bw.length
 | .mk op _ s0 s1 s2 s3 _ mn mx _ [],m=>by simp only[gF];exact zcw
 | .mk op _ s0 s1 s2 s3 _ mn mx _ (a::tl),m=>by
  simp only[gF,Tb];exact pZ (a::tl) op 0 p0 m
def pZ:∀(es:List E)(op:Int)(k:Nat)(a:Part)(m:Mk),m.bw.length<=(pX r op k a es m).2.bw.length
 | [],op,k,a,m=>by simp only[pX];exact ek _
 | e::es,op,k,a,m=>by
  simp only[pX];exact cZ (pY e m) (pZ es op (k+1) (qL op k a (gF r e m).1 (gF r e m).2.next).1 { (gF r e m).2 with next:=(qL op k a (gF r e m).1 (gF r e m).2.next).2 })
end
def zpk{f:E×Nat}{ps':List Part}{m':Mk}(h:FI r f ps m=some (ps',m')):m.bw.length<=m'.bw.length:=by
 unfold FI at h;split at h<;>simp only[aR,bS,reduceCtorEq] at h
 ·rw[<- h.2];exact zcw
 ·rw[<- h.2];exact pY _ _
 ·rw[<- h.2,Tb];refine cZ (Nat.le_of_eq ?_) (pZ _ _ _ _ _);rfl
def B8:∀{S:List (E×Nat)}{ps:List Part}{m:Mk}{y:List Part×Mk},den r S ps m=some y->m.bw.length<=y.2.bw.length
 | [],_,_,_,h=>by simp only[den,aR] at h;rw[<- h];exact ek _
 | f::S,ps,m,y,h=>by
  simp only[den] at h;split at h
  next ps' m' he=>exact cZ (zpk he) (B8 h)
  ·cases h
def D9(n:Nat)(p:Part):Prop:=(∀x∈jo p.first 19,x<n)/\(∀x∈jo p.last 19,x<n)
def D9.mono{n n':Nat}{p:Part}(h:D9 n p)(hn:n<=n'):D9 n' p:=⟨λx hx=>oY (h.1 x hx) hn,λx hx=>oY (h.2 x hx) hn⟩
def zpl{n:Nat}{b:Bool}:D9 n ⟨b,cI,cI⟩:=by
 constructor<;>(intro x hx;rw[iU] at hx;simp[cI] at hx)
def Wx{n:Nat}{p q:Nat->Bool}(hp:∀x∈jo p 19,x<n)(hq:∀x∈jo q 19,x<n):∀x∈jo (jn p q) 19,x<n:=by
 intro x hx;rw[iU] at hx;obtain⟨h1,h2⟩:=hx;simp only[jn,mT] at h2;rcases h2 with h|h
 ·exact hp x (iU.2 ⟨h1,h⟩)
 ·exact hq x (iU.2 ⟨h1,h⟩)
def zsc{n k:Nat}(h:k<n):∀x∈jo (jz cI k) 19,x<n:=by
 intro x hx;rw[iU] at hx;have:=hx.2;simp[jz,cI] at this;omega
def zj5{q:Int×Int×Int×Int}(h:m.Ok):(kF op q r m).2.Ok/\D9 (kF op q r m).2.next.length (kF op q r m).1:=by
 unfold kF;split
 ·exact⟨h,zpl⟩
 ·refine⟨⟨by simp[h.r],by simp[h.n]⟩,?_⟩
  constructor<;>exact zsc (by simp[h.n])
def zk2{n:Nat}{k:Nat}{a b:Part}{ns:List (Nat->Bool)}(ha:D9 n a)(hb:D9 n b):D9 n (qL op k a b ns).1:=by
 unfold qL;split
 ·exact hb
 ·split
  ·exact⟨Wx ha.1 hb.1,Wx ha.2 hb.2⟩
  ·refine⟨?_,?_⟩
   ·simp only;split
    ·exact Wx ha.1 hb.1
    ·exact ha.1
   ·simp only;split
    ·exact Wx ha.2 hb.2
    ·exact hb.2
def zqQ{n:Nat}{p:Part}{ns:List (Nat->Bool)}(h:D9 n p):D9 n (yO mn mx p ns).1:=h
mutual
def wE:E->Nat
 | .mk _ _ _ _ _ _ _ _ _ _ args=>3+E2 args
def E2:List E->Nat
 | []=>0
 | e::es=>wE e+2+E2 es
end
def wF:E×Nat->Nat
 | (e,0)=>wE e
 | (.mk _ _ _ _ _ _ _ _ _ _ args,d+1)=>1+E2 (args.drop (d+1))
def wS:List (E×Nat)->Nat
 | []=>0
 | f::S=>wF f+wS S
def Wy(f:E×Nat):1<=wF f:=by
 obtain⟨⟨op,pl,s0,s1,s2,s3,tx,mn,mx,nl,args⟩,d⟩:=f;cases d<;>simp only[wF,wE]<;>omega
def zqR{a:E}{tl:List E}:wS ((a,0)::(.mk op pl s0 s1 s2 s3 tx mn mx nl (a::tl),1)::S)+4=wS ((.mk op pl s0 s1 s2 s3 tx mn mx nl (a::tl),0)::S):=by
 simp only[wS,wF,wE,E2,List.drop_succ_cons,IJ];omega
def zqS{c:E}(hc:args[d+1]?=some c):wS ((c,0)::(.mk op pl s0 s1 s2 s3 tx mn mx nl args,d+2)::S)+2=wS ((.mk op pl s0 s1 s2 s3 tx mn mx nl args,d+1)::S):=by
 obtain⟨bD,mY⟩:=eE.1 hc;have gC:args.drop (d+1)=c::args.drop (d+2):=by rw[List.drop_eq_getElem_cons bD,mY]
 simp only[wS,wF];rw[gC,show d+1+1=d+2 from rfl];simp only[E2];omega
end
end Go.Proofs.YthohlnmcjkjeiaaGreatDoor
