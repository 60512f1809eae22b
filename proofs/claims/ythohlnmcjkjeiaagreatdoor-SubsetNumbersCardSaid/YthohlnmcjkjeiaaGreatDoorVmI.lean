/- Seat 8: expressions as data. Conditions: none but those named. -/
import Derived.Test.YthohlnmcjkjeiaaGreatDoorVmF
namespace Go.Proofs.YthohlnmcjkjeiaaGreatDoor
open Go Go.Vm
open Go.Proofs.Tryz
set_option maxRecDepth 100000
section
inductive E where
 |mk (op pl s0 s1 s2 s3:Int) (text:bL) (mn mx:Int) (nl:Bool) (args:List E)
def yi(nl:Bool)(l:aC):V:=if nl && l.isEmpty then .aG else .sl 10 l .no
mutual
def enc:E->V
 | .mk op pl s0 s1 s2 s3 text mn mx nl args=>.agg [.int .i64 op,.int .i64 pl,.int .u64 s0,.int .u64 s1,.int .u64 s2,.int .u64 s3,.str text,.int .i64 mn,.int .i64 mx,yi nl (fy args)]
def fy:List E->aC
 | []=>[]
 | e::es=>enc e::fy es
end
theorem fO:∀(l:List E),(fy l).length=l.length
 | []=>rfl
 | e::l=>by simp[fy,fO l]
theorem BF:∀(l:List E)(i:Nat),(fy l)[i]?=(l[i]?).map enc
 | [],i=>by simp[fy]
 | e::l,0=>by simp[fy]
 | e::l,i+1=>by simp[fy,BF l i]
theorem vG(nl:Bool)(l:aC):yi nl l=.sl 10 l .no\/(l=[]/\yi nl l=.aG):=by
 unfold yi;split
 next h=>rw[ei] at h;exact .inr ⟨by simpa using h.2,rfl⟩
 ·exact .inl rfl
theorem z4{nl:Bool}{l:aC}:aW (yi nl l)=yi nl l:=by
 rcases vG nl l with h|⟨_,h⟩<;>rw[h]<;>rfl
theorem Om(a:E):aW (enc a)=enc a:=by cases a;rfl
theorem zl1{nl:Bool}{l:aC}:(yi nl l).top=aI l:=by
 rcases vG nl l with h|⟨hl,h⟩<;>rw[h]
 ·rfl
 ·rw[hl];rfl
mutual
theorem Ao:∀(e:E),(enc e).top=0
 | .mk op pl s0 s1 s2 s3 text mn mx nl args=>by
  simp only[enc,V.top,aI,zl1,uT args];rfl
theorem uT:∀(l:List E),aI (fy l)=0
 | []=>rfl
 | e::l=>by simp[fy,aI,Ao e,uT l]
end
theorem EU{x:Int}(h1:-9223372036854775808<=x)(h2:x<=9223372036854775807):IntKind.i64.wrap x=x:=by
 simp only[IntKind.wrap,IntKind.bits,IntKind.signed];simp;omega
theorem XV{i:Nat}(h:i<9223372036854775807):IntKind.i64.wrap ((i:Int)+1)=((i+1:Nat):Int):=by
 rw[EU (by omega) (by omega)];omega
mutual
def Wf:E->Prop
 | .mk _ _ _ _ _ _ text _ _ _ args=>text.length<=maxLen/\args.length<=maxLen/\IS args
def IS:List E->Prop
 | []=>True
 | e::l=>Wf e/\IS l
end
theorem IS.mem{a:E}:∀{l:List E},IS l->a∈l->Wf a
 | e::l,h,ha=>by
  rcases dN.1 ha with rfl|ha
  ·exact h.1
  ·exact IS.mem h.2 ha
theorem rG:maxLen<=9223372036854775807:=by decide
mutual
def hg:E->Nat
 | .mk _ _ _ _ _ _ _ _ _ _ args=>On args+args.length+2
def On:List E->Nat
 | []=>0
 | e::l=>max (hg e) (On l)
end
theorem QB{a:E}:∀{l:List E},a∈l->hg a<=On l
 | e::l,h=>by
  simp only[On];rcases dN.1 h with rfl|h
  ·exact D4 _ _
  ·exact cU (QB h) (HS _ _)
end
section
open Go.Vm.Sx
variable{gl:Gl}
def lM:E->Bool
 | .mk op pl s0 s1 s2 s3 text mn mx _ _=>((pl == 0 && om text []) && (op == 2 || (s0 == 0 && (s1 == 0 && (s2 == 0 && s3 == 0))))) && (op == 7 || (mn == 0 && mx == 0))
def gh:E->Bool
 | .mk op _ _ _ _ _ _ mn mx _ args =>
  if op == 1 then (args.length:Int) == 0 else if op == 2 then (args.length:Int) == 0 else if op == 5 then c_ 1 (args.length:Int) else if op == 6 then c_ 1 (args.length:Int) else
  if op == 7 then (args.length:Int) == 1 && ((mn == 0 && mx == -1 || mn == 1 && mx == -1) || mn == 0 && mx == 1) else false
mutual
def dP:E->Int->Int
 | .mk _ _ _ _ _ _ _ _ _ _ args,deep=>if c_ 5000 deep then 1048576 else lO (IntKind.i64.wrap (deep+1)) 1 args
def lO:Int->Int->List E->Int
 | _,n,[]=>n
 | d,n,a::l=>if c_ n 1048576 then lO d (IntKind.i64.wrap (n+dP a d)) l else n
end
mutual
def cR:E->Int->Int->Int->Bool×Int×Int
 | .mk op pl s0 s1 s2 s3 text mn mx nl args,d,n,s =>
  if (c_ 65536 (IntKind.i64.wrap (n+1)) || c_ 4096 d) then (false,IntKind.i64.wrap (n+1),s) else
  if lM (.mk op pl s0 s1 s2 s3 text mn mx nl args) then
   if gh (.mk op pl s0 s1 s2 s3 text mn mx nl args) then iO (IntKind.i64.wrap (d+1)) args (IntKind.i64.wrap (n+1)) (if op == 2 then IntKind.i64.wrap (s+1) else s)
   else (false,IntKind.i64.wrap (n+1),s)
  else (false,IntKind.i64.wrap (n+1),s)
def iO:Int->List E->Int->Int->Bool×Int×Int
 | _,[],n,s=>(true,n,s)
 | d,a::l,n,s=>if (cR a d n s).1 then iO d l (cR a d n s).2.1 (cR a d n s).2.2 else cR a d n s
end
end
section
variable{gl:Gl}
theorem XW:prog.underlying 224=some (.array 64 5):=by kernel_rfl
theorem sz5:z8 prog 5=some 1:=by kernel_rfl
theorem XX:qC prog 5=some false:=by kernel_rfl
theorem u3:prog.underlying 3=some (.int .i64):=by kernel_rfl
theorem u5:prog.underlying 5=some (.int .u8):=by kernel_rfl
theorem zl2(hg:GW gl){n:Nat}{H:Hp}{k m:Nat}(hw:2 ^ (k+1) * m+2 ^ k<2 ^ 64):zk prog gl (n+1) 96 [.int .u64 ((2 ^ (k+1) * m+2 ^ k:Nat):Int)] H=some (.ret (.int .i64 (k:Nat)),H):=by
 obtain⟨bs,es⟩:=H;have hk:k<64:=Qu hw;obtain⟨w,w',hwd,AU,XY,hand⟩:=znM (P:=prog) hw;obtain⟨x,ix,hmul,XZ,sD,X0⟩:=znL (P:=prog) hk;rw[<- hwd];clear hwd hw;have iM:zX bs.length es 0 ⟨bs,[]⟩=⟨bs,es⟩:=by
  have:=zW (bs:=bs) (ls:=[]) (es:=es) (t:=0) (dU _)
  rwa [mT] at this
 suffices bK:(go ⟨prog,gl,zk prog gl n,fG⟩ n (Fx prog f96.results.toList λw H1=>w=.int .i64 (k:Nat)/\H1=⟨bs,[]⟩) [.c (f96.body.getD .skip)] .normal ⟨[.int .u64 (w:Nat)]++List.replicate 13 (.br []),⟨bs,[]⟩,[],[]⟩) by
  obtain⟨w,H1,h0,rfl,rfl⟩:=zJ (gl:=gl) (f:=96) (bs:=bs) (es:=es) (args:=[.int .u64 (w:Nat)]) (n:=n) (hg.hk _ _ (by decide)) (λH=>hg.eV _ _ _ _) func96 rfl (by rw[hg.uq];exact bK)
  rw[h0];exact congrArg (λx=>some (Out.ret _,x)) iM
 simp only[f96,ga,zh];refine zi ?_;simp only[qx,aH,zh,z9,qH,aj,aS,qg,aM,aq,bS,bU,List.replicate,bh,bg]
 refine zi ?_;simp only[qx,aH,zh,qR,zK,zY,ak,aj,zd,ze,zt,aM,aq,bS,bU,zS,qQ,wQ,qh]
 refine .inr ⟨by simp;omega,?_⟩
 simp only[bB,zh]
 refine zi ?_;have IT:zp prog 224 (.eN 4 0) ((ix:Nat):Int)=some (.eN 4 ix):=by
  simp only[zp,XW,sz5];simp only[y_];rw[if_pos (by omega)]
  simp
 have gp:zl prog ⟨bs,[]⟩ gl.g 5 (.eN 4 ix)=some (.int .u8 (k:Nat)):=by
  simp only[zl,XX,Option.bind_eq_bind,aU,f_,bz];rw[hg.tab _ sD,X0]
 have lf:vB prog 5 3 (.int .u8 (k:Nat))=some (.int .i64 (k:Nat)):=by
  simp only[vB,u5,u3,Option.bind_eq_bind,aU];rw[kw (by omega) (by omega)]
 simp only[qx,aH,zK,zY,kP,zU,qw,vU (a:=5) (b:=3) (hm:=rfl),show fG (vg 5)=false from rfl,z9,zM,ak,aj,zd,ze,zt,aM,aq,bS,bU,zS,zlE,aU,aS,XY,hand,hmul,XZ,aE,IT,gp,lf,qr,qg,go_ret,zr,Fx]
 refine⟨trivial,[.int .i64 (k:Nat)],?_,rfl,trivial⟩;simp only[zy,zd,ze]
end
section
variable{gl:Gl}
theorem EV:mY prog 27 3 1 8:=⟨by kernel_rfl,by kernel_rfl,by kernel_rfl,by decide,by kernel_rfl,by kernel_rfl,by kernel_rfl⟩
theorem zhh{p:Nat->Bool}:∀i,aI (xn p i)=0
 | 0=>rfl
 | i+1=>by
  have h:∀(xs ys:aC),aI xs=0->aI ys=0->aI (xs++ys)=0:=by
   intro xs ys h1 h2
   induction xs with
   | nil=>exact h2
   | cons x xs ih =>
    simp only[aI,bh,Nat.max_eq_zero_iff] at h1 ⊢;exact⟨h1.1,ih h1.2⟩
  refine h _ _ (zhh i) ?_;unfold Uk
  induction wj (kO p i) with
  | nil=>rfl
  | cons x xs ih=>simp only[a_,aI,V.top,ih];rfl
theorem zcN{p:Nat->Bool}(i:Nat):(aW (zm 1 3 (xn p i))).top=0:=by
 have h:=zhh (p:=p) i;cases hL:xn p i with
 | nil=>rfl
 | cons x xs=>rw[hL] at h;simpa[zm,aW,V.top] using h
theorem zhi(hg:GW gl){n:Nat}(hn:70<=n){H:Hp}{b off:Nat}{pre post:aC}{p:Nat->Bool}{ty:aB}(hb:H.get b=some (.cells (pre++pv 19 p++post) ty))(ho:pre.length=off) :
  zk prog gl (n+1) 59 [.ptr b off] H=some (.ret (aW (zm 1 3 (xn p 19))),H):=by
 obtain⟨bs,es⟩:=H;have uo:Hp.get ⟨bs,[]⟩ b=some (.cells (pre++pv 19 p++post) ty):=hb;have iM:zX bs.length es 0 ⟨bs,[]⟩=⟨bs,es⟩:=by
  have:=zW (bs:=bs) (ls:=[]) (es:=es) (t:=0) (dU _)
  rwa [mT] at this
 generalize hL:xn p 19=L
 suffices bK:(go ⟨prog,gl,zk prog gl n,fG⟩ n (Fx prog f59.results.toList λw H1=>w=aW (zm 1 3 L)/\H1=⟨bs,[]⟩) [.c (f59.body.getD .skip)] .normal ⟨[.ptr b off]++List.replicate 28 (.br []),⟨bs,[]⟩,[],[]⟩) by
  obtain⟨w,H1,h0,h1,h2⟩:=zJ (gl:=gl) (f:=59) (bs:=bs) (es:=es) (args:=[.ptr b off]) (n:=n) (hg.hk _ _ (by decide)) (λH=>hg.eV _ _ _ _) func59 rfl (by rw[hg.uq];exact bK)
  rw[h0,h1,h2];have:(aW (zm 1 3 L)).top=0:=by
   rw[<- hL];exact zcN 19
  rw[this];exact congrArg (λx=>some (Out.ret _,x)) iM
 simp only[f59,ga,zh];refine zi ?_;simp only[qx,aH,zh,z9,qH,aj,aS,qg,aM,aq,bS,bU,List.replicate,bh,bg]
 refine zi ?_;simp only[qx,aH,zh,z9,qH,aj,aS,qg,aM,aq,bS,bU]
 refine zi ?_;simp only[qx,aH,zx,zK,ak,aj,zd,zt,aM,aq,bS,bU,qk]
 refine qd (λm s=>∃i env,m+i=19/\s=⟨env,⟨bs,[]⟩,[],[]⟩/\env.length=29/\nth env 3=some (zm 1 3 (xn p i))/\nth env 6=some (.ptr b off)/\nth env 7=some (.int .i64 (i:Nat))) 19 (by omega) ⟨0,_,rfl,rfl,rfl,rfl,rfl,rfl⟩ ?_
 rintro m s ⟨i,env,tU,rfl,hlen,h3,h6,h7⟩;simp only[zh];refine zi ?_;simp only[qx,aH,zh,qR,zY,ak,aj,h7,zt,aM,aq,za,hlen,Nat.reduceLT,aF,zS,qQ,qT,qh]
 by_cases hi:i<19
 ·refine .inl ⟨by simp;omega,?_⟩
  simp only[bB,zh,zx]
  refine qY (tk:=[]) (by kernel_rfl) (by kernel_rfl) ?_
  have dL:nth (pre++pv 19 p++post) (off+i)=some (.int .u64 (kO p i:Nat)):=by
   rw[zg,<- ho,xE jF hi,yJ hi]
  have gp:zl prog ⟨bs,[]⟩ gl.g 48 (.ptr b (off+i))=some (.int .u64 (kO p i:Nat)):=zu ni uo dL;simp only[jX,bq,zx,av,ni,lU,zK,zH,zU,qw,z9,zM,ak,h6,h7,zt,aM,aq,za,bG,hlen,Nat.reduceEqDiff,Nat.reduceLT,aF,bz,qk,zS,qr,qg,aS,aU,aa,aE,Us hi,gp]
  refine qd (λm s=>∃w acc env,(wj w).length=m/\w<2 ^ 64/\acc++((wj w).map λj=>.int .i64 ((64 * i+j:Nat):Int))=xn p (i+1)/\s=⟨env,⟨bs,[]⟩,[],[]⟩/\env.length=29/\nth env 3=some (zm 1 3 acc)/\nth env 4=some (.int .i64 (i:Nat))/\nth env 5=some (.int .u64 (w:Nat))/\nth env 6=some (.ptr b off)/\nth env 7=some (.int .i64 (i:Nat))) (wj (kO p i)).length (by have:=XJ (w:=kO p i);omega) ⟨kO p i,xn p i,_,rfl,we,rfl,rfl,?_,?_,?_,?_,?_,?_⟩ ?_
  ·simp[hlen]
  ·simp[za,h3]
  ·simp[za,hlen]
  ·simp[za,hlen]
  ·simp[za,h6]
  ·simp[za,h7]
  clear h3 h6 h7 hlen;rintro m s ⟨w,acc,env,hm,hw,Ap,rfl,hlen,h3,h4,h5,h6,h7⟩;simp only[zh];refine zi ?_;simp only[qx,aH,qR,zK,zY,ak,aj,h5,zt,aM,aq,za,bG,hlen,Nat.reduceEqDiff,Nat.reduceLT,aF,bz,zS,qQ,Qm,qh]
  by_cases AU:w=0
  ·subst AU;rw[sW,bt,mT] at Ap;subst Ap;refine .inr ⟨by decide,?_⟩
   simp only[ql,zO,zr,bJ,zG,lu,aF,qF];refine zi ?_;simp only[qx,aH,zK,zY,ak,aj,h7,zt,aM,aq,za,bG,hlen,Nat.reduceEqDiff,Nat.reduceLT,aF,bz,zS,zQ (show i<2 ^ 60 by omega),zr,aO]
   refine⟨18 - i,by omega,i+1,_,by omega,rfl,?_,?_,?_,?_⟩
   ·simp[hlen]
   ·simp[za,h3]
   ·simp[za,h6]
   ·simp[za,hlen]
  ·refine .inl ⟨by simp;omega,?_⟩
   obtain⟨k,mm,CV⟩:=Bz w AU;have GY:=λ(H:Hp)=>zl2 hg (n:=n - 1) (H:=H) (k:=k) (m:=mm) (by rw[<- CV];exact hw)
   rw[<- CV,show n - 1+1=n by omega] at GY
   simp only[bB,zh,zx]
   refine wd (tk:=[19]) (by kernel_rfl) ?_
   have dz:Cx.bD ⟨prog,gl.g,zk prog gl n,fG⟩ 96 [.int .u64 (w:Nat)] ⟨bs,[]⟩=some (.val (.int .i64 (k:Nat)),⟨bs,[]⟩):=zq func96 rfl (GY _);have hk:k<64:=Qu (by rw[<- CV];exact hw)
   have QC:acc.length+1<=64 * (i+1):=by
    have h1:=congrArg List.length Ap;have h2:=xo (p:=p) (i+1);have h3:(wj w).length≠0:=by
     rw[CV,Ui (by rw[<- CV];exact hw)];simp
    simp only[aV,gk] at h1;omega
   have fH:=jE EV (H:=⟨bs,[]⟩) (xs:=acc) (ys:=[V.int .i64 ((64 * i+k:Nat):Int)]) (o:=.no) (by simp) (dJ (by simp;omega) (by simp;omega))
   have FL:=EV.Ck (v:=.int .i64 ((64 * i+k:Nat):Int)) rfl rfl;have hmul:∀(u v:aX),qO prog .mul 3 u v (some (.int .i64 64)) (some (.int .i64 (i:Nat)))=some (.int .i64 ((64 * i:Nat):Int)):=λu v=>XO (a:=64) (by omega)
   have Mh:nth (((env.set 13 (V.int .u64 (w:Nat))).set 14 (V.bool ((w:Int) != 0)))) 3=some (zm 1 3 acc):=by simp[za,h3]
   simp only[qx,jA,jq,vW Mh,zY,ki,az,qm,ne_eq,uI,jP,jV (cx:=⟨prog,gl.g,zk prog gl n,fG⟩) (show q_ prog fG 27=false by kernel_rfl),ak,aj,h4,h5,zt,qg,aM,aq,za,bG,hlen,Nat.reduceEqDiff,Nat.reduceLT,aF,bz,zS,kZ,qL,a_,bt,aA,dz,hmul,xq (show 64 * i+k<2 ^ 60 by omega),FL]
   rw[vW (n:=1) (e:=3) (xs:=acc) (by simp[za,hlen])]
   simp only[xR,aU,fH,aM,aq,qx,aH,qF,z9]
   rw[vW (n:=1) (e:=3) (xs:=acc++[V.int .i64 ((64 * i+k:Nat):Int)]) (by simp[za,hlen])]
   simp only[qg,aM,aq]
   refine zi ?_;have Hh:w - 1<2 ^ 64:=by omega
   simp only[qx,aH,zK,zY,z9,zM,ak,aj,h5,zt,qg,aM,aq,za,bG,hlen,Nat.reduceEqDiff,Nat.reduceLT,aF,bz,zS,qr,zeV AU hw,Uj hw Hh,zr,aO]
   have l6:wj w=k::wj (w &&& (w - 1)):=by
    rw[CV];exact Ui (by rw[<- CV];exact hw)
   refine⟨(wj (w &&& (w - 1))).length,by rw[<- hm,l6];simp,w &&& (w - 1),acc++[V.int .i64 ((64 * i+k:Nat):Int)],_,rfl,JE Nat.and_le_left hw,?_,rfl,?_,?_,?_,?_,?_,?_⟩
   ·rw[<- Ap,l6];simp
   ·simp[hlen]
   ·simp[za,hlen]
   ·simp[za,h4]
   ·simp[za,hlen]
   ·simp[za,h6]
   ·simp[za,h7]
 ·obtain rfl:i=19:=by omega
  refine .inr ⟨by decide,?_⟩
  rw[hL] at h3;simp only[ql,zO,zr,bJ,zG,lu,aF,zh];refine zi ?_;have rj:aW (aW (zm 1 3 L))=aW (zm 1 3 L):=by cases L<;>rfl
  have mH:∀e:aC,nth e 28=some (aW (zm 1 3 L))->take e (.tmp 28)=some (aW (zm 1 3 L),e):=λe he=>by
   rw[zM,he];cases L<;>rfl
  simp only[qx,aH,zK,z9,ak,h3,zt,aM,aq,za,hlen,Nat.reduceEqDiff,Nat.reduceLT,aF,bz]
  rw[mH _ (by simp[za,hlen])]
  simp only[qg,aM,aq,go_ret,zr,Fx]
  refine⟨trivial,[aW (zm 1 3 L)],?_,rfl,trivial⟩;simp[zy,za,hlen]
end
section
variable{gl:Gl}
theorem X3(hg:GW gl){n:Nat}(hn:20<=n){bs:List aT}{es:aN}{b off b' off':Nat}{pre post pre' post':aC}{p q:Nat->Bool}{ty ty':aB}(hb:nth bs b=some (.cells (pre++pv 19 p++post) ty))(ho:pre.length=off)(dg:nth bs b'=some (.cells (pre'++pv 19 q++post') ty'))(X5:pre'.length=off')(b_:b'≠b) :
  zk prog gl (n+1) 58 [.ptr b off,.ptr b' off'] ⟨bs,es⟩=some (.ret (.br []),⟨bs.set b (.cells (pre++pv 19 (jD p q)++post) ty),es⟩):=by
 have iM:zX bs.length es 0 ⟨bs.set b (.cells (pre++pv 19 (jD p q)++post) ty),[]⟩=⟨bs.set b (.cells (pre++pv 19 (jD p q)++post) ty),es⟩:=by
  have:=zW (bs:=bs.set b (.cells (pre++pv 19 (jD p q)++post) ty)) (ls:=[]) (es:=es) (t:=0) (dU _)
  rwa [mT,bG] at this
 suffices bK:(go ⟨prog,gl,zk prog gl n,fG⟩ n (Fx prog f58.results.toList λw H1=>w=.br []/\H1=⟨bs.set b (.cells (pre++pv 19 (jD p q)++post) ty),[]⟩) [.c (f58.body.getD .skip)] .normal ⟨[.ptr b off,.ptr b' off']++List.replicate 20 (.br []),⟨bs,[]⟩,[],[]⟩) by
  obtain⟨w,H1,h0,rfl,rfl⟩:=zJ (gl:=gl) (f:=58) (bs:=bs) (es:=es) (args:=[.ptr b off,.ptr b' off']) (n:=n) (hg.hk _ _ (by decide)) (λH=>hg.eV _ _ _ _) func58 rfl (by rw[hg.uq];exact bK)
  rw[h0,show(V.br []).top=0 from rfl,iM]
 simp only[f58,ga,zh];refine zi ?_;simp only[qx,aH,zx,zK,ak,aj,zt,aM,aq,bS,bU,List.replicate,bh,bg]
 let Hi:Nat->Hp:=λi=>⟨bs.set b (.cells (pre++pv 19 (y8 p q i)++post) ty),[]⟩
 refine qd (λm s=>∃i env,m+i=19/\s=⟨env,Hi i,[],[]⟩/\env.length=22/\nth env 0=some (.ptr b off)/\nth env 1=some (.ptr b' off')/\nth env 5=some (.int .i64 (i:Nat))) 19 (by omega) ?_ ?_
 ·have Er:Hi 0=⟨bs,[]⟩:=by
   simp only[Hi,zhc];rw[show bs.set b (.cells (pre++pv 19 p++post) ty)=bs from jY hb]
  refine⟨0,_,rfl,by rw[Er],?_,?_,?_,?_⟩<;>rfl
 rintro m s ⟨i,env,tU,rfl,hlen,h0,h1,h5⟩;simp only[zh];refine zi ?_;simp only[qx,aH,zh,qR,zY,ak,aj,h5,zt,aM,aq,za,hlen,Nat.reduceLT,aF,zS,qQ,qT,qh]
 have FM:∀r:aC,nth (bs.set b (.cells r ty)) b=some (.cells r ty):=λr=>by
  have bR:b<bs.length:=by rw[zg] at hb;exact(cP.1 hb).1
  rw[zg,tC,if_pos rfl,if_pos bR]
 by_cases hi:i<19
 ·refine .inl ⟨by simp;omega,?_⟩
  simp only[bB,zh,zx]
  refine zi ?_;simp only[qx,aH,zK,z9,zM,ak,h5,zt,aM,aq,za,bG,hlen,Nat.reduceEqDiff,Nat.reduceLT,aF,bz,zS,qr,qg]
  refine qY (tk:=[]) (by kernel_rfl) (by kernel_rfl) ?_
  have FO:(Hi i).get b=some (.cells (pre++pv 19 (y8 p q i)++post) ty):=FM _;have Mi:(Hi i).get b'=some (.cells (pre'++pv 19 q++post') ty'):=by
   show nth (bs.set b _) b'=_;rw[zg,tC,if_neg (Ne.symm b_),<- zg,dg]
  have dL:nth (pre++pv 19 (y8 p q i)++post) (off+i)=some (.int .u64 (kO p i:Nat)):=by
   rw[zg,<- ho,xE jF hi,yJ hi,zha]
  have CW:nth (pre'++pv 19 q++post') (off'+i)=some (.int .u64 (kO q i:Nat)):=by
   rw[zg,<- X5,xE jF hi,yJ hi]
  have gp:zl prog (Hi i) gl.g 48 (.ptr b (off+i))=some (.int .u64 (kO p i:Nat)):=zu ni FO dL;have FP:zl prog (Hi i) gl.g 48 (.ptr b' (off'+i))=some (.int .u64 (kO q i:Nat)):=zu ni Mi CW;have oT:wz [] b (off+i) 1 ((pre++pv 19 (y8 p q i)++post).drop (off+i))=true:=yq λk h=>by
   obtain rfl:k=0:=by omega
   exact⟨_,by rw[nC,<- zg,dL],rfl⟩
  simp only[jX,bq,av,ni,lU,zK,zH,zU,qw,zY,zV,zM,ak,h0,h1,zt,aM,aq,za,bG,hlen,Nat.reduceEqDiff,Nat.reduceLT,aF,bz,qk,zS,qr,aS,aU,aa,aE,Us hi,gp,FP,XF we we]
  rw[zA Ep FO rfl rfl (by simp[jF,<- ho];omega) oT]
  simp only[bx,qF,aq,V.laid,Vm.storeCells]
  rw[jT (by simp[V.top])]
  have hH:(Hi i).set b (.cells ((pre++pv 19 (y8 p q i)++post).set (off+i) (.int .u64 ((kO p i ||| kO q i:Nat):Int))) ty)=Hi (i+1):=by
   rw[<- ho,XG jF hi,zhb];simp only[Hi,Hp.set,List.set_set]
  rw[hH];refine zi ?_;simp only[qx,aH,zY,zK,ak,aj,h5,zt,aM,aq,za,bG,hlen,Nat.reduceEqDiff,Nat.reduceLT,aF,bz,zS,zQ (show i<2 ^ 60 by omega),zr,aO]
  refine⟨18 - i,by omega,i+1,_,by omega,rfl,?_,?_,?_,?_⟩<;>simp[za,hlen,h0,h1]
 ·obtain rfl:i=19:=by omega
  refine .inr ⟨by decide,?_⟩
  simp only[ql,zO,zr,bJ,zG,lu,aF,Fx];refine⟨trivial,[],rfl,rfl,?_⟩;simp only[Hi,zji]
theorem zhj{b v off i:Nat}(h:i<19):zp prog 115 (.gm b v off) i=some (.gm b v (off+i)):=by
 simp only[zp,u60,Ep];simp;omega
theorem zl3(hg:GW gl){n:Nat}(hn:20<=n){bs:List aT}{es:aN}{b off b' off':Nat}{pre post pre' post':aC}{p q:Nat->Bool}{v:Nat}{ty':aB}(hb:nth bs b=some (.ul v 19 (pre++pv 19 p++post) 115))(ho:pre.length=off)(dg:nth bs b'=some (.cells (pre'++pv 19 q++post') ty'))(X5:pre'.length=off')(b_:b'≠b) :
  zk prog gl (n+1) 58 [.gm b v off,.ptr b' off'] ⟨bs,es⟩=some (.ret (.br []),⟨bs.set b (.ul v 19 (pre++pv 19 (jD p q)++post) 115),es⟩):=by
 have iM:zX bs.length es 0 ⟨bs.set b (.ul v 19 (pre++pv 19 (jD p q)++post) 115),[]⟩=⟨bs.set b (.ul v 19 (pre++pv 19 (jD p q)++post) 115),es⟩:=by
  have:=zW (bs:=bs.set b (.ul v 19 (pre++pv 19 (jD p q)++post) 115)) (ls:=[]) (es:=es) (t:=0) (dU _)
  rwa [mT,bG] at this
 suffices bK:(go ⟨prog,gl,zk prog gl n,fG⟩ n (Fx prog f58.results.toList λw H1=>w=.br []/\H1=⟨bs.set b (.ul v 19 (pre++pv 19 (jD p q)++post) 115),[]⟩) [.c (f58.body.getD .skip)] .normal ⟨[.gm b v off,.ptr b' off']++List.replicate 20 (.br []),⟨bs,[]⟩,[],[]⟩) by
  obtain⟨w,H1,h0,rfl,rfl⟩:=zJ (gl:=gl) (f:=58) (bs:=bs) (es:=es) (args:=[.gm b v off,.ptr b' off']) (n:=n) (hg.hk _ _ (by decide)) (λH=>hg.eV _ _ _ _) func58 rfl (by rw[hg.uq];exact bK)
  rw[h0,show(V.br []).top=0 from rfl,iM]
 simp only[f58,ga,zh];refine zi ?_;simp only[qx,aH,zx,zK,ak,aj,zt,aM,aq,bS,bU,List.replicate,bh,bg]
 let Hi:Nat->Hp:=λi=>⟨bs.set b (.ul v 19 (pre++pv 19 (y8 p q i)++post) 115),[]⟩
 refine qd (λm s=>∃i env,m+i=19/\s=⟨env,Hi i,[],[]⟩/\env.length=22/\nth env 0=some (.gm b v off)/\nth env 1=some (.ptr b' off')/\nth env 5=some (.int .i64 (i:Nat))) 19 (by omega) ?_ ?_
 ·have Er:Hi 0=⟨bs,[]⟩:=by
   simp only[Hi,zhc];rw[show bs.set b (.ul v 19 (pre++pv 19 p++post) 115)=bs from jY hb]
  refine⟨0,_,rfl,by rw[Er],?_,?_,?_,?_⟩<;>rfl
 rintro m s ⟨i,env,tU,rfl,hlen,h0,h1,h5⟩;simp only[zh];refine zi ?_;simp only[qx,aH,zh,qR,zY,ak,aj,h5,zt,aM,aq,za,hlen,Nat.reduceLT,aF,zS,qQ,qT,qh]
 have FM:∀r:aC,nth (bs.set b (.ul v 19 r 115)) b=some (.ul v 19 r 115):=λr=>by
  have bR:b<bs.length:=by rw[zg] at hb;exact(cP.1 hb).1
  rw[zg,tC,if_pos rfl,if_pos bR]
 by_cases hi:i<19
 ·refine .inl ⟨by simp;omega,?_⟩
  simp only[bB,zh,zx]
  refine zi ?_;simp only[qx,aH,zK,z9,zM,ak,h5,zt,aM,aq,za,bG,hlen,Nat.reduceEqDiff,Nat.reduceLT,aF,bz,zS,qr,qg]
  refine qY (tk:=[]) (by kernel_rfl) (by kernel_rfl) ?_
  have FO:(Hi i).get b=some (.ul v 19 (pre++pv 19 (y8 p q i)++post) 115):=FM _;have Mi:(Hi i).get b'=some (.cells (pre'++pv 19 q++post') ty'):=by
   show nth (bs.set b _) b'=_;rw[zg,tC,if_neg (Ne.symm b_),<- zg,dg]
  have dL:nth (pre++pv 19 (y8 p q i)++post) (off+i)=some (.int .u64 (kO p i:Nat)):=by
   rw[zg,<- ho,xE jF hi,yJ hi,zha]
  have CW:nth (pre'++pv 19 q++post') (off'+i)=some (.int .u64 (kO q i:Nat)):=by
   rw[zg,<- X5,xE jF hi,yJ hi]
  have gp:zl prog (Hi i) gl.g 48 (.gm b v (off+i))=some (.int .u64 (kO p i:Nat)):=XN ni FO dL;have FP:zl prog (Hi i) gl.g 48 (.ptr b' (off'+i))=some (.int .u64 (kO q i:Nat)):=zu ni Mi CW
  simp only[jX,bq,av,ni,lU,zK,zH,zU,qw,zY,zV,zM,ak,h0,h1,zt,aM,aq,za,bG,hlen,Nat.reduceEqDiff,Nat.reduceLT,aF,bz,qk,jR,zS,qr,aS,aU,aa,aE,Us hi,zhj hi,gp,FP,XF we we]
  rw[zeX Ep FO rfl rfl rfl (by simp[jF,<- ho];omega)]
  simp only[bx,qF,aq,V.cells,Vm.storeCells]
  rw[jT (by simp[V.top])]
  have hH:(Hi i).set b (.ul v 19 ((pre++pv 19 (y8 p q i)++post).set (off+i) (.int .u64 ((kO p i ||| kO q i:Nat):Int))) 115)=Hi (i+1):=by
   rw[<- ho,XG jF hi,zhb];simp only[Hi,Hp.set,List.set_set]
  rw[hH];refine zi ?_;simp only[qx,aH,zY,zK,ak,aj,h5,zt,aM,aq,za,bG,hlen,Nat.reduceEqDiff,Nat.reduceLT,aF,bz,zS,zQ (show i<2 ^ 60 by omega),zr,aO]
  refine⟨18 - i,by omega,i+1,_,by omega,rfl,?_,?_,?_,?_⟩<;>simp[za,hlen,h0,h1]
 ·obtain rfl:i=19:=by omega
  refine .inr ⟨by decide,?_⟩
  simp only[ql,zO,zr,bJ,zG,lu,aF,Fx];refine⟨trivial,[],rfl,rfl,?_⟩;simp only[Hi,zji]
end
section
variable{gl:Gl}
theorem Ka:mY prog 149 157 11 112:=⟨by kernel_rfl,by kernel_rfl,by kernel_rfl,by decide,by kernel_rfl,by kernel_rfl,by kernel_rfl⟩
theorem CX:zD prog 151 0=some 0:=by kernel_rfl
theorem CY:qC prog 149=some false:=by kernel_rfl
theorem BG:qC prog 157=some true:=by kernel_rfl
theorem Aq:z8 prog 157=some 11:=by kernel_rfl
theorem zpH(hg:GW gl){n:Nat}{H:Hp}{b:Nat}{c:V}{ty:aB}{i:Option Nat}{xs:List aC}{x:aC}(hb:H.get b=some (.cells [c] ty))(hu:UL H 11 157 c i xs)(X6:i≠some b)(hx:x.length=11)(EN:x.map aW=x)(fW:kA (xs.length+1) 112=true) :
  ∃H' c' j,zk prog gl (n+1) 88 [.ptr b 0,.agg x] H=some (.ret (.br []),H')/\H'.get b=some (.cells [c'] ty)/\UL H' 11 157 c' (some j) (xs++[x])/\j≠b/\(i=some j\/H.au.length<=j)/\sX H H' (λd=>d=b\/i=some d):=by
 obtain⟨bs,es⟩:=H;have bR:b<bs.length:=kL hb;have uo:Hp.get ⟨bs,[]⟩ b=some (.cells [c] ty):=hb;have DB:UL ⟨bs,[]⟩ 11 157 c i xs:=hu;have Oo:c.top<=bs.length/\(c=.aG\/∃j v l,c=.dw j v l):=by
  cases i with
  | none=>obtain⟨rfl,_⟩:=hu;exact⟨dU _,.inl rfl⟩
  | some j=>obtain⟨v,rfl,hj⟩:=hu;exact⟨kL hj,.inr ⟨_,_,_,rfl⟩⟩
 suffices bK:(go ⟨prog,gl,zk prog gl n,fG⟩ n (Fx prog [] λv H1=>v=.br []/\∃c' j,(∀d,d<bs.length->d≠b->i≠some d->H1.get d=Hp.get ⟨bs,es⟩ d)/\H1.get b=some (.cells [c'] ty)/\UL H1 11 157 c' (some j) (xs++[x])/\j≠b/\(i=some j\/bs.length<=j/\(b,j+1)∈H1.bC)/\bs.length<=H1.au.length) [.c (f88.body.getD .skip)] .normal ⟨[.ptr b 0,.agg x]++List.replicate 12 (.br []),⟨bs,[]⟩,[],[]⟩) by
  obtain⟨v,H1,h0,rfl,c',j,h2,h3,h4,h5,h6,h7⟩:=zJ (gl:=gl) (f:=88) (bs:=bs) (es:=es) (args:=[.ptr b 0,.agg x]) (n:=n) (hg.hk _ _ (by decide)) (λH=>hg.eV _ _ _ _) func88 rfl (by rw[hg.uq];exact bK)
  have hj:(zX bs.length es 0 H1).get j=H1.get j:=by
   rcases h6 with rfl|⟨h6,h8⟩
   ·exact ja (hu.lt)
   ·exact xG h8 bR (by omega) _
  exact⟨_,c',j,h0,(ja bR).trans h3,h4.frame λk hk=>by cases hk;exact hj,h5,h6.imp id And.left,vV h7,λd hd hn=>(ja hd).trans (h2 d hd (λe=>hn (.inl e)) (λe=>hn (.inr e)))⟩
 have o5:dD (.agg x)=true:=rfl;have gp:zl prog (Hp.push ⟨bs,[]⟩ (.cells x 157)) gl.g 157 (.ptr bs.length 0)=some (.agg x):=by
  rw[je BG Aq Ul (by simp[hx])]
  simp[<- hx]
 have l_:=Ka.Ck (v:=.agg x) rfl hx;have Fh:UL (Hp.push ⟨bs,[]⟩ (.cells x 157)) 11 157 c i xs:=DB.frame λj hj=>by
  subst hj;obtain⟨v,_,h⟩:=DB;rw[h];exact zN h
 have fH:=Ka.app (env:=[.ptr b 0,.agg x,.br [],.ptr bs.length 0,.ptr b 0,.ptr b 0,.ptr b 0,.ptr b (0+0),c,.agg x,.sl 11 [.agg x] (.yes 157),.br [],.br [],.br []]) (H:=Hp.push ⟨bs,[]⟩ (.cells x 157)) (lk:=[]) (df:=[]) (ys:=[.agg x]) (o:=.no) (by simp) Fh fW
 simp only[f88,ga,zh];refine zi ?_;simp only[qx,aH,wG,zM,qW,zd,ze,qc o5,aM,aq,bS,bU,List.replicate,bh,bg,V.laid,EN]
 refine qY (tk:=[8]) (by kernel_rfl) (by kernel_rfl) ?_
 simp only[jX,av,lU,CY,jA,jp,ne_eq,Nat.reduceEqDiff,uI,zH,zB,ak,zd,ze,zt,aM,aq,bS,bU,qk,aU,aa,CX,zT,ah]
 rw[XL (c:=c) CY (zN uo) rfl Oo.2]
 simp only[aM,aq,bS,bU,jX,av,lU,BG,jB,ne_eq,Nat.reduceEqDiff,uI,ak,zd,ze,qk,List.all_nil,aU,
  gp,aS,zt,qU,kZ,jP,l_,yU (cx:=⟨prog,gl.g,zk prog gl n,fG⟩) (show q_ prog fG 149=true by kernel_rfl)]
 cases i with
 | none =>
  obtain⟨rfl,rfl⟩:=hu;simp only[dr];rw[fH];simp only[aM,aq,bS,bU,jX,bq,av,lU,zH,zB,zV,zM,ak,zd,ze,zt,qk,aU,aa,CX,zT,ah,qJ,nC]
  rw[zA (cs:=[.aG]) (ty:=ty) Ka.st (zN (zN uo)) rfl rfl (by simp) (by simp[wz,locked])]
  simp only[bx,aq,zr,Fx,Vm.storeCells,V.laid,jl,bS]
  refine⟨trivial,[],rfl,rfl,.dw (bs.length+1) 0 1,bs.length+1,?_,?_,?_,by omega,.inr ⟨by omega,?_⟩,?_⟩
  ·intro d hd Em _;rw[bW,jz,wZ,wZ];cases hg:Hp.get ⟨bs,[]⟩ d with
   | none=>exact absurd hg (by simp[Hp.get,zg,hd])
   | some y=>simp only[if_neg Em];exact hg.symm
  ·rw[bW,jz,zN (zN uo)];simp
  ·refine⟨0,rfl,?_⟩;rw[bW,jz];have:Hp.get (Hp.push (Hp.push ⟨bs,[]⟩ (.cells x 157)) (.ul 0 11 (bX [.agg x]) 157)) (bs.length+1)=some (.ul 0 11 (bX [.agg x]) 157):=by
    rw[wZ,zlI (by simp[Hp.push])];simp[Hp.push]
   rw[this];have b_:bs.length+1≠b:=by omega
   simp[b_,bX,V.cells]
  ·exact zg8 (v:=.dw (bs.length+1) 0 1) (by simp[V.top];omega)
  ·rw[xl,wu,jl,jl];show bs.length<=bs.length+1+1;omega
 | some j =>
  obtain⟨v,rfl,hj⟩:=DB;have ur:j≠b:=λe=>X6 (by rw[e])
  have A1:j<bs.length:=kL hj;simp only[q8] at fH ⊢;rw[fH];simp only[aM,aq,bS,bU,jX,bq,av,lU,zH,zB,zV,zM,ak,zd,ze,zt,qk,aU,aa,CX,zT,ah,qJ,nC]
  have oq:∀y,(((Hp.push ⟨bs,[]⟩ (.cells x 157)).set j y).bQ j (.br [.agg x])).get b=some (.cells [.dw j v xs.length] ty):=λy=>by
   rw[bW,jz,zN uo];simp[Ne.symm ur]
  rw[zA (cs:=[.dw j v xs.length]) (ty:=ty) Ka.st (oq _) rfl rfl (by simp) (by simp[wz,locked])]
  simp only[bx,aq,zr,Fx,Vm.storeCells,V.laid,bS]
  refine⟨trivial,[],rfl,rfl,.dw j (v+1) (xs.length+1),j,?_,?_,?_,ur,.inl rfl,?_⟩
  ·intro d hd Em X7;have Mj:d≠j:=λe=>X7 (by rw[e])
   rw[bW,jz,bW,jz,wZ];cases hg:Hp.get ⟨bs,[]⟩ d with
   | none=>exact absurd hg (by simp[Hp.get,zg,hd])
   | some y=>simp only[if_neg Em,if_neg Mj];exact hg.symm
  ·rw[bW,jz,oq];simp
  ·refine⟨v+1,by simp,?_⟩
   rw[bW,jz,bW,jz,zN hj];simp[ur,bX,V.cells]
  ·simp[xl,wu,jl]
theorem Ml:mY prog 152 117 39 312:=⟨by kernel_rfl,by kernel_rfl,by kernel_rfl,by decide,by kernel_rfl,by kernel_rfl,by kernel_rfl⟩
theorem Es:zD prog 154 0=some 0:=by kernel_rfl
theorem Et:qC prog 152=some false:=by kernel_rfl
theorem uu:qC prog 117=some true:=by kernel_rfl
theorem sn:z8 prog 117=some 39:=by kernel_rfl
theorem zpI(hg:GW gl){n:Nat}{H:Hp}{b:Nat}{c:V}{ty:aB}{i:Option Nat}{xs:List aC}{x:aC}(hb:H.get b=some (.cells [c] ty))(hu:UL H 39 117 c i xs)(X6:i≠some b)(hx:x.length=39)(EN:x.map aW=x)(fW:kA (xs.length+1) 312=true) :
  ∃H' c' j,zk prog gl (n+1) 91 [.ptr b 0,.agg x] H=some (.ret (.br []),H')/\H'.get b=some (.cells [c'] ty)/\UL H' 39 117 c' (some j) (xs++[x])/\j≠b/\(i=some j\/H.au.length<=j)/\sX H H' (λd=>d=b\/i=some d):=by
 obtain⟨bs,es⟩:=H;have bR:b<bs.length:=kL hb;have uo:Hp.get ⟨bs,[]⟩ b=some (.cells [c] ty):=hb;have DB:UL ⟨bs,[]⟩ 39 117 c i xs:=hu;have Oo:c.top<=bs.length/\(c=.aG\/∃j v l,c=.dw j v l):=by
  cases i with
  | none=>obtain⟨rfl,_⟩:=hu;exact⟨dU _,.inl rfl⟩
  | some j=>obtain⟨v,rfl,hj⟩:=hu;exact⟨kL hj,.inr ⟨_,_,_,rfl⟩⟩
 suffices bK:(go ⟨prog,gl,zk prog gl n,fG⟩ n (Fx prog [] λv H1=>v=.br []/\∃c' j,(∀d,d<bs.length->d≠b->i≠some d->H1.get d=Hp.get ⟨bs,es⟩ d)/\H1.get b=some (.cells [c'] ty)/\UL H1 39 117 c' (some j) (xs++[x])/\j≠b/\(i=some j\/bs.length<=j/\(b,j+1)∈H1.bC)/\bs.length<=H1.au.length) [.c (f91.body.getD .skip)] .normal ⟨[.ptr b 0,.agg x]++List.replicate 12 (.br []),⟨bs,[]⟩,[],[]⟩) by
  obtain⟨v,H1,h0,rfl,c',j,h2,h3,h4,h5,h6,h7⟩:=zJ (gl:=gl) (f:=91) (bs:=bs) (es:=es) (args:=[.ptr b 0,.agg x]) (n:=n) (hg.hk _ _ (by decide)) (λH=>hg.eV _ _ _ _) func91 rfl (by rw[hg.uq];exact bK)
  have hj:(zX bs.length es 0 H1).get j=H1.get j:=by
   rcases h6 with rfl|⟨h6,h8⟩
   ·exact ja (hu.lt)
   ·exact xG h8 bR (by omega) _
  exact⟨_,c',j,h0,(ja bR).trans h3,h4.frame λk hk=>by cases hk;exact hj,h5,h6.imp id And.left,vV h7,λd hd hn=>(ja hd).trans (h2 d hd (λe=>hn (.inl e)) (λe=>hn (.inr e)))⟩
 have o5:dD (.agg x)=true:=rfl;have gp:zl prog (Hp.push ⟨bs,[]⟩ (.cells x 117)) gl.g 117 (.ptr bs.length 0)=some (.agg x):=by
  rw[je uu sn Ul (by simp[hx])]
  simp[<- hx]
 have l_:=Ml.Ck (v:=.agg x) rfl hx;have Fh:UL (Hp.push ⟨bs,[]⟩ (.cells x 117)) 39 117 c i xs:=DB.frame λj hj=>by
  subst hj;obtain⟨v,_,h⟩:=DB;rw[h];exact zN h
 have fH:=Ml.app (env:=[.ptr b 0,.agg x,.br [],.ptr bs.length 0,.ptr b 0,.ptr b 0,.ptr b 0,.ptr b (0+0),c,.agg x,.sl 39 [.agg x] (.yes 117),.br [],.br [],.br []]) (H:=Hp.push ⟨bs,[]⟩ (.cells x 117)) (lk:=[]) (df:=[]) (ys:=[.agg x]) (o:=.no) (by simp) Fh fW
 simp only[f91,ga,zh];refine zi ?_;simp only[qx,aH,wG,zM,qW,zd,ze,qc o5,aM,aq,bS,bU,List.replicate,bh,bg,V.laid,EN]
 refine qY (tk:=[8]) (by kernel_rfl) (by kernel_rfl) ?_
 simp only[jX,av,lU,Et,jA,jp,ne_eq,Nat.reduceEqDiff,uI,zH,zB,ak,zd,ze,zt,aM,aq,bS,bU,qk,aU,aa,Es,zT,ah]
 rw[XL (c:=c) Et (zN uo) rfl Oo.2]
 simp only[aM,aq,bS,bU,jX,av,lU,uu,jB,ne_eq,Nat.reduceEqDiff,uI,ak,zd,ze,qk,List.all_nil,aU,
  gp,aS,zt,qU,kZ,jP,l_,yU (cx:=⟨prog,gl.g,zk prog gl n,fG⟩) (show q_ prog fG 152=true by kernel_rfl)]
 cases i with
 | none =>
  obtain⟨rfl,rfl⟩:=hu;simp only[dr];rw[fH];simp only[aM,aq,bS,bU,jX,bq,av,lU,zH,zB,zV,zM,ak,zd,ze,zt,qk,aU,aa,Es,zT,ah,qJ,nC]
  rw[zA (cs:=[.aG]) (ty:=ty) Ml.st (zN (zN uo)) rfl rfl (by simp) (by simp[wz,locked])]
  simp only[bx,aq,zr,Fx,Vm.storeCells,V.laid,jl,bS]
  refine⟨trivial,[],rfl,rfl,.dw (bs.length+1) 0 1,bs.length+1,?_,?_,?_,by omega,.inr ⟨by omega,?_⟩,?_⟩
  ·intro d hd Em _;rw[bW,jz,wZ,wZ];cases hg:Hp.get ⟨bs,[]⟩ d with
   | none=>exact absurd hg (by simp[Hp.get,zg,hd])
   | some y=>simp only[if_neg Em];exact hg.symm
  ·rw[bW,jz,zN (zN uo)];simp
  ·refine⟨0,rfl,?_⟩;rw[bW,jz];have:Hp.get (Hp.push (Hp.push ⟨bs,[]⟩ (.cells x 117)) (.ul 0 39 (bX [.agg x]) 117)) (bs.length+1)=some (.ul 0 39 (bX [.agg x]) 117):=by
    rw[wZ,zlI (by simp[Hp.push])];simp[Hp.push]
   rw[this];have b_:bs.length+1≠b:=by omega
   simp[b_,bX,V.cells]
  ·exact zg8 (v:=.dw (bs.length+1) 0 1) (by simp[V.top];omega)
  ·rw[xl,wu,jl,jl];show bs.length<=bs.length+1+1;omega
 | some j =>
  obtain⟨v,rfl,hj⟩:=DB;have ur:j≠b:=λe=>X6 (by rw[e])
  have A1:j<bs.length:=kL hj;simp only[q8] at fH ⊢;rw[fH];simp only[aM,aq,bS,bU,jX,bq,av,lU,zH,zB,zV,zM,ak,zd,ze,zt,qk,aU,aa,Es,zT,ah,qJ,nC]
  have oq:∀y,(((Hp.push ⟨bs,[]⟩ (.cells x 117)).set j y).bQ j (.br [.agg x])).get b=some (.cells [.dw j v xs.length] ty):=λy=>by
   rw[bW,jz,zN uo];simp[Ne.symm ur]
  rw[zA (cs:=[.dw j v xs.length]) (ty:=ty) Ml.st (oq _) rfl rfl (by simp) (by simp[wz,locked])]
  simp only[bx,aq,zr,Fx,Vm.storeCells,V.laid,bS]
  refine⟨trivial,[],rfl,rfl,.dw j (v+1) (xs.length+1),j,?_,?_,?_,ur,.inl rfl,?_⟩
  ·intro d hd Em X7;have Mj:d≠j:=λe=>X7 (by rw[e])
   rw[bW,jz,bW,jz,wZ];cases hg:Hp.get ⟨bs,[]⟩ d with
   | none=>exact absurd hg (by simp[Hp.get,zg,hd])
   | some y=>simp only[if_neg Em,if_neg Mj];exact hg.symm
  ·rw[bW,jz,oq];simp
  ·refine⟨v+1,by simp,?_⟩
   rw[bW,jz,bW,jz,zN hj];simp[ur,bX,V.cells]
  ·simp[xl,wu,jl]
end
section
variable{gl:Gl}
theorem IU:prog.underlying 149=some (.slice 157):=Ka.u
theorem zqB(hg:GW gl){n:Nat}{H:Hp}{b j:Nat}{c:V}{ty:aB}{xs:List aC}{x:aC}(hb:H.get b=some (.cells [c] ty))(hu:UL H 11 157 c (some j) (xs++[x]))(ur:j≠b)(hx:x.length=11)(EN:x.map aW=x)(Ea:aI x=0)(pG:∀y∈xs,y.length=11)(hlen:xs.length<140737488355328) :
  ∃H' c',zk prog gl (n+1) 90 [.ptr b 0] H=some (.ret (.agg x),H')/\H'.get b=some (.cells [c'] ty)/\UL H' 11 157 c' (some j) xs/\sX H H' (λd=>d=b\/d=j):=by
 obtain⟨bs,es⟩:=H;have bR:b<bs.length:=kL hb;obtain⟨v,rfl,hj⟩:=hu;have A1:j<bs.length:=kL hj;have uo:Hp.get ⟨bs,[]⟩ b=some (.cells [.dw j v (xs++[x]).length] ty):=hb;have X8:Hp.get ⟨bs,[]⟩ j=some (.ul v 11 (xs++[x]).flatten 157):=hj;obtain⟨z,ET,G_,BH,QD⟩:=Ka.zero;have oc:(xs++[x]).flatten.length=xs.length * 11+11:=by
  rw[vr (n:=11) (by intro y hy;rcases oM.1 hy with h|h;exact pG y h;simp at h;rw[h,hx])]
  simp[HU]
 suffices bK:(go ⟨prog,gl,zk prog gl n,fG⟩ n (Fx prog f90.results.toList λw H1=>w=.agg x/\∃c',(∀d,d<bs.length->d≠b->d≠j->H1.get d=Hp.get ⟨bs,es⟩ d)/\H1.get b=some (.cells [c'] ty)/\UL H1 11 157 c' (some j) xs/\bs.length<=H1.au.length) [.c (f90.body.getD .skip)] .normal ⟨[.ptr b 0]++List.replicate 30 (.br []),⟨bs,[]⟩,[],[]⟩) by
  obtain⟨w,H1,h0,rfl,c',h2,h3,h4,h7⟩:=zJ (gl:=gl) (f:=90) (bs:=bs) (es:=es) (args:=[.ptr b 0]) (n:=n) (hg.hk _ _ (by decide)) (λH=>hg.eV _ _ _ _) func90 rfl (by rw[hg.uq];exact bK)
  exact⟨_,c',h0,(ja bR).trans h3,h4.frame λk hk=>by cases hk;exact ja A1,vV h7,λd hd hn=>(ja hd).trans (h2 d hd (λe=>hn (.inl e)) (λe=>hn (.inr e)))⟩
 simp only[f90,ga,zh];refine zi ?_;simp only[qx,aH,zh,qM,ET,zL G_,aM,aq,bS,bU,List.replicate,bh,bg]
 refine qY (tk:=[]) (by kernel_rfl) (by kernel_rfl) ?_
 have Mm:(Hp.push ⟨bs,[]⟩ (.cells z.cells 157)).get b=some (.cells [.dw j v (xs++[x]).length] ty):=zN uo;have Mn:(Hp.push ⟨bs,[]⟩ (.cells z.cells 157)).get j=some (.ul v 11 (xs++[x]).flatten 157):=zN X8;have l8:∀u w,qO prog .sub 3 u w (some (.int .i64 ((xs++[x]).length:Int))) (some (.int .i64 1))=some (.int .i64 (xs.length:Int)):=λu w=>by
  rw[kj,kw (by simp only[aV,JC];omega) (by simp only[aV,JC];omega)];simp
 have Mo:zl prog (Hp.push ⟨bs,[]⟩ (.cells z.cells 157)) gl.g 157 (.gm j v (xs.length * 11))=some (.agg x):=by
  rw[zg9 BG Aq Mn (by rw[oc];omega)]
  rw[List.flatten_append,List.drop_append_of_le_length (by rw[vr pG];omega),List.drop_eq_nil_of_le (by rw[vr pG];omega)]
  simp[<- hx]
 have BJ:zl prog (Hp.push ⟨bs,[]⟩ (.cells z.cells 157)) gl.g 149 (.ptr b 0)=some (.dw j v (xs++[x]).length):=zu CY Mm rfl;have IT:zp prog 149 (.dw j v (xs++[x]).length) (xs.length:Int)=some (.gm j v (xs.length * 11)):=by
  rw[Um IU Aq (by simp only[aV,JC];omega),y_]
 simp only[jX,bq,av,lU,BG,CY,zK,qw,zH,zB,kC,zY,zU,qM,ET,zL G_,zV,zM,ak,aj,zd,ze,zt,aM,aq,bS,bU,qk,q8,zS,qU,jR,qW,aS,aU,aa,CX,zT,ah,nC,
  BJ,xp IU,l8,aE,IT,Mo]
 obtain⟨HA,IV⟩:∃HA,HA=Hp.push ⟨bs,[]⟩ (.cells z.cells 157):=⟨_,rfl⟩;rw[<- IV] at Mm Mn BJ ⊢;have Mp:HA.au.length=bs.length+1:=by rw[IV,jl]
 have X9:HA.get bs.length=some (.cells z.cells 157):=by rw[IV];exact Ul
 have QF:∀d,d<bs.length->HA.get d=Hp.get ⟨bs,es⟩ d:=λd hd=>by rw[IV,jG hd];rfl
 rw[zA (v:=.agg x) Aq (wg (H:=HA)) rfl (by simp[V.laid,hx]) (by rw[BH];omega) (wk QD (by rw[BH];omega))]
 simp only[bx,aq,zh,V.laid,EN,w7 (show z.cells.length=x.length by rw[BH,hx])]
 rw[jT (v:=.agg x) (by simp[V.top,Ea])]
 obtain⟨HB,tV⟩:∃HB,HB=Hp.set (HA.push (.cells z.cells 157)) HA.au.length (.cells x 157):=⟨_,rfl⟩;rw[<- tV,Mp];have dZ:HB.get b=some (.cells [.dw j v (xs++[x]).length] ty):=by rw[tV,qD (by omega),jG (by omega),Mm]
 have QG:HB.get j=some (.ul v 11 (xs++[x]).flatten 157):=by rw[tV,qD (by omega),jG (by omega),Mn]
 have X_:HB.get bs.length=some (.cells z.cells 157):=by rw[tV,qD (by omega),jG (by omega),X9]
 have Ya:HB.get (bs.length+1)=some (.cells x 157):=by rw[tV,<- Mp,wJ wg]
 have Yb:∀d,d<bs.length->HB.get d=Hp.get ⟨bs,es⟩ d:=λd hd=>by rw[tV,qD (by omega),jG (by omega),QF d hd]
 have Yc:HB.au.length=bs.length+2:=by rw[tV,wu,jl,Mp]
 refine qY (tk:=[]) (by kernel_rfl) (by kernel_rfl) ?_
 have Mq:zl prog HB gl.g 149 (.ptr b 0)=some (.dw j v (xs++[x]).length):=zu CY dZ rfl
 simp only[jX,av,lU,CY,zK,qw,zH,zB,kC,zY,zeS,zdE (cx:=⟨prog,gl.g,zk prog gl n,fG⟩) (show q_ prog fG 149=true by kernel_rfl),ak,cX,aj,zd,ze,zt,aM,aq,bS,bU,qk,q8,zS,aS,aU,aa,CX,zT,ah,nC,
  Mq,xp IU,l8]
 have Mr:∀env,Oh prog 149 env HB [] [] (some (.dw j v (xs++[x]).length)) (some none) (some (some (.int .i64 (xs.length:Int))))=some (.val (.dw j (v+1) xs.length),⟨env,(HB.set j (.ul (v+1) 11 xs.flatten 157)).bQ j .fE,[],[]⟩):=λenv=>by
  have hle:xs.length<=(xs++[x]).length:=by simp
  simp only[Oh,IU,QG,Aq,y_,hle,Ce,Int.natCast_nonneg,aF];rw[List.flatten_append,<- vr pG,List.take_left]
 rw[Mr];simp only[jX,bq,zh,av,lU,zH,zB,zV,zM,ak,zd,ze,zt,aM,aq,bS,bU,qk,qJ,aU,aa,CX,zT,ah,nC]
 rw[zA (cs:=[.dw j v (xs++[x]).length]) (ty:=ty) Ka.st (by rw[kl (Ne.symm ur),dZ]) rfl rfl (by simp) (by simp[wz,locked])]
 obtain⟨HC,CZ⟩:∃HC,HC=Hp.bQ (Hp.set ((HB.set j (.ul (v+1) 11 xs.flatten 157)).bQ j .fE) b (.cells (Vm.storeCells [.dw j v (xs++[x]).length] 0 (V.laid (.dw j (v+1) xs.length))) ty)) b (.dw j (v+1) xs.length):=⟨_,rfl⟩;rw[<- CZ];have Yd:HC.get b=some (.cells [.dw j (v+1) xs.length] ty):=by rw[CZ,gK (by rw[kl (Ne.symm ur),dZ])];rfl
 have Ye:HC.get j=some (.ul (v+1) 11 xs.flatten 157):=by rw[CZ,kl ur,gK QG]
 have QH:HC.get bs.length=some (.cells z.cells 157):=by rw[CZ,kl (by omega),kl (by omega),X_]
 have Yf:HC.get (bs.length+1)=some (.cells x 157):=by rw[CZ,kl (by omega),kl (by omega),Ya]
 have Yg:∀d,d<bs.length->d≠b->d≠j->HC.get d=Hp.get ⟨bs,es⟩ d:=λd hd h1 h2=>by rw[CZ,kl h1,kl h2,Yb d hd]
 have Yh:HC.au.length=bs.length+2:=by rw[CZ,Un,Un,Yc]
 simp only[bx,aq]
 refine zi ?_;have FQ:zl prog HC gl.g 157 (.ptr (bs.length+1) 0)=some (.agg x):=by
  rw[je BG Aq Yf (by simp[hx])];simp[<- hx]
 simp only[qx,aH,qw,zV,zM,ak,zd,ze,zt,aM,aq,bS,bU,qk,qU,qW,aS,aU,FQ]
 rw[zA (v:=.agg x) Aq QH rfl (by simp[V.laid,hx]) (by rw[BH];omega) (wk QD (by rw[BH];omega))]
 simp only[bx,aq,go_ret,zr,Fx,V.laid,EN,w7 (show z.cells.length=x.length by rw[BH,hx])]
 rw[jT (v:=.agg x) (by simp[V.top,Ea])]
 obtain⟨HD,Eu⟩:∃HD,HD=Hp.set HC bs.length (.cells x 157):=⟨_,rfl⟩;rw[<- Eu];have Yi:HD.get bs.length=some (.cells x 157):=by rw[Eu,wJ QH]
 refine⟨trivial,[.agg x],?_,rfl,.dw j (v+1) xs.length,λd hd h1 h2=>by rw[Eu,qD (by omega),Yg d hd h1 h2],by rw[Eu,qD (by omega),Yd],⟨v+1,rfl,by rw[Eu,qD (by omega),Ye]⟩,by rw[Eu,wu,Yh];omega⟩
 simp only[zy,zd,ze];rw[je BG Aq Yi (by simp[hx])]
 simp[aW,<- hx]
theorem IW:prog.underlying 152=some (.slice 117):=Ml.u
theorem zqC(hg:GW gl){n:Nat}{H:Hp}{b j:Nat}{c:V}{ty:aB}{xs:List aC}{x:aC}(hb:H.get b=some (.cells [c] ty))(hu:UL H 39 117 c (some j) (xs++[x]))(ur:j≠b)(hx:x.length=39)(EN:x.map aW=x)(Ea:aI x=0)(pG:∀y∈xs,y.length=39)(hlen:xs.length<140737488355328) :
  ∃H' c',zk prog gl (n+1) 93 [.ptr b 0] H=some (.ret (.agg x),H')/\H'.get b=some (.cells [c'] ty)/\UL H' 39 117 c' (some j) xs/\sX H H' (λd=>d=b\/d=j):=by
 obtain⟨bs,es⟩:=H;have bR:b<bs.length:=kL hb;obtain⟨v,rfl,hj⟩:=hu;have A1:j<bs.length:=kL hj;have uo:Hp.get ⟨bs,[]⟩ b=some (.cells [.dw j v (xs++[x]).length] ty):=hb;have X8:Hp.get ⟨bs,[]⟩ j=some (.ul v 39 (xs++[x]).flatten 117):=hj;obtain⟨z,ET,G_,BH,QD⟩:=Ml.zero;have oc:(xs++[x]).flatten.length=xs.length * 39+39:=by
  rw[vr (n:=39) (by intro y hy;rcases oM.1 hy with h|h;exact pG y h;simp at h;rw[h,hx])]
  simp[HU]
 suffices bK:(go ⟨prog,gl,zk prog gl n,fG⟩ n (Fx prog f93.results.toList λw H1=>w=.agg x/\∃c',(∀d,d<bs.length->d≠b->d≠j->H1.get d=Hp.get ⟨bs,es⟩ d)/\H1.get b=some (.cells [c'] ty)/\UL H1 39 117 c' (some j) xs/\bs.length<=H1.au.length) [.c (f93.body.getD .skip)] .normal ⟨[.ptr b 0]++List.replicate 30 (.br []),⟨bs,[]⟩,[],[]⟩) by
  obtain⟨w,H1,h0,rfl,c',h2,h3,h4,h7⟩:=zJ (gl:=gl) (f:=93) (bs:=bs) (es:=es) (args:=[.ptr b 0]) (n:=n) (hg.hk _ _ (by decide)) (λH=>hg.eV _ _ _ _) func93 rfl (by rw[hg.uq];exact bK)
  exact⟨_,c',h0,(ja bR).trans h3,h4.frame λk hk=>by cases hk;exact ja A1,vV h7,λd hd hn=>(ja hd).trans (h2 d hd (λe=>hn (.inl e)) (λe=>hn (.inr e)))⟩
 simp only[f93,ga,zh];refine zi ?_;simp only[qx,aH,zh,qM,ET,zL G_,aM,aq,bS,bU,List.replicate,bh,bg]
 refine qY (tk:=[]) (by kernel_rfl) (by kernel_rfl) ?_
 have Mm:(Hp.push ⟨bs,[]⟩ (.cells z.cells 117)).get b=some (.cells [.dw j v (xs++[x]).length] ty):=zN uo;have Mn:(Hp.push ⟨bs,[]⟩ (.cells z.cells 117)).get j=some (.ul v 39 (xs++[x]).flatten 117):=zN X8;have l8:∀u w,qO prog .sub 3 u w (some (.int .i64 ((xs++[x]).length:Int))) (some (.int .i64 1))=some (.int .i64 (xs.length:Int)):=λu w=>by
  rw[kj,kw (by simp only[aV,JC];omega) (by simp only[aV,JC];omega)];simp
 have Mo:zl prog (Hp.push ⟨bs,[]⟩ (.cells z.cells 117)) gl.g 117 (.gm j v (xs.length * 39))=some (.agg x):=by
  rw[zg9 uu sn Mn (by rw[oc];omega)]
  rw[List.flatten_append,List.drop_append_of_le_length (by rw[vr pG];omega),List.drop_eq_nil_of_le (by rw[vr pG];omega)]
  simp[<- hx]
 have BJ:zl prog (Hp.push ⟨bs,[]⟩ (.cells z.cells 117)) gl.g 152 (.ptr b 0)=some (.dw j v (xs++[x]).length):=zu Et Mm rfl;have IT:zp prog 152 (.dw j v (xs++[x]).length) (xs.length:Int)=some (.gm j v (xs.length * 39)):=by
  rw[Um IW sn (by simp only[aV,JC];omega),y_]
 simp only[jX,bq,av,lU,uu,Et,zK,qw,zH,zB,kC,zY,zU,qM,ET,zL G_,zV,zM,ak,aj,zd,ze,zt,aM,aq,bS,bU,qk,q8,zS,qU,jR,qW,aS,aU,aa,Es,zT,ah,nC,
  BJ,xp IW,l8,aE,IT,Mo]
 obtain⟨HA,IV⟩:∃HA,HA=Hp.push ⟨bs,[]⟩ (.cells z.cells 117):=⟨_,rfl⟩;rw[<- IV] at Mm Mn BJ ⊢;have Mp:HA.au.length=bs.length+1:=by rw[IV,jl]
 have X9:HA.get bs.length=some (.cells z.cells 117):=by rw[IV];exact Ul
 have QF:∀d,d<bs.length->HA.get d=Hp.get ⟨bs,es⟩ d:=λd hd=>by rw[IV,jG hd];rfl
 rw[zA (v:=.agg x) sn (wg (H:=HA)) rfl (by simp[V.laid,hx]) (by rw[BH];omega) (wk QD (by rw[BH];omega))]
 simp only[bx,aq,zh,V.laid,EN,w7 (show z.cells.length=x.length by rw[BH,hx])]
 rw[jT (v:=.agg x) (by simp[V.top,Ea])]
 obtain⟨HB,tV⟩:∃HB,HB=Hp.set (HA.push (.cells z.cells 117)) HA.au.length (.cells x 117):=⟨_,rfl⟩;rw[<- tV,Mp];have dZ:HB.get b=some (.cells [.dw j v (xs++[x]).length] ty):=by rw[tV,qD (by omega),jG (by omega),Mm]
 have QG:HB.get j=some (.ul v 39 (xs++[x]).flatten 117):=by rw[tV,qD (by omega),jG (by omega),Mn]
 have X_:HB.get bs.length=some (.cells z.cells 117):=by rw[tV,qD (by omega),jG (by omega),X9]
 have Ya:HB.get (bs.length+1)=some (.cells x 117):=by rw[tV,<- Mp,wJ wg]
 have Yb:∀d,d<bs.length->HB.get d=Hp.get ⟨bs,es⟩ d:=λd hd=>by rw[tV,qD (by omega),jG (by omega),QF d hd]
 have Yc:HB.au.length=bs.length+2:=by rw[tV,wu,jl,Mp]
 refine qY (tk:=[]) (by kernel_rfl) (by kernel_rfl) ?_
 have Mq:zl prog HB gl.g 152 (.ptr b 0)=some (.dw j v (xs++[x]).length):=zu Et dZ rfl
 simp only[jX,av,lU,Et,zK,qw,zH,zB,kC,zY,zeS,zdE (cx:=⟨prog,gl.g,zk prog gl n,fG⟩) (show q_ prog fG 152=true by kernel_rfl),ak,cX,aj,zd,ze,zt,aM,aq,bS,bU,qk,q8,zS,aS,aU,aa,Es,zT,ah,nC,
  Mq,xp IW,l8]
 have Mr:∀env,Oh prog 152 env HB [] [] (some (.dw j v (xs++[x]).length)) (some none) (some (some (.int .i64 (xs.length:Int))))=some (.val (.dw j (v+1) xs.length),⟨env,(HB.set j (.ul (v+1) 39 xs.flatten 117)).bQ j .fE,[],[]⟩):=λenv=>by
  have hle:xs.length<=(xs++[x]).length:=by simp
  simp only[Oh,IW,QG,sn,y_,hle,Ce,Int.natCast_nonneg,aF];rw[List.flatten_append,<- vr pG,List.take_left]
 rw[Mr];simp only[jX,bq,zh,av,lU,zH,zB,zV,zM,ak,zd,ze,zt,aM,aq,bS,bU,qk,qJ,aU,aa,Es,zT,ah,nC]
 rw[zA (cs:=[.dw j v (xs++[x]).length]) (ty:=ty) Ml.st (by rw[kl (Ne.symm ur),dZ]) rfl rfl (by simp) (by simp[wz,locked])]
 obtain⟨HC,CZ⟩:∃HC,HC=Hp.bQ (Hp.set ((HB.set j (.ul (v+1) 39 xs.flatten 117)).bQ j .fE) b (.cells (Vm.storeCells [.dw j v (xs++[x]).length] 0 (V.laid (.dw j (v+1) xs.length))) ty)) b (.dw j (v+1) xs.length):=⟨_,rfl⟩;rw[<- CZ];have Yd:HC.get b=some (.cells [.dw j (v+1) xs.length] ty):=by rw[CZ,gK (by rw[kl (Ne.symm ur),dZ])];rfl
 have Ye:HC.get j=some (.ul (v+1) 39 xs.flatten 117):=by rw[CZ,kl ur,gK QG]
 have QH:HC.get bs.length=some (.cells z.cells 117):=by rw[CZ,kl (by omega),kl (by omega),X_]
 have Yf:HC.get (bs.length+1)=some (.cells x 117):=by rw[CZ,kl (by omega),kl (by omega),Ya]
 have Yg:∀d,d<bs.length->d≠b->d≠j->HC.get d=Hp.get ⟨bs,es⟩ d:=λd hd h1 h2=>by rw[CZ,kl h1,kl h2,Yb d hd]
 have Yh:HC.au.length=bs.length+2:=by rw[CZ,Un,Un,Yc]
 simp only[bx,aq]
 refine zi ?_;have FQ:zl prog HC gl.g 117 (.ptr (bs.length+1) 0)=some (.agg x):=by
  rw[je uu sn Yf (by simp[hx])];simp[<- hx]
 simp only[qx,aH,qw,zV,zM,ak,zd,ze,zt,aM,aq,bS,bU,qk,qU,qW,aS,aU,FQ]
 rw[zA (v:=.agg x) sn QH rfl (by simp[V.laid,hx]) (by rw[BH];omega) (wk QD (by rw[BH];omega))]
 simp only[bx,aq,go_ret,zr,Fx,V.laid,EN,w7 (show z.cells.length=x.length by rw[BH,hx])]
 rw[jT (v:=.agg x) (by simp[V.top,Ea])]
 obtain⟨HD,Eu⟩:∃HD,HD=Hp.set HC bs.length (.cells x 117):=⟨_,rfl⟩;rw[<- Eu];have Yi:HD.get bs.length=some (.cells x 117):=by rw[Eu,wJ QH]
 refine⟨trivial,[.agg x],?_,rfl,.dw j (v+1) xs.length,λd hd h1 h2=>by rw[Eu,qD (by omega),Yg d hd h1 h2],by rw[Eu,qD (by omega),Yd],⟨v+1,rfl,by rw[Eu,qD (by omega),Ye]⟩,by rw[Eu,wu,Yh];omega⟩
 simp only[zy,zd,ze];rw[je uu sn Yi (by simp[hx])]
 simp[aW,<- hx]
end
section
variable{gl:Gl}
theorem zhk{q:Nat->Bool}{k:Nat}:∀{ks:bL}{ns:List (Nat->Bool)},mN q (ks++[k]) ns=(mN q ks ns).set k (jD ((mN q ks ns).getD k λ_=>false) q)
 | [],_=>rfl
 | _::ks,_=>by simp only[bh,mN];exact zhk
def ep(bs:List aT)(i:Option Nat)(ns:List (Nat->Bool)):List aT :=
 match i with
 | none=>bs
 | some j=>match nth bs j with
  | some (.ul v sz _ e)=>bs.set j (.ul v sz (ns.map (pv 19)).flatten e)
  | _=>bs
theorem Yj{bs:List aT}{j v sz e:Nat}{cs:aC}{ns:List (Nat->Bool)}(h:nth bs j=some (.ul v sz cs e)):ep bs (some j) ns=bs.set j (.ul v sz (ns.map (pv 19)).flatten e):=by simp only[ep,h]
theorem yK{bs:List aT}{i:Option Nat}{ns:List (Nat->Bool)}:(ep bs i ns).length=bs.length:=by
 unfold ep;split
 ·rfl
 ·split
  ·simp
  ·rfl
theorem Ut{bs:List aT}{i:Option Nat}{ns:List (Nat->Bool)}{d:Nat}(h:i≠some d):nth (ep bs i ns) d=nth bs d:=by
 unfold ep;split
 ·rfl
 ·rename_i j;split
  ·rw[zg,su (by intro e;exact h (by rw[e])),zg]
  ·rfl
theorem Uu{bs:List aT}{es:aN}{sz:Nat}{e:aB}{c:V}{i:Option Nat}{xs:List aC}(h:UL ⟨bs,es⟩ sz e c i xs){d:Nat}{cs:aC}{ty:aB}(hd:nth bs d=some (.cells cs ty)):i≠some d:=by
 intro e;subst e;obtain⟨v,_,h2⟩:=h;simp only[Hp.get] at h2;rw[hd] at h2;cases h2
theorem zjq{bs:List aT}{es fs:aN}{e:aB}{c:V}{i:Option Nat}{ns ns':List (Nat->Bool)}(h:UL ⟨bs,es⟩ 19 e c i (ns.map (pv 19)))(hl:ns'.length=ns.length):UL ⟨ep bs i ns',fs⟩ 19 e c i (ns'.map (pv 19)):=by
 cases i with
 | none =>
  obtain⟨h1,h2⟩:=h;have:ns=[]:=by simpa using h2
  subst this;exact⟨h1,by simp[HM hl]⟩
 | some j =>
  obtain⟨v,h1,h2⟩:=h;have GQ:nth bs j=some (.ul v 19 (ns.map (pv 19)).flatten e):=h2;refine⟨v,by rw[h1];simp[hl],?_⟩
  have bR:j<bs.length:=by rw[zg] at GQ;exact(cP.1 GQ).1
  rw[Yj GQ];simp[Hp.get,zg,bR]
theorem Uv{bs:List aT}{es:aN}{e:aB}{c:V}{i:Option Nat}{ns:List (Nat->Bool)}(h:UL ⟨bs,es⟩ 19 e c i (ns.map (pv 19))):ep bs i ns=bs:=by
 cases i with
 | none=>rfl
 | some j =>
  obtain⟨v,h1,h2⟩:=h;have GQ:nth bs j=some (.ul v 19 (ns.map (pv 19)).flatten e):=h2;rw[Yj GQ];exact jY GQ
theorem zin{bs:List aT}{i:Option Nat}{ns ns':List (Nat->Bool)}:ep (ep bs i ns) i ns'=ep bs i ns':=by
 cases i with
 | none=>rfl
 | some j =>
  simp only[ep];cases h:nth bs j with
  | none=>simp[h]
  | some b =>
   have bR:j<bs.length:=by rw[zg] at h;exact(cP.1 h).1
   cases b<;>simp[h,zg,bR]
theorem rH:zD prog 113 2=some 2:=by kernel_rfl
theorem FR:qC prog 111=some false:=by kernel_rfl
theorem Hj:mY prog 111 115 19 152:=⟨by kernel_rfl,by kernel_rfl,by kernel_rfl,by decide,by kernel_rfl,by kernel_rfl,by kernel_rfl⟩
theorem Oq:qC prog 3=some false:=by kernel_rfl
theorem Yk(hg:GW gl){n:Nat}(hn:1300<=n){bs:List aT}{es:aN}{bm bl ol bf ob:Nat}{a0 a1 c:V}{i:Option Nat}{ns:List (Nat->Bool)}{p q:Nat->Bool}{pre post pre' post':aC}{ty ty' Ot:aB}
  (hm:nth bs bm=some (.cells [a0,a1,c] Ot)) (hu:UL ⟨bs,es⟩ 19 115 c i (ns.map (pv 19)))
  (hl:nth bs bl=some (.cells (pre++pv 19 p++post) ty)) (Eg:pre.length=ol) (hf:nth bs bf=some (.cells (pre'++pv 19 q++post') ty')) (hof:pre'.length=ob)
  (dG:∀k∈jg p 19,k<ns.length) :
  zk prog gl (n+1) 57 [.ptr bm 0,.ptr bl ol,.ptr bf ob] ⟨bs,es⟩=some (.ret (.br []),⟨ep bs i (mN q (jg p 19) ns),es⟩):=by
 generalize hL:jg p 19=L at *;have iM:zX bs.length es 0 ⟨ep bs i (mN q L ns),[]⟩=⟨ep bs i (mN q L ns),es⟩:=by
  have:=zW (bs:=ep bs i (mN q L ns)) (ls:=[]) (es:=es) (t:=0) (dU _)
  rwa [mT,yK] at this
 suffices bK:(go ⟨prog,gl,zk prog gl n,fG⟩ n (Fx prog f57.results.toList λw H1=>w=.br []/\H1=⟨ep bs i (mN q L ns),[]⟩) [.c (f57.body.getD .skip)] .normal ⟨[.ptr bm 0,.ptr bl ol,.ptr bf ob]++List.replicate 21 (.br []),⟨bs,[]⟩,[],[]⟩) by
  obtain⟨w,H1,h0,rfl,rfl⟩:=zJ (gl:=gl) (f:=57) (bs:=bs) (es:=es) (args:=[.ptr bm 0,.ptr bl ol,.ptr bf ob]) (n:=n) (hg.hk _ _ (by decide)) (λH=>hg.eV _ _ _ _) func57 rfl (by rw[hg.uq];exact bK)
  rw[h0,show(V.br []).top=0 from rfl,iM]
 have hLl:L.length<=1216:=by
  have:=xo (p:=p) 19;rw[xF,gk,hL] at this;omega
 have QI:Cx.bD ⟨prog,gl.g,zk prog gl n,fG⟩ 59 [.ptr bl ol] ⟨bs,[]⟩=some (.val (aW (zm 1 3 (L.map λk=>V.int .i64 ((k:Nat):Int)))),⟨bs,[]⟩):=by
  have h:=zhi hg (n:=n - 1) (by omega) (H:=⟨bs,[]⟩) (b:=bl) (off:=ol) (pre:=pre) (post:=post) (p:=p) hl Eg
  rw[xF,hL,show n - 1+1=n by omega] at h
  exact zq func59 rfl h
 simp only[f57,ga,zh];refine zi ?_;simp only[qx,aH,zK,ki,az,ak,qm,aj,zd,ze,zt,aM,aq,bS,bU,List.replicate,bh,bg,qk,qL,aA,QI,a_,bt,kC,aU,qS,Uo EV.u,aS,gk]
 simp only[zx];refine qd (λm s=>∃k env,m+k=L.length/\s=⟨env,⟨ep bs i (mN q (L.take k) ns),[]⟩,[],[]⟩/\env.length=24/\nth env 0=some (.ptr bm 0)/\nth env 2=some (.ptr bf ob)/\nth env 9=some (aW (zm 1 3 (L.map λk=>V.int .i64 ((k:Nat):Int))))/\nth env 10=some (.int .i64 (L.length:Nat))/\nth env 11=some (.int .i64 (k:Nat))) L.length (by omega) ?_ ?_
 ·have Er:ep bs i (mN q (L.take 0) ns)=bs:=Uv hu;refine⟨0,_,rfl,by rw[Er],?_,?_,?_,?_,?_,?_⟩<;>rfl
 rintro m s ⟨k,env,Bn,rfl,hlen,h0,h2,h9,DD,QJ⟩;simp only[zh];refine zi ?_;simp only[qx,aH,zh,qR,zY,ak,DD,QJ,zt,aM,aq,za,hlen,Nat.reduceLT,aF,zS,qQ,qT,qh]
 by_cases hk:k<L.length
 ·refine .inl ⟨by simp;omega,?_⟩
  simp only[bB,zh,zx]
  have hx:nth (L.map λk=>V.int .i64 ((k:Nat):Int)) k=some (.int .i64 ((L[k]:Nat):Int)):=by rw[zg];simp[hk]
  have gE:∀w:V,nth env 9=some w->aW w=w->aW (aW w)=w:=λw _ h=>by rw[h,h]
  refine zi ?_;have IT:=zku EV.u (show z8 prog 3=some 1 by kernel_rfl) hx
  simp only[qx,aH,zU,qw,z9,zM,ak,h9,QJ,zt,qg,aM,aq,za,bG,hlen,Nat.reduceEqDiff,Nat.reduceLT,aF,bz,zS,aU,aE,qS,IT,V.cells,wY,zlQ Oq,aS,qr]
  refine zi ?_;have hkL:L[k]<ns.length:=dG _ (List.getElem_mem hk);obtain⟨j,rfl⟩:∃j,i=some j:=by
   cases i with
   | none =>
    have:ns=[]:=by simpa using hu.2
    subst this;simp at hkL
   | some j=>exact⟨j,rfl⟩
  have WZ:=Uu hu hm;have hjf:=Uu hu hf;have nG:=zjq (fs:=[]) (ns':=mN q (L.take k) ns) hu wv;obtain⟨v,rfl,hj⟩:=nG;obtain⟨sL,FL⟩:∃sL,sL=ep bs (some j) (mN q (L.take k) ns):=⟨_,rfl⟩;have Pp:Hp.get ⟨sL,[]⟩ bm=some (.cells [a0,a1,.dw j v (List.map (pv 19) (mN q (L.take k) ns)).length] Ot):=by rw[FL];exact(Ut WZ).trans hm
  have Fp:nth sL bf=some (.cells (pre'++pv 19 q++post') ty'):=by rw[FL];exact(Ut hjf).trans hf
  obtain⟨pr,po,g1,g2,g3⟩:=zg7 (ns:=mN q (L.take k) ns) (k:=L[k]) (by rw[wv];exact hkL)
  rw[<- FL] at hj ⊢;have pN:nth sL j=some (.ul v 19 (pr++pv 19 ((mN q (L.take k) ns).getD L[k] λ_=>false)++po) 115):=by rw[<- g2];exact hj
  have gp:zl prog ⟨sL,[]⟩ gl.g 111 (.ptr bm (0+2))=some (.dw j v (List.map (pv 19) (mN q (L.take k) ns)).length):=zu FR Pp rfl;have Yl:zp prog 111 (.dw j v (List.map (pv 19) (mN q (L.take k) ns)).length) ((L[k]:Nat):Int)=some (.gm j v (L[k] * 19)):=by
   rw[Um Hj.u Hj.s (by rw[gk,wv];omega),y_]
  have QK:=zl3 hg (n:=n - 1) (by omega) (es:=[]) pN g1 Fp hof (λe=>hjf (by rw[e]))
  rw[show n - 1+1=n by omega,<- g3] at QK
  have dz:Cx.bD ⟨prog,gl.g,zk prog gl n,fG⟩ 58 [.gm j v (L[k] * 19),.ptr bf ob] ⟨sL,[]⟩=_:=zq func58 rfl QK;simp only[qx,aH,zK,zH,zB,qw,zU,ki,az,qm,ak,h0,h2,zt,aM,aq,za,bG,hlen,Nat.reduceEqDiff,Nat.reduceLT,aF,bz,qk,zS,q8,jR,aU,aS,aa,rH,zT,ah,aE,gp,Yl,qL,aA,dz,a_,bt,qF]
  have hH:sL.set j (.ul v 19 (((mN q (L.take k) ns).set L[k] (jD ((mN q (L.take k) ns).getD L[k] λ_=>false) q)).map (pv 19)).flatten 115)=ep bs (some j) (mN q (L.take (k+1)) ns):=by
   rw[<- zin (ns:=mN q (L.take k) ns),<- FL,Yj pN,List.take_succ_eq_append_getElem hk,zhk]
  rw[hH];refine zi ?_;simp only[qx,aH,zY,zK,ak,aj,QJ,zt,aM,aq,za,bG,hlen,Nat.reduceEqDiff,Nat.reduceLT,aF,bz,zS,zQ (show k<2 ^ 60 by omega),zr,aO]
  refine⟨L.length - (k+1),by omega,k+1,_,by omega,rfl,?_,?_,?_,?_,?_,?_⟩<;>simp[za,hlen,h0,h2,h9,DD]
 ·obtain rfl:k=L.length:=by omega
  refine .inr ⟨by simp,?_⟩
  simp only[ql,zO,zr,bJ,zG,lu,aF,Fx];refine⟨trivial,[],rfl,rfl,?_⟩;rw[Dh]
end
section
variable{gl:Gl}
section
variable{B ls:List aT}{d k:Nat}{x:aT}
theorem gB(h:d<B.length):nth (B++ls) d=nth B d:=by rw[zg,zg,fI h]
theorem gN:nth (B++ls) (B.length+k)=nth ls k:=by rw[zg,zg,eM (by omega)];simp
theorem Ou:nth (B++ls) B.length=nth ls 0:=gN (k:=0)
theorem sN:(B++ls).set (B.length+k) x=B++ls.set k x:=by rw[tW _ _ (by omega)];simp
theorem sN0:(B++ls).set B.length x=B++ls.set 0 x:=sN (k:=0)
theorem sB(h:d<B.length):(B++ls).set d x=B.set d x++ls:=GO _ _ h
end
section
variable{P:aQ}{t n:aB}{B ls:List aT}{k off:Nat}{cs:aC}{ty:aB}{v:V}{env:aC}{lk:aN}{df:bP}{es:aN}{g:Nat->Nat->bY}
theorem Ms(hs:z8 P t=some n)(hg:nth ls k=some (.cells cs ty))(h1:dD v=true)(h2:v.laid.length=n)(h3:off+n<=cs.length)(h4:cs.all (λc=>!(locked c))=true)(ht:v.top=0) :
  qo P t ⟨B++ls,es⟩ lk df (some (v,env)) (some (.ptr (B.length+k) off))=some (.skip,⟨env,⟨B++ls.set k (.cells (Vm.storeCells cs off v.laid) ty),es⟩,lk,df⟩):=by
 rw[zA hs (show Hp.get ⟨B++ls,es⟩ _=_ from gN.trans hg) h1 h2 h3 (wk h4 h3),jT (by rw[ht];omega)]
 simp only[Hp.set,sN]
theorem zl4(hs:z8 P t=some n)(hg:nth ls 0=some (.cells cs ty))(h1:dD v=true)(h2:v.laid.length=n)(h3:off+n<=cs.length)(h4:cs.all (λc=>!(locked c))=true)(ht:v.top=0) :
  qo P t ⟨B++ls,es⟩ lk df (some (v,env)) (some (.ptr B.length off))=some (.skip,⟨env,⟨B++ls.set 0 (.cells (Vm.storeCells cs off v.laid) ty),es⟩,lk,df⟩):=Ms (k:=0) hs hg h1 h2 h3 h4 ht
theorem Ym(ha:qC P t=some false)(hg:nth ls k=some (.cells cs ty))(hn:nth cs off=some v):zl P ⟨B++ls,es⟩ g t (.ptr (B.length+k) off)=some v:=zu ha (gN.trans hg) hn
theorem Yn(ha:qC P t=some false)(hg:nth ls 0=some (.cells cs ty))(hn:nth cs off=some v):zl P ⟨B++ls,es⟩ g t (.ptr B.length off)=some v:=zu ha (Ou.trans hg) hn
theorem Yo(ha:qC P t=some true)(hs:z8 P t=some n)(hg:nth ls k=some (.cells cs ty))(hl:off+n<=cs.length):zl P ⟨B++ls,es⟩ g t (.ptr (B.length+k) off)=some (.agg ((cs.drop off).take n)):=je ha hs (gN.trans hg) hl
theorem zoY(ha:qC P t=some true)(hs:z8 P t=some n)(hg:nth ls 0=some (.cells cs ty))(hl:off+n<=cs.length):zl P ⟨B++ls,es⟩ g t (.ptr B.length off)=some (.agg ((cs.drop off).take n)):=je ha hs (Ou.trans hg) hl
end
section
variable{P:aQ}{t n:aB}{B ls:List aT}{k off bm:Nat}{cs:aC}{ty e:aB}{xs ys:aC}{env:aC}{lk:aN}{df:bP}{es:aN}
theorem zhl(ha:qC P t=some false)(bR:bm<B.length)(hb:nth B bm=some (.cells cs ty))(hn:nth cs off=some (zm n e xs)) :
  vA P t env ⟨B++ls,es⟩ [] df (some (.ptr bm off))=some (.val (zm n e xs),⟨env,⟨B.set bm (.cells (cs.set off (oJ n xs)) ty)++ls,es⟩,kG bm off xs,df⟩):=by
 rw[Up ha (show Hp.get ⟨B++ls,es⟩ bm=_ from(gB bR).trans hb) hn];simp only[Hp.set,sB bR]
theorem zeZ(hs:z8 P t=some 1)(bR:bm<B.length)(ho:off<cs.length)(ht:(zm n e ys).top=0) :
  qo P t ⟨B.set bm (.cells (cs.set off (oJ n xs)) ty)++ls,es⟩ (kG bm off xs) df (some (zm n e ys,env)) (some (.ptr bm off))=some (.skip,⟨env,⟨B.set bm (.cells (cs.set off (zm n e ys)) ty)++ls,es⟩,kG bm off xs,df⟩):=by
 have mU:bm<(B.set bm (.cells (cs.set off (oJ n xs)) ty)).length:=by rw[bG];exact bR
 rw[zA hs (show Hp.get ⟨_++ls,es⟩ bm=some (.cells (cs.set off (oJ n xs)) ty) from(gB mU).trans (by simp[zg,bR])) Qx (by rw[vt];rfl) (by rw[bG];omega) (Qw ho),jT (by rw[ht];omega)]
 simp only[Hp.set,sB mU,List.set_set,vt,Vm.storeCells]
end
def cW:Nat->Bool:=λ_=>false
structure Part where
 null:Bool
 first:Nat->Bool
 last:Nat->Bool
def zo(p:Part):aC:=.bool p.null::(pv 19 p.first++pv 19 p.last)
theorem qX{p:Part}:(zo p).length=39:=by simp[zo,jF]
theorem zl6{m:Nat}{p:Nat->Bool}:(pv m p).map aW=pv m p:=by
 simp only[pv,List.map_map];rfl
theorem wT{p:Part}:(zo p).map aW=zo p:=by simp[zo,zl6,qQ]
theorem gS:∀{xs ys:aC},aI xs=0->aI ys=0->aI (xs++ys)=0
 | [],_,_,h=>h
 | x::xs,ys,h1,h2=>by
  simp only[aI,bh,Nat.max_eq_zero_iff] at h1 ⊢;exact⟨h1.1,gS h1.2 h2⟩
theorem Uw{m:Nat}{p:Nat->Bool}:aI (pv m p)=0:=by
 unfold pv
 induction List.range m with
 | nil=>rfl
 | cons x xs ih=>simp only[a_,aI,V.top,ih];rfl
theorem yL{p:Part}:aI (zo p)=0:=by
 simp only[zo,aI,V.top,gS Uw Uw];rfl
theorem Mt:qP prog 117=some (.agg (zo ⟨false,cW,cW⟩)):=by kernel_rfl
theorem zqD{env:aC}:kB prog 115 #[] env=some (.agg (pv 19 cW)):=by kernel_rfl
theorem zpL{m:Nat}{p:Nat->Bool}:(pv m p).all (λc=>!(locked c))=true:=by
 simp[pv,locked]
theorem yu{p:Part}:(zo p).all (λc=>!(locked c))=true:=by
 simp only[zo,List.all_cons,List.all_append,zpL];rfl
theorem znW{x:V}{cs:aC}{k:Nat}:Vm.storeCells cs k [x]=cs.set k x:=rfl
theorem EW{B ls:List aT}{k:Nat}{p:Part}{es:aN}{g:Nat->Nat->bY}(hg:nth ls k=some (.cells (zo p) 117)):zl prog ⟨B++ls,es⟩ g 117 (.ptr (B.length+k) 0)=some (.agg (zo p)):=by
 rw[Yo uu sn hg (by rw[qX];decide)]
 rw[iW,<- qX (p:=p),Dh]
theorem QL{B ls:List aT}{k:Nat}{p q:Part}{env:aC}{lk:aN}{df:bP}{es:aN}(hg:nth ls k=some (.cells (zo q) 117)):qo prog 117 ⟨B++ls,es⟩ lk df (some (.agg (zo p),env)) (some (.ptr (B.length+k) 0))=some (.skip,⟨env,⟨B++ls.set k (.cells (zo p) 117),es⟩,lk,df⟩):=by
 rw[Ms (k:=k) (v:=.agg (zo p)) sn hg rfl (by simp[V.laid,qX]) (by rw[qX];decide) yu (by simp[V.top,yL])]
 simp only[V.laid,wT];rw[w7 (by rw[qX,qX])]
structure Mk where
 cq:List (Int×Int×Int×Int)
 rules:List Int
 next:List (Nat->Bool)
def FU(s0 s1 s2 s3:Int):V:=.agg [.int .u64 s0,.int .u64 s1,.int .u64 s2,.int .u64 s3]
def Yp(q:Int×Int×Int×Int):V:=FU q.1 q.2.1 q.2.2.1 q.2.2.2
def Mk.lQ(m:Mk):aC:=m.cq.map Yp
def Mk.gq(m:Mk):aC:=m.rules.map (.int .i64)
theorem ww{α:Type}{h:α->V}(hh:∀a,(h a).top=0):∀(l:List α),aI (l.map h)=0
 | []=>rfl
 | a::l=>by simp[aI,hh a,ww hh l]
theorem QM{n:Nat}{e:aB}{xs:aC}(h:aI xs=0):(zm n e xs).top=0:=by
 cases xs with
 | nil=>rfl
 | cons x xs=>simpa[zm,V.top] using h
def MK(n0:Nat)(H:Hp)(bm:Nat)(m:Mk)(i:Option Nat):Prop :=
 ∃c,H.get bm=some (.cells [zm 4 50 m.lQ,zm 1 3 m.gq,c] 113)/\UL H 19 115 c i (m.next.map (pv 19))/\∀j,i=some j->n0<=j->bm<j/\(bm,j+1)∈H.bC
def Kb(n0:Nat)(i i':Option Nat):Prop:=i'=i\/i=none/\∃j,i'=some j/\n0<=j
theorem MK.start{bs:List aT}{es:aN}{n0 bm:Nat}{m:Mk}{i:Option Nat}(h:MK n0 ⟨bs,es⟩ bm m i):MK bs.length ⟨bs,[]⟩ bm m i:=by
 obtain⟨c,h1,h2,_⟩:=h;refine⟨c,h1,h2,λj hj hn=>?_⟩;subst hj;exact absurd h2.lt (by simpa using hn)
theorem MK.finish{bs:List aT}{es:aN}{n0 bm t:Nat}{m m':Mk}{i i':Option Nat}{H:Hp}(h:MK n0 ⟨bs,es⟩ bm m i)(_hn:n0<=bs.length)(eu:Kb bs.length i i')(h1:MK bs.length H bm m' i'):MK n0 (zX bs.length es t H) bm m' i':=by
 obtain⟨c,g1,g2,g3⟩:=h;obtain⟨c',k1,k2,k3⟩:=h1;have bR:bm<bs.length:=kL g1;refine⟨c',(ja bR).trans k1,k2.frame λj hj=>?_,λj hj hn=>?_⟩
 ·by_cases QK:j<bs.length
  ·exact ja QK
  ·exact xG (k3 j hj (by omega)).2 bR (by omega) _
 ·by_cases QK:j<bs.length
  ·have:i=some j:=by
    rcases eu with rfl|⟨_,j',h1,h2⟩
    ·exact hj
    ·rw[hj] at h1;cases h1;omega
   have:=g3 j this hn;refine⟨this.1,?_⟩;unfold zX;obtain⟨b,e⟩:=H;simp only;split<;>exact Ba _ this.2
  ·have:=k3 j hj (by omega)
   refine⟨this.1,?_⟩;unfold zX;obtain⟨b,e⟩:=H;simp only;split
   ·refine w_ _ (List.mem_filter.2 ⟨this.2,?_⟩);exact K8 (show bm+1<=bs.length by omega)
   ·exact w_ _ this.2
theorem zdT{bs:List aT}{es:aN}{t:Nat}{H:Hp}{S:Nat->Prop}(h:sX ⟨bs,[]⟩ H S):sX ⟨bs,es⟩ (zX bs.length es t H) S :=
 ⟨vV h.len,λd hd hn=>(ja hd).trans (h.get d hd hn)⟩
theorem IX:∀{pre xs ys:aC},ys.length=xs.length->Vm.storeCells (pre++ys) pre.length xs=pre++xs:=by
 intro pre xs ys h;apply Fa;intro i;rw[XM]
 by_cases h1:i<pre.length
 ·rw[if_neg (by omega),fI h1,fI h1]
 ·by_cases h2:i<pre.length+xs.length
  ·rw[if_pos ⟨by omega,h2,by rw[aV];omega⟩,eM (by omega)]
  ·rw[if_neg (by omega),uF (by rw[aV];omega),uF (by rw[aV];omega)]
theorem zl7{p:Part}{l:Nat->Bool}:Vm.storeCells (zo p) 20 (pv 19 l)=zo ⟨p.null,p.first,l⟩:=by
 have h:=IX (pre:=.bool p.null::pv 19 p.first) (xs:=pv 19 l) (ys:=pv 19 p.last) (by rw[jF,jF])
 rw[show(V.bool p.null::pv 19 p.first).length=20 by simp[jF]] at h
 exact h
theorem zpN{m:Nat}{p:Nat->Bool}:(V.agg (pv m p)).top=0:=by simp[V.top,Uw]
theorem zkx{p:Part}:((zo p).drop 20).take 19=pv 19 p.last:=by
 have h:(zo p).drop 20=pv 19 p.last:=by
  have:=List.drop_left (l₁:=V.bool p.null::pv 19 p.first) (l₂:=pv 19 p.last)
  rwa [show(V.bool p.null::pv 19 p.first).length=20 by simp[jF]] at this
 rw[h];exact rM (by rw[jF];decide)
end
section
variable{gl:Gl}
def jL(op:Int)(set:Int×Int×Int×Int)(r:Int)(m:Mk):Part×Mk :=
 if op=1 then (⟨true,cW,cW⟩,m) else (⟨false,jQ cW m.cq.length,jQ cW m.cq.length⟩,⟨m.cq++[set],m.rules++[r],m.next++[cW]⟩)
theorem sY:z8 prog 53=some 10:=by kernel_rfl
theorem BK:qC prog 53=some true:=by kernel_rfl
theorem C0:zD prog 53 0=some 0:=by kernel_rfl
theorem Mu:zD prog 53 2=some 2:=by kernel_rfl
theorem iz:zD prog 117 0=some 0:=by kernel_rfl
theorem o6:zD prog 117 1=some 1:=by kernel_rfl
theorem o7:zD prog 117 2=some 20:=by kernel_rfl
theorem Ar:zD prog 113 0=some 0:=by kernel_rfl
theorem FV:zD prog 113 1=some 1:=by kernel_rfl
theorem Ov:qC prog 4=some false:=by kernel_rfl
theorem Yq:z8 prog 4=some 1:=by kernel_rfl
theorem QN:z8 prog 27=some 1:=by kernel_rfl
theorem IY:qC prog 27=some false:=by kernel_rfl
theorem FW:qC prog 26=some false:=by kernel_rfl
theorem QO:z8 prog 26=some 1:=by kernel_rfl
theorem QS:qC prog 50=some true:=by kernel_rfl
theorem Yr:z8 prog 50=some 4:=by kernel_rfl
theorem Ys:mY prog 26 50 4 32:=⟨by kernel_rfl,by kernel_rfl,by kernel_rfl,by decide,by kernel_rfl,by kernel_rfl,by kernel_rfl⟩
theorem zl8(hg:GW gl){n n0:Nat}{H:Hp}{bm:Nat}{m:Mk}{i:Option Nat}{op pl s0 s1 s2 s3 mn mx r:Int}{text:bL}{nl:Bool}{args:List E}
  (hm:MK n0 H bm m i) (Bj:n0<=H.au.length) (hs:m.cq.length<1216) (hr:m.rules.length<1216) (hx:m.next.length<1216) :
  ∃H' i',zk prog gl (n+2) 92 [.ptr bm 0,enc (.mk op pl s0 s1 s2 s3 text mn mx nl args),.int .i64 r] H=some (.ret (.agg (zo (jL op (s0,s1,s2,s3) r m).1)),H')/\MK n0 H' bm (jL op (s0,s1,s2,s3) r m).2 i'/\Kb H.au.length i i'/\sX H H' (λd=>d=bm\/i=some d):=by
 obtain⟨bs,es⟩:=H;have Dw:=hm.start
 suffices bK:(go ⟨prog,gl,zk prog gl (n+1),fG⟩ (n+1) (Fx prog f92.results.toList λw H1=>w=.agg (zo (jL op (s0,s1,s2,s3) r m).1)/\∃i',MK bs.length H1 bm (jL op (s0,s1,s2,s3) r m).2 i'/\Kb bs.length i i'/\sX ⟨bs,[]⟩ H1 (λd=>d=bm\/i=some d)) [.c (f92.body.getD .skip)] .normal ⟨[.ptr bm 0,enc (.mk op pl s0 s1 s2 s3 text mn mx nl args),.int .i64 r]++List.replicate 56 (.br []),⟨bs,[]⟩,[],[]⟩) by
  obtain⟨w,H1,h0,rfl,i',h1,h2,h3⟩:=zJ (gl:=gl) (f:=92) (bs:=bs) (es:=es) (args:=[.ptr bm 0,enc (.mk op pl s0 s1 s2 s3 text mn mx nl args),.int .i64 r]) (n:=n+1) (hg.hk _ _ (by decide)) (λH=>hg.eV _ _ _ _) func92 rfl (by rw[hg.uq];exact bK)
  exact⟨_,i',h0,hm.finish Bj h2 h1,h2,zdT h3⟩
 obtain⟨c,hc,hu,hed⟩:=Dw;have bR:bm<bs.length:=kL hc;obtain⟨S,hS⟩:∃S,S=m.lQ:=⟨_,rfl⟩;obtain⟨R,hR⟩:∃R,R=m.gq:=⟨_,rfl⟩;have QT:S.length=m.cq.length:=by rw[hS,Mk.lQ,gk]
 have hRl:R.length=m.rules.length:=by rw[hR,Mk.gq,gk]
 have hSt:aI S=0:=by rw[hS];exact ww (λ_=>rfl) _
 have hRt:aI R=0:=by rw[hR];exact ww (λ_=>rfl) _
 rw[<- hS,<- hR] at hc;have o5:dD (enc (.mk op pl s0 s1 s2 s3 text mn mx nl args))=true:=rfl;simp only[f92,ga,zh];refine zi ?_;simp only[enc] at o5 ⊢
 simp only[BA,aq,zc,zd,ze,bS,bU,qc o5,Mt,zL (show dD (V.agg (zo ⟨false,cW,cW⟩))=true from rfl),V.laid,V.cells,z4,List.replicate];refine zi ?_
 simp only[BA,aq,zc,Nat.reduceAdd,bS,bU,Mt,zL (show dD (V.agg (zo ⟨false,cW,cW⟩))=true from rfl),V.cells]
 generalize hX:aT.cells [V.int IntKind.i64 op,V.int IntKind.i64 pl,V.int IntKind.u64 s0,V.int IntKind.u64 s1,V.int IntKind.u64 s2,V.int IntKind.u64 s3,V.str text,V.int IntKind.i64 mn,V.int IntKind.i64 mx,yi nl (fy args)] 53=X;refine zi ?_;have uf:∀x y,zl prog ⟨bs++[X,x,y],[]⟩ gl.g 3 (.ptr bs.length 0)=some (.int .i64 op):=λx y=>zu Oq (by subst hX;exact Ou) rfl
 simp only[BA,ak,aj,aq,ah,zd,ze,bS,bU,C0,iz,uf,wQ];rw[Ms (k:=2) (cs:=zo ⟨false,cW,cW⟩) (ty:=117) Yq rfl rfl rfl (by rw[qX];decide) yu rfl]
 simp only[bx,aq,V.laid,znW,bU,bS]
 rw[show(zo ⟨false,cW,cW⟩).set 0 (.bool (op == 1))=zo ⟨op == 1,cW,cW⟩ from rfl];refine zi ?_;have Dq:∀x y b p q,zl prog ⟨bs++[x,y,aT.cells (zo ⟨b,p,q⟩) 117],[]⟩ gl.g 4 (.ptr (bs.length+2) 0)=some (.bool b):=λx y b p q=>Ym (k:=2) Ov rfl rfl
 simp only[BA,ak,aq,ah,zd,ze,bS,bU,iz,Dq,iI];have hLP:∀x y p es,zl prog ⟨bs++[x,y,.cells (zo p) 117],es⟩ gl.g 117 (.ptr (bs.length+2) 0)=some (.agg (zo p)):=λx y p es=>EW (k:=2) rfl
 by_cases aD:op=1
 ·subst aD;refine .inr ⟨by decide,?_⟩
  refine zi ?_;simp only[BA,ak,aq,zd,ze,bS,bU,hLP];rw[QL (k:=1) (q:=⟨false,cW,cW⟩) rfl];simp only[bx,aq,go_ret,zr,Fx,bU,bS]
  refine⟨trivial,[.agg (zo ⟨true,cW,cW⟩)],?_,rfl,i,?_,.inl rfl,?_⟩
  ·simp only[zy,zd,ze];rw[EW (k:=1) (p:=⟨1 == 1,cW,cW⟩) rfl];simp[aW]
  ·refine⟨c,(gB bR).trans (by have h:=hc;rw[hS,hR] at h;exact h),hu.frame λj hj=>gB (by subst hj;exact hu.lt),λj hj hn=>?_⟩
   subst hj;exact absurd hu.lt (by simpa using hn)
  ·exact⟨by simp,λd hd _=>gB hd⟩
 ·refine .inl ⟨by simp[aD],?_⟩
  have GR:(op == 1)=false:=by simp[aD]
  simp only[GR];refine zi ?_;have hl3:∀ls es,zl prog ⟨bs++ls,es⟩ gl.g 26 (.ptr bm 0)=some (zm 4 50 S):=λls es=>zu FW (show Hp.get ⟨bs++ls,es⟩ bm=_ from(gB bR).trans hc) rfl;simp only[BA,ak,aq,aa,ah,zd,ze,bS,bU,Ar,hl3,Uo Ys.u,QT]
  refine zi ?_;have ov:∀(ls:List aT)(k off:Nat)(pre post:aC)(p:Nat->Bool),nth ls k=some (.cells (pre++pv 19 p++post) 117)->pre.length=off->Cx.bD ⟨prog,gl.g,zk prog gl (n+1),fG⟩ 56 [.ptr (bs.length+k) off,.int .i64 (m.cq.length:Int)] ⟨bs++ls,[]⟩=some (.val (.br []),⟨bs++ls.set k (.cells (pre++pv 19 (jQ p m.cq.length)++post) 117),[]⟩):=λls k off pre post p h1 h2=>by
   have:=zjo hg (n:=n) (bs:=bs++ls) (es:=[]) (b:=bs.length+k) (gN.trans h1) h2 hs;rw[sN] at this;exact zq func56 rfl this
  have hA:=λx y=>ov [x,y,.cells (zo ⟨false,cW,cW⟩) 117] 2 1 [.bool false] (pv 19 cW) cW rfl rfl;have hB:=λx y=>ov [x,y,.cells (zo ⟨false,jQ cW m.cq.length,cW⟩) 117] 2 20 (.bool false::pv 19 (jQ cW m.cq.length)) [] cW (by simp[zo,nth]) (by simp[jF])
  simp only[BA,az,ak,aq,ah,aA,zd,ze,bS,bU,o6,hA];rw[show aT.cells (V.bool false::(pv 19 (jQ cW m.cq.length)++pv 19 cW)) 117=.cells (zo ⟨false,jQ cW m.cq.length,cW⟩) 117 from rfl];refine zi ?_
  simp only[BA,az,ak,aq,ah,aA,zd,ze,bS,bU,o7,hB,mT];rw[show aT.cells (V.bool false::(pv 19 (jQ cW m.cq.length)++pv 19 (jQ cW m.cq.length))) 117=.cells (zo ⟨false,jQ cW m.cq.length,jQ cW m.cq.length⟩) 117 from rfl]
  generalize hY:aT.cells (zo ⟨false,cW,cW⟩) 117=Y;generalize hZ:aT.cells (zo ⟨false,jQ cW m.cq.length,jQ cW m.cq.length⟩) 117=Z;refine qY (tk:=[31]) (by kernel_rfl) (by kernel_rfl) ?_
  have hbm:bs.length≠bm:=by omega
  have hl4:∀B ls es,zl prog ⟨B++X::ls,es⟩ gl.g 50 (.ptr B.length 2)=some (FU s0 s1 s2 s3):=λB ls es=>by
   rw[zoY (cs:=[V.int IntKind.i64 op,V.int IntKind.i64 pl,V.int IntKind.u64 s0,V.int IntKind.u64 s1,V.int IntKind.u64 s2,V.int IntKind.u64 s3,V.str text,V.int IntKind.i64 mn,V.int IntKind.i64 mx,yi nl (fy args)]) (ty:=53) QS Yr (by rw[hX];rfl) (by simp)]
   rfl
  have Yt:∀(b:aT) ls es,zl prog ⟨bs.set bm b++X::ls,es⟩ gl.g 50 (.ptr bs.length 2)=some (FU s0 s1 s2 s3):=λb ls es=>by
   have:=hl4 (bs.set bm b) ls es
   rwa [bG] at this
  have m4:∀env,vA prog 26 env ⟨bs++[X,Y,Z],[]⟩ [] [] (some (.ptr bm 0))=some (.val (zm 4 50 S),⟨env,⟨bs.set bm (.cells [oJ 4 S,zm 1 3 R,c] 113)++[X,Y,Z],[]⟩,kG bm 0 S,[]⟩):=λenv=>zhl (off:=0) FW bR hc rfl;have l_:=Ys.Ck (v:=FU s0 s1 s2 s3) rfl rfl
  have fW:∀{k b:Nat},k<1216->b<=152->kA (k+1) b=true:=λ{k b} h h'=>dJ (by have:=Nat.mul_le_mul (show k+1<=1216 by omega) h';omega) (by omega)
  have fH:∀H,kf prog H 26 (zm 4 50 S) (.sl 4 [FU s0 s1 s2 s3] .no)=some (zm 4 50 (S++[FU s0 s1 s2 s3])):=λH=>jE Ys (by simp) (by rw[QT];exact fW hs (by decide))
  simp only[BA,Nat.reduceEqDiff,ak,aq,aa,ah,av,zd,ze,bS,bU,Ar,Mu,FW,QS,m4,Yt,znN hbm,show aW (FU s0 s1 s2 s3)=FU s0 s1 s2 s3 from rfl,l_,xR,fH,Ar,jV (cx:=⟨prog,gl.g,zk prog gl (n+1),fG⟩) (show q_ prog fG 26=false by kernel_rfl)]
  have fe:∀env,qo prog 26 ⟨bs.set bm (.cells [oJ 4 S,zm 1 3 R,c] 113)++[X,Y,Z],[]⟩ (kG bm 0 S) [] (some (zm 4 50 (S++[FU s0 s1 s2 s3]),env)) (some (.ptr bm 0))=some (.skip,⟨env,⟨bs.set bm (.cells [zm 4 50 (S++[FU s0 s1 s2 s3]),zm 1 3 R,c] 113)++[X,Y,Z],[]⟩,kG bm 0 S,[]⟩):=λenv =>
   zeZ (off:=0) (cs:=[zm 4 50 S,zm 1 3 R,c]) QO bR (by simp) (QM (gS hSt rfl))
  rw[fe];simp only[bx,aq]
  refine wd (tk:=[42]) (by kernel_rfl) ?_
  generalize hS':S++[FU s0 s1 s2 s3]=S';obtain⟨B,A3⟩:∃B,B=bs.set bm (.cells [zm 4 50 S',zm 1 3 R,c] 113):=⟨_,rfl⟩;have Mv:B.length=bs.length:=by rw[A3,bG]
  rw[<- A3];have IZ:bm<B.length:=by omega
  have dZ:nth B bm=some (.cells [zm 4 50 S',zm 1 3 R,c] 113):=by rw[A3];simp[zg,bR]
  have QV:=EV.Ck (v:=.int .i64 r) rfl rfl;have QW:∀H,kf prog H 27 (zm 1 3 R) (.sl 1 [.int .i64 r] .no)=some (zm 1 3 (R++[.int .i64 r])):=λH=>jE EV (by simp) (by rw[hRl];exact fW hr (by decide))
  have FX:∀env,vA prog 27 env ⟨B++[X,Y,Z],[]⟩ [] [] (some (.ptr bm 1))=some (.val (zm 1 3 R),⟨env,⟨B.set bm (.cells [zm 4 50 S',oJ 1 R,c] 113)++[X,Y,Z],[]⟩,kG bm 1 R,[]⟩):=λenv=>zhl (off:=1) IY IZ dZ rfl
  have C1:∀env,qo prog 27 ⟨B.set bm (.cells [zm 4 50 S',oJ 1 R,c] 113)++[X,Y,Z],[]⟩ (kG bm 1 R) [] (some (zm 1 3 (R++[.int .i64 r]),env)) (some (.ptr bm 1))=some (.skip,⟨env,⟨B.set bm (.cells [zm 4 50 S',zm 1 3 (R++[.int .i64 r]),c] 113)++[X,Y,Z],[]⟩,kG bm 1 R,[]⟩):=λenv =>
   zeZ (off:=1) (cs:=[zm 4 50 S',zm 1 3 R,c]) QN IZ (by simp) (QM (gS hRt rfl))
  simp only[BA,Nat.reduceEqDiff,ak,aq,aa,ah,zd,ze,bS,bU,FV,FX,QV,xR,QW,C1,jV (cx:=⟨prog,gl.g,zk prog gl (n+1),fG⟩) (show q_ prog fG 27=false by kernel_rfl)]
  generalize o8:R++[V.int .i64 r]=R';have hBB:B.set bm (.cells [zm 4 50 S',zm 1 3 R',c] 113)=bs.set bm (.cells [zm 4 50 S',zm 1 3 R',c] 113):=by rw[A3,List.set_set]
  rw[hBB];refine wd (tk:=[52]) (by kernel_rfl) ?_
  obtain⟨cm,pH⟩:∃cm,cm=[zm 4 50 S',zm 1 3 R',c]:=⟨_,rfl⟩;rw[<- pH];obtain⟨B2,Hl⟩:∃B2,B2=bs.set bm (.cells cm 113):=⟨_,rfl⟩;have I0:B2.length=bs.length:=by rw[Hl,bG]
  have Mw:nth B2 bm=some (.cells cm 113):=by rw[Hl];simp[zg,bR]
  have I1:∀d,d≠bm->nth B2 d=nth bs d:=λd hd=>by rw[Hl,zg,zg,su (Ne.symm hd)]
  rw[<- Hl,<- I0];have I2:bm<B2.length:=by omega
  have CH:c=.aG\/∃j v l,c=.dw j v l:=by
   cases i with
   | none=>exact .inl hu.1
   | some j=>obtain⟨v,h,_⟩:=hu;exact .inr ⟨_,_,_,h⟩
  have Yu:Hp.get ⟨B2++[X,Y,Z],[]⟩ bm=some (.cells cm 113):=(gB I2).trans Mw;have QX:∀env,vA prog 111 env ⟨B2++[X,Y,Z],[]⟩ [] [] (some (.ptr bm 2))=some (.val c,⟨env,⟨B2++[X,Y,Z],[]⟩,[],[]⟩):=λenv=>XL FR Yu (by rw[pH];rfl) CH
  have QY:=Hj.Ck (v:=.agg (pv 19 cW)) rfl jF;have rj:aW c=c:=by rcases CH with rfl|⟨j,v,l,rfl⟩<;>rfl
  have hu3:UL ⟨B2++[X,Y,Z],[]⟩ 19 115 c i (m.next.map (pv 19)):=hu.frame λj hj=>by
   subst hj;have A1:=hu.lt;have ur:j≠bm:=λe=>Uu hu hc (by rw[e])
   exact(gB (by rw[I0];exact A1)).trans (I1 j ur)
  have QZ:=λenv=>Hj.app (env:=env) (lk:=[]) (df:=[]) (ys:=[.agg (pv 19 cW)]) (o:=.no) (by simp) hu3 (by rw[gk];exact fW hx (by decide))
  have hLD:∀ls es p,nth ls 2=some (.cells (zo p) 117)->zl prog ⟨B2++ls,es⟩ gl.g 117 (.ptr (B2.length+2) 0)=some (.agg (zo p)):=λls es p h=>EW h
  simp only[BA,Nat.reduceEqDiff,ak,aq,aa,ah,zc,Nat.reduceAdd,zd,ze,bS,bU,rH,QX,zqD,QY,rj,yU (cx:=⟨prog,gl.g,zk prog gl (n+1),fG⟩) (show q_ prog fG 111=true by kernel_rfl),QZ]
  have oT:∀lk,wz lk bm 2 1 (cm.drop 2)=true:=λlk=>by
   rw[pH];rcases CH with rfl|⟨j,v,l,rfl⟩<;>simp[wz,locked]
  have Q0:∀x,Vm.storeCells cm 2 [x]=[zm 4 50 S',zm 1 3 R',x]:=λx=>by rw[pH];rfl
  have gE:2+1<=cm.length:=by rw[pH];simp
  have Yv:∀l b v,∃rI,Hp.bQ ⟨l,[]⟩ b v=⟨l,rI⟩:=λl b v=>by unfold Hp.bQ;split<;>exact⟨_,rfl⟩
  have hSR:∀x,[zm 4 50 S',zm 1 3 R',x]=[zm 4 50 (jL op (s0,s1,s2,s3) r m).2.lQ,zm 1 3 (jL op (s0,s1,s2,s3) r m).2.gq,x]:=λx=>by
   rw[jL,if_neg aD,<- hS',<- o8,hS,hR];simp only[Mk.lQ,Mk.gq,List.map_append,a_,bt,Yp]
  have hP:(jL op (s0,s1,s2,s3) r m).1=⟨false,jQ cW m.cq.length,jQ cW m.cq.length⟩:=by rw[jL,if_neg aD]
  have hN:(jL op (s0,s1,s2,s3) r m).2.next=m.next++[cW]:=by rw[jL,if_neg aD]
  cases i with
  | none =>
   obtain⟨rfl,Kd⟩:=hu;have Q1:m.next=[]:=by simpa using Kd
   have FY:∀env U,qo prog 111 ⟨B2++[X,Y,Z,U],[]⟩ [] [] (some (.dw (B2.length+3) 0 1,env)) (some (.ptr bm 2))=some (.skip,⟨env,⟨B2.set bm (.cells [zm 4 50 S',zm 1 3 R',.dw (B2.length+3) 0 1] 113)++[X,Y,Z,U],[(bm,B2.length+4)]⟩,[],[]⟩):=λenv U=>by
    rw[zA (cs:=cm) (ty:=113) Hj.st (show Hp.get ⟨B2++[X,Y,Z,U],[]⟩ bm=some (.cells cm 113) from(gB I2).trans Mw) rfl rfl gE (oT _)];simp only[V.laid,Q0,Hp.set,sB I2,Hp.bQ,V.top];rw[if_neg (by omega)]
   simp only[BA,ak,aq,aa,ah,zd,ze,bS,bU,rH,FY];obtain⟨B3,DA⟩:∃B3,B3=B2.set bm (.cells [zm 4 50 S',zm 1 3 R',.dw (B2.length+3) 0 1] 113):=⟨_,rfl⟩;have C2:B3.length=B2.length:=by rw[DA,bG]
   have Ow:nth B3 bm=some (.cells [zm 4 50 S',zm 1 3 R',.dw (B2.length+3) 0 1] 113):=by rw[DA];simp[zg,I2]
   have C3:∀d,d≠bm->nth B3 d=nth bs d:=λd hd=>by rw[DA,zg,su (Ne.symm hd),<- zg,I1 d hd]
   rw[<- DA,<- C2];rw[<- C2] at Ow;refine zi ?_;have Mx:∀U es,zl prog ⟨B3++[X,Y,Z,U],es⟩ gl.g 117 (.ptr (B3.length+2) 0)=some (.agg (zo ⟨false,jQ cW m.cq.length,jQ cW m.cq.length⟩)):=λU es=>EW (k:=2) (by rw[<- hZ];rfl)
   simp only[BA,ak,aq,zd,ze,bS,bU,Mx];rw[QL (k:=1) (q:=⟨false,cW,cW⟩) (by rw[<- hY];rfl)]
   simp only[bx,aq,go_ret,zr,Fx,bU,bS]
   refine⟨trivial,[.agg (zo ⟨false,jQ cW m.cq.length,jQ cW m.cq.length⟩)],?_,by rw[hP];rfl,some (B3.length+3),⟨_,(gB (by omega)).trans (Ow.trans (by rw[hSR])),⟨0,by rw[hN,Q1];rfl,(gN (k:=3)).trans (by rw[hN,Q1];rfl)⟩,λj hj hn=>?_⟩,.inr ⟨rfl,_,rfl,by omega⟩,?_⟩
   ·simp only[zy,zd,ze];rw[EW (k:=1) (p:=⟨false,jQ cW m.cq.length,jQ cW m.cq.length⟩) rfl];simp[aW]
   ·cases hj;exact⟨by omega,by rw[C2];simp⟩
   ·exact⟨by simp only[aV];omega,λd hd sy=>(gB (by rw[C2,I0];exact hd)).trans (C3 d λe=>sy (.inl e))⟩
  | some j =>
   obtain⟨v,rfl,hj⟩:=hu;have A1:j<bs.length:=kL hj;have ur:j≠bm:=by
    intro e;subst e;rw[hc] at hj;cases hj
   have Yw:nth B2 j=some (.ul v 19 (m.next.map (pv 19)).flatten 115):=(I1 j ur).trans hj
   dsimp only
   rw[jT (by simp[V.top,aI,Uw])]
   simp only[Hp.set,sB (show j<B2.length by omega),aM,aq]
   obtain⟨B3,DA⟩:∃B3,B3=B2.set j (.ul (v+1) 19 ((m.next.map (pv 19)).flatten++bX [V.agg (pv 19 cW)]) 115):=⟨_,rfl⟩
   have C2:B3.length=B2.length:=by rw[DA,bG]
   have Yx:nth B3 bm=some (.cells cm 113):=by rw[DA,zg,su ur,<- zg,Mw]
   have hj3:nth B3 j=some (.ul (v+1) 19 ((m.next.map (pv 19)).flatten++bX [V.agg (pv 19 cW)]) 115):=by rw[DA,zg,Ct (by omega)]
   have C3:∀d,d≠bm->d≠j->nth B3 d=nth bs d:=λd hd AT=>by rw[DA,zg,su (Ne.symm AT),<- zg,I1 d hd]
   rw[<- DA,<- C2];have Q2:bm<B3.length:=by omega
   obtain⟨u,nG⟩:∃u,u=V.dw j (v+1) ((m.next.map (pv 19)).length+1):=⟨_,rfl⟩
   obtain⟨rI,AR⟩:=Yv (B3.set bm (.cells [zm 4 50 S',zm 1 3 R',u] 113)++[X,Y,Z]) bm u;have FY:∀env,qo prog 111 ⟨B3++[X,Y,Z],[]⟩ [] [] (some (u,env)) (some (.ptr bm 2))=some (.skip,⟨env,⟨B3.set bm (.cells [zm 4 50 S',zm 1 3 R',u] 113)++[X,Y,Z],rI⟩,[],[]⟩):=λenv=>by
    rw[zA (cs:=cm) (ty:=113) Hj.st (show Hp.get ⟨B3++[X,Y,Z],[]⟩ bm=some (.cells cm 113) from(gB Q2).trans Yx) (by rw[nG];rfl) (by rw[nG];rfl) gE (oT _)]
    rw[show u.laid=[u] by rw[nG];rfl]
    simp only[Q0,Hp.set,sB Q2];rw[AR]
   have mH:∀env t,qE env t (some u)=some (u,env):=λ_ _=>by rw[nG];rfl
   rw[<- nG];simp only[BA,ak,aq,aa,ah,zd,ze,bS,bU,rH,mH,FY];obtain⟨B4,Ke⟩:∃B4,B4=B3.set bm (.cells [zm 4 50 S',zm 1 3 R',u] 113):=⟨_,rfl⟩;have Q3:B4.length=B3.length:=by rw[Ke,bG]
   have hg4:nth B4 bm=some (.cells [zm 4 50 S',zm 1 3 R',u] 113):=by rw[Ke,zg,Ct (by omega)]
   have My:∀d,d≠bm->nth B4 d=nth B3 d:=λd hd=>by rw[Ke,zg,su (Ne.symm hd),<- zg]
   rw[<- Ke,<- Q3];refine zi ?_;have Mx:∀es,zl prog ⟨B4++[X,Y,Z],es⟩ gl.g 117 (.ptr (B4.length+2) 0)=some (.agg (zo ⟨false,jQ cW m.cq.length,jQ cW m.cq.length⟩)):=λes=>EW (k:=2) (by rw[<- hZ];rfl)
   simp only[BA,ak,aq,zd,ze,bS,bU,Mx];rw[QL (k:=1) (q:=⟨false,cW,cW⟩) (by rw[<- hY];rfl)]
   simp only[bx,aq,go_ret,zr,Fx,bU,bS]
   refine⟨trivial,[.agg (zo ⟨false,jQ cW m.cq.length,jQ cW m.cq.length⟩)],?_,by rw[hP];rfl,some j,⟨u,(gB (by omega)).trans (hg4.trans (by rw[hSR])),⟨v+1,by rw[nG,hN];simp,(gB (by omega)).trans ((My j ur).trans (hj3.trans (by rw[hN];simp[bX,V.cells])))⟩,λk hk hn=>?_⟩,.inl rfl,?_⟩
   ·simp only[zy,zd,ze];rw[EW (k:=1) (p:=⟨false,jQ cW m.cq.length,jQ cW m.cq.length⟩) rfl];simp[aW]
   ·cases hk;omega
   ·exact⟨by simp only[aV];omega,λd hd sy=>(gB (by rw[Q3,C2,I0];exact hd)).trans ((My d λe=>sy (.inl e)).trans (C3 d (λe=>sy (.inl e)) (λe=>sy (.inr (by rw[e])))))⟩
end
section
variable{gl:Gl}
def zR(op:Int)(k:Nat)(a b:Part)(ns:List (Nat->Bool)):Part×List (Nat->Bool) :=
 if k=0 then (b,ns)
 else if op=6 then (⟨a.null || b.null,jD a.first b.first,jD a.last b.last⟩,ns)
 else (⟨a.null && b.null,if a.null then jD a.first b.first else a.first,if b.null then jD a.last b.last else b.last⟩,mN b.first (jg a.last 19) ns)
theorem zhn{bs ls:List aT}{i:Option Nat}{ns:List (Nat->Bool)}(h:∀j,i=some j->j<bs.length):ep (bs++ls) i ns=ep bs i ns++ls:=by
 cases i with
 | none=>rfl
 | some j =>
  have hj:=h j rfl;simp only[ep,gB hj];cases nth bs j with
  | none=>rfl
  | some x=>cases x<;>simp[sB hj]
theorem Yy:qC prog 115=some true:=by kernel_rfl
theorem Q5:z8 prog 115=some 19:=by kernel_rfl
theorem Ox(p:Part):zo p=[.bool p.null]++pv 19 p.first++pv 19 p.last:=rfl
theorem Q6(p:Part):zo p=(.bool p.null::pv 19 p.first)++pv 19 p.last++[]:=by simp[zo]
theorem zl9(hg:GW gl){n:Nat}(hn:21<=n){B:List aT}{z:aT}{a b:Part}:Cx.bD ⟨prog,gl.g,zk prog gl n,fG⟩ 58 [.ptr B.length 1,.ptr (B.length+1) 1] ⟨B++[.cells (zo a) 117,.cells (zo b) 117,z],[]⟩=some (.val (.br []),⟨B++[.cells (zo ⟨a.null,jD a.first b.first,a.last⟩) 117,.cells (zo b) 117,z],[]⟩):=by
 have h:=X3 hg (n:=n - 1) (by omega) (bs:=B++[.cells (zo a) 117,.cells (zo b) 117,z]) (es:=[]) (b:=B.length) (b':=B.length+1) (Ou.trans (by rw[Ox a];rfl)) rfl ((gN (k:=1)).trans (by rw[Ox b];rfl)) rfl (by omega)
 rw[show n - 1+1=n by omega,sN0] at h
 exact zq func58 rfl h
theorem zma(hg:GW gl){n:Nat}(hn:21<=n){B:List aT}{z:aT}{a b:Part}:Cx.bD ⟨prog,gl.g,zk prog gl n,fG⟩ 58 [.ptr B.length 20,.ptr (B.length+1) 20] ⟨B++[.cells (zo a) 117,.cells (zo b) 117,z],[]⟩=some (.val (.br []),⟨B++[.cells (zo ⟨a.null,a.first,jD a.last b.last⟩) 117,.cells (zo b) 117,z],[]⟩):=by
 have h:=X3 hg (n:=n - 1) (by omega) (bs:=B++[.cells (zo a) 117,.cells (zo b) 117,z]) (es:=[]) (b:=B.length) (b':=B.length+1) (Ou.trans (by rw[Q6 a];rfl)) (off:=20) (by simp[jF]) ((gN (k:=1)).trans (by rw[Q6 b];rfl)) (off':=20) (by simp[jF]) (by omega)
 rw[show n - 1+1=n by omega,sN0] at h
 simp only[mT] at h;exact zq func58 rfl h
theorem zio(hg:GW gl){n:Nat}(hn:1301<=n){bs:List aT}{es:aN}{bm:Nat}{a0 a1 c:V}{i:Option Nat}{ns:List (Nat->Bool)}{op:Int}{k:Nat}{a b:Part}{Ot:aB}(hk:k<2 ^ 60)
  (hm:nth bs bm=some (.cells [a0,a1,c] Ot)) (hu:UL ⟨bs,es⟩ 19 115 c i (ns.map (pv 19))) (dG:∀k∈jg a.last 19,k<ns.length) :
  zk prog gl (n+1) 94 [.ptr bm 0,.int .i64 op,.int .i64 k,.agg (zo a),.agg (zo b)] ⟨bs,es⟩=some (.ret (.agg (zo (zR op k a b ns).1)),⟨ep bs i (zR op k a b ns).2,es⟩):=by
 have bR:bm<bs.length:=kL (H:=⟨bs,es⟩) hm
 suffices bK:(go ⟨prog,gl,zk prog gl n,fG⟩ n (Fx prog f94.results.toList λw H1=>w=.agg (zo (zR op k a b ns).1)/\∃ls,H1=⟨ep bs i (zR op k a b ns).2++ls,[]⟩) [.c (f94.body.getD .skip)] .normal ⟨[.ptr bm 0,.int .i64 op,.int .i64 k,.agg (zo a),.agg (zo b)]++List.replicate 52 (.br []),⟨bs,[]⟩,[],[]⟩) by
  obtain⟨w,H1,h0,rfl,ls,rfl⟩:=zJ (gl:=gl) (f:=94) (bs:=bs) (es:=es) (args:=[.ptr bm 0,.int .i64 op,.int .i64 k,.agg (zo a),.agg (zo b)]) (n:=n) (hg.hk _ _ (by decide)) (λH=>hg.eV _ _ _ _) func94 rfl (by rw[hg.uq];exact bK)
  rw[h0];have:=zW (bs:=ep bs i (zR op k a b ns).2) (ls:=ls) (es:=es) (t:=(V.agg (zo (zR op k a b ns).1)).top) (by simp[V.top,yL])
  rw[yK] at this;rw[this]
 have o5:∀p:Part,dD (V.agg (zo p))=true:=λ_=>rfl;simp only[f94,ga,zh];refine zi ?_;simp only[BA,aq,zc,Nat.reduceAdd,zd,ze,bS,bU,qc (o5 a),qc (o5 b),Mt,zL (o5 ⟨false,cW,cW⟩),V.laid,V.cells,wT,List.replicate];refine zi ?_
 simp only[BA,ak,aj,aq,zd,ze,bS,bU,wQ];have hL0:∀(B ls:List aT)(p:Part) es,zl prog ⟨B++.cells (zo p) 117::ls,es⟩ gl.g 117 (.ptr B.length 0)=some (.agg (zo p)):=λB ls p es=>EW (k:=0) rfl
 have Mx:∀(B ls:List aT) x (p:Part) es,zl prog ⟨B++x::.cells (zo p) 117::ls,es⟩ gl.g 117 (.ptr (B.length+1) 0)=some (.agg (zo p)):=λB ls x p es=>EW (k:=1) rfl;have Yz:∀(B ls:List aT)(p:Part) es,zl prog ⟨B++.cells (zo p) 117::ls,es⟩ gl.g 4 (.ptr B.length 0)=some (.bool p.null):=λB ls p es=>Yn Ov rfl rfl
 have Oy:∀(B ls:List aT) x (p:Part) es,zl prog ⟨B++x::.cells (zo p) 117::ls,es⟩ gl.g 4 (.ptr (B.length+1) 0)=some (.bool p.null):=λB ls x p es=>Ym (k:=1) Ov rfl rfl
 have Q7:∀(B:List aT) x y (p q:Part) es env,qo prog 117 ⟨B++[x,y,.cells (zo q) 117],es⟩ [] [] (some (.agg (zo p),env)) (some (.ptr (B.length+2) 0))=some (.skip,⟨env,⟨B++[x,y,.cells (zo p) 117],es⟩,[],[]⟩):=λB x y p q es env=>QL (k:=2) rfl
 have Q8:∀(B ls:List aT)(p:Part) es env v,qo prog 4 ⟨B++.cells (zo p) 117::ls,es⟩ [] [] (some (.bool v,env)) (some (.ptr B.length 0))=some (.skip,⟨env,⟨B++.cells (zo ⟨v,p.first,p.last⟩) 117::ls,es⟩,[],[]⟩):=λB ls p es env v=>by
  rw[zl4 (cs:=zo p) (ty:=117) Yq rfl rfl rfl (by rw[qX];decide) yu rfl]
  rfl
 have l7:∀(B:List aT) x y (p:Part) es (env:aC),nth env 10=some (.ptr (B.length+2) 0)->zy prog ⟨B++[x,y,.cells (zo p) 117],es⟩ env [.cell 10 117]=some [.agg (zo p)]:=λB x y p es env he=>by
  simp only[zy,he];rw[EW (k:=2) rfl];simp[aW]
 by_cases FZ:k=0
 ·subst FZ;refine .inl ⟨rfl,?_⟩;refine zi ?_;simp only[BA,ak,aq,zd,ze,bS,bU,Mx,Q7,go_ret]
  simp only[zr,wi,wo,Fx,show zR op 0 a b ns=(b,ns) from if_pos rfl,Uv hu]
  exact⟨trivial,[.agg (zo b)],l7 _ _ _ _ _ _ rfl,rfl,_,rfl⟩
 ·refine .inr ⟨by simpa using FZ,?_⟩
  refine zi ?_;simp only[BA,ak,aj,aq,zd,ze,bS,bU,wQ];obtain⟨an,af,al⟩:=a;obtain⟨bn,bf,bl⟩:=b
  by_cases h6:op=6
  ·subst h6;refine .inl ⟨rfl,?_⟩;refine zi ?_;simp only[BA,ak,aq,ah,zd,ze,bS,bU,iz,Yz];have hJ:zR 6 k ⟨an,af,al⟩ ⟨bn,bf,bl⟩ ns=(⟨an || bn,jD af bf,jD al bl⟩,ns):=by rw[zR,if_neg FZ,if_pos rfl]
   rcases an with _|_
   all_goals
    simp only[j5,qj,zd,ze,aS,jm,cC,cE,wK,wL];simp only[BA,ak,aj,aq,ah,zd,ze,bS,bU,iz];simp only[j5,qj,zd,ze,aS,jm,cC,cE,wK,wL]
    try simp only[BA,ak,aj,aq,ah,zd,ze,bS,bU,iz,Oy,Q8]
    refine zi ?_;simp only[BA,az,ak,aq,ah,aA,zd,ze,bS,bU,o6,zl9 hg (show 21<=n by omega)]
    refine zi ?_;simp only[BA,az,ak,aq,ah,aA,zd,ze,bS,bU,o7,zma hg (show 21<=n by omega)]
    refine zi ?_;simp only[BA,ak,aq,zd,ze,bS,bU,hL0,Q7];simp only[go_ret,zr,wi,wo,Fx,hJ,Uv hu]
    exact⟨trivial,_,l7 _ _ _ _ _ _ rfl,rfl,_,rfl⟩
  ·refine .inr ⟨by simpa using h6,?_⟩
   have hJ:zR op k ⟨an,af,al⟩ ⟨bn,bf,bl⟩ ns=(⟨an && bn,if an then jD af bf else af,if bn then jD al bl else bl⟩,mN bf (jg al 19) ns):=by rw[zR,if_neg FZ,if_neg h6]
   have F0:∀j,i=some j->j<bs.length:=λj hj=>by subst hj;exact hu.lt
   have I3:Cx.bD ⟨prog,gl.g,zk prog gl n,fG⟩ 57 [.ptr bm 0,.ptr bs.length 20,.ptr (bs.length+1) 1] ⟨bs++[aT.cells (zo ⟨an,af,al⟩) 117,.cells (zo ⟨bn,bf,bl⟩) 117,.cells (zo ⟨false,cW,cW⟩) 117],[]⟩=some (.val (.br []),⟨ep bs i (mN bf (jg al 19) ns)++[aT.cells (zo ⟨an,af,al⟩) 117,.cells (zo ⟨bn,bf,bl⟩) 117,.cells (zo ⟨false,cW,cW⟩) 117],[]⟩):=by
    have h:=Yk hg (n:=n - 1) (by omega) (bs:=bs++[aT.cells (zo ⟨an,af,al⟩) 117,.cells (zo ⟨bn,bf,bl⟩) 117,.cells (zo ⟨false,cW,cW⟩) 117]) (es:=[]) (bm:=bm) (bl:=bs.length) (bf:=bs.length+1) (ns:=ns) (i:=i) ((gB bR).trans hm) (hu.frame λj hj=>gB (F0 j hj)) (Ou.trans (by rw[Q6 ⟨an,af,al⟩];rfl)) (ol:=20) (by simp[jF]) ((gN (k:=1)).trans (by rw[Ox ⟨bn,bf,bl⟩];rfl)) (ob:=1) rfl dG
    rw[show n - 1+1=n by omega,zhn F0] at h
    exact zq func57 rfl h
   refine zi ?_;simp only[BA,az,ak,aq,ah,aA,zd,ze,bS,bU,o6,o7,I3];obtain⟨B,hB⟩:∃B,B=ep bs i (mN bf (jg al 19) ns):=⟨_,rfl⟩;have Mv:B.length=bs.length:=by rw[hB,yK]
   rw[<- hB,<- Mv];refine zi ?_;simp only[BA,ak,aq,ah,zd,ze,bS,bU,iz,Yz];have h60:∀(B ls:List aT) x (p:Part) es,zl prog ⟨B++x::.cells (zo p) 117::ls,es⟩ gl.g 115 (.ptr (B.length+1) 20)=some (.agg (pv 19 p.last)):=λB ls x p es=>by
    rw[Yo (k:=1) Yy Q5 rfl (by rw[qX];decide),zkx]
   have YA:∀(B ls:List aT)(p:Part) l es env,qo prog 115 ⟨B++.cells (zo p) 117::ls,es⟩ [] [] (some (.agg (pv 19 l),env)) (some (.ptr B.length 20))=some (.skip,⟨env,⟨B++.cells (zo ⟨p.null,p.first,l⟩) 117::ls,es⟩,[],[]⟩):=λB ls p l es env=>by
    rw[zl4 (cs:=zo p) (ty:=117) Q5 rfl rfl (by simp[V.laid,jF]) (by rw[qX];decide) yu zpN]
    simp only[V.laid,zl6,zl7,bS]
   cases an
   all_goals
    first
     |refine .inl ⟨rfl,?_⟩
      refine zi ?_;simp only[BA,az,ak,aq,ah,aA,zd,ze,bS,bU,o6,zl9 hg (show 21<=n by omega)]
     |refine .inr ⟨rfl,?_⟩
    refine zi ?_;simp only[BA,ak,aq,ah,zd,ze,bS,bU,iz,Oy]
   all_goals cases bn
   all_goals
    first
     |refine .inl ⟨rfl,?_⟩
      refine zi ?_;simp only[BA,az,ak,aq,ah,aA,zd,ze,bS,bU,o7,zma hg (show 21<=n by omega)]
     |refine .inr ⟨rfl,?_⟩
      refine zi ?_;simp only[BA,ak,aq,ah,zd,ze,bS,bU,o7,h60,YA]
    refine zi ?_;simp only[BA,ak,aq,ah,zd,ze,bS,bU,iz,Yz];simp only[j5,qj,zd,ze,aS,jm,cA,cB,wK,wL]
    simp only[BA,ak,aj,aq,ah,zd,ze,bS,bU,iz];simp only[j5,qj,zd,ze,aS,jm,cA,cB,wK,wL]
    try simp only[BA,ak,aj,aq,ah,zd,ze,bS,bU,iz,Oy,Q8]
    refine zi ?_;simp only[BA,ak,aq,zd,ze,bS,bU,hL0,Q7];simp only[go_ret,zr,Fx,hJ,<- hB]
    exact⟨trivial,_,l7 _ _ _ _ _ _ rfl,rfl,_,rfl⟩
end
section
variable{gl:Gl}
def xS(mn mx:Int)(p:Part)(ns:List (Nat->Bool)):Part×List (Nat->Bool) :=
 (⟨p.null || mn == 0,p.first,p.last⟩,if mx<0 then mN p.first (jg p.last 19) ns else ns)
theorem F1:zD prog 53 4=some 7:=by kernel_rfl
theorem Mz:zD prog 53 5=some 8:=by kernel_rfl
theorem zfQ(hg:GW gl){n:Nat}(hn:1301<=n){bs:List aT}{es:aN}{bm:Nat}{a0 a1 c:V}{i:Option Nat}{ns:List (Nat->Bool)}{op pl s0 s1 s2 s3 mn mx:Int}{text:bL}{nl:Bool}{args:List E}{p:Part}{Ot:aB}
  (hm:nth bs bm=some (.cells [a0,a1,c] Ot)) (hu:UL ⟨bs,es⟩ 19 115 c i (ns.map (pv 19))) (dG:∀k∈jg p.last 19,k<ns.length) :
  zk prog gl (n+1) 95 [.ptr bm 0,enc (.mk op pl s0 s1 s2 s3 text mn mx nl args),.agg (zo p)] ⟨bs,es⟩=some (.ret (.agg (zo (xS mn mx p ns).1)),⟨ep bs i (xS mn mx p ns).2,es⟩):=by
 have bR:bm<bs.length:=kL (H:=⟨bs,es⟩) hm
 suffices bK:(go ⟨prog,gl,zk prog gl n,fG⟩ n (Fx prog f95.results.toList λw H1=>w=.agg (zo (xS mn mx p ns).1)/\∃ls,H1=⟨ep bs i (xS mn mx p ns).2++ls,[]⟩) [.c (f95.body.getD .skip)] .normal ⟨[.ptr bm 0,enc (.mk op pl s0 s1 s2 s3 text mn mx nl args),.agg (zo p)]++List.replicate 20 (.br []),⟨bs,[]⟩,[],[]⟩) by
  obtain⟨w,H1,h0,rfl,ls,rfl⟩:=zJ (gl:=gl) (f:=95) (bs:=bs) (es:=es) (args:=[.ptr bm 0,enc (.mk op pl s0 s1 s2 s3 text mn mx nl args),.agg (zo p)]) (n:=n) (hg.hk _ _ (by decide)) (λH=>hg.eV _ _ _ _) func95 rfl (by rw[hg.uq];exact bK)
  rw[h0];have:=zW (bs:=ep bs i (xS mn mx p ns).2) (ls:=ls) (es:=es) (t:=(V.agg (zo (xS mn mx p ns).1)).top) (by simp[V.top,yL])
  rw[yK] at this;rw[this]
 have o5:∀p:Part,dD (V.agg (zo p))=true:=λ_=>rfl;have Kf:dD (enc (.mk op pl s0 s1 s2 s3 text mn mx nl args))=true:=rfl;simp only[f95,ga,zh];refine zi ?_;simp only[enc] at Kf ⊢
 simp only[BA,aq,zc,Nat.reduceAdd,zd,ze,bS,bU,qc Kf,qc (o5 p),Mt,zL (o5 ⟨false,cW,cW⟩),V.laid,V.cells,wT,z4,List.replicate]
 generalize hX:aT.cells [V.int IntKind.i64 op,V.int IntKind.i64 pl,V.int IntKind.u64 s0,V.int IntKind.u64 s1,V.int IntKind.u64 s2,V.int IntKind.u64 s3,V.str text,V.int IntKind.i64 mn,V.int IntKind.i64 mx,yi nl (fy args)] 53=X;have hmx:∀(B ls:List aT) es,zl prog ⟨B++X::ls,es⟩ gl.g 3 (.ptr B.length 8)=some (.int .i64 mx):=λB ls es=>Yn Oq (by rw[<- hX];rfl) rfl
 have Oz:∀(B ls:List aT) es,zl prog ⟨B++X::ls,es⟩ gl.g 3 (.ptr B.length 7)=some (.int .i64 mn):=λB ls es=>Yn Oq (by rw[<- hX];rfl) rfl
 have Mx:∀(B ls:List aT) x (p:Part) es,zl prog ⟨B++x::.cells (zo p) 117::ls,es⟩ gl.g 117 (.ptr (B.length+1) 0)=some (.agg (zo p)):=λB ls x p es=>EW (k:=1) rfl;have Oy:∀(B ls:List aT) x (p:Part) es,zl prog ⟨B++x::.cells (zo p) 117::ls,es⟩ gl.g 4 (.ptr (B.length+1) 0)=some (.bool p.null):=λB ls x p es=>Ym (k:=1) Ov rfl rfl
 have Q7:∀(B:List aT) x y (p q:Part) es env,qo prog 117 ⟨B++[x,y,.cells (zo q) 117],es⟩ [] [] (some (.agg (zo p),env)) (some (.ptr (B.length+2) 0))=some (.skip,⟨env,⟨B++[x,y,.cells (zo p) 117],es⟩,[],[]⟩):=λB x y p q es env=>QL (k:=2) rfl
 have YB:∀(B ls:List aT) x (p:Part) es env v,qo prog 4 ⟨B++x::.cells (zo p) 117::ls,es⟩ [] [] (some (.bool v,env)) (some (.ptr (B.length+1) 0))=some (.skip,⟨env,⟨B++x::.cells (zo ⟨v,p.first,p.last⟩) 117::ls,es⟩,[],[]⟩):=λB ls x p es env v=>by
  rw[Ms (k:=1) (cs:=zo p) (ty:=117) Yq rfl rfl rfl (by rw[qX];decide) yu rfl]
  rfl
 have l7:∀(B:List aT) x y (p:Part) es (env:aC),nth env 6=some (.ptr (B.length+2) 0)->zy prog ⟨B++[x,y,.cells (zo p) 117],es⟩ env [.cell 6 117]=some [.agg (zo p)]:=λB x y p es env he=>by
  simp only[zy,he];rw[EW (k:=2) rfl];simp[aW]
 refine zi ?_;simp only[BA,ak,aj,aq,ah,zd,ze,bS,bU,Mz,hmx,qT];have F0:∀j,i=some j->j<bs.length:=λj hj=>by subst hj;exact hu.lt
 obtain⟨pn,pf,pl⟩:=p;have I3:Cx.bD ⟨prog,gl.g,zk prog gl n,fG⟩ 57 [.ptr bm 0,.ptr (bs.length+1) 20,.ptr (bs.length+1) 1] ⟨bs++[X,.cells (zo ⟨pn,pf,pl⟩) 117,.cells (zo ⟨false,cW,cW⟩) 117],[]⟩=some (.val (.br []),⟨ep bs i (mN pf (jg pl 19) ns)++[X,.cells (zo ⟨pn,pf,pl⟩) 117,.cells (zo ⟨false,cW,cW⟩) 117],[]⟩):=by
  have h:=Yk hg (n:=n - 1) (by omega) (bs:=bs++[X,.cells (zo ⟨pn,pf,pl⟩) 117,.cells (zo ⟨false,cW,cW⟩) 117]) (es:=[]) (bm:=bm) (bl:=bs.length+1) (bf:=bs.length+1) (ns:=ns) (i:=i) ((gB bR).trans hm) (hu.frame λj hj=>gB (F0 j hj)) ((gN (k:=1)).trans (by rw[Q6 ⟨pn,pf,pl⟩];rfl)) (ol:=20) (by simp[jF]) ((gN (k:=1)).trans (by rw[Ox ⟨pn,pf,pl⟩];rfl)) (ob:=1) rfl dG
  rw[show n - 1+1=n by omega,zhn F0] at h
  exact zq func57 rfl h
 obtain⟨ns',oS⟩:∃ns',ns'=(xS mn mx ⟨pn,pf,pl⟩ ns).2:=⟨_,rfl⟩;rw[<- oS];obtain⟨B,hB⟩:∃B,B=ep bs i ns':=⟨_,rfl⟩;have Mv:B.length=bs.length:=by rw[hB,yK]
 have hP:(xS mn mx ⟨pn,pf,pl⟩ ns).1=⟨pn || mn == 0,pf,pl⟩:=rfl
 rcases Classical.em (mx<0) with h|h
 all_goals
  first
   |refine .inl ⟨by simpa using h,?_⟩
    refine zi ?_;have:ns'=mN pf (jg pl 19) ns:=by rw[oS];exact if_pos h
    rw[<- this] at I3;simp only[BA,az,ak,aq,ah,aA,zd,ze,bS,bU,o6,o7,I3,<- hB];rw[<- Mv]
   |refine .inr ⟨by simpa using h,?_⟩
    have:ns'=ns:=by rw[oS];exact if_neg h
    have hBb:B=bs:=by rw[hB,this];exact Uv hu
    rw[<- hB,<- hBb]
  refine zi ?_;simp only[BA,ak,aq,ah,zd,ze,bS,bU,iz,Oy];cases pn
 all_goals
  simp only[j5,qj,zd,ze,aS,jm,cC,cE,wK,wL]
  try simp only[BA,ak,aj,aq,ah,zd,ze,bS,bU,F1]
  try simp only[j5,qj,zd,ze,aS,jm,cC,cE,wK,wL]
  try simp only[BA,ak,aq,zd,ze,bS,bU,Oz]
  try simp only[j5,qj,zd,ze,aS,jm,cE,wK]
  try simp only[BA,ak,aj,aq,ah,zd,ze,bS,bU,wQ,iz,YB]
  refine zi ?_;simp only[BA,ak,aq,zd,ze,bS,bU,Mx,Q7];simp only[go_ret,zr,Fx,hP]
  exact⟨trivial,_,l7 _ _ _ _ _ _ rfl,rfl,_,rfl⟩
theorem u84:prog.underlying 149=some (.slice 157):=Ka.u
theorem zky(hg:GW gl){n:Nat}{bs:List aT}{es:aN}{b:Nat}{c:V}{ty:aB}{i:Option Nat}{xs:List aC}(hb:nth bs b=some (.cells [c] ty))(hu:UL ⟨bs,es⟩ 11 157 c i xs) :
  zk prog gl (n+1) 89 [.ptr b 0] ⟨bs,es⟩=some (.ret (.bool xs.isEmpty),⟨bs,es⟩):=by
 suffices bK:(go ⟨prog,gl,zk prog gl n,fG⟩ n (Fx prog f89.results.toList λw H1=>w=.bool xs.isEmpty/\H1=⟨bs,[]⟩) [.c (f89.body.getD .skip)] .normal ⟨[.ptr b 0]++List.replicate 8 (.br []),⟨bs,[]⟩,[],[]⟩) by
  obtain⟨w,H1,h0,rfl,rfl⟩:=zJ (gl:=gl) (f:=89) (bs:=bs) (es:=es) (args:=[.ptr b 0]) (n:=n) (hg.hk _ _ (by decide)) (λH=>hg.eV _ _ _ _) func89 rfl (by rw[hg.uq];exact bK)
  rw[h0];have:=zW (bs:=bs) (ls:=[]) (es:=es) (t:=(V.bool xs.isEmpty).top) (dU _);rw[mT] at this;rw[this]
 have gp:zl prog ⟨bs,[]⟩ gl.g 149 (.ptr b 0)=some c:=zu CY hb rfl;have gE:aW c=c/\qV prog ⟨bs,[]⟩ 149 c=some (xs.length:Int):=by
  cases i with
  | none=>obtain⟨rfl,rfl⟩:=hu;exact⟨rfl,zeW u84⟩
  | some j=>obtain⟨v,rfl,_⟩:=hu;exact⟨rfl,xp u84⟩
 have he:((xs.length:Int) == 0)=xs.isEmpty:=by cases xs<;>simp;omega
 simp only[f89,ga,zh];refine zi ?_;simp only[BA,aj,aq,bS,bU,List.replicate];refine zi ?_
 simp only[BA,ak,aj,aq,aa,ah,zd,ze,bS,bU,CX,gp,gE.1,gE.2,wQ,he];simp only[go_ret,zr,Fx]
 exact⟨trivial,[.bool xs.isEmpty],rfl,rfl,trivial⟩
end
section
variable{gl:Gl}
theorem Ux{P:aQ}(eV:∀n f args H,gl.eV n f args H=none){n:Nat}{f:FuncId}{args:aC}{H H':Hp}{o:Out}(h:zk P gl n f args H=some (o,H')):∀e∈H.bC,e∈H'.bC:=by
 intro e he;obtain⟨bs,es⟩:=H;have iM:∀(t:Nat)(H1:Hp),e∈(zX bs.length es t H1).bC:=λt H1=>by
  unfold zX;split<;>exact Ba _ he
 cases n with
 | zero=>simp[zk] at h
 | succ n =>
  simp only[zk,qA,eJ,eV] at h;split at h
  ·simp only[bu,cw] at h;obtain⟨_,rfl⟩:=h;exact he
  ·split at h<;>try (cases h;done)
   split at h<;>try (cases h;done)
   split at h<;>try (cases h;done)
   split at h<;>try (cases h;done)
   split at h<;>try (cases h;done)
   ·simp only[kW,bu,cw] at h;rw[<- h.2];exact iM _ _
   ·split at h<;>try (cases h;done)
    simp only[qm,kW,bu,cw] at h;rw[<- h.2];exact iM _ _
def aL:E->aC
 | .mk op pl s0 s1 s2 s3 text mn mx nl args=>[.int .i64 op,.int .i64 pl,.int .u64 s0,.int .u64 s1,.int .u64 s2,.int .u64 s3,.str text,.int .i64 mn,.int .i64 mx,yi nl (fy args)]
theorem qz(e:E):enc e=.agg (aL e):=by cases e;rfl
theorem z6(e:E):(aL e).length=10:=by cases e;rfl
theorem z7(e:E):(aL e).map aW=aL e:=by cases e;simp[aL,z4,zS,kQ]
theorem vX(e:E):aI (aL e)=0:=by have:=Ao e;rwa [qz] at this
theorem YC(e:E):(aL e).all (λc=>!(locked c))=true:=by
 obtain⟨op,pl,s0,s1,s2,s3,text,mn,mx,nl,args⟩:=e;rcases vG nl (fy args) with h|⟨_,h⟩<;>simp[aL,h,locked]
def so(f:E×Nat):aC:=aL f.1++[.int .i64 (f.2:Int)]
theorem OA(f:E×Nat):(so f).length=11:=by simp[so,z6]
theorem YD(f:E×Nat):(so f).map aW=so f:=by simp[so,z7,zS]
theorem zho(f:E×Nat):aI (so f)=0:=gS (vX _) rfl
def Kp(N bm:Nat)(H H':Hp):Prop:=∀d cs ty,d≠bm->d≠N+2->d≠N+3->H.get d=some (.cells cs ty)->H'.get d=some (.cells cs ty)
theorem Kp.refl{N bm:Nat}{H:Hp}:Kp N bm H H:=λ_ _ _ _ _ _ h=>h
structure WS(bs:List aT)(bm:Nat)(i0:Option Nat)(H:Hp)(S:List (E×Nat))(ps:List Part)(m:Mk):Prop where
 len:bs.length+4<=H.au.length
 lt:bm<bs.length
 op:∃c i,H.get (bs.length+2)=some (.cells [c] 151)/\UL H 11 157 c i (S.reverse.map so)/\∀j,i=some j->bs.length<=j
 dn:∃c i,H.get (bs.length+3)=some (.cells [c] 154)/\UL H 39 117 c i (ps.reverse.map zo)/\∀j,i=some j->bs.length<=j
 A5:∃i,MK bs.length H bm m i/\Kb bs.length i0 i
 fr:∀d,d<bs.length->d≠bm->i0≠some d->H.get d=nth bs d
theorem MA{H:Hp}{sz:Nat}{e:aB}{c:V}{i:Option Nat}{xs:List aC}(h:UL H sz e c i xs){d:Nat}{cs:aC}{ty:aB}(hd:H.get d=some (.cells cs ty)):i≠some d:=by
 intro e;subst e;obtain⟨v,_,h2⟩:=h;rw[hd] at h2;cases h2
theorem WS.opened{bs:List aT}{bm:Nat}{i0:Option Nat}{H H':Hp}{S S':List (E×Nat)}{ps:List Part}{m:Mk}(h:WS bs bm i0 H S ps m)
  (AR:∀e∈H.bC,e∈H'.bC) {co c':V} {io i':Option Nat} (a1:H.get (bs.length+2)=some (.cells [co] 151)) (a2:UL H 11 157 co io (S.reverse.map so)) (a3:∀j,io=some j->bs.length<=j)
  (h1:H'.get (bs.length+2)=some (.cells [c'] 151)) (h2:UL H' 11 157 c' i' (S'.reverse.map so))
  (hi:∀j,i'=some j->io=some j\/H.au.length<=j) (hf:sX H H' (λd=>d=bs.length+2\/io=some d)):WS bs bm i0 H' S' ps m/\Kp bs.length bm H H':=by
 obtain⟨cd,id,b1,b2,b3⟩:=h.dn;obtain⟨im,⟨cm,k1,k2,k3⟩,k4⟩:=h.A5;have hlen:=h.len;have EX:∀d,io=some d->bs.length<=d/\∃v cs,H.get d=some (.ul v 11 cs 157):=λd hd=>by
  subst hd;obtain⟨v,_,g⟩:=a2;exact⟨a3 d rfl,v,_,g⟩
 have F2:∀d cs ty,d≠bs.length+2->H.get d=some (.cells cs ty)->H'.get d=some (.cells cs ty):=λd cs ty hd hg=>hf.some hg λhc=>by
  rcases hc with rfl|hc
  ·exact hd rfl
  ·obtain⟨_,v,cs',g⟩:=EX d hc;rw[hg] at g;cases g
 have Q9:∀d v sz cs e,e≠157->H.get d=some (.ul v sz cs e)->H'.get d=some (.ul v sz cs e):=λd v sz cs e he hg=>hf.some hg λhc=>by
  rcases hc with rfl|hc
  ·rw[a1] at hg;cases hg
  ·obtain⟨_,v',cs',g⟩:=EX d hc;rw[hg] at g;injection g with g;injection g with _ _ _ g;exact he g
 have EY:∀{sz e c i xs},e≠157->UL H sz e c i xs->UL H' sz e c i xs:=λ{sz e c i xs} he hu=>hu.frame λj hj=>by
  subst hj;obtain⟨v,_,g⟩:=hu;rw[g,Q9 _ _ _ _ _ he g]
 refine⟨⟨cU hlen hf.len,h.lt,⟨c',i',h1,h2,λj hj=>?_⟩,⟨cd,id,F2 _ _ _ (by omega) b1,EY (by decide) b2,b3⟩,⟨im,⟨cm,F2 _ _ _ (by have:=h.lt;omega) k1,EY (by decide) k2,λj hj hn=>⟨(k3 j hj hn).1,AR _ (k3 j hj hn).2⟩⟩,k4⟩,λd hd Kg Kh=>?_⟩,λd cs ty _ h2 _ hg=>F2 d cs ty h2 hg⟩
 ·rcases hi j hj with hc|hc
  ·exact(EX j hc).1
  ·omega
 ·rw[<- h.fr d hd Kg Kh];refine hf.get d (by omega) λhc=>?_
  rcases hc with rfl|hc
  ·omega
  ·have:=(EX d hc).1;omega
theorem WS.Q_{bs:List aT}{bm:Nat}{i0:Option Nat}{H H':Hp}{S:List (E×Nat)}{ps ps':List Part}{m:Mk}(h:WS bs bm i0 H S ps m)
  (AR:∀e∈H.bC,e∈H'.bC) {co c':V} {io i':Option Nat} (a1:H.get (bs.length+3)=some (.cells [co] 154)) (a2:UL H 39 117 co io (ps.reverse.map zo)) (a3:∀j,io=some j->bs.length<=j)
  (h1:H'.get (bs.length+3)=some (.cells [c'] 154)) (h2:UL H' 39 117 c' i' (ps'.reverse.map zo))
  (hi:∀j,i'=some j->io=some j\/H.au.length<=j) (hf:sX H H' (λd=>d=bs.length+3\/io=some d)):WS bs bm i0 H' S ps' m/\Kp bs.length bm H H':=by
 obtain⟨cd,id,b1,b2,b3⟩:=h.op;obtain⟨im,⟨cm,k1,k2,k3⟩,k4⟩:=h.A5;have hlen:=h.len;have EX:∀d,io=some d->bs.length<=d/\∃v cs,H.get d=some (.ul v 39 cs 117):=λd hd=>by
  subst hd;obtain⟨v,_,g⟩:=a2;exact⟨a3 d rfl,v,_,g⟩
 have F2:∀d cs ty,d≠bs.length+3->H.get d=some (.cells cs ty)->H'.get d=some (.cells cs ty):=λd cs ty hd hg=>hf.some hg λhc=>by
  rcases hc with rfl|hc
  ·exact hd rfl
  ·obtain⟨_,v,cs',g⟩:=EX d hc;rw[hg] at g;cases g
 have Q9:∀d v sz cs e,e≠117->H.get d=some (.ul v sz cs e)->H'.get d=some (.ul v sz cs e):=λd v sz cs e he hg=>hf.some hg λhc=>by
  rcases hc with rfl|hc
  ·rw[a1] at hg;cases hg
  ·obtain⟨_,v',cs',g⟩:=EX d hc;rw[hg] at g;injection g with g;injection g with _ _ _ g;exact he g
 have EY:∀{sz e c i xs},e≠117->UL H sz e c i xs->UL H' sz e c i xs:=λ{sz e c i xs} he hu=>hu.frame λj hj=>by
  subst hj;obtain⟨v,_,g⟩:=hu;rw[g,Q9 _ _ _ _ _ he g]
 refine⟨⟨cU hlen hf.len,h.lt,⟨cd,id,F2 _ _ _ (by omega) b1,EY (by decide) b2,b3⟩,⟨c',i',h1,h2,λj hj=>?_⟩,⟨im,⟨cm,F2 _ _ _ (by have:=h.lt;omega) k1,EY (by decide) k2,λj hj hn=>⟨(k3 j hj hn).1,AR _ (k3 j hj hn).2⟩⟩,k4⟩,λd hd Kg Kh=>?_⟩,λd cs ty _ _ h3 hg=>F2 d cs ty h3 hg⟩
 ·rcases hi j hj with hc|hc
  ·exact(EX j hc).1
  ·omega
 ·rw[<- h.fr d hd Kg Kh];refine hf.get d (by omega) λhc=>?_
  rcases hc with rfl|hc
  ·omega
  ·have:=(EX d hc).1;omega
theorem WS.made{bs:List aT}{bm:Nat}{i0:Option Nat}{H H':Hp}{S:List (E×Nat)}{ps:List Part}{m m':Mk}(h:WS bs bm i0 H S ps m)
  {i i':Option Nat} (k0:Kb bs.length i0 i) (hm:MK bs.length H bm m i) (Pp:MK bs.length H' bm m' i') (hn:Kb H.au.length i i')
  (hf:sX H H' (λd=>d=bm\/i=some d)):WS bs bm i0 H' S ps m'/\Kp bs.length bm H H':=by
 obtain⟨co,io,a1,a2,a3⟩:=h.op;obtain⟨cd,id,b1,b2,b3⟩:=h.dn;obtain⟨cm,k1,k2,k3⟩:=hm;have hlen:=h.len;have bR:=h.lt;have EX:∀d,i=some d->∃v cs,H.get d=some (.ul v 19 cs 115):=λd hd=>by
  subst hd;obtain⟨v,_,g⟩:=k2;exact⟨v,_,g⟩
 have F2:∀d cs ty,d≠bm->H.get d=some (.cells cs ty)->H'.get d=some (.cells cs ty):=λd cs ty hd hg=>hf.some hg λhc=>by
  rcases hc with rfl|hc
  ·exact hd rfl
  ·obtain⟨v,cs',g⟩:=EX d hc;rw[hg] at g;cases g
 have Q9:∀d v sz cs e,e≠115->H.get d=some (.ul v sz cs e)->H'.get d=some (.ul v sz cs e):=λd v sz cs e he hg=>hf.some hg λhc=>by
  rcases hc with rfl|hc
  ·rw[k1] at hg;cases hg
  ·obtain⟨v',cs',g⟩:=EX d hc;rw[hg] at g;injection g with g;injection g with _ _ _ g;exact he g
 have EY:∀{sz e c i xs},e≠115->UL H sz e c i xs->UL H' sz e c i xs:=λ{sz e c i xs} he hu=>hu.frame λj hj=>by
  subst hj;obtain⟨v,_,g⟩:=hu;rw[g,Q9 _ _ _ _ _ he g]
 refine⟨⟨cU hlen hf.len,bR,⟨co,io,F2 _ _ _ (by omega) a1,EY (by decide) a2,a3⟩,⟨cd,id,F2 _ _ _ (by omega) b1,EY (by decide) b2,b3⟩,⟨i',Pp,?_⟩,λd hd Kg Kh=>?_⟩,λd cs ty h1 _ _ hg=>F2 d cs ty h1 hg⟩
 ·rcases hn with rfl|⟨rfl,j,rfl,hj⟩
  ·exact k0
  ·rcases k0 with rfl|⟨rfl,j',h1,_⟩
   ·exact .inr ⟨rfl,j,rfl,by omega⟩
   ·cases h1
 ·rw[<- h.fr d hd Kg Kh];refine hf.get d (by omega) λhc=>?_
  rcases hc with rfl|hc
  ·exact Kg rfl
  ·rcases k0 with rfl|⟨rfl,j',h1,h2⟩
   ·exact Kh hc
   ·rw[h1] at hc;cases hc;omega
theorem WS.push{bs:List aT}{bm:Nat}{i0:Option Nat}{H:Hp}{S:List (E×Nat)}{ps:List Part}{m:Mk}(h:WS bs bm i0 H S ps m){x:aT}:WS bs bm i0 (H.push x) S ps m/\Kp bs.length bm H (H.push x):=by
 have hf:sX H (H.push x) (λ_=>False):=⟨by rw[jl];omega,λd hd _=>jG hd⟩
 obtain⟨co,io,a1,a2,a3⟩:=h.op;refine h.opened (λe he=>he) a1 a2 a3 (hf.some a1 id) (a2.frame λj hj=>?_) (λj hj=>.inl hj) (hf.mono λ_ _ h=>h.elim);subst hj;exact jG a2.lt
theorem WS.C4{bs:List aT}{bm:Nat}{i0:Option Nat}{H:Hp}{S:List (E×Nat)}{ps:List Part}{m:Mk}(h:WS bs bm i0 H S ps m){b:Nat}{cs cs':aC}{ty ty':aB}(hb:H.get b=some (.cells cs ty))(h0:bs.length<=b)(h2:b≠bs.length+2)(h3:b≠bs.length+3):WS bs bm i0 (H.set b (.cells cs' ty')) S ps m:=by
 obtain⟨co,io,a1,a2,a3⟩:=h.op;obtain⟨cd,id,b1,b2,b3⟩:=h.dn;obtain⟨im,⟨cm,k1,k2,k3⟩,k4⟩:=h.A5;have bR:=h.lt;have EY:∀{sz e c i xs},UL H sz e c i xs->UL (H.set b (.cells cs' ty')) sz e c i xs:=λ{sz e c i xs} hu=>hu.frame λj hj=>qD λe=>by
  subst hj e;obtain⟨v,_,g⟩:=hu;rw[hb] at g;cases g
 exact⟨by rw[wu];exact h.len,bR,⟨co,io,(qD (Ne.symm h2)).trans a1,EY a2,a3⟩,⟨cd,id,(qD (Ne.symm h3)).trans b1,EY b2,b3⟩,⟨im,⟨cm,(qD (by omega)).trans k1,EY k2,k3⟩,k4⟩,λd hd Kg Kh=>(qD (by omega)).trans (h.fr d hd Kg Kh)⟩
end
section
variable{gl:Gl}
noncomputable abbrev Ki(gl:Gl)(n:Nat):Cx:=⟨prog,gl.g,zk prog gl n,fG⟩
variable{bs:List aT}{bm:Nat}{i0:Option Nat}{H:Hp}{S:List (E×Nat)}{ps:List Part}{m:Mk}
theorem zpO{k:Nat}(h:k<2 ^ 32):kA (k+1) 112=true:=dJ (by omega) (by omega)
theorem zpP{k:Nat}(h:k<2 ^ 32):kA (k+1) 312=true:=dJ (by omega) (by omega)
theorem WS.F3(hg:GW gl){n:Nat}(hn:1<=n)(h:WS bs bm i0 H S ps m)(f:E×Nat)(hr:S.length<2 ^ 32) :
  ∃H',(Ki gl n).bD 88 [.ptr (bs.length+2) 0,.agg (so f)] H=some (.val (.br []),H')/\WS bs bm i0 H' (f::S) ps m/\Kp bs.length bm H H':=by
 obtain⟨co,io,a1,a2,a3⟩:=h.op;obtain⟨H',c',j,h1,h2,h3,h4,h5,h6⟩:=zpH hg (n:=n - 1) a1 a2 (MA a2 a1) (OA f) (YD f) (by rw[gk,List.length_reverse];exact zpO hr)
 rw[show n - 1+1=n by omega] at h1
 have:=h.opened (S':=f::S) (Ux hg.eV h1) a1 a2 a3 h2 (by simpa using h3) (λk hk=>by cases hk;exact h5) h6
 exact⟨H',zq func88 rfl h1,this.1,this.2⟩
theorem WS.YE(hg:GW gl){n:Nat}(hn:1<=n){f:E×Nat}(h:WS bs bm i0 H (f::S) ps m)(hr:S.length<2 ^ 32) :
  ∃H',(Ki gl n).bD 90 [.ptr (bs.length+2) 0] H=some (.val (.agg (so f)),H')/\WS bs bm i0 H' S ps m/\Kp bs.length bm H H':=by
 obtain⟨co,io,a1,a2,a3⟩:=h.op;obtain⟨j,rfl⟩:∃j,io=some j:=by
  cases io with
  | none=>exact absurd a2.2 (by simp)
  | some j=>exact⟨j,rfl⟩
 have YF:UL H 11 157 co (some j) (S.reverse.map so++[so f]):=by simpa using a2
 obtain⟨H',c',h1,h2,h3,h6⟩:=zqB hg (n:=n - 1) a1 YF (λe=>MA a2 a1 (by rw[e])) (OA f) (YD f) (zho f) (λy hy=>by obtain⟨z,_,rfl⟩:=iH.1 hy;exact OA z) (by rw[gk,List.length_reverse];omega)
 rw[show n - 1+1=n by omega] at h1
 have:=h.opened (S':=S) (Ux hg.eV h1) a1 a2 a3 h2 h3 (λk hk=>.inl hk) (h6.mono λd _ hd=>by rcases hd with h|h;exact .inl h;exact .inr (by rw[h]))
 exact⟨H',zq func90 rfl h1,this.1,this.2⟩
theorem WS.DE(hg:GW gl){n:Nat}(hn:1<=n)(h:WS bs bm i0 H S ps m)(p:Part)(hr:ps.length<2 ^ 32) :
  ∃H',(Ki gl n).bD 91 [.ptr (bs.length+3) 0,.agg (zo p)] H=some (.val (.br []),H')/\WS bs bm i0 H' S (p::ps) m/\Kp bs.length bm H H':=by
 obtain⟨co,io,a1,a2,a3⟩:=h.dn;obtain⟨H',c',j,h1,h2,h3,h4,h5,h6⟩:=zpI hg (n:=n - 1) a1 a2 (MA a2 a1) qX wT (by rw[gk,List.length_reverse];exact zpP hr)
 rw[show n - 1+1=n by omega] at h1
 have:=h.Q_ (ps':=p::ps) (Ux hg.eV h1) a1 a2 a3 h2 (by simpa using h3) (λk hk=>by cases hk;exact h5) h6
 exact⟨H',zq func91 rfl h1,this.1,this.2⟩
theorem WS.I4(hg:GW gl){n:Nat}(hn:1<=n){p:Part}(h:WS bs bm i0 H S (p::ps) m)(hr:ps.length<2 ^ 32) :
  ∃H',(Ki gl n).bD 93 [.ptr (bs.length+3) 0] H=some (.val (.agg (zo p)),H')/\WS bs bm i0 H' S ps m/\Kp bs.length bm H H':=by
 obtain⟨co,io,a1,a2,a3⟩:=h.dn;obtain⟨j,rfl⟩:∃j,io=some j:=by
  cases io with
  | none=>exact absurd a2.2 (by simp)
  | some j=>exact⟨j,rfl⟩
 have YF:UL H 39 117 co (some j) (ps.reverse.map zo++[zo p]):=by simpa using a2
 obtain⟨H',c',h1,h2,h3,h6⟩:=zqC hg (n:=n - 1) a1 YF (λe=>MA a2 a1 (by rw[e])) qX wT yL (λy hy=>by obtain⟨z,_,rfl⟩:=iH.1 hy;exact qX) (by rw[gk,List.length_reverse];omega)
 rw[show n - 1+1=n by omega] at h1
 have:=h.Q_ (ps':=ps) (Ux hg.eV h1) a1 a2 a3 h2 h3 (λk hk=>.inl hk) (h6.mono λd _ hd=>by rcases hd with h|h;exact .inl h;exact .inr (by rw[h]))
 exact⟨H',zq func93 rfl h1,this.1,this.2⟩
theorem WS.emp(hg:GW gl){n:Nat}(hn:1<=n)(h:WS bs bm i0 H S ps m):(Ki gl n).bD 89 [.ptr (bs.length+2) 0] H=some (.val (.bool S.isEmpty),H):=by
 obtain⟨co,io,a1,a2,a3⟩:=h.op;obtain⟨b,e⟩:=H;have h1:=zky hg (n:=n - 1) (es:=e) a1 a2;rw[show n - 1+1=n by omega] at h1
 have:(S.reverse.map so).isEmpty=S.isEmpty:=by cases S<;>simp
 rw[this] at h1;exact zq func89 rfl h1
structure Mk.Ok(m:Mk):Prop where
 r:m.rules.length=m.cq.length
 n:m.next.length=m.cq.length
theorem WS.leaf(hg:GW gl){n:Nat}(hn:2<=n)(h:WS bs bm i0 H S ps m)(eE:m.Ok)(hs:m.cq.length<1216){op pl s0 s1 s2 s3 mn mx r:Int}{text:bL}{nl:Bool}{args:List E} :
  ∃H',(Ki gl n).bD 92 [.ptr bm 0,enc (.mk op pl s0 s1 s2 s3 text mn mx nl args),.int .i64 r] H=some (.val (.agg (zo (jL op (s0,s1,s2,s3) r m).1)),H')/\WS bs bm i0 H' S ps (jL op (s0,s1,s2,s3) r m).2/\Kp bs.length bm H H':=by
 obtain⟨i,k1,k2⟩:=h.A5;obtain⟨H',i',h1,h2,h3,h4⟩:=zl8 hg (n:=n - 2) (r:=r) (op:=op) (pl:=pl) (s0:=s0) (s1:=s1) (s2:=s2) (s3:=s3) (mn:=mn) (mx:=mx) (text:=text) (nl:=nl) (args:=args) k1 (by have:=h.len;omega) hs (by rw[eE.r];exact hs) (by rw[eE.n];exact hs)
 rw[show n - 2+2=n by omega] at h1
 have:=h.made k2 k1 h2 h3 h4;exact⟨H',zq func92 rfl h1,this.1,this.2⟩
theorem YG{bs:List aT}{es:aN}{i:Option Nat}{ns:List (Nat->Bool)}{bm:Nat}:sX ⟨bs,es⟩ ⟨ep bs i ns,es⟩ (λd=>d=bm\/i=some d) :=
 ⟨by rw[yK];exact dB _,λd _ hd=>Ut λe=>hd (.inr e)⟩
theorem MK.ep{bs:List aT}{es:aN}{n0 bm:Nat}{m:Mk}{i:Option Nat}(h:MK n0 ⟨bs,es⟩ bm m i){ns:List (Nat->Bool)}(hl:ns.length=m.next.length):MK n0 ⟨ep bs i ns,es⟩ bm { m with next:=ns } i:=by
 obtain⟨c,h1,h2,h3⟩:=h;exact⟨c,(Ut (Uu h2 h1)).trans h1,zjq h2 hl,h3⟩
theorem YH{op:Int}{k:Nat}{a b:Part}{ns:List (Nat->Bool)}:(zR op k a b ns).2.length=ns.length:=by
 unfold zR;split
 ·rfl
 ·split
  ·rfl
  ·simp only[wv]
theorem zhp{mn mx:Int}{p:Part}{ns:List (Nat->Bool)}:(xS mn mx p ns).2.length=ns.length:=by
 unfold xS;simp only;split
 ·simp only[wv]
 ·rfl
theorem WS.MB(hg:GW gl){n:Nat}(hn:1302<=n)(h:WS bs bm i0 H S ps m){op:Int}{k:Nat}{a b:Part}(hk:k<2 ^ 60)(dG:∀k∈jg a.last 19,k<m.next.length) :
  ∃H',(Ki gl n).bD 94 [.ptr bm 0,.int .i64 op,.int .i64 k,.agg (zo a),.agg (zo b)] H=some (.val (.agg (zo (zR op k a b m.next).1)),H')/\WS bs bm i0 H' S ps { m with next:=(zR op k a b m.next).2 }/\Kp bs.length bm H H':=by
 obtain⟨i,k1,k2⟩:=h.A5;obtain⟨b',e'⟩:=H;obtain⟨c,g1,g2,g3⟩:=k1;have h1:=zio hg (n:=n - 1) (by omega) (es:=e') (op:=op) (b:=b) hk g1 g2 dG
 rw[show n - 1+1=n by omega] at h1
 have:=h.made k2 ⟨c,g1,g2,g3⟩ (MK.ep (es:=e') ⟨c,g1,g2,g3⟩ (YH (op:=op) (k:=k) (a:=a) (b:=b))) (.inl rfl) YG;exact⟨_,zq func94 rfl h1,this.1,this.2⟩
theorem WS.F4(hg:GW gl){n:Nat}(hn:1302<=n)(h:WS bs bm i0 H S ps m){op pl s0 s1 s2 s3 mn mx:Int}{text:bL}{nl:Bool}{args:List E}{p:Part}(dG:∀k∈jg p.last 19,k<m.next.length) :
  ∃H',(Ki gl n).bD 95 [.ptr bm 0,enc (.mk op pl s0 s1 s2 s3 text mn mx nl args),.agg (zo p)] H=some (.val (.agg (zo (xS mn mx p m.next).1)),H')/\WS bs bm i0 H' S ps { m with next:=(xS mn mx p m.next).2 }/\Kp bs.length bm H H':=by
 obtain⟨i,k1,k2⟩:=h.A5;obtain⟨b',e'⟩:=H;obtain⟨c,g1,g2,g3⟩:=k1;have h1:=zfQ hg (n:=n - 1) (by omega) (es:=e') (op:=op) (pl:=pl) (s0:=s0) (s1:=s1) (s2:=s2) (s3:=s3) (mn:=mn) (mx:=mx) (text:=text) (nl:=nl) (args:=args) g1 g2 dG
 rw[show n - 1+1=n by omega] at h1
 have:=h.made k2 ⟨c,g1,g2,g3⟩ (MK.ep (es:=e') ⟨c,g1,g2,g3⟩ (zhp (mn:=mn) (mx:=mx) (p:=p))) (.inl rfl) YG;exact⟨_,zq func95 rfl h1,this.1,this.2⟩
end
section
def p0:Part:=⟨false,cW,cW⟩
def y9(op mn mx:Int)(x:Part×Mk):Part×Mk:=if op=7 then ((xS mn mx x.1 x.2.next).1,{ x.2 with next:=(xS mn mx x.1 x.2.next).2 }) else x
mutual
def j_(r:Int):E->Mk->Part×Mk
 | .mk op _ s0 s1 s2 s3 _ mn mx _ args,m=>match args with
  | []=>jL op (s0,s1,s2,s3) r m
  | a::tl=>y9 op mn mx (sZ r op 0 p0 (a::tl) m)
def sZ(r:Int)(op:Int):Nat->Part->List E->Mk->Part×Mk
 | _,a,[],m=>(a,m)
 | k,a,e::es,m=>sZ r op (k+1) (zR op k a (j_ r e m).1 (j_ r e m).2.next).1 es { (j_ r e m).2 with next:=(zR op k a (j_ r e m).1 (j_ r e m).2.next).2 }
end
def EZ(r:Int):E×Nat->List Part->Mk->Option (List Part×Mk)
 | (.mk op _pl s0 s1 s2 s3 _tx _mn _mx _nl [],_d),ps,m=>some ((jL op (s0,s1,s2,s3) r m).1::ps,(jL op (s0,s1,s2,s3) r m).2)
 | (.mk op pl s0 s1 s2 s3 tx mn mx nl (a::tl),0),ps,m=>some ((j_ r (.mk op pl s0 s1 s2 s3 tx mn mx nl (a::tl)) m).1::ps,(j_ r (.mk op pl s0 s1 s2 s3 tx mn mx nl (a::tl)) m).2)
 | (.mk op _pl _s0 _s1 _s2 _s3 _tx mn mx _nl (a::tl),d+1),b::x::ps,m =>
  some ((y9 op mn mx (sZ r op (d+1) (zR op d x b m.next).1 ((a::tl).drop (d+1)) { m with next:=(zR op d x b m.next).2 })).1::ps,(y9 op mn mx (sZ r op (d+1) (zR op d x b m.next).1 ((a::tl).drop (d+1)) { m with next:=(zR op d x b m.next).2 })).2)
 | (.mk _ _ _ _ _ _ _ _ _ _ (_::_),_+1),_,_=>none
def den(r:Int):List (E×Nat)->List Part->Mk->Option (List Part×Mk)
 | [],ps,m=>some (ps,m)
 | f::S,ps,m=>match EZ r f ps m with
  | some (ps',m')=>den r S ps' m'
  | none=>none
theorem Uy{r:Int}{e:E}{ps:List Part}{m:Mk}:EZ r (e,0) ps m=some ((j_ r e m).1::ps,(j_ r e m).2):=by
 obtain⟨op,pl,s0,s1,s2,s3,tx,mn,mx,nl,args⟩:=e;cases args with
 | nil=>simp only[EZ,j_]
 | cons a tl=>simp only[EZ]
variable{r op pl s0 s1 s2 s3 mn mx:Int}{tx:bL}{nl:Bool}{args:List E}{S:List (E×Nat)}{ps:List Part}{m:Mk}{d:Nat}
theorem Uz{a:E}{tl:List E}{b x:Part}:EZ r (.mk op pl s0 s1 s2 s3 tx mn mx nl (a::tl),d+1) (b::x::ps) m=some ((y9 op mn mx (sZ r op (d+1) (zR op d x b m.next).1 ((a::tl).drop (d+1)) { m with next:=(zR op d x b m.next).2 })).1::ps,(y9 op mn mx (sZ r op (d+1) (zR op d x b m.next).1 ((a::tl).drop (d+1)) { m with next:=(zR op d x b m.next).2 })).2):=rfl
theorem vu{f:E×Nat}{y:List Part×Mk}(h:EZ r f ps m=some y):den r (f::S) ps m=den r S y.1 y.2:=by simp only[den,h]
theorem zhq{a:E}{tl:List E}:j_ r (.mk op pl s0 s1 s2 s3 tx mn mx nl (a::tl)) m=y9 op mn mx (sZ r op 0 p0 (a::tl) m):=by simp only[j_]
theorem YI{e:E}{es:List E}{k:Nat}{a:Part}:sZ r op k a (e::es) m=sZ r op (k+1) (zR op k a (j_ r e m).1 (j_ r e m).2.next).1 es { (j_ r e m).2 with next:=(zR op k a (j_ r e m).1 (j_ r e m).2.next).2 }:=by simp only[sZ]
theorem zjr{k:Nat}{a:Part}:sZ r op k a [] m=(a,m):=by simp only[sZ]
theorem F5:den r ((.mk op pl s0 s1 s2 s3 tx mn mx nl [],d)::S) ps m=den r S ((jL op (s0,s1,s2,s3) r m).1::ps) (jL op (s0,s1,s2,s3) r m).2:=by
 cases d with
 | zero=>exact vu (y:=(_,_)) (by simp only[EZ])
 | succ d=>exact vu (y:=(_,_)) (by simp only[EZ])
theorem zmb{a:E}{tl:List E}:den r ((.mk op pl s0 s1 s2 s3 tx mn mx nl (a::tl),0)::S) ps m=den r ((a,0)::(.mk op pl s0 s1 s2 s3 tx mn mx nl (a::tl),1)::S) (p0::ps) m:=by
 rw[vu Uy,vu Uy,vu (Uz (d:=0)),zhq,YI];rfl
theorem zmc{a:E}{tl:List E}{x b:Part}{c:E}(hc:(a::tl)[d+1]?=some c) :
  den r ((.mk op pl s0 s1 s2 s3 tx mn mx nl (a::tl),d+1)::S) (b::x::ps) m=den r ((c,0)::(.mk op pl s0 s1 s2 s3 tx mn mx nl (a::tl),d+2)::S) ((zR op d x b m.next).1::ps) { m with next:=(zR op d x b m.next).2 }:=by
 obtain⟨bR,lf⟩:=cP.1 hc;have e_:(a::tl).drop (d+1)=c::(a::tl).drop (d+2):=by rw[E7 bR,lf]
 rw[vu Uz,vu Uy,vu (Uz (d:=d+1)),e_,YI]
theorem znX{a:E}{tl:List E}{x b:Part}(hd:(a::tl).length<=d+1) :
  den r ((.mk op pl s0 s1 s2 s3 tx mn mx nl (a::tl),d+1)::S) (b::x::ps) m=den r S ((y9 op mn mx ((zR op d x b m.next).1,{ m with next:=(zR op d x b m.next).2 })).1::ps) (y9 op mn mx ((zR op d x b m.next).1,{ m with next:=(zR op d x b m.next).2 })).2:=by
 rw[vu Uz,List.drop_eq_nil_of_le hd,zjr]
theorem YJ{q:Int×Int×Int×Int}:m.cq.length<=(jL op q r m).2.cq.length:=by
 unfold jL;split<;>simp
theorem YK{x:Part×Mk}:(y9 op mn mx x).2.cq=x.2.cq:=by
 unfold y9;split<;>rfl
mutual
theorem s4:∀(e:E)(m:Mk),m.cq.length<=(j_ r e m).2.cq.length
 | .mk op _ s0 s1 s2 s3 _ mn mx _ [],m=>by simp only[j_];exact YJ
 | .mk op _ s0 s1 s2 s3 _ mn mx _ (a::tl),m=>by
  simp only[j_,YK];exact s5 (a::tl) op 0 p0 m
theorem s5:∀(es:List E)(op:Int)(k:Nat)(a:Part)(m:Mk),m.cq.length<=(sZ r op k a es m).2.cq.length
 | [],op,k,a,m=>by simp only[sZ];exact dB _
 | e::es,op,k,a,m=>by
  simp only[sZ];exact cU (s4 e m) (s5 es op (k+1) (zR op k a (j_ r e m).1 (j_ r e m).2.next).1 { (j_ r e m).2 with next:=(zR op k a (j_ r e m).1 (j_ r e m).2.next).2 })
end
theorem zmd{f:E×Nat}{ps':List Part}{m':Mk}(h:EZ r f ps m=some (ps',m')):m.cq.length<=m'.cq.length:=by
 unfold EZ at h;split at h<;>simp only[bu,cw,reduceCtorEq] at h
 ·rw[<- h.2];exact YJ
 ·rw[<- h.2];exact s4 _ _
 ·rw[<- h.2,YK];refine cU (Nat.le_of_eq ?_) (s5 _ _ _ _ _);rfl
theorem BM:∀{S:List (E×Nat)}{ps:List Part}{m:Mk}{y:List Part×Mk},den r S ps m=some y->m.cq.length<=y.2.cq.length
 | [],_,_,_,h=>by simp only[den,bu] at h;rw[<- h];exact dB _
 | f::S,ps,m,y,h=>by
  simp only[den] at h;split at h
  next ps' m' he=>exact cU (zmd he) (BM h)
  ·cases h
def DF(n:Nat)(p:Part):Prop:=(∀x∈jg p.first 19,x<n)/\(∀x∈jg p.last 19,x<n)
theorem DF.mono{n n':Nat}{p:Part}(h:DF n p)(hn:n<=n'):DF n' p:=⟨λx hx=>r9 (h.1 x hx) hn,λx hx=>r9 (h.2 x hx) hn⟩
theorem zme{n:Nat}{b:Bool}:DF n ⟨b,cW,cW⟩:=by
 constructor<;>(intro x hx;rw[iD] at hx;simp[cW] at hx)
theorem UA{n:Nat}{p q:Nat->Bool}(hp:∀x∈jg p 19,x<n)(hq:∀x∈jg q 19,x<n):∀x∈jg (jD p q) 19,x<n:=by
 intro x hx;rw[iD] at hx;obtain⟨h1,h2⟩:=hx;simp only[jD,tX] at h2;rcases h2 with h|h
 ·exact hp x (iD.2 ⟨h1,h⟩)
 ·exact hq x (iD.2 ⟨h1,h⟩)
theorem zpQ{n k:Nat}(h:k<n):∀x∈jg (jQ cW k) 19,x<n:=by
 intro x hx;rw[iD] at hx;have:=hx.2;simp[jQ,cW] at this;omega
theorem zhr{q:Int×Int×Int×Int}(h:m.Ok):(jL op q r m).2.Ok/\DF (jL op q r m).2.next.length (jL op q r m).1:=by
 unfold jL;split
 ·exact⟨h,zme⟩
 ·refine⟨⟨by simp[h.r],by simp[h.n]⟩,?_⟩
  constructor<;>exact zpQ (by simp[h.n])
theorem zip{n:Nat}{k:Nat}{a b:Part}{ns:List (Nat->Bool)}(ha:DF n a)(hb:DF n b):DF n (zR op k a b ns).1:=by
 unfold zR;split
 ·exact hb
 ·split
  ·exact⟨UA ha.1 hb.1,UA ha.2 hb.2⟩
  ·refine⟨?_,?_⟩
   ·simp only;split
    ·exact UA ha.1 hb.1
    ·exact ha.1
   ·simp only;split
    ·exact UA ha.2 hb.2
    ·exact hb.2
theorem znY{n:Nat}{p:Part}{ns:List (Nat->Bool)}(h:DF n p):DF n (xS mn mx p ns).1:=h
mutual
def wE:E->Nat
 | .mk _ _ _ _ _ _ _ _ _ _ args=>3+Ew args
def Ew:List E->Nat
 | []=>0
 | e::es=>wE e+2+Ew es
end
def wF:E×Nat->Nat
 | (e,0)=>wE e
 | (.mk _ _ _ _ _ _ _ _ _ _ args,d+1)=>1+Ew (args.drop (d+1))
def wS:List (E×Nat)->Nat
 | []=>0
 | f::S=>wF f+wS S
theorem UB(f:E×Nat):1<=wF f:=by
 obtain⟨⟨op,pl,s0,s1,s2,s3,tx,mn,mx,nl,args⟩,d⟩:=f;cases d<;>simp only[wF,wE]<;>omega
theorem znZ{a:E}{tl:List E}:wS ((a,0)::(.mk op pl s0 s1 s2 s3 tx mn mx nl (a::tl),1)::S)+4=wS ((.mk op pl s0 s1 s2 s3 tx mn mx nl (a::tl),0)::S):=by
 simp only[wS,wF,wE,Ew,uH,iW];omega
theorem zn0{c:E}(hc:args[d+1]?=some c):wS ((c,0)::(.mk op pl s0 s1 s2 s3 tx mn mx nl args,d+2)::S)+2=wS ((.mk op pl s0 s1 s2 s3 tx mn mx nl args,d+1)::S):=by
 obtain⟨bR,lf⟩:=cP.1 hc;have e_:args.drop (d+1)=c::args.drop (d+2):=by rw[E7 bR,lf]
 simp only[wS,wF];rw[e_,show d+1+1=d+2 from rfl];simp only[Ew];omega
end
section
variable{gl:Gl}
theorem YL:qP prog 157=some (.agg [.int .i64 0,.int .i64 0,.int .u64 0,.int .u64 0,.int .u64 0,.int .u64 0,.str [],.int .i64 0,.int .i64 0,.aG,.int .i64 0]):=by kernel_rfl
theorem z86:qP prog 151=some (.agg [.aG]):=by kernel_rfl
theorem z89:qP prog 154=some (.agg [.aG]):=by kernel_rfl
theorem zqE:(match prog.underlying 157 with|some (.struct fs)=>Ta prog fs|_=>none)=some [(0,10),(10,1)]:=by kernel_rfl
theorem zoZ{x:aX}{env:aC}{e:E}(h:ak env x=some (.agg (aL e))):kB prog 157 #[(0,x)] env=some (.agg (so (e,0))):=by
 have hp:=zqE;unfold kB;rw[YL];cases hu:prog.underlying 157 with
 | none=>rw[hu] at hp;cases hp
 | some d =>
  rw[hu] at hp;cases d<;>simp only at hp<;>try (cases hp;done)
  simp only[hp];obtain⟨op,pl,s0,s1,s2,s3,text,mn,mx,nl,args⟩:=e;simp[dD,xN,h,nth,aL,V.cells,Vm.storeCells,so]
theorem zpR{x y:aX}{env:aC}{e:E}{d:Nat}(h:ak env x=some (.agg (aL e)))(h':ak env y=some (.int .i64 (d:Int))):kB prog 157 #[(0,x),(1,y)] env=some (.agg (so (e,d))):=by
 have hp:=zqE;unfold kB;rw[YL];cases hu:prog.underlying 157 with
 | none=>rw[hu] at hp;cases hp
 | some d =>
  rw[hu] at hp;cases d<;>simp only at hp<;>try (cases hp;done)
  simp only[hp];obtain⟨op,pl,s0,s1,s2,s3,text,mn,mx,nl,args⟩:=e;simp[dD,xN,h,h',nth,aL,V.cells,Vm.storeCells,so]
theorem zqF{env:aC}:kB prog 117 #[] env=some (.agg (zo p0)):=by kernel_rfl
theorem YM:qC prog 51=some false:=by kernel_rfl
theorem UC:prog.underlying 51=some (.slice 53):=by kernel_rfl
theorem nV:zD prog 157 0=some 0:=by kernel_rfl
theorem o_:zD prog 157 1=some 10:=by kernel_rfl
theorem C5:zD prog 53 6=some 9:=by kernel_rfl
theorem zhs{H:Hp}{nl:Bool}{l:List E}:qV prog H 51 (yi nl (fy l))=some (l.length:Int):=by
 rcases vG nl (fy l) with h|⟨h0,h⟩<;>rw[h]
 ·simp[qV,fO]
 ·have:l=[]:=by
   have:=congrArg List.length h0;rw[fO] at this;exact HM this
  subst this;simp[qV]
theorem UD{H:Hp}{b:Nat}{p q:Part}{env:aC}{lk:aN}{df:bP}(hg:H.get b=some (.cells (zo q) 117)):qo prog 117 H lk df (some (.agg (zo p),env)) (some (.ptr b 0))=some (.skip,⟨env,H.set b (.cells (zo p) 117),lk,df⟩):=by
 rw[zA (v:=.agg (zo p)) sn hg rfl (by simp[V.laid,qX]) (by rw[qX];decide) (wk yu (by rw[qX];decide)),jT (by simp[V.top,yL])]
 simp only[V.laid,wT];rw[w7 (by rw[qX,qX])]
theorem YN{H:Hp}{b:Nat}{p:Part}{g:Nat->Nat->bY}(hg:H.get b=some (.cells (zo p) 117)):zl prog H g 117 (.ptr b 0)=some (.agg (zo p)):=by
 rw[je uu sn hg (by rw[qX];decide),iW,rM (by rw[qX];decide)]
def E.args:E->List E
 | .mk _ _ _ _ _ _ _ _ _ _ a=>a
structure EF(bs:List aT)(bm:Nat)(r:Int)(env:aC):Prop where
 len:env.length=86
 e0:nth env 0=some (.ptr bm 0)
 e2:nth env 2=some (.int .i64 r)
 e6:nth env 6=some (.ptr (bs.length+1) 0)
 e7:nth env 7=some (.ptr (bs.length+2) 0)
 e8:nth env 8=some (.ptr (bs.length+3) 0)
structure WI(bs:List aT)(bm:Nat)(i0:Option Nat)(r:Int)(P:Part)(M:Mk)(Wm:Nat)(H:Hp)(S:List (E×Nat))(ps:List Part)(m:Mk):Prop where
 ws:WS bs bm i0 H S ps m
 dn:den r S ps m=some ([P],M)
 OB:∀p∈ps,DF m.next.length p
 ok:m.Ok
 wf:∀f∈S,f.2<=f.1.args.length/\wE f.1<=2 ^ 31
 bd:S.length+ps.length+wS S<=Wm
 res:∃q,H.get (bs.length+1)=some (.cells (zo q) 117)
theorem zq6{H:Hp}{b:Nat}{f:E×Nat}{cs:aC}{ty:aB}{env:aC}{lk:aN}{df:bP}(hg:H.get b=some (.cells cs ty))(hl:cs.length=11)(hu:cs.all (λc=>!(locked c))=true):qo prog 157 H lk df (some (.agg (so f),env)) (some (.ptr b 0))=some (.skip,⟨env,H.set b (.cells (so f) ty),lk,df⟩):=by
 rw[zA (v:=.agg (so f)) Aq hg rfl (by simp[V.laid,OA]) (by rw[hl];decide) (wk hu (by rw[hl];decide)),jT (by simp[V.top,zho])]
 simp only[V.laid,YD];rw[w7 (by rw[hl,OA])]
theorem Kj{H:Hp}{b d:Nat}{op pl s0 s1 s2 s3 mn mx:Int}{tx:bL}{nl:Bool}{args:List E}{g:Nat->Nat->bY}(hg:H.get b=some (.cells (so (.mk op pl s0 s1 s2 s3 tx mn mx nl args,d)) 157)) :
  zl prog H g 3 (.ptr b 0)=some (.int .i64 op)/\zl prog H g 51 (.ptr b 9)=some (yi nl (fy args))/\zl prog H g 3 (.ptr b 10)=some (.int .i64 (d:Int))/\zl prog H g 53 (.ptr b 0)=some (.agg (aL (.mk op pl s0 s1 s2 s3 tx mn mx nl args))) :=
 ⟨zu Oq hg rfl,zu YM hg rfl,zu Oq hg rfl,by rw[je BK sY hg (by rw[OA];decide)];rfl⟩
theorem YO{nl:Bool}{args:List E}{D:Nat}{c:E}(h:args[D]?=some c):zp prog 51 (yi nl (fy args)) (D:Int)=some (.vp (aL c)):=by
 have b_:yi nl (fy args)=.sl 10 (fy args) .no:=by
  rcases vG nl (fy args) with h'|⟨h0,h'⟩
  ·exact h'
  ·have:=congrArg List.length h0;rw[fO] at this;rw[HM this] at h;simp at h
 have hn:nth (fy args) D=some (enc c):=by rw[zg,BF,h];rfl
 have hD:¬((D:Int)<0):=by omega
 simp[b_,zp,sY,hD,hn,qz,V.cells]
theorem Ra{H:Hp}{g:Nat->Nat->bY}{c:E}:zl prog H g 53 (.vp (aL c))=some (.agg (aL c)):=by
 have:(aL c).take 10=aL c:=rM (by rw[z6];decide)
 simp[zl,qu,BK,sY,Od,z6,this]
structure UE(bs:List aT)(bm:Nat)(r:Int)(L:Nat)(env:aC):Prop extends EF bs bm r env where
 e9:nth env 9=some (.ptr L 0)
theorem zjs{c:E}:∀{l:List E},c∈l->wE c+2<=Ew l
 | a::l,h=>by
  simp only[Ew];rcases dN.1 h with rfl|h
  ·omega
  ·have:=zjs h;omega
theorem As:∀{l:List E},l.length<=Ew l
 | []=>dB _
 | a::l=>by have:=As (l:=l);simp only[Ew,aZ];omega
theorem YP(e:E):wE e=3+Ew e.args:=by cases e;simp only[wE,E.args]
theorem zn2{r op pl s0 s1 s2 s3 mn mx:Int}{tx:bL}{nl:Bool}{a:E}{tl:List E}{d:Nat}{S:List (E×Nat)}{ps:List Part}{m:Mk}{y:List Part×Mk}(h:den r ((.mk op pl s0 s1 s2 s3 tx mn mx nl (a::tl),d+1)::S) ps m=some y):∃b x ps',ps=b::x::ps':=by
 cases ps with
 | nil=>simp[den,EZ] at h
 | cons b ps =>
  cases ps with
  | nil=>simp[den,EZ] at h
  | cons x ps=>exact⟨b,x,ps,rfl⟩
def Mid(bs:List aT)(bm:Nat)(i0:Option Nat)(r:Int)(P:Part)(M:Mk)(Wm L:Nat)(e:E)(d:Nat)(S:List (E×Nat))(s:St):Prop :=
 ∃env H ps m q,s=⟨env,H,[],[]⟩/\UE bs bm r L env/\WS bs bm i0 H S ps m/\(∀p∈ps,DF m.next.length p)/\m.Ok/\H.get L=some (.cells (so (e,d)) 157)/\H.get (bs.length+1)=some (.cells (zo q) 117) /\
  (∀c,e.args[d]?=some c->den r ((c,0)::(e,d+1)::S) ps m=some ([P],M)/\S.length+2+ps.length+wS ((c,0)::(e,d+1)::S)<=Wm/\wS ((c,0)::(e,d+1)::S)<wS ((e,d)::S)) /\
  (d=e.args.length->match e with|.mk op _ _ _ _ _ _ mn mx _ _=>∃p ps',ps=p::ps'/\den r S ((y9 op mn mx (p,m)).1::ps') (y9 op mn mx (p,m)).2=some ([P],M)/\S.length+ps.length+wS S<=Wm)
theorem zmf(hg:GW gl){n n0:Nat}{H:Hp}{bm:Nat}{m:Mk}{i:Option Nat}{e:E}{r:Int}{P:Part}{M:Mk}
  (hm:MK n0 H bm m i) (Bj:n0<=H.au.length) (hP:j_ r e m=(P,M)) (eE:m.Ok) (hM:M.cq.length<=1200) (hn:wE e+2000<=n) (hw:wE e+2<=2 ^ 31) :
  ∃H' i',zk prog gl (n+1) 55 [.ptr bm 0,enc e,.int .i64 r] H=some (.ret (.agg (zo P)),H')/\MK n0 H' bm M i'/\Kb H.au.length i i'/\sX H H' (λd=>d=bm\/i=some d)/\M.Ok/\DF M.next.length P:=by
 obtain⟨bs,es⟩:=H;have Dw:=hm.start
 suffices bK:(go ⟨prog,gl,zk prog gl n,fG⟩ n (Fx prog f55.results.toList λw H1=>w=.agg (zo P)/\∃i',MK bs.length H1 bm M i'/\Kb bs.length i i'/\sX ⟨bs,[]⟩ H1 (λd=>d=bm\/i=some d)/\M.Ok/\DF M.next.length P) [.c (f55.body.getD .skip)] .normal ⟨[.ptr bm 0,enc e,.int .i64 r]++List.replicate 83 (.br []),⟨bs,[]⟩,[],[]⟩) by
  obtain⟨w,H1,h0,rfl,i',h1,h2,h3,h4,h5⟩:=zJ (gl:=gl) (f:=55) (bs:=bs) (es:=es) (args:=[.ptr bm 0,enc e,.int .i64 r]) (n:=n) (hg.hk _ _ (by decide)) (λH=>hg.eV _ _ _ _) func55 rfl (by rw[hg.uq];exact bK)
  exact⟨_,i',h0,hm.finish Bj h2 h1,h2,zdT h3,h4,h5⟩
 obtain⟨c,hc,hu,hed⟩:=Dw;have bR:bm<bs.length:=kL hc;have o5:dD (.agg (aL e))=true:=rfl;simp only[f55,ga,zh,qz];refine zi ?_
 simp only[BA,aq,zc,zd,ze,bS,bU,qc o5,Mt,zL (show dD (V.agg (zo ⟨false,cW,cW⟩))=true from rfl),V.laid,V.cells,z7,List.replicate];refine zi ?_
 simp only[qx,aH,zh,qM,aM,aq,zc,aV,aZ,List.length_nil,nI,Nat.reduceAdd,aY,bh,bg,bS,bU,z86,zL (show dD (V.agg [V.aG])=true from rfl),V.cells]
 refine zi ?_
 simp only[qx,aH,zh,qM,aM,aq,zc,aV,aZ,List.length_nil,nI,Nat.reduceAdd,aY,bh,bg,bS,bU,z89,zL (show dD (V.agg [V.aG])=true from rfl),V.cells]
 generalize F6:Hp.mk (bs++[aT.cells (aL e) 53,.cells (zo ⟨false,cW,cW⟩) 117,.cells [.aG] 151,.cells [.aG] 154]) []=H0;have DG:WS bs bm i H0 [] [] m:=by
  subst F6;refine⟨by simp,bR,⟨.aG,none,gN (k:=2),⟨rfl,rfl⟩,by simp⟩,⟨.aG,none,gN (k:=3),⟨rfl,rfl⟩,by simp⟩,⟨i,⟨c,(gB bR).trans hc,hu.frame λj hj=>gB (by subst hj;exact hu.lt),λj hj hn=>?_⟩,.inl rfl⟩,λd hd _ _=>gB hd⟩
  subst hj;exact absurd hu.lt (by simpa using hn)
 have BJ:zl prog H0 gl.g 53 (.ptr bs.length 0)=some (.agg (aL e)):=by
  subst F6;rw[zoY BK sY rfl (by simp[z6])]
  rw[iW,rM (by rw[z6];decide)]
 have l7:H0.get (bs.length+1)=some (.cells (zo p0) 117):=by subst F6;exact gN (k:=1)
 obtain⟨H1,nE,Hh,Ee⟩:=DG.F3 hg (show 1<=n by omega) (e,0) (by decide)
 refine zi ?_;simp only[BA,ak,aq,zd,ze,bS,bU,BJ];rw[zoZ (e:=e) (by rfl)]
 simp only[BA,az,ak,aq,aA,zd,ze,bS,bU,nE];refine y7 (EF bs bm r) ⟨rfl,rfl,rfl,rfl,rfl,rfl⟩ λenv lC=>?_
 have Ag:WI bs bm i r P M (wE e+2) H1 [(e,0)] [] m:=⟨Hh,by simp only[den,Uy,hP],λp hp=>by simp at hp,eE,λf hf=>by simp at hf;subst hf;exact⟨dU _,by simp only;omega⟩,by simp[wS,wF];omega,⟨p0,Ee _ _ _ (by omega) (by omega) (by omega) l7⟩⟩
 refine qd (λj s=>∃S ps m H env,wS S=j/\s=⟨env,H,[],[]⟩/\EF bs bm r env/\WI bs bm i r P M (wE e+2) H S ps m) (wS [(e,0)]) (by simp[wS,wF];omega) ⟨_,_,_,_,_,rfl,rfl,lC,Ag⟩ ?_
 clear Ag DG BJ l7 nE Hh Ee F6 lC env H0 H1;rintro j s ⟨S,ps,m1,H,env,rfl,rfl,he,hi⟩;simp only[zh];refine zi ?_;have YQ:=hi.ws.emp hg (show 1<=n by omega)
 have hlen:=he.len;simp only[BA,Nat.reduceEqDiff,az,ak,aq,aA,za,bG,Nat.reduceLT,bz,he.e7,hlen,YQ,iI];cases S with
 | nil =>
  refine .inr ⟨rfl,?_⟩;have hd:=hi.dn;simp only[den,bu,cw] at hd;obtain⟨rfl,rfl⟩:=hd;obtain⟨H2,sx,Rb,eV⟩:=hi.ws.I4 hg (show 1<=n by omega) (by decide)
  obtain⟨q,hq⟩:=hi.res;have MC:=eV _ _ _ (by have:=hi.ws.lt;omega) (by omega) (by omega) hq
  simp only[ql,zO,zr,bJ,zG,lu,aF,zh];refine zi ?_;simp only[BA,Nat.reduceEqDiff,az,ak,aq,aA,za,bG,Nat.reduceLT,bz,he.e8,he.e6,hlen,sx];rw[UD MC];simp only[bx,aq,go_ret,zr,Fx]
  have I5:=Rb.C4 (cs':=zo P) (ty':=117) MC (by omega) (by omega) (by omega)
  obtain⟨i',k1,k2⟩:=I5.A5;refine⟨trivial,[.agg (zo P)],?_,rfl,i',k1,k2,⟨by have:=I5.len;show bs.length<=_;omega,λd hd sy=>I5.fr d hd (λe=>sy (.inl e)) (λe=>sy (.inr e))⟩,hi.ok,hi.OB P (by simp)⟩
  simp only[zy,za,bG,Nat.reduceEqDiff,bz,he.e6];rw[YN (wJ MC)];simp[aW]
 | cons f S =>
  refine .inl ⟨rfl,?_⟩;have OC:=hi.bd;have QT:S.length<2 ^ 32:=by simp only[aZ] at OC;omega
  have Ie:ps.length<2 ^ 31:=by simp only[aZ] at OC;omega
  obtain⟨H1,nE,Hh,Ee⟩:=hi.ws.YE hg (show 1<=n by omega) QT
  refine zi ?_
  simp only[qx,aH,zh,zx,qM,zV,ki,Nat.reduceEqDiff,az,qm,ak,zM,qW,aM,aq,qk,qL,aA,a_,bt,aF,za,bG,Nat.reduceLT,aF,bz,he.e7,hlen,nE,YL,zL (show dD (V.agg [.int .i64 0,.int .i64 0,.int .u64 0,.int .u64 0,.int .u64 0,.int .u64 0,.str [],.int .i64 0,.int .i64 0,.aG,.int .i64 0])=true from rfl),V.cells]
  rw[zq6 wg rfl rfl];obtain⟨L,hL⟩:∃L,L=H1.au.length:=⟨_,rfl⟩;obtain⟨z,hz⟩:∃z,z=aT.cells [.int .i64 0,.int .i64 0,.int .u64 0,.int .u64 0,.int .u64 0,.int .u64 0,.str [],.int .i64 0,.int .i64 0,.aG,.int .i64 0] 157:=⟨_,rfl⟩;rw[<- hz,<- hL];obtain⟨H2,F7⟩:∃H2,H2=(H1.push z).set L (.cells (so f) 157):=⟨_,rfl⟩;rw[<- F7];have YR:bs.length+4<=L:=by rw[hL];exact Hh.len
  have YS:(H1.push z).get L=some z:=by rw[hL];exact wg
  have OD:H2.get L=some (.cells (so f) 157):=by rw[F7,wJ YS]
  have Rb:WS bs bm i H2 S ps m1:=by rw[F7];exact Hh.push.1.C4 (by rw[YS,hz]) (by omega) (by omega) (by omega)
  obtain⟨q,hq⟩:=hi.res;have MC:H2.get (bs.length+1)=some (.cells (zo q) 117):=by
   rw[F7,qD (by omega),jG (by omega)]
   exact Ee _ _ _ (by omega) (by omega) (by omega) hq
  clear F7 YS hz z Ee hq nE Hh;simp only[bx,aq]
  refine y7 (UE bs bm r L) ⟨⟨by simp[hlen],by simp[za,he.e0],by simp[za,he.e2],by simp[za,he.e6],by simp[za,he.e7],by simp[za,he.e8]⟩,by simp[za,hlen]⟩ λenv he=>?_
  have hlen:=he.len;obtain⟨⟨op,pl,s0,s1,s2,s3,tx,mn,mx,nl,args⟩,d⟩:=f;obtain⟨l1,l2,l3,l4⟩:=Kj (g:=gl.g) OD;refine zi ?_;simp only[BA,Nat.reduceEqDiff,ak,aj,aq,ah,za,bG,Nat.reduceLT,bz,he.e9,hlen,nV,C5,l2,z4,zhs,wQ];cases args with
  | nil =>
   refine .inl ⟨rfl,?_⟩;have DC:=hi.dn;rw[F5] at DC;have OE:=BM DC;have iB:=zhr (op:=op) (r:=r) (q:=(s0,s1,s2,s3)) hi.ok;have YT:=YJ (op:=op) (r:=r) (q:=(s0,s1,s2,s3)) (m:=m1);have F8:m1.next.length<=(jL op (s0,s1,s2,s3) r m1).2.next.length:=by rw[hi.ok.n,iB.1.n];exact YT
   simp only at OE;obtain⟨H3,Cf,I5,C3⟩:=Rb.leaf hg (show 2<=n by omega) hi.ok (by omega) (op:=op) (pl:=pl) (s0:=s0) (s1:=s1) (s2:=s2) (s3:=s3) (mn:=mn) (mx:=mx) (r:=r) (text:=tx) (nl:=nl) (args:=[])
   obtain⟨H4,Rc,UF,My⟩:=I5.DE hg (show 1<=n by omega) (jL op (s0,s1,s2,s3) r m1).1 (by omega)
   rw[qz] at Cf;simp only[ql,zO,zG,zh,lu,aF]
   refine zi ?_;simp only[BA,Nat.reduceEqDiff,az,ak,aq,ah,aA,za,bG,Nat.reduceLT,bz,he.e0,he.e2,he.e8,he.e9,hlen,nV,l4,Cf,Rc];simp only[ql,zO,zG,zr,aO,qF,lu,ig,ij,aF,f_,bz]
   refine⟨_,?_,S,_,_,H4,_,rfl,rfl,⟨by simp[hlen],by simp[za,he.e0],by simp[za,he.e2],by simp[za,he.e6],by simp[za,he.e7],by simp[za,he.e8]⟩,UF,DC,λp hp=>?_,iB.1,λf hf=>hi.wf f (d_ _ hf),?_,⟨q,My _ _ _ (by have:=hi.ws.lt;omega) (by omega) (by omega) (C3 _ _ _ (by have:=hi.ws.lt;omega) (by omega) (by omega) MC)⟩⟩
   ·simp only[wS];have:=UB (.mk op pl s0 s1 s2 s3 tx mn mx nl [],d);omega
   ·rcases dN.1 hp with rfl|hp
    ·exact iB.2
    ·exact(hi.OB p hp).mono F8
   ·simp only[wS,aZ] at OC ⊢;have:=UB (.mk op pl s0 s1 s2 s3 tx mn mx nl [],d);omega
  | cons a tl =>
   refine .inr ⟨by simp;omega,?_⟩
   refine y7 (UE bs bm r L) ⟨⟨by simp[hlen],by simp[za,he.e0],by simp[za,he.e2],by simp[za,he.e6],by simp[za,he.e7],by simp[za,he.e8]⟩,by simp[za,he.e9]⟩ λenv he=>?_
   have hlen:=he.len;have ann:=hi.ws.lt;refine zi ?_;simp only[BA,Nat.reduceEqDiff,ak,aj,aq,ah,za,bG,Nat.reduceLT,bz,he.e9,hlen,o_,l3,wQ];have tL:=hi.wf _ (eT ..);have DC:=hi.dn;rcases d with _|d
   refine .inl ⟨rfl,?_⟩;rw[zmb] at DC;obtain⟨H3,Cf,I5,C3⟩:=Rb.DE hg (show 1<=n by omega) p0 (by omega)
   have hf3:=C3 _ _ _ (by omega) (by omega) (by omega) OD
   have hq3:=C3 _ _ _ (by omega) (by omega) (by omega) MC
   obtain⟨l1,l2,l3,l4⟩:=Kj (g:=gl.g) hf3;simp only[ql,zO,zG,lu,g_,aF,f_,bz]
   refine zi ?_;simp only[BA,Nat.reduceEqDiff,az,ak,aq,aA,za,bG,Nat.reduceLT,bz,he.e8,hlen,zqF,Cf];refine zi ?_
   simp only[BA,Nat.reduceEqDiff,ak,aj,aq,ah,za,bG,Nat.reduceLT,bz,he.e9,hlen,o_,l3,w6];refine .inr ⟨rfl,?_⟩
   refine mC (λs=>∃D,D<=(a::tl).length/\(∀k,k<wS ((.mk op pl s0 s1 s2 s3 tx mn mx nl (a::tl),D)::S)->k<wS ((.mk op pl s0 s1 s2 s3 tx mn mx nl (a::tl),0)::S))/\Mid bs bm i r P M (wE e+2) L (.mk op pl s0 s1 s2 s3 tx mn mx nl (a::tl)) D S s) ⟨0,dU _,λ_ h=>h,_,_,_,_,_,rfl,⟨⟨by simp[hlen],by simp[za,he.e0],by simp[za,he.e2],by simp[za,he.e6],by simp[za,he.e7],by simp[za,he.e8]⟩,by simp[za,he.e9]⟩,I5,λp hp=>?_,hi.ok,hf3,hq3,λc hc=>?_,λh=>by simp[E.args] at h⟩ ?_
   ·rcases dN.1 hp with rfl|hp
    ·exact zme
    ·exact hi.OB p hp
   ·simp only[E.args,K7,bu] at hc;subst hc;refine⟨DC,?_,?_⟩ <;>
    ·have:=znZ (op:=op) (pl:=pl) (s0:=s0) (s1:=s1) (s2:=s2) (s3:=s3) (tx:=tx) (mn:=mn) (mx:=mx) (nl:=nl) (a:=a) (tl:=tl) (S:=S);simp only[aZ,nI] at OC ⊢;omega
   rotate_left
   refine .inr ⟨by simp;omega,?_⟩
   obtain⟨b,x,ps,rfl⟩:=zn2 DC;have hpx:=hi.OB x (by simp)
   have hpb:=hi.OB b (by simp)
   have hla:(a::tl).length<=2 ^ 31:=by
    have h1:=tL.2;rw[YP] at h1;have h2:=As (l:=a::tl);simp only[E.args] at h1;omega
   have hdd:d<2 ^ 40:=by have h1:=tL.1;simp only[E.args] at h1;omega
   simp only[aZ] at Ie;obtain⟨H3,Cf,I5,C3⟩:=Rb.I4 hg (show 1<=n by omega) (by simp only[aZ];omega)
   obtain⟨H4,Rc,UF,My⟩:=I5.I4 hg (show 1<=n by omega) (by omega)
   have hf4:=My _ _ _ (by omega) (by omega) (by omega) (C3 _ _ _ (by omega) (by omega) (by omega) OD)
   have YU:=My _ _ _ (by omega) (by omega) (by omega) (C3 _ _ _ (by omega) (by omega) (by omega) MC)
   simp only[ql,zO,zG,zh,lu,hO,h_,aF,f_,bz]
   refine zi ?_;simp only[BA,Nat.reduceEqDiff,ak,aj,aq,ah,za,bG,Nat.reduceLT,bz,he.e9,hlen,o_,l3,w6];refine .inl ⟨by simp,?_⟩
   refine zi ?_;simp only[BA,Nat.reduceEqDiff,az,ak,aq,aA,za,bG,Nat.reduceLT,bz,he.e8,hlen,Cf,Rc,Mt,zL (show dD (V.agg (zo ⟨false,cW,cW⟩))=true from rfl),V.cells,jl];obtain⟨Z,hZ⟩:∃Z,Z=aT.cells (zo ⟨false,cW,cW⟩) 117:=⟨_,rfl⟩;rw[<- hZ]
   obtain⟨L2,Rd⟩:∃L2,L2=H4.au.length:=⟨_,rfl⟩;have Ak:((H4.push Z).push Z).get L2=some Z:=by rw[jG (by rw[jl,Rd];omega),Rd];exact wg
   have Ow:((H4.push Z).push Z).get (L2+1)=some Z:=by rw[Rd,<- jl (x:=Z)];exact wg
   rw[<- Rd,UD (Ak.trans (by rw[hZ]))]
   simp only[bx,aq,qx];rw[zV];simp only[BA,Nat.reduceEqDiff,ak,za,bG,Nat.reduceLT,bz,hlen];rw[UD (((qD (show L2+1≠L2 by omega)).trans Ow).trans (by rw[hZ]))]
   simp only[bx,aq]
   obtain⟨H5,OF⟩:∃H5,H5=(((H4.push Z).push Z).set L2 (.cells (zo b) 117)).set (L2+1) (.cells (zo x) 117):=⟨_,rfl⟩;rw[<- OF];have anr:bs.length+4<=L2:=by rw[Rd];exact UF.len
   have hb5:H5.get L2=some (.cells (zo b) 117):=by rw[OF,qD (by omega),wJ Ak]
   have hx5:H5.get (L2+1)=some (.cells (zo x) 117):=by rw[OF,wJ ((qD (by omega)).trans Ow)]
   have hk5:∀d y,H4.get d=some y->H5.get d=some y:=λd y hy=>by
    have hl:=kL hy;rw[OF,qD (by omega),qD (by omega),jG (by rw[jl];omega),jG hl,hy]
   have Re:WS bs bm i H5 S ps m1:=by
    rw[OF];exact((UF.push.1.push.1).C4 (Ak.trans (by rw[hZ])) (by omega) (by omega) (by omega)).C4 (((qD (show L2+1≠L2 by omega)).trans Ow).trans (by rw[hZ])) (by omega) (by omega) (by omega)
   have OG:=hk5 _ _ hf4;have Rf:=hk5 _ _ YU;refine y7 (λenv=>UE bs bm r L env/\nth env 10=some (.ptr L2 0)/\nth env 11=some (.ptr (L2+1) 0)) ⟨⟨⟨by simp[hlen],by simp[za,he.e0],by simp[za,he.e2],by simp[za,he.e6],by simp[za,he.e7],by simp[za,he.e8]⟩,by simp[za,he.e9]⟩,by simp[za,hlen],by simp[za,hlen]⟩ λenv AZ=>?_
   obtain⟨he,YV,YW⟩:=AZ;have hlen:=he.len;obtain⟨l1,l2,l3,l4⟩:=Kj (g:=gl.g) OG;obtain⟨H6,MD,Rg,Kk⟩:=Re.MB hg (show 1302<=n by omega) (op:=op) (k:=d) (a:=x) (b:=b) (by omega) hpx.2
   obtain⟨H7,Kl,Rh,ME⟩:=Rg.DE hg (show 1<=n by omega) (zR op d x b m1.next).1 (by omega)
   have l8:∀u w,qO prog .sub 3 u w (some (.int .i64 ((d+1:Nat):Int))) (some (.int .i64 1))=some (.int .i64 (d:Int)):=λu w=>XP (a:=d+1) (b:=1) (by omega) (by omega)
   refine zi ?_;simp only[BA,Nat.reduceEqDiff,az,ak,aj,aq,ah,aA,za,bG,Nat.reduceLT,bz,he.e0,he.e9,he.e8,YV,YW,hlen,nV,C0,o_,l1,l3,l8,YN hx5,YN hb5,MD,Kl]
   have UG:=ME _ _ _ (by omega) (by omega) (by omega) (Kk _ _ _ (by omega) (by omega) (by omega) OG)
   have YX:=ME _ _ _ (by omega) (by omega) (by omega) (Kk _ _ _ (by omega) (by omega) (by omega) Rf)
   have A1:(zR op d x b m1.next).2.length=m1.next.length:=YH
   refine mC (λs=>∃D,D<=(a::tl).length/\(∀k,k<wS ((.mk op pl s0 s1 s2 s3 tx mn mx nl (a::tl),D)::S)->k<wS ((.mk op pl s0 s1 s2 s3 tx mn mx nl (a::tl),d+1)::S))/\Mid bs bm i r P M (wE e+2) L (.mk op pl s0 s1 s2 s3 tx mn mx nl (a::tl)) D S s) ⟨d+1,tL.1,λ_ h=>h,_,_,_,_,_,rfl,⟨⟨by simp[hlen],by simp[za,he.e0],by simp[za,he.e2],by simp[za,he.e6],by simp[za,he.e7],by simp[za,he.e8]⟩,by simp[za,he.e9]⟩,Rh,λp hp=>?_,⟨hi.ok.r,by rw[A1];exact hi.ok.n⟩,UG,YX,λc hc=>?_,λh=>?_⟩ ?_
   ·rw[A1];rcases dN.1 hp with rfl|hp
    ·exact zip hpx hpb
    ·exact hi.OB p (by simp[hp])
   ·simp only[E.args] at hc;have MF:=zmc (r:=r) (op:=op) (pl:=pl) (s0:=s0) (s1:=s1) (s2:=s2) (s3:=s3) (tx:=tx) (mn:=mn) (mx:=mx) (nl:=nl) (S:=S) (ps:=ps) (m:=m1) (x:=x) (b:=b) hc;have DG:=zn0 (op:=op) (pl:=pl) (s0:=s0) (s1:=s1) (s2:=s2) (s3:=s3) (tx:=tx) (mn:=mn) (mx:=mx) (nl:=nl) (S:=S) hc;rw[show d+2=d+1+1 from rfl] at DG;refine⟨MF ▸ DC,?_,?_⟩ <;>
    ·simp only[aZ] at OC ⊢;omega
   ·have MF:=znX (r:=r) (op:=op) (pl:=pl) (s0:=s0) (s1:=s1) (s2:=s2) (s3:=s3) (tx:=tx) (mn:=mn) (mx:=mx) (nl:=nl) (S:=S) (ps:=ps) (m:=m1) (x:=x) (b:=b) (a:=a) (tl:=tl) (d:=d) (by simp only[E.args] at h;omega)
    refine⟨_,_,rfl,MF ▸ DC,?_⟩;simp only[aZ,wS] at OC ⊢;omega
   all_goals
    rintro s ⟨D,hDl,hJ,env,H5,ID,m2,q2,rfl,he,Re,I6,BN,OG,Rf,YY,VX⟩;have hlen:=he.len;obtain⟨l1,l2,l3,l4⟩:=Kj (g:=gl.g) OG;have hDb:D<2 ^ 40:=by
     have h1:=tL.2;rw[YP] at h1;have h2:=As (l:=a::tl);simp only[E.args] at h1;omega
    refine zi ?_;simp only[BA,Nat.reduceEqDiff,ak,aq,ah,za,bG,Nat.reduceLT,bz,he.e9,hlen,nV,o_,C5,l2,l3,z4,zhs,wQ];rcases eI D (a::tl).length with hD|hD
    ·refine .inr ⟨by simp;simp only[aZ] at hD;omega,?_⟩
     obtain⟨c,Bs⟩:∃c,(a::tl)[D]?=some c:=⟨_,fQ hD⟩;obtain⟨AV,Dx,hm3⟩:=YY c Bs;have pH:c∈a::tl:=m8 Bs;have hwc:=zjs pH;have ov:∀u w,qO prog .add 3 u w (some (.int .i64 (D:Int))) (some (.int .i64 1))=some (.int .i64 ((D+1:Nat):Int)):=λu w=>zQ (by omega)
     obtain⟨H6,MD,Rg,Kk⟩:=Re.F3 hg (show 1<=n by omega) (.mk op pl s0 s1 s2 s3 tx mn mx nl (a::tl),D+1) QT
     have MG:=Kk _ _ _ (by omega) (by omega) (by omega) OG
     have hq6:=Kk _ _ _ (by omega) (by omega) (by omega) Rf
     obtain⟨H7,Kl,Rh,ME⟩:=Rg.F3 hg (show 1<=n by omega) (c,0) (by simp only[aZ];omega)
     have YX:=ME _ _ _ (by omega) (by omega) (by omega) hq6
     refine zi ?_;simp only[BA,Nat.reduceEqDiff,ak,aj,aq,ah,za,bG,Nat.reduceLT,bz,he.e9,hlen,nV,o_,l4,l3,ov];rw[zpR (e:=.mk op pl s0 s1 s2 s3 tx mn mx nl (a::tl)) (d:=D+1) (by simp[ak,za,hlen,aW]) (by simp[ak,za,hlen,aW])]
     simp only[BA,Nat.reduceEqDiff,az,ak,aq,aA,za,bG,Nat.reduceLT,bz,he.e7,hlen,MD];obtain⟨m1',m2',m3',m4'⟩:=Kj (g:=gl.g) MG;refine zi ?_
     simp only[BA,Nat.reduceEqDiff,ak,aq,ah,aE,za,bG,Nat.reduceLT,bz,he.e9,hlen,nV,o_,C5,m2',m3',z4,YO Bs,Ra];rw[zoZ (e:=c) (by simp[ak,za,hlen,aW])]
     simp only[BA,Nat.reduceEqDiff,az,ak,aq,aA,za,bG,Nat.reduceLT,bz,he.e7,hlen,Kl];simp only[ql,zG,zr,aO,qF,lu,aF]
     refine⟨_,hJ _ hm3,_,_,_,H7,_,rfl,rfl,⟨by simp[hlen],by simp[za,he.e0],by simp[za,he.e2],by simp[za,he.e6],by simp[za,he.e7],by simp[za,he.e8]⟩,Rh,AV,I6,BN,λf hf=>?_,Dx,⟨_,YX⟩⟩
     rcases dN.1 hf with rfl|hf
     ·refine⟨dU _,?_⟩;have h1:=tL.2;rw[YP] at h1;simp only[E.args] at h1 ⊢;omega
     ·rcases dN.1 hf with rfl|hf
      ·exact⟨hD,tL.2⟩
      ·exact hi.wf f (d_ _ hf)
    ·obtain rfl:D=(a::tl).length:=by omega
     refine .inl ⟨by simp,?_⟩
     obtain⟨p,ps3,rfl,I7,MH⟩:=VX rfl;refine zi ?_;simp only[BA,Nat.reduceEqDiff,ak,aj,aq,ah,za,bG,Nat.reduceLT,bz,he.e9,hlen,nV,C0,l1,wQ]
     by_cases h7:op=7
     ·refine .inl ⟨by simp[h7],?_⟩
      rw[y9,if_pos h7] at I7;have hpp:=I6 p (eT ..);have hp3:ps3.length<2 ^ 32:=by simp only[aZ] at MH;omega
      obtain⟨H6,MD,Rg,Kk⟩:=Re.I4 hg (show 1<=n by omega) hp3
      obtain⟨H7,Kl,Rh,ME⟩:=Rg.F4 hg (show 1302<=n by omega) (op:=op) (pl:=pl) (s0:=s0) (s1:=s1) (s2:=s2) (s3:=s3) (mn:=mn) (mx:=mx) (text:=tx) (nl:=nl) (args:=a::tl) hpp.2
      rw[qz] at Kl;obtain⟨H8,YZ,hw8,hk8⟩:=Rh.DE hg (show 1<=n by omega) (xS mn mx p m2.next).1 hp3
      have MG:=Kk _ _ _ (by omega) (by omega) (by omega) OG
      have UG:=ME _ _ _ (by omega) (by omega) (by omega) MG
      have hf8:=hk8 _ _ _ (by omega) (by omega) (by omega) UG
      have hq8:=hk8 _ _ _ (by omega) (by omega) (by omega) (ME _ _ _ (by omega) (by omega) (by omega) (Kk _ _ _ (by omega) (by omega) (by omega) Rf))
      refine T' [2] [(false,false),(false,false),(true,false),(false,true),(false,true),(false,true)] (tk:=[]) (by kernel_rfl) (by kernel_rfl) ?_
      simp only[BA,Nat.reduceEqDiff,az,ak,aq,ah,aA,av,za,bG,Nat.reduceLT,bz,sC,Al,Ua,Ub,Uc,Ud,he.e0,he.e9,he.e8,hlen,nV,l4,MD,Kl,YZ,BK,List.all_nil]
      refine⟨vE (p:=.ptr L 0) (by simp[ak,za,hlen,aW]) (Kj MG).2.2.2 rfl,vE (p:=.ptr L 0) (by simp[ak,za,hlen,aW]) (Kj UG).2.2.2 rfl,vE (p:=.ptr L 0) (by simp[ak,za,hlen,aW]) (Kj hf8).2.2.2 rfl,?_⟩
      simp only[ql,zO,zG,zr,aO,lu,iq,aF,f_,bz]
      have OH:(xS mn mx p m2.next).2.length=m2.next.length:=zhp
      refine⟨_,hJ _ (show wS S<_ by simp only[wS];have:=UB (.mk op pl s0 s1 s2 s3 tx mn mx nl (a::tl),(a::tl).length);omega),S,_,_,H8,_,rfl,rfl,⟨by simp[hlen],by simp[za,he.e0],by simp[za,he.e2],by simp[za,he.e6],by simp[za,he.e7],by simp[za,he.e8]⟩,hw8,I7,λy hy=>?_,⟨BN.r,by rw[OH];exact BN.n⟩,λf hf=>hi.wf f (d_ _ hf),MH,⟨_,hq8⟩⟩
      rw[OH];rcases dN.1 hy with rfl|hy
      ·exact znY hpp
      ·exact I6 y (d_ _ hy)
     ·refine .inr ⟨by simp[h7],?_⟩
      simp only[ql,zO,zG,zr,aO,lu,iq,aF,f_,bz]
      rw[y9,if_neg h7] at I7;refine⟨_,hJ _ (show wS S<_ by simp only[wS];have:=UB (.mk op pl s0 s1 s2 s3 tx mn mx nl (a::tl),(a::tl).length);omega),S,_,_,H5,_,rfl,rfl,⟨by simp[hlen],by simp[za,he.e0],by simp[za,he.e2],by simp[za,he.e6],by simp[za,he.e7],by simp[za,he.e8]⟩,Re,I7,I6,BN,λf hf=>hi.wf f (d_ _ hf),MH,⟨_,Rf⟩⟩
end
section
variable{gl:Gl}
abbrev Cr:=E×Bool×E
def iG(c:Cr):aC:=aL c.1++[.bool c.2.1]++aL c.2.2
def Cn(c:Cr):V:=.agg (iG c)
def zZ(nl:Bool)(l:List Cr):V:=if nl && l.isEmpty then .aG else .sl 21 (l.map Cn) .no
def fz(c:Cr):E:=if c.2.1 then .mk 5 0 0 0 0 0 [] 0 0 false [c.1,c.2.2] else c.1
def jU(n r:Nat)(e:E)(m:Mk):bL×Mk :=
 (jg (if (j_ r e m).1.null then jD (j_ r e m).1.first (jQ cW (n+r)) else (j_ r e m).1.first) 19,
  {(j_ r e m).2 with next:=mN (jQ cW (n+r)) (jg (j_ r e m).1.last 19) (j_ r e m).2.next })
theorem Y0{n r:Nat}{e:E}{m:Mk}:(jU n r e m).2.cq=(j_ r e m).2.cq:=by simp only[jU]
def qt(n:Nat):Nat->List E->Mk->List bL×Mk
 | _,[],m=>([],m)
 | r,e::es,m=>((jU n r e m).1::(qt n (r+1) es (jU n r e m).2).1,(qt n (r+1) es (jU n r e m).2).2)
def m0:Mk:=⟨[],[],[]⟩
theorem zcO{n:Nat}:∀{r:Nat}{es:List E}{m:Mk},m.cq.length<=(qt n r es m).2.cq.length
 | _,[],_=>dB _
 | r,e::es,m=>by
  simp only[qt];refine cU ?_ (zcO (m:=(jU n r e m).2));rw[Y0];exact s4 e m
def F9(k:Nat):V:=.int .i64 (k:Int)
def jH(l:bL):V:=aW (zm 1 3 (l.map F9))
theorem w8(c:Cr):(iG c).length=21:=by simp[iG,z6]
theorem wx(c:Cr):(iG c).map aW=iG c:=by simp[iG,z7,qQ]
theorem Y1(c:Cr):aI (iG c)=0:=gS (gS (vX _) rfl) (vX _)
theorem zjt(c:Cr):(iG c).all (λc=>!(locked c))=true:=by simp only[iG,List.all_append,YC];rfl
theorem qB{nl:Bool}{l:List Cr}:aW (zZ nl l)=zZ nl l:=by unfold zZ;split<;>rfl
theorem Y2:prog.underlying 24=some (.slice 55):=by kernel_rfl
theorem I8:z8 prog 55=some 21:=by kernel_rfl
theorem Y3:qC prog 55=some true:=by kernel_rfl
theorem yw{H:Hp}{nl:Bool}{l:List Cr}:qV prog H 24 (zZ nl l)=some (l.length:Int):=by
 unfold zZ;split
 ·rename_i h;have:l=[]:=by simp at h;exact h.2
  subst this;simp[qV]
 ·simp[qV]
theorem UH{nl:Bool}{l:List Cr}{k:Nat}{c:Cr}(h:l[k]?=some c):zp prog 24 (zZ nl l) (k:Int)=some (.vp (iG c)):=by
 have b_:zZ nl l=.sl 21 (l.map Cn) .no:=by
  unfold zZ;rw[if_neg];intro h';have:l=[]:=by simp at h';exact h'.2
  rw[this] at h;simp at h
 have hn:nth (l.map Cn) k=some (Cn c):=by rw[zg,gj,h];rfl
 have hk:¬((k:Int)<0):=by omega
 simp[b_,zp,I8,hk,hn,Cn,V.cells]
theorem zju{H:Hp}{g:Nat->Nat->bY}{c:Cr}:zl prog H g 55 (.vp (iG c))=some (.agg (iG c)):=by
 have:(iG c).take 21=iG c:=rM (by rw[w8];decide)
 simp[zl,qu,Y3,I8,Od,w8,this]
theorem vY{P:aQ}{n:Nat}{f:FuncId}{args:aC}{v:V}{H:Hp}(h:gl.hk f args=some v):zk P gl (n+1) f args H=some (.ret v,H):=by
 obtain⟨b,e⟩:=H;simp only[zk,h]
def zF:aC:=[.aG,.aG,.aG,.aG]
theorem Y4:qP prog 30=some (.agg zF):=by kernel_rfl
theorem zo0{env:aC}:kB prog 30 #[] env=some (.agg zF):=by kernel_rfl
theorem zqG{env:aC}:kB prog 113 #[] env=some (.agg [.aG,.aG,.aG]):=by kernel_rfl
theorem z47:qP prog 55=some (.agg (iG (.mk 0 0 0 0 0 0 [] 0 0 true [],false,.mk 0 0 0 0 0 0 [] 0 0 true []))):=by kernel_rfl
theorem Y5:qP prog 53=some (.agg (aL (.mk 0 0 0 0 0 0 [] 0 0 true []))):=by kernel_rfl
theorem z60:qP prog 115=some (.agg (pv 19 cW)):=by kernel_rfl
theorem F_:z8 prog 30=some 4:=by kernel_rfl
theorem MI:qC prog 30=some true:=by kernel_rfl
theorem I9:qC prog 37=some false:=by kernel_rfl
theorem zkz(hg:GW gl){n:Nat}(hn:1<=n){nl:Bool}{l:List Cr}{k:Int}{ok:Bool}{e0 e1:V}(hm:gl.hk 54 [zZ nl l]=some (.br [.int .i64 k,.bool ok]))(h0:gl.g 0 0=some e0)(h1:gl.g 1 0=some e1)(N1:e0.top=0)(Py:e1.top=0)
  (sR:∃t v,e0=.ec t v) (nE:∃t v,e1=.ec t v) (iP:ok=false\/1000<k):zk prog gl (n+1) 14 [zZ nl l] ⟨[],[]⟩=some (.ret (.br [.agg zF,if ok then e1 else e0]),⟨[],[]⟩):=by
 have dz:Cx.bD ⟨prog,gl.g,zk prog gl n,fG⟩ 54 [zZ nl l] ⟨[.cells zF 30],[]⟩=some (.val (.br [.int .i64 k,.bool ok]),⟨[.cells zF 30],[]⟩):=by
  have:=vY (P:=prog) (n:=n - 1) (H:=⟨[.cells zF 30],[]⟩) hm;rw[show n - 1+1=n by omega] at this
  exact zq func54 rfl this
 suffices bK:(go ⟨prog,gl,zk prog gl n,fG⟩ n (Fx prog f14.results.toList λw H1=>w=.br [.agg zF,if ok then e1 else e0]/\H1=⟨[.cells zF 30],[]⟩) [.c (f14.body.getD .skip)] .normal ⟨[zZ nl l]++List.replicate 109 (.br []),⟨[],[]⟩,[],[]⟩) by
  obtain⟨w,H1,h0,rfl,rfl⟩:=zJ (gl:=gl) (f:=14) (bs:=[]) (es:=[]) (args:=[zZ nl l]) (n:=n) (hg.hk _ _ (by decide)) (λH=>hg.eV _ _ _ _) func14 rfl (by rw[hg.uq];exact bK)
  rw[h0];have:(V.br [.agg zF,if ok then e1 else e0]).top=0:=by
   cases ok<;>simp[V.top,aI,zF,N1,Py]
  rw[this];rfl
 have hz:dD (V.agg zF)=true:=rfl;simp only[f14,ga,zh];refine zi ?_;simp only[BA,aj,aq,zc,bS,bU,Y4,zL hz,V.cells,List.replicate];refine zi ?_
 simp only[BA,az,ak,aq,aA,zd,ze,bS,bU,qB,dz,kY,ew];refine zi ?_;simp only[BA,ak,aq,zd,ze,bS,bU,iI]
 have fe:∀env,qo prog 30 ⟨[.cells zF 30],[]⟩ [] [] (some (.agg zF,env)) (some (.ptr 0 0))=some (.skip,⟨env,⟨[.cells zF 30],[]⟩,[],[]⟩):=λenv=>by
  rw[zA (cs:=zF) (ty:=30) F_ rfl rfl rfl (by decide) rfl]
  rfl
 have EP:∀g,zl prog ⟨[.cells zF 30],[]⟩ g 30 (.ptr 0 0)=some (.agg zF):=λg=>by
  rw[je (cs:=zF) (ty:=30) MI F_ rfl (by decide)]
  rfl
 cases ok with
 | false =>
  refine .inl ⟨rfl,?_⟩;refine T' [1] [(false,false),(true,false),(false,true),(false,false)] (tk:=[]) (by kernel_rfl) (by kernel_rfl) ?_
  have hl:∀H,zl prog H gl.g 37 (.eN 0 0)=some e0:=λH=>by simp[zl,I9,h0]
  obtain⟨t,v,rfl⟩:=sR;simp only[BA,ak,aq,av,zd,ze,bS,bU,sC,Al,Ua,XA,Uc,Ud,I9,zo0,hl,zi9,zeO,fe];refine⟨λ_=>vE (p:=.eN 0 0) rfl (hl _) rfl,?_⟩;simp only[go_ret,zr,wi,Fx]
  refine⟨trivial,[.agg zF,.ec t v],?_,by simp[lz,aW],trivial⟩
  simp only[zy,zd,ze,EP];rfl
 | true =>
  have hk:1000<k:=by rcases iP with h|h;cases h;exact h
  refine .inr ⟨rfl,?_⟩;refine zi ?_;simp only[BA,ak,aj,aq,zd,ze,bS,bU,w6];refine .inl ⟨by simpa using hk,?_⟩
  refine T' [1] [(false,false),(true,false),(false,true),(false,false)] (tk:=[]) (by kernel_rfl) (by kernel_rfl) ?_
  have hl:∀H,zl prog H gl.g 37 (.eN 1 0)=some e1:=λH=>by simp[zl,I9,h1]
  obtain⟨t,v,rfl⟩:=nE;simp only[BA,ak,aq,av,zd,ze,bS,bU,sC,Al,Ua,XA,Uc,Ud,I9,zo0,hl,zi9,zeO,fe];refine⟨λ_=>vE (p:=.eN 1 0) rfl (hl _) rfl,?_⟩;simp only[go_ret,zr,wi,Fx]
  refine⟨trivial,[.agg zF,.ec t v],?_,by simp[lz,aW],trivial⟩
  simp only[zy,zd,ze,EP];rfl
end
section
open Go.Vm.Sx
variable{gl:Gl}
def Km(e:E):Bool:=(cR e 1 0 0).1
def vv(e:E):Int:=bif (cR e 1 0 0).1 then (bif c_ 1001 (cR e 1 0 0).2.2 then 1001 else (cR e 1 0 0).2.2) else 0
def mO:E->Bool
 | .mk op pl s0 s1 s2 s3 text mn mx _ args=>(((((((op == 0) && (pl == 0)) && (s0 == 0 && (s1 == 0 && (s2 == 0 && s3 == 0)))) && om text []) && (mn == 0)) && (mx == 0)) && ((args.length:Int) == 0))
theorem ze0(nl:Bool)(l:List Cr):zZ nl l=lv 21 nl (l.map Cn):=by cases l<;>cases nl<;>rfl
theorem zhu(nl:Bool)(l:List Cr):vL (zZ nl l)=l.map Cn:=by rw[ze0];exact zqA ..
theorem zpT(c:Cr):(Cn c).top=0:=Y1 c
theorem Y6(nl:Bool)(l:List Cr):(zZ nl l).top=0:=by
 rw[ze0,xH];exact ww zpT _
def MJ(c:Cr):Prop:=Wf c.1/\Wf c.2.2
def C6(c:Cr):Bool:=Km c.1 && (bif c.2.1 then Km c.2.2 else mO c.2.2)
def Ga(p:Int)(c:Cr):Int:=bif c_ 1001 (IntKind.i64.wrap (IntKind.i64.wrap (p+vv c.1)+vv c.2.2)) then 1001 else IntKind.i64.wrap (IntKind.i64.wrap (p+vv c.1)+vv c.2.2)
def nB:Int->List Cr->Int×Bool
 | p,[]=>(p,true)
 | p,c::l=>bif C6 c then nB (Ga p c) l else (0,false)
def yP(l:List Cr):Int×Bool:=bif c_ 200 (l.length:Int) then (0,false) else nB 0 l
def eg:Int->List Cr->Int
 | n,[]=>n
 | n,c::l=>eg (IntKind.i64.wrap (IntKind.i64.wrap (n+dP c.1 0)+dP c.2.2 0)) l
end
section
open Go.Vm.Sx
variable{gl:Gl}
def nv(l:List Int):V:=lv 1 true (l.map (.int .i64))
def Ho(l:List (List Int)):V:=lv 1 true (l.map nv)
def UI(l:List (Int×Int×Int×Int)):V:=lv 4 true (l.map Yp)
structure Fo where
 s:List (Int×Int×Int×Int)
 r:List Int
 f:List (List Int)
 n:List (List Int)
def Ri(F:Fo):aC:=[UI F.s,nv F.r,Ho F.f,Ho F.n]
def UJ(F:Fo):V:=.agg (Ri F)
theorem zmg(l:List Int):(nv l).top=0:=by unfold nv;rw[xH];exact ww (λ_=>rfl) _
theorem zn3(l:List (List Int)):(Ho l).top=0:=by unfold Ho;rw[xH];exact ww zmg _
theorem zn4(l:List (Int×Int×Int×Int)):(UI l).top=0:=by unfold UI;rw[xH];exact ww (λ_=>rfl) _
end
section
open Go.Vm.Sx
mutual
def nodes:E->Nat
 | .mk _ _ _ _ _ _ _ _ _ _ args=>1+eY args
def eY:List E->Nat
 | []=>0
 | a::l=>nodes a+eY l
end
mutual
def lR:E->Nat
 | .mk op _ _ _ _ _ _ _ _ _ args=>(if op == 2 then 1 else 0)+iT args
def iT:List E->Nat
 | []=>0
 | a::l=>lR a+iT l
end
mutual
def Ah:E->Int->Bool
 | .mk op pl s0 s1 s2 s3 text mn mx nl args,d=>decide (d<=4096) && (lM (.mk op pl s0 s1 s2 s3 text mn mx nl args) && (gh (.mk op pl s0 s1 s2 s3 text mn mx nl args) && rV args (d+1)))
def rV:List E->Int->Bool
 | [],_=>true
 | a::l,d=>Ah a d && rV l d
end
mutual
theorem sE:∀e,lR e<=nodes e
 | .mk op _ _ _ _ _ _ _ _ _ args=>by
  have:=BO args;simp only[lR,nodes];split<;>omega
theorem BO:∀l,iT l<=eY l
 | []=>by simp[iT]
 | a::l=>by have:=sE a;have:=BO l;simp only[iT,eY];omega
end
def Bd(d:Int):Int:=1048576 * (5003 - d)
mutual
theorem sF:∀(e:E)(d:Int),Wf e->0<=d->d<=5001->1<=dP e d/\dP e d<=Bd d
 | .mk _ _ _ _ _ _ _ _ _ _ args,d,hw,h0,h1=>by
  simp only[dP];cases hd:c_ 5000 d with
  | true=>simp only[aF,Bd];omega
  | false =>
   have G2:d<=5000:=by
    rcases Int.lt_or_le 5000 d with h|h
    ·rw[J9 h] at hd;cases hd
    ·exact h
   simp only[f_,bz];rw[EU (x:=d+1) (by omega) (by omega)]
   have:=s6 args (d+1) 1 hw.2.2 (by omega) (by omega) (by omega) (by simp only[Bd];omega)
   refine⟨by omega,?_⟩
   have:=this.2;simp only[Bd] at this ⊢;omega
theorem s6:∀(l:List E)(d n:Int),IS l->0<=d->d<=5001->1<=n->n<=Bd (d - 1)->n<=lO d n l/\lO d n l<=Bd (d - 1)
 | [],d,n,_,h0,h1,hn,hb=>by simp only[lO];omega
 | a::l,d,n,hw,h0,h1,hn,hb=>by
  obtain⟨a1,a2⟩:=sF a d hw.1 h0 h1;simp only[lO];cases hc:c_ n 1048576 with
  | false=>simp only[f_,bz];omega
  | true =>
   have ey:=FH.1 hc;simp only[aF];simp only[Bd] at a2 hb;rw[EU (by omega) (by omega)]
   have:=s6 l d (n+dP a d) hw.2 h0 h1 (by omega) (by simp only[Bd];omega)
   exact⟨by omega,this.2⟩
end
mutual
theorem pe:∀(e:E)(d:Int),Wf e->0<=d->d<=5001->dP e d<=20000->(nodes e:Int)<=dP e d
 | .mk _ _ _ _ _ _ _ _ _ _ args,d,hw,h0,h1,hs=>by
  simp only[dP] at hs ⊢;cases hd:c_ 5000 d with
  | true=>rw[hd] at hs;simp only[aF] at hs;omega
  | false =>
   rw[hd] at hs;have G2:d<=5000:=by
    rcases Int.lt_or_le 5000 d with h|h
    ·rw[J9 h] at hd;cases hd
    ·exact h
   simp only[f_,bz] at hs ⊢;rw[EU (x:=d+1) (by omega) (by omega)] at hs ⊢
   have g1:=rW args (d+1) 1 hw.2.2 (by omega) (by omega) (by omega) (by simp only[Bd];omega) hs
   simp only[nodes];omega
theorem rW:∀(l:List E)(d n:Int),IS l->0<=d->d<=5001->1<=n->n<=Bd (d - 1)->lO d n l<=20000->n+(eY l:Int)<=lO d n l
 | [],d,n,hw,h0,h1,hn,hb,hs=>by simp only[lO,eY] at hs ⊢;omega
 | a::l,d,n,hw,h0,h1,hn,hb,hs=>by
  obtain⟨a1,a2⟩:=sF a d hw.1 h0 h1;simp only[lO] at hs ⊢;cases hc:c_ n 1048576 with
  | false =>
   rw[hc] at hs;simp only[f_,bz] at hs;rw[J9 (by omega)] at hc;cases hc
  | true =>
   have ey:=FH.1 hc;rw[hc] at hs;simp only[aF] at hs ⊢;simp only[Bd] at a2 hb;rw[EU (by omega) (by omega)] at hs ⊢
   have dg:n+dP a d<=Bd (d - 1):=by simp only[Bd];omega
   have:=(s6 l d (n+dP a d) hw.2 h0 h1 (by omega) dg).1
   have g1:=rW l d (n+dP a d) hw.2 h0 h1 (by omega) dg hs
   have f1:=pe a d hw.1 h0 h1 (by omega)
   simp only[eY];omega
end
mutual
theorem pg:∀(e:E)(d n s:Int),0<=d->d<=4097->0<=n->n+(nodes e:Int)<=65536->0<=s->s+(nodes e:Int)<=65536->(cR e d n s).1=Ah e d/\(Ah e d=true->(cR e d n s).2.1=n+nodes e/\(cR e d n s).2.2=s+lR e)
 | .mk op pl s0 s1 s2 s3 text mn mx nl args,d,n,s,h0,h1,h2,h3,h4,h5=>by
  simp only[nodes] at h3 h5;simp only[cR,Ah];rw[EU (x:=n+1) (by omega) (by omega),XQ (x:=65536) (by omega),z_]
  cases hd:c_ 4096 d with
  | true =>
   have:=FH.1 hd;simp only[aF];rw[decide_eq_false (by omega)]
   simp
  | false =>
   have G2:d<=4096:=by
    rcases Int.lt_or_le 4096 d with h|h
    ·rw[J9 h] at hd;cases hd
    ·exact h
   rw[decide_eq_true G2,tE];simp only[f_,bz];cases hl:lM (.mk op pl s0 s1 s2 s3 text mn mx nl args) with
   | false=>simp
   | true =>
   cases hk:gh (.mk op pl s0 s1 s2 s3 text mn mx nl args) with
   | false=>simp
   | true =>
   simp only[aF,tE];rw[EU (x:=d+1) (by omega) (by omega),EU (x:=s+1) (by omega) (by omega)]
   cases ho:op == 2 with
   | true =>
    simp only[aF];obtain⟨g1,g2⟩:=nW args (d+1) (n+1) (s+1) (by omega) (by omega) (by omega) (by omega) (by omega) (by omega)
    refine⟨g1,λhg=>?_⟩;obtain⟨g3,g4⟩:=g2 hg;rw[g3,g4];simp only[nodes,lR,ho,aF];omega
   | false =>
    simp only[f_,bz];obtain⟨g1,g2⟩:=nW args (d+1) (n+1) s (by omega) (by omega) (by omega) (by omega) (by omega) (by omega)
    refine⟨g1,λhg=>?_⟩;obtain⟨g3,g4⟩:=g2 hg;rw[g3,g4];simp only[nodes,lR,ho,f_,bz];omega
theorem nW:∀(l:List E)(d n s:Int),0<=d->d<=4097->0<=n->n+(eY l:Int)<=65536->0<=s->s+(eY l:Int)<=65536->(iO d l n s).1=rV l d/\(rV l d=true->(iO d l n s).2.1=n+eY l/\(iO d l n s).2.2=s+iT l)
 | [],d,n,s,_,_,_,_,_,_=>by simp[iO,rV,eY,iT]
 | a::l,d,n,s,h0,h1,h2,h3,h4,h5=>by
  simp only[eY] at h3 h5;obtain⟨g1,g2⟩:=pg a d n s h0 h1 h2 (by omega) h4 (by omega)
  simp only[iO,rV];cases hg:Ah a d with
  | false =>
   rw[hg] at g1;simp[g1]
  | true =>
   rw[hg] at g1;obtain⟨g3,g4⟩:=g2 hg;have:=sE a;simp only[g1,aF,tE,g3,g4];obtain⟨f1,f2⟩:=nW l d (n+nodes a) (s+lR a) h0 h1 (by omega) (by omega) (by omega) (by omega)
   refine⟨f1,λhh=>?_⟩;obtain⟨f3,f4⟩:=f2 hh;rw[f3,f4];simp only[eY,iT];omega
end
mutual
def gd:E->Bool
 | .mk op pl s0 s1 s2 s3 text mn mx nl args=>lM (.mk op pl s0 s1 s2 s3 text mn mx nl args) && (gh (.mk op pl s0 s1 s2 s3 text mn mx nl args) && Ko args)
def Ko:List E->Bool
 | []=>true
 | a::l=>gd a && Ko l
end
mutual
theorem At:∀(e:E)(d:Int),d+nodes e<=4097->Ah e d=gd e
 | .mk op pl s0 s1 s2 s3 text mn mx nl args,d,h=>by
  simp only[nodes] at h;simp only[Ah,gd];rw[decide_eq_true (by omega),tE,BP args (d+1) (by omega)]
theorem BP:∀(l:List E)(d:Int),d+eY l<=4097->rV l d=Ko l
 | [],_,_=>rfl
 | a::l,d,h=>by
  simp only[eY] at h;simp only[rV,Ko];rw[At a d (by omega),BP l d (by omega)]
end
theorem zmh{e:E}(h:nodes e<=4000):Km e=gd e:=by
 obtain⟨h1,_⟩:=pg e 1 0 0 (by omega) (by omega) (by omega) (by omega) (by omega) (by omega)
 rw[Km,h1,At e 1 (by omega)]
theorem UK{e:E}(h:nodes e<=4000):vv e=if gd e then (if 1001<(lR e:Int) then 1001 else (lR e:Int)) else 0:=by
 obtain⟨h1,h2⟩:=pg e 1 0 0 (by omega) (by omega) (by omega) (by omega) (by omega) (by omega)
 have hg:=At e 1 (by omega)
 rw[vv,h1,hg];cases h3:gd e with
 | false=>rfl
 | true =>
  rw[(h2 (by rw[hg,h3])).2]
  simp only[mh,aF,Int.zero_add]
  by_cases h4:1001<(lR e:Int)
  ·rw[if_pos h4,J9 h4];rfl
  ·rw[if_neg h4,XQ (by omega)];rfl
theorem zmi{e:E}(h:mO e=true):gd e=false:=by
 obtain⟨op,pl,s0,s1,s2,s3,text,mn,mx,nl,args⟩:=e;simp only[mO,ei,beq_iff_eq] at h;obtain⟨⟨⟨⟨⟨⟨rfl,_⟩,_⟩,_⟩,_⟩,_⟩,_⟩:=h;simp[gd,gh]
theorem rX:∀(l:List Cr)(n:Int),(∀c∈l,MJ c)->0<=n->n+11000000000 * (l.length:Int)<=9000000000000000000->eg n l<=800->n<=eg n l/\∀c∈l,nodes c.1<=800/\nodes c.2.2<=800
 | [],n,_,_,_,h=>by simp only[eg] at h ⊢;exact⟨by omega,λc hc=>by cases hc⟩
 | c::l,n,hw,h0,hb,h=>by
  obtain⟨w1,w2⟩:=hw c (eT ..);obtain⟨a1,a2⟩:=sF c.1 0 w1 (by omega) (by omega)
  obtain⟨b1,b2⟩:=sF c.2.2 0 w2 (by omega) (by omega)
  simp only[Bd] at a2 b2;simp only[aZ] at hb;simp only[eg] at h ⊢;rw[EU (x:=n+dP c.1 0) (by omega) (by omega),EU (by omega) (by omega)] at h ⊢
  obtain⟨g1,g2⟩:=rX l (n+dP c.1 0+dP c.2.2 0) (λc hc=>hw c (d_ _ hc)) (by omega) (by push_cast at hb ⊢;omega) h
  have f1:=pe c.1 0 w1 (by omega) (by omega) (by omega)
  have f2:=pe c.2.2 0 w2 (by omega) (by omega) (by omega)
  refine⟨by omega,λc' hc=>?_⟩
  rcases dN.1 hc with rfl|hc
  ·exact⟨by omega,by omega⟩
  ·exact g2 c' hc
end
section
open Go.Vm.Sx
def Ey(ns:List (Nat->Bool))(x:Nat):Nat->Bool:=ns.getD x cW
theorem zn5{ns:List (Nat->Bool)}{k x:Nat}{p:Nat->Bool}(hx:x<ns.length):Ey (ns.set k p) x=if k=x then p else Ey ns x:=by
 unfold Ey;rw[K5,K5,tC]
 by_cases h:k=x
 ·subst h;simp[hx]
 ·simp[h]
theorem Y7{q:Nat->Bool}{x:Nat}:∀{ks:bL}{ns:List (Nat->Bool)},x<ns.length->∀y,Ey (mN q ks ns) x y=(Ey ns x y || (decide (x∈ks) && q y))
 | [],ns,_,y=>by simp[mN]
 | k::ks,ns,hx,y=>by
  rw[mN,Y7 (by rw[bG];exact hx),zn5 hx]
  by_cases h:k=x
  ·subst h;simp only[aF,jD,dN,true_or,decide_true,tE];show(Ey ns k y || q y || (decide (k∈ks) && q y))=(Ey ns k y || q y)
   cases Ey ns k y<;>cases q y<;>simp
  ·have:decide (x∈k::ks)=decide (x∈ks):=by simp[Ne.symm h]
   rw[if_neg h,this]
def Kq(ns:List (Nat->Bool))(x:Nat):Prop:=∃y,y<1216/\Ey ns x y=true
structure mb(ns ns':List (Nat->Bool)):Prop where
 len:ns.length<=ns'.length
 row:∀x,x<ns.length->∀y,Ey ns x y=true->Ey ns' x y=true
theorem mb.refl{ns:List (Nat->Bool)}:mb ns ns:=⟨dB _,λ_ _ _ h=>h⟩
theorem mb.trans{a b c:List (Nat->Bool)}(h:mb a b)(k:mb b c):mb a c:=⟨cU h.len k.len,λx hx y hy=>k.row x (r9 hx h.len) y (h.row x hx y hy)⟩
theorem mb.BQ{a b:List (Nat->Bool)}(h:mb a b){x:Nat}(hx:x<a.length)(hr:Kq a x):Kq b x:=by
 obtain⟨y,h1,h2⟩:=hr;exact⟨y,h1,h.row x hx y h2⟩
theorem lT{q:Nat->Bool}{ks:bL}{ns:List (Nat->Bool)}:mb ns (mN q ks ns):=⟨by rw[wv];exact dB _,λx hx y hy=>by rw[Y7 hx,hy];rfl⟩
theorem zmj{ns:List (Nat->Bool)}{p:Nat->Bool}:mb ns (ns++[p]):=⟨by simp,λx hx y hy=>by
 unfold Ey at hy ⊢;rw[K5] at hy ⊢
 rw[fI hx];exact hy⟩
structure Inv(n0:Nat)(P:Part)(ns:List (Nat->Bool)):Prop where
 nn:P.null=true\/∃y,y<1216/\P.first y=true
 lv:∀x,n0<=x->x<ns.length->P.last x=true\/Kq ns x
theorem zhw{q:Nat->Bool}{p:Nat->Bool}{ns:List (Nat->Bool)}{x:Nat}(hx:x<ns.length)(L4:x<1216)(hp:p x=true)(hq:∃y,y<1216/\q y=true):Kq (mN q (jg p 19) ns) x:=by
 obtain⟨y,h1,h2⟩:=hq;refine⟨y,h1,?_⟩;rw[Y7 hx,h2];have:x∈jg p 19:=iD.2 ⟨by omega,hp⟩
 simp[this]
theorem zhx{op:Int}{k:Nat}{a b:Part}{ns:List (Nat->Bool)}:mb ns (zR op k a b ns).2:=by
 unfold zR;split
 ·exact mb.refl
 ·split
  ·exact mb.refl
  ·simp only;exact lT
theorem ziq{op:Int}{k:Nat}{n0:Nat}{a b:Part}{Rj ns:List (Nat->Bool)}(hk:0<k)(ha:Inv n0 a Rj)(hb:Inv Rj.length b ns)(hg:mb Rj ns)(hl:ns.length<=1200):Inv n0 (zR op k a b ns).1 (zR op k a b ns).2:=by
 unfold zR;rw[if_neg (by omega)]
 split
 ·refine⟨?_,λx h0 hx=>?_⟩
  ·rcases ha.nn with h|⟨y,h1,h2⟩
   ·left;simp[h]
   ·right;exact⟨y,h1,by simp[jD,h2]⟩
  ·by_cases Du:x<Rj.length
   ·rcases ha.lv x h0 Du with h|h
    ·left;simp[jD,h]
    ·right;exact hg.BQ Du h
   ·rcases hb.lv x (by omega) hx with h|h
    ·left;simp[jD,h]
    ·right;exact h
 ·refine⟨?_,λx h0 hx=>?_⟩
  ·simp only;rcases ha.nn with h|⟨y,h1,h2⟩
   ·rcases hb.nn with h'|⟨y,h1,h2⟩
    ·left;simp[h,h']
    ·right;exact⟨y,h1,by simp[h,jD,h2]⟩
   ·right
    refine⟨y,h1,?_⟩;split
    ·simp[jD,h2]
    ·exact h2
  ·simp only[wv] at hx ⊢
   by_cases Du:x<Rj.length
   ·rcases ha.lv x h0 Du with h|h
    ·rcases hb.nn with h'|h'
     ·left;simp[h',jD,h]
     ·right;exact zhw hx (by omega) h h'
    ·right;exact lT.BQ hx (hg.BQ Du h)
   ·rcases hb.lv x (by omega) hx with h|h
    ·left
     split
     ·simp[jD,h]
     ·exact h
    ·right;exact lT.BQ hx h
variable{r:Int}
theorem zmk{op:Int}{q:Int×Int×Int×Int}{m:Mk}(eE:m.Ok)(aD:op=1\/op=2)(hl:m.cq.length<=1200):Inv m.next.length (jL op q r m).1 (jL op q r m).2.next/\mb m.next (jL op q r m).2.next/\(jL op q r m).2.cq.length=m.cq.length+(if op == 2 then 1 else 0)/\(jL op q r m).2.Ok:=by
 refine⟨?_,?_,?_,(zhr eE).1⟩
 ·unfold jL;split
  ·exact⟨.inl rfl,λx h0 hx=>by simp only at hx;omega⟩
  ·refine⟨.inr ⟨m.cq.length,by omega,by simp[jQ,cW]⟩,λx h0 hx=>.inl ?_⟩
   simp only[aV,JC] at hx;have:x=m.cq.length:=by rw[<- eE.n];omega
   simp[jQ,cW,this]
 ·unfold jL;split
  ·exact mb.refl
  ·exact zmj
 ·unfold jL;rcases aD with rfl|rfl
  ·simp
  ·simp
theorem zml{op mn mx:Int}{n0:Nat}{x:Part×Mk}(h:Inv n0 x.1 x.2.next)(eE:x.2.Ok):Inv n0 (y9 op mn mx x).1 (y9 op mn mx x).2.next/\mb x.2.next (y9 op mn mx x).2.next/\(y9 op mn mx x).2.Ok:=by
 unfold y9;split
 ·unfold xS;simp only;split
  ·refine⟨⟨?_,λy h0 hy=>?_⟩,lT,⟨eE.r,by simp only[wv];exact eE.n⟩⟩
   ·rcases h.nn with h1|h1
    ·left;simp[h1]
    ·right;exact h1
   ·rw[wv] at hy;rcases h.lv y h0 hy with h1|h1
    ·left;exact h1
    ·right;exact lT.BQ hy h1
  ·refine⟨⟨?_,h.lv⟩,mb.refl,⟨eE.r,eE.n⟩⟩;rcases h.nn with h1|h1
   ·left;simp[h1]
   ·right;exact h1
 ·exact⟨h,mb.refl,eE⟩
mutual
theorem DH:∀(e:E)(m:Mk),gd e=true->m.Ok->m.cq.length+lR e<=1200->Inv m.next.length (j_ r e m).1 (j_ r e m).2.next/\mb m.next (j_ r e m).2.next/\(j_ r e m).2.cq.length=m.cq.length+lR e/\(j_ r e m).2.Ok
 | .mk op pl s0 s1 s2 s3 tx mn mx nl [],m,hg,eE,hl=>by
  have aD:op=1\/op=2:=by
   simp only[gd,gh,ei] at hg
   by_cases h1:op=1
   ·exact .inl h1
   ·by_cases h2:op=2
    ·exact .inr h2
    ·have:=hg.2.1;simp[h1,h2] at this;exfalso;revert this;simp[c_]
  obtain⟨g1,g2,g3,g4⟩:=zmk (op:=op) (q:=(s0,s1,s2,s3)) (r:=r) eE aD (by omega)
  simp only[j_];refine⟨g1,g2,?_,g4⟩;rw[g3];simp only[lR,iT];rfl
 | .mk op pl s0 s1 s2 s3 tx mn mx nl (a::tl),m,hg,eE,hl=>by
  have aD:(op == 2)=false:=by
   simp only[gd,gh,ei] at hg;cases h2:op == 2 with
   | false=>rfl
   | true =>
    have:=hg.2.1;have e2:=beq_iff_eq.1 h2;subst e2;simp at this;omega
  have hgF:Ko (a::tl)=true:=by
   simp only[gd,ei] at hg;exact hg.2.2
  have oS:lR (.mk op pl s0 s1 s2 s3 tx mn mx nl (a::tl))=iT (a::tl):=by simp only[lR,aD,f_,bz,nI]
  rw[oS] at hl ⊢;obtain⟨g1,g2,g3,g4⟩:=DI (a::tl) op 0 p0 m m.next.length hgF eE (.inl ⟨rfl,rfl,by simp⟩) hl
  rw[zhq];obtain⟨f1,f2,f3⟩:=zml (op:=op) (mn:=mn) (mx:=mx) g1 g4;exact⟨f1,g2.trans f2,by rw[YK];exact g3,f3⟩
theorem DI:∀(es:List E)(op:Int)(k:Nat)(a:Part)(m:Mk)(n0:Nat),Ko es=true->m.Ok->((k=0/\m.next.length=n0/\es≠[])\/(0<k/\Inv n0 a m.next))->m.cq.length+iT es<=1200 ->
  Inv n0 (sZ r op k a es m).1 (sZ r op k a es m).2.next/\mb m.next (sZ r op k a es m).2.next/\(sZ r op k a es m).2.cq.length=m.cq.length+iT es/\(sZ r op k a es m).2.Ok
 | [],op,k,a,m,n0,hg,eE,hi,hl=>by
  rw[zjr];rcases hi with⟨_,_,h⟩|⟨_,h⟩
  ·exact absurd rfl h
  ·exact⟨h,mb.refl,by simp[iT],eE⟩
 | e::es,op,k,a,m,n0,hg,eE,hi,hl=>by
  simp only[Ko,ei] at hg;simp only[iT] at hl;obtain⟨g1,g2,g3,g4⟩:=DH e m hg.1 eE (by omega)
  rw[YI];obtain⟨x,hx⟩:∃x,x=j_ r e m:=⟨_,rfl⟩;rw[<- hx] at g1 g2 g3 g4 ⊢;have A1:(zR op k a x.1 x.2.next).2.length=x.2.next.length:=YH
  have BN:Mk.Ok { x.2 with next:=(zR op k a x.1 x.2.next).2 }:=⟨g4.r,by simp only[A1];exact g4.n⟩
  have hinv:Inv n0 (zR op k a x.1 x.2.next).1 (zR op k a x.1 x.2.next).2:=by
   rcases hi with⟨rfl,h,_⟩|⟨hk,h⟩
   ·subst h;simpa[zR] using g1
   ·exact ziq hk h g1 g2 (by rw[g4.n];omega)
  obtain⟨f1,f2,f3,f4⟩:=DI es op (k+1) (zR op k a x.1 x.2.next).1 { x.2 with next:=(zR op k a x.1 x.2.next).2 } n0 hg.2 BN (.inr ⟨by omega,hinv⟩) (by simp only;omega)
  refine⟨f1,(g2.trans zhx).trans f2,?_,f4⟩;rw[f3];simp only[iT];omega
end
def mQ:List E->Nat
 | []=>0
 | e::es=>lR e+mQ es
theorem Y8{n:Nat}:∀(es:List E)(r:Nat)(m:Mk),(∀e∈es,gd e=true)->m.Ok->m.cq.length+mQ es<=1200->n+r+es.length<=1216->(∀x,x<m.next.length->Kq m.next x) ->
  (qt n r es m).2.cq.length=m.cq.length+mQ es/\(∀x,x<(qt n r es m).2.next.length->Kq (qt n r es m).2.next x)/\(qt n r es m).2.Ok
 | [],r,m,hg,eE,hl,hn,hr=>⟨by simp[qt,mQ],hr,eE⟩
 | e::es,r,m,hg,eE,hl,hn,hr=>by
  simp only[mQ] at hl;simp only[aZ] at hn;obtain⟨g1,g2,g3,g4⟩:=DH (r:=r) e m (hg e (eT ..)) eE (by omega)
  have BN:(jU n r e m).2.Ok:=by
   simp only[jU];exact⟨g4.r,by simp only[wv];exact g4.n⟩
  have hs:(jU n r e m).2.cq.length=m.cq.length+lR e:=by rw[Y0];exact g3
  have Gb:∀x,x<(jU n r e m).2.next.length->Kq (jU n r e m).2.next x:=λx hx=>by
   simp only[jU,wv] at hx ⊢;have Bo:∃y,y<1216/\jQ cW (n+r) y=true:=⟨n+r,by omega,by simp[jQ]⟩
   have L4:x<1216:=by rw[g4.n,g3] at hx;omega
   by_cases G1:x<m.next.length
   ·exact lT.BQ hx (g2.BQ G1 (hr x G1))
   ·rcases g1.lv x (by omega) hx with h|h
    ·exact zhw hx L4 h Bo
    ·exact lT.BQ hx h
  obtain⟨f1,f2,f3⟩:=Y8 (n:=n) es (r+1) (jU n r e m).2 (λe he=>hg e (d_ _ he)) BN (by rw[hs];omega) (by omega) Gb
  simp only[qt];exact⟨by rw[f1,hs,mQ];omega,f2,f3⟩
theorem zjv{ns:List (Nat->Bool)}(h:∀x,x<ns.length->Kq ns x):∀p∈ns,jg p 19≠[]:=by
 intro p hp e;obtain⟨x,hx,rfl⟩:=List.getElem_of_mem hp;obtain⟨y,h1,h2⟩:=h x hx
 have:y∈jg ns[x] 19:=iD.2 ⟨by omega,by
  unfold Ey at h2;rw[K5,fQ hx] at h2
  exact h2⟩
 rw[e] at this;cases this
end
end Go.Proofs.YthohlnmcjkjeiaaGreatDoor
