/- Seat 8: expressions as data. Conditions: none but those named. -/
import Derived.Test.YthohlnmcjkjeiaaGreatDoorVmF
namespace Go.Proofs.YthohlnmcjkjeiaaGreatDoor
open Go Go.Vm
open Go.Proofs.Tryz
set_option maxRecDepth 100000
section
inductive E where
 |mk (op pl s0 s1 s2 s3:Int) (text:bN) (mn mx:Int) (nl:Bool) (args:List E)
def ye(nl:Bool)(l:aD):V:=if nl && l.isEmpty then .aG else .sl 10 l .no
mutual
def enc:E->V
 | .mk op pl s0 s1 s2 s3 text mn mx nl args=>.agg [.int .i64 op,.int .i64 pl,.int .u64 s0,.int .u64 s1,.int .u64 s2,.int .u64 s3,.str text,.int .i64 mn,.int .i64 mx,ye nl (fe args)]
def fe:List E->aD
 | []=>[]
 | e::es=>enc e::fe es
end
theorem fD:∀(l:List E),(fe l).length=l.length
 | []=>rfl
 | e::l=>by simp[fe,fD l]
theorem Bf:∀(l:List E)(i:Nat),(fe l)[i]?=(l[i]?).map enc
 | [],i=>by simp[fe]
 | e::l,0=>by simp[fe]
 | e::l,i+1=>by simp[fe,Bf l i]
theorem vG(nl:Bool)(l:aD):ye nl l=.sl 10 l .no\/(l=[]/\ye nl l=.aG):=by
 unfold ye;split
 next h=>rw[eo] at h;exact .inr ⟨by simpa using h.2,rfl⟩
 ·exact .inl rfl
theorem zY{nl:Bool}{l:aD}:aW (ye nl l)=ye nl l:=by
 rcases vG nl l with h|⟨_,h⟩<;>rw[h]<;>rfl
theorem NT(a:E):aW (enc a)=enc a:=by cases a;rfl
theorem zlW{nl:Bool}{l:aD}:(ye nl l).top=aI l:=by
 rcases vG nl l with h|⟨hl,h⟩<;>rw[h]
 ·rfl
 ·rw[hl];rfl
mutual
theorem u7:∀(e:E),(enc e).top=0
 | .mk op pl s0 s1 s2 s3 text mn mx nl args=>by
  simp only[enc,V.top,aI,zlW,uA args];rfl
theorem uA:∀(l:List E),aI (fe l)=0
 | []=>rfl
 | e::l=>by simp[fe,aI,u7 e,uA l]
end
theorem Es{x:Int}(h1:-9223372036854775808<=x)(h2:x<=9223372036854775807):IntKind.i64.wrap x=x:=by
 simp only[IntKind.wrap,IntKind.bits,IntKind.signed];simp;omega
theorem Xv{i:Nat}(h:i<9223372036854775807):IntKind.i64.wrap ((i:Int)+1)=((i+1:Nat):Int):=by
 rw[Es (by omega) (by omega)];omega
mutual
def Wf:E->Prop
 | .mk _ _ _ _ _ _ text _ _ _ args=>text.length<=maxLen/\args.length<=maxLen/\Iu args
def Iu:List E->Prop
 | []=>True
 | e::l=>Wf e/\Iu l
end
theorem Iu.mem{a:E}:∀{l:List E},Iu l->a∈l->Wf a
 | e::l,h,ha=>by
  rcases dH.1 ha with rfl|ha
  ·exact h.1
  ·exact Iu.mem h.2 ha
theorem pY:maxLen<=9223372036854775807:=by decide
mutual
def hg:E->Nat
 | .mk _ _ _ _ _ _ _ _ _ _ args=>NU args+args.length+2
def NU:List E->Nat
 | []=>0
 | e::l=>max (hg e) (NU l)
end
theorem P4{a:E}:∀{l:List E},a∈l->hg a<=NU l
 | e::l,h=>by
  simp only[NU];rcases dH.1 h with rfl|h
  ·exact DG _ _
  ·exact cP (P4 h) (Ho _ _)
end
section
open Go.Vm.Sx
variable{gl:Gl}
def lC:E->Bool
 | .mk op pl s0 s1 s2 s3 text mn mx _ _=>((pl == 0 && nQ text []) && (op == 2 || (s0 == 0 && (s1 == 0 && (s2 == 0 && s3 == 0))))) && (op == 7 || (mn == 0 && mx == 0))
def fU:E->Bool
 | .mk op _ _ _ _ _ _ mn mx _ args =>
  if op == 1 then (args.length:Int) == 0 else if op == 2 then (args.length:Int) == 0 else if op == 5 then dj 1 (args.length:Int) else if op == 6 then dj 1 (args.length:Int) else
  if op == 7 then (args.length:Int) == 1 && ((mn == 0 && mx == -1 || mn == 1 && mx == -1) || mn == 0 && mx == 1) else false
mutual
def eC:E->Int->Int
 | .mk _ _ _ _ _ _ _ _ _ _ args,deep=>if dj 5000 deep then 1048576 else lE (IntKind.i64.wrap (deep+1)) 1 args
def lE:Int->Int->List E->Int
 | _,n,[]=>n
 | d,n,a::l=>if dj n 1048576 then lE d (IntKind.i64.wrap (n+eC a d)) l else n
end
mutual
def cO:E->Int->Int->Int->Bool×Int×Int
 | .mk op pl s0 s1 s2 s3 text mn mx nl args,d,n,s =>
  if (dj 65536 (IntKind.i64.wrap (n+1)) || dj 4096 d) then (false,IntKind.i64.wrap (n+1),s) else
  if lC (.mk op pl s0 s1 s2 s3 text mn mx nl args) then
   if fU (.mk op pl s0 s1 s2 s3 text mn mx nl args) then iG (IntKind.i64.wrap (d+1)) args (IntKind.i64.wrap (n+1)) (if op == 2 then IntKind.i64.wrap (s+1) else s)
   else (false,IntKind.i64.wrap (n+1),s)
  else (false,IntKind.i64.wrap (n+1),s)
def iG:Int->List E->Int->Int->Bool×Int×Int
 | _,[],n,s=>(true,n,s)
 | d,a::l,n,s=>if (cO a d n s).1 then iG d l (cO a d n s).2.1 (cO a d n s).2.2 else cO a d n s
end
end
section
variable{gl:Gl}
theorem Xw:prog.underlying 224=some (.array 64 5):=by kernel_rfl
theorem sz5:z4 prog 5=some 1:=by kernel_rfl
theorem Xx:qD prog 5=some false:=by kernel_rfl
theorem u3:prog.underlying 3=some (.int .i64):=by kernel_rfl
theorem u5:prog.underlying 5=some (.int .u8):=by kernel_rfl
theorem zlX(hg:GW gl){n:Nat}{H:Hp}{k m:Nat}(hw:2 ^ (k+1) * m+2 ^ k<2 ^ 64):zj prog gl (n+1) 96 [.int .u64 ((2 ^ (k+1) * m+2 ^ k:Nat):Int)] H=some (.ret (.int .i64 (k:Nat)),H):=by
 obtain⟨bs,es⟩:=H;have hk:k<64:=PU hw;obtain⟨w,w',hwd,uo,Xy,hand⟩:=znL (P:=prog) hw;obtain⟨x,ix,hmul,Xz,CB,XA⟩:=znK (P:=prog) hk;rw[<- hwd];clear hwd hw;have iE:zW bs.length es 0 ⟨bs,[]⟩=⟨bs,es⟩:=by
  have:=z8 (bs:=bs) (ls:=[]) (es:=es) (t:=0) (eg _)
  rwa [mT] at this
 suffices bL:(go ⟨prog,gl,zj prog gl n,fy⟩ n (Fx prog f96.results.toList λw H1=>w=.int .i64 (k:Nat)/\H1=⟨bs,[]⟩) [.c (f96.body.getD .skip)] .normal ⟨[.int .u64 (w:Nat)]++List.replicate 13 (.bq []),⟨bs,[]⟩,[],[]⟩) by
  obtain⟨w,H1,h0,rfl,rfl⟩:=zQ (gl:=gl) (f:=96) (bs:=bs) (es:=es) (args:=[.int .u64 (w:Nat)]) (n:=n) (hg.hk _ _ (by decide)) (λH=>hg.fG _ _ _ _) func96 rfl (by rw[hg.uq];exact bL)
  rw[h0];exact congrArg (λx=>some (Out.ret _,x)) iE
 simp only[f96,fQ,zh];refine zi ?_;simp only[qw,aH,zh,z6,qF,aj,aS,z9,aL,aq,bS,bT,List.replicate,a_,bg]
 refine zi ?_;simp only[qw,aH,zh,qS,zK,zV,ak,aj,zd,ze,zr,aL,aq,bS,bT,zR,qR,wM,qo]
 refine .inr ⟨by simp;omega,?_⟩
 simp only[bz,zh]
 refine zi ?_;have Iv:zt prog 224 (.fq 4 0) ((ix:Nat):Int)=some (.fq 4 ix):=by
  simp only[zt,Xw,sz5];simp only[uP];rw[if_pos (by omega)]
  simp
 have gw:zk prog ⟨bs,[]⟩ gl.g 5 (.fq 4 ix)=some (.int .u8 (k:Nat)):=by
  simp only[zk,Xx,Option.bind_eq_bind,aT,fP,bw];rw[hg.tab _ CB,XA]
 have iV:vz prog 5 3 (.int .u8 (k:Nat))=some (.int .i64 (k:Nat)):=by
  simp only[vz,u5,u3,Option.bind_eq_bind,aT];rw[kS (by omega) (by omega)]
 simp only[qw,aH,zK,zV,kL,zT,qu,vV (a:=5) (b:=3) (hm:=rfl),show fy (vd 5)=false from rfl,z6,zL,ak,aj,zd,ze,zr,aL,aq,bS,bT,zR,zlD,aT,aS,Xy,hand,hmul,Xz,aE,Iv,gw,iV,qq,z9,go_ret,zp,Fx]
 refine⟨trivial,[.int .i64 (k:Nat)],?_,rfl,trivial⟩;simp only[zx,zd,ze]
end
section
variable{gl:Gl}
theorem Et:mN prog 27 3 1 8:=⟨by kernel_rfl,by kernel_rfl,by kernel_rfl,by decide,by kernel_rfl,by kernel_rfl,by kernel_rfl⟩
theorem zhl{p:Nat->Bool}:∀i,aI (xm p i)=0
 | 0=>rfl
 | i+1=>by
  have h:∀(xs ys:aD),aI xs=0->aI ys=0->aI (xs++ys)=0:=by
   intro xs ys h1 h2
   induction xs with
   | nil=>exact h2
   | cons x xs ih =>
    simp only[aI,a_,Nat.max_eq_zero_iff] at h1 ⊢;exact⟨h1.1,ih h1.2⟩
  refine h _ _ (zhl i) ?_;unfold TH
  induction wg (kK p i) with
  | nil=>rfl
  | cons x xs ih=>simp only[aY,aI,V.top,ih];rfl
theorem zcK{p:Nat->Bool}(i:Nat):(aW (zl 1 3 (xm p i))).top=0:=by
 have h:=zhl (p:=p) i;cases hL:xm p i with
 | nil=>rfl
 | cons x xs=>rw[hL] at h;simpa[zl,aW,V.top] using h
theorem zhm(hg:GW gl){n:Nat}(hn:70<=n){H:Hp}{b off:Nat}{pre post:aD}{p:Nat->Bool}{ty:aB}(hb:H.get b=some (.cells (pre++pv 19 p++post) ty))(ho:pre.length=off) :
  zj prog gl (n+1) 59 [.ptr b off] H=some (.ret (aW (zl 1 3 (xm p 19))),H):=by
 obtain⟨bs,es⟩:=H;have tP:Hp.get ⟨bs,[]⟩ b=some (.cells (pre++pv 19 p++post) ty):=hb;have iE:zW bs.length es 0 ⟨bs,[]⟩=⟨bs,es⟩:=by
  have:=z8 (bs:=bs) (ls:=[]) (es:=es) (t:=0) (eg _)
  rwa [mT] at this
 generalize hL:xm p 19=L
 suffices bL:(go ⟨prog,gl,zj prog gl n,fy⟩ n (Fx prog f59.results.toList λw H1=>w=aW (zl 1 3 L)/\H1=⟨bs,[]⟩) [.c (f59.body.getD .skip)] .normal ⟨[.ptr b off]++List.replicate 28 (.bq []),⟨bs,[]⟩,[],[]⟩) by
  obtain⟨w,H1,h0,h1,h2⟩:=zQ (gl:=gl) (f:=59) (bs:=bs) (es:=es) (args:=[.ptr b off]) (n:=n) (hg.hk _ _ (by decide)) (λH=>hg.fG _ _ _ _) func59 rfl (by rw[hg.uq];exact bL)
  rw[h0,h1,h2];have:(aW (zl 1 3 L)).top=0:=by
   rw[<- hL];exact zcK 19
  rw[this];exact congrArg (λx=>some (Out.ret _,x)) iE
 simp only[f59,fQ,zh];refine zi ?_;simp only[qw,aH,zh,z6,qF,aj,aS,z9,aL,aq,bS,bT,List.replicate,a_,bg]
 refine zi ?_;simp only[qw,aH,zh,z6,qF,aj,aS,z9,aL,aq,bS,bT]
 refine zi ?_;simp only[qw,aH,zw,zK,ak,aj,zd,zr,aL,aq,bS,bT,qk]
 refine qh (λm s=>∃i env,m+i=19/\s=⟨env,⟨bs,[]⟩,[],[]⟩/\env.length=29/\nth env 3=some (zl 1 3 (xm p i))/\nth env 6=some (.ptr b off)/\nth env 7=some (.int .i64 (i:Nat))) 19 (by omega) ⟨0,_,rfl,rfl,rfl,rfl,rfl,rfl⟩ ?_
 rintro m s ⟨i,env,sG,rfl,hlen,h3,h6,h7⟩;simp only[zh];refine zi ?_;simp only[qw,aH,zh,qS,zV,ak,aj,h7,zr,aL,aq,za,hlen,Nat.reduceLT,aF,zR,qR,qU,qo]
 by_cases hi:i<19
 ·refine .inl ⟨by simp;omega,?_⟩
  simp only[bz,zh,zw]
  refine qG (tk:=[]) (by kernel_rfl) (by kernel_rfl) ?_
  have dg:nth (pre++pv 19 p++post) (off+i)=some (.int .u64 (kK p i:Nat)):=by
   rw[zg,<- ho,xE jE hi,yH hi]
  have gw:zk prog ⟨bs,[]⟩ gl.g 48 (.ptr b (off+i))=some (.int .u64 (kK p i:Nat)):=zq mX tP dg;simp only[jY,bk,zw,au,mX,iU,zK,zG,zT,qu,z6,zL,ak,h6,h7,zr,aL,aq,za,bD,hlen,Nat.reduceEqDiff,Nat.reduceLT,aF,bw,qk,zR,qq,z9,aS,aT,aa,aE,TP hi,gw]
  refine qh (λm s=>∃w acc env,(wg w).length=m/\w<2 ^ 64/\acc++((wg w).map λj=>.int .i64 ((64 * i+j:Nat):Int))=xm p (i+1)/\s=⟨env,⟨bs,[]⟩,[],[]⟩/\env.length=29/\nth env 3=some (zl 1 3 acc)/\nth env 4=some (.int .i64 (i:Nat))/\nth env 5=some (.int .u64 (w:Nat))/\nth env 6=some (.ptr b off)/\nth env 7=some (.int .i64 (i:Nat))) (wg (kK p i)).length (by have:=Xi (w:=kK p i);omega) ⟨kK p i,xm p i,_,rfl,kZ,rfl,rfl,?_,?_,?_,?_,?_,?_⟩ ?_
  ·simp[hlen]
  ·simp[za,h3]
  ·simp[za,hlen]
  ·simp[za,hlen]
  ·simp[za,h6]
  ·simp[za,h7]
  clear h3 h6 h7 hlen;rintro m s ⟨w,acc,env,hm,hw,u_,rfl,hlen,h3,h4,h5,h6,h7⟩;simp only[zh];refine zi ?_;simp only[qw,aH,qS,zK,zV,ak,aj,h5,zr,aL,aq,za,bD,hlen,Nat.reduceEqDiff,Nat.reduceLT,aF,bw,zR,qR,PJ,qo]
  by_cases uo:w=0
  ·subst uo;rw[sE,bp,mT] at u_;subst u_;refine .inr ⟨by decide,?_⟩
   simp only[ql,zN,zp,bJ,zD,iN,aF,qC];refine zi ?_;simp only[qw,aH,zK,zV,ak,aj,h7,zr,aL,aq,za,bD,hlen,Nat.reduceEqDiff,Nat.reduceLT,aF,bw,zR,qc (show i<2 ^ 60 by omega),zp,aM]
   refine⟨18 - i,by omega,i+1,_,by omega,rfl,?_,?_,?_,?_⟩
   ·simp[hlen]
   ·simp[za,h3]
   ·simp[za,h6]
   ·simp[za,hlen]
  ·refine .inl ⟨by simp;omega,?_⟩
   obtain⟨k,mm,CC⟩:=Ba w uo;have Gx:=λ(H:Hp)=>zlX hg (n:=n - 1) (H:=H) (k:=k) (m:=mm) (by rw[<- CC];exact hw)
   rw[<- CC,show n - 1+1=n by omega] at Gx
   simp only[bz,zh,zw]
   refine wo (tk:=[19]) (by kernel_rfl) ?_
   have dw:Cx.bC ⟨prog,gl.g,zj prog gl n,fy⟩ 96 [.int .u64 (w:Nat)] ⟨bs,[]⟩=some (.val (.int .i64 (k:Nat)),⟨bs,[]⟩):=zu func96 rfl (Gx _);have hk:k<64:=PU (by rw[<- CC];exact hw)
   have P5:acc.length+1<=64 * (i+1):=by
    have h1:=congrArg List.length u_;have h2:=xn (p:=p) (i+1);have h3:(wg w).length≠0:=by
     rw[CC,TF (by rw[<- CC];exact hw)];simp
    simp only[aU,gC] at h1;omega
   have fz:=jC Et (H:=⟨bs,[]⟩) (xs:=acc) (ys:=[V.int .i64 ((64 * i+k:Nat):Int)]) (o:=.no) (by simp) (dG (by simp;omega) (by simp;omega))
   have Fm:=Et.BQ (v:=.int .i64 ((64 * i+k:Nat):Int)) rfl rfl;have hmul:∀(u v:aX),qP prog .mul 3 u v (some (.int .i64 64)) (some (.int .i64 (i:Nat)))=some (.int .i64 ((64 * i:Nat):Int)):=λu v=>Xm (a:=64) (by omega)
   have LM:nth (((env.set 13 (V.int .u64 (w:Nat))).set 14 (V.bool ((w:Int) != 0)))) 3=some (zl 1 3 acc):=by simp[za,h3]
   simp only[qw,jy,jr,vY LM,zV,kf,av,qp,ne_eq,ue,jP,jV (cx:=⟨prog,gl.g,zj prog gl n,fy⟩) (show pN prog fy 27=false by kernel_rfl),ak,aj,h4,h5,zr,z9,aL,aq,za,bD,hlen,Nat.reduceEqDiff,Nat.reduceLT,aF,bw,zR,kY,qM,aY,bp,aA,dw,hmul,xp (show 64 * i+k<2 ^ 60 by omega),Fm]
   rw[vY (n:=1) (e:=3) (xs:=acc) (by simp[za,hlen])]
   simp only[xS,aT,fz,aL,aq,qw,aH,qC,z6]
   rw[vY (n:=1) (e:=3) (xs:=acc++[V.int .i64 ((64 * i+k:Nat):Int)]) (by simp[za,hlen])]
   simp only[z9,aL,aq]
   refine zi ?_;have GP:w - 1<2 ^ 64:=by omega
   simp only[qw,aH,zK,zV,z6,zL,ak,aj,h5,zr,z9,aL,aq,za,bD,hlen,Nat.reduceEqDiff,Nat.reduceLT,aF,bw,zR,qq,zeS uo hw,TG hw GP,zp,aM]
   have lO:wg w=k::wg (w &&& (w - 1)):=by
    rw[CC];exact TF (by rw[<- CC];exact hw)
   refine⟨(wg (w &&& (w - 1))).length,by rw[<- hm,lO];simp,w &&& (w - 1),acc++[V.int .i64 ((64 * i+k:Nat):Int)],_,rfl,KL Nat.and_le_left hw,?_,rfl,?_,?_,?_,?_,?_,?_⟩
   ·rw[<- u_,lO];simp
   ·simp[hlen]
   ·simp[za,hlen]
   ·simp[za,h4]
   ·simp[za,hlen]
   ·simp[za,h6]
   ·simp[za,h7]
 ·obtain rfl:i=19:=by omega
  refine .inr ⟨by decide,?_⟩
  rw[hL] at h3;simp only[ql,zN,zp,bJ,zD,iN,aF,zh];refine zi ?_;have ri:aW (aW (zl 1 3 L))=aW (zl 1 3 L):=by cases L<;>rfl
  have mb:∀e:aD,nth e 28=some (aW (zl 1 3 L))->take e (.tmp 28)=some (aW (zl 1 3 L),e):=λe he=>by
   rw[zL,he];cases L<;>rfl
  simp only[qw,aH,zK,z6,ak,h3,zr,aL,aq,za,hlen,Nat.reduceEqDiff,Nat.reduceLT,aF,bw]
  rw[mb _ (by simp[za,hlen])]
  simp only[z9,aL,aq,go_ret,zp,Fx]
  refine⟨trivial,[aW (zl 1 3 L)],?_,rfl,trivial⟩;simp[zx,za,hlen]
end
section
variable{gl:Gl}
theorem XB(hg:GW gl){n:Nat}(hn:20<=n){bs:List aV}{es:aN}{b off b' off':Nat}{pre post pre' post':aD}{p q:Nat->Bool}{ty ty':aB}(hb:nth bs b=some (.cells (pre++pv 19 p++post) ty))(ho:pre.length=off)(cZ:nth bs b'=some (.cells (pre'++pv 19 q++post') ty'))(XC:pre'.length=off')(cI:b'≠b) :
  zj prog gl (n+1) 58 [.ptr b off,.ptr b' off'] ⟨bs,es⟩=some (.ret (.bq []),⟨bs.set b (.cells (pre++pv 19 (jB p q)++post) ty),es⟩):=by
 have iE:zW bs.length es 0 ⟨bs.set b (.cells (pre++pv 19 (jB p q)++post) ty),[]⟩=⟨bs.set b (.cells (pre++pv 19 (jB p q)++post) ty),es⟩:=by
  have:=z8 (bs:=bs.set b (.cells (pre++pv 19 (jB p q)++post) ty)) (ls:=[]) (es:=es) (t:=0) (eg _)
  rwa [mT,bD] at this
 suffices bL:(go ⟨prog,gl,zj prog gl n,fy⟩ n (Fx prog f58.results.toList λw H1=>w=.bq []/\H1=⟨bs.set b (.cells (pre++pv 19 (jB p q)++post) ty),[]⟩) [.c (f58.body.getD .skip)] .normal ⟨[.ptr b off,.ptr b' off']++List.replicate 20 (.bq []),⟨bs,[]⟩,[],[]⟩) by
  obtain⟨w,H1,h0,rfl,rfl⟩:=zQ (gl:=gl) (f:=58) (bs:=bs) (es:=es) (args:=[.ptr b off,.ptr b' off']) (n:=n) (hg.hk _ _ (by decide)) (λH=>hg.fG _ _ _ _) func58 rfl (by rw[hg.uq];exact bL)
  rw[h0,show(V.bq []).top=0 from rfl,iE]
 simp only[f58,fQ,zh];refine zi ?_;simp only[qw,aH,zw,zK,ak,aj,zr,aL,aq,bS,bT,List.replicate,a_,bg]
 let Hi:Nat->Hp:=λi=>⟨bs.set b (.cells (pre++pv 19 (y8 p q i)++post) ty),[]⟩
 refine qh (λm s=>∃i env,m+i=19/\s=⟨env,Hi i,[],[]⟩/\env.length=22/\nth env 0=some (.ptr b off)/\nth env 1=some (.ptr b' off')/\nth env 5=some (.int .i64 (i:Nat))) 19 (by omega) ?_ ?_
 ·have D5:Hi 0=⟨bs,[]⟩:=by
   simp only[Hi,zhh];rw[show bs.set b (.cells (pre++pv 19 p++post) ty)=bs from jZ hb]
  refine⟨0,_,rfl,by rw[D5],?_,?_,?_,?_⟩<;>rfl
 rintro m s ⟨i,env,sG,rfl,hlen,h0,h1,h5⟩;simp only[zh];refine zi ?_;simp only[qw,aH,zh,qS,zV,ak,aj,h5,zr,aL,aq,za,hlen,Nat.reduceLT,aF,zR,qR,qU,qo]
 have Fp:∀r:aD,nth (bs.set b (.cells r ty)) b=some (.cells r ty):=λr=>by
  have bR:b<bs.length:=by rw[zg] at hb;exact(c_.1 hb).1
  rw[zg,s4,if_pos rfl,if_pos bR]
 by_cases hi:i<19
 ·refine .inl ⟨by simp;omega,?_⟩
  simp only[bz,zh,zw]
  refine zi ?_;simp only[qw,aH,zK,z6,zL,ak,h5,zr,aL,aq,za,bD,hlen,Nat.reduceEqDiff,Nat.reduceLT,aF,bw,zR,qq,z9]
  refine qG (tk:=[]) (by kernel_rfl) (by kernel_rfl) ?_
  have Fq:(Hi i).get b=some (.cells (pre++pv 19 (y8 p q i)++post) ty):=Fp _;have LN:(Hi i).get b'=some (.cells (pre'++pv 19 q++post') ty'):=by
   show nth (bs.set b _) b'=_;rw[zg,s4,if_neg (Ne.symm cI),<- zg,cZ]
  have dg:nth (pre++pv 19 (y8 p q i)++post) (off+i)=some (.int .u64 (kK p i:Nat)):=by
   rw[zg,<- ho,xE jE hi,yH hi,zhf]
  have CD:nth (pre'++pv 19 q++post') (off'+i)=some (.int .u64 (kK q i:Nat)):=by
   rw[zg,<- XC,xE jE hi,yH hi]
  have gw:zk prog (Hi i) gl.g 48 (.ptr b (off+i))=some (.int .u64 (kK p i:Nat)):=zq mX Fq dg;have Fs:zk prog (Hi i) gl.g 48 (.ptr b' (off'+i))=some (.int .u64 (kK q i:Nat)):=zq mX LN CD;have oz:wv [] b (off+i) 1 ((pre++pv 19 (y8 p q i)++post).drop (off+i))=true:=yp λk h=>by
   obtain rfl:k=0:=by omega
   exact⟨_,by rw[nP,<- zg,dg],rfl⟩
  simp only[jY,bk,au,mX,iU,zK,zG,zT,qu,zV,zU,zL,ak,h0,h1,zr,aL,aq,za,bD,hlen,Nat.reduceEqDiff,Nat.reduceLT,aF,bw,qk,zR,qq,aS,aT,aa,aE,TP hi,gw,Fs,Xe kZ kZ]
  rw[zy D4 Fq rfl rfl (by simp[jE,<- ho];omega) oz]
  simp only[bu,qC,aq,V.laid,Vm.storeCells]
  rw[jT (by simp[V.top])]
  have hH:(Hi i).set b (.cells ((pre++pv 19 (y8 p q i)++post).set (off+i) (.int .u64 ((kK p i ||| kK q i:Nat):Int))) ty)=Hi (i+1):=by
   rw[<- ho,Xf jE hi,zhg];simp only[Hi,Hp.set,List.set_set]
  rw[hH];refine zi ?_;simp only[qw,aH,zV,zK,ak,aj,h5,zr,aL,aq,za,bD,hlen,Nat.reduceEqDiff,Nat.reduceLT,aF,bw,zR,qc (show i<2 ^ 60 by omega),zp,aM]
  refine⟨18 - i,by omega,i+1,_,by omega,rfl,?_,?_,?_,?_⟩<;>simp[za,hlen,h0,h1]
 ·obtain rfl:i=19:=by omega
  refine .inr ⟨by decide,?_⟩
  simp only[ql,zN,zp,bJ,zD,iN,aF,Fx];refine⟨trivial,[],rfl,rfl,?_⟩;simp only[Hi,zji]
theorem zhn{b v off i:Nat}(h:i<19):zt prog 115 (.gj b v off) i=some (.gj b v (off+i)):=by
 simp only[zt,u60,D4];simp;omega
theorem zlY(hg:GW gl){n:Nat}(hn:20<=n){bs:List aV}{es:aN}{b off b' off':Nat}{pre post pre' post':aD}{p q:Nat->Bool}{v:Nat}{ty':aB}(hb:nth bs b=some (.ul v 19 (pre++pv 19 p++post) 115))(ho:pre.length=off)(cZ:nth bs b'=some (.cells (pre'++pv 19 q++post') ty'))(XC:pre'.length=off')(cI:b'≠b) :
  zj prog gl (n+1) 58 [.gj b v off,.ptr b' off'] ⟨bs,es⟩=some (.ret (.bq []),⟨bs.set b (.ul v 19 (pre++pv 19 (jB p q)++post) 115),es⟩):=by
 have iE:zW bs.length es 0 ⟨bs.set b (.ul v 19 (pre++pv 19 (jB p q)++post) 115),[]⟩=⟨bs.set b (.ul v 19 (pre++pv 19 (jB p q)++post) 115),es⟩:=by
  have:=z8 (bs:=bs.set b (.ul v 19 (pre++pv 19 (jB p q)++post) 115)) (ls:=[]) (es:=es) (t:=0) (eg _)
  rwa [mT,bD] at this
 suffices bL:(go ⟨prog,gl,zj prog gl n,fy⟩ n (Fx prog f58.results.toList λw H1=>w=.bq []/\H1=⟨bs.set b (.ul v 19 (pre++pv 19 (jB p q)++post) 115),[]⟩) [.c (f58.body.getD .skip)] .normal ⟨[.gj b v off,.ptr b' off']++List.replicate 20 (.bq []),⟨bs,[]⟩,[],[]⟩) by
  obtain⟨w,H1,h0,rfl,rfl⟩:=zQ (gl:=gl) (f:=58) (bs:=bs) (es:=es) (args:=[.gj b v off,.ptr b' off']) (n:=n) (hg.hk _ _ (by decide)) (λH=>hg.fG _ _ _ _) func58 rfl (by rw[hg.uq];exact bL)
  rw[h0,show(V.bq []).top=0 from rfl,iE]
 simp only[f58,fQ,zh];refine zi ?_;simp only[qw,aH,zw,zK,ak,aj,zr,aL,aq,bS,bT,List.replicate,a_,bg]
 let Hi:Nat->Hp:=λi=>⟨bs.set b (.ul v 19 (pre++pv 19 (y8 p q i)++post) 115),[]⟩
 refine qh (λm s=>∃i env,m+i=19/\s=⟨env,Hi i,[],[]⟩/\env.length=22/\nth env 0=some (.gj b v off)/\nth env 1=some (.ptr b' off')/\nth env 5=some (.int .i64 (i:Nat))) 19 (by omega) ?_ ?_
 ·have D5:Hi 0=⟨bs,[]⟩:=by
   simp only[Hi,zhh];rw[show bs.set b (.ul v 19 (pre++pv 19 p++post) 115)=bs from jZ hb]
  refine⟨0,_,rfl,by rw[D5],?_,?_,?_,?_⟩<;>rfl
 rintro m s ⟨i,env,sG,rfl,hlen,h0,h1,h5⟩;simp only[zh];refine zi ?_;simp only[qw,aH,zh,qS,zV,ak,aj,h5,zr,aL,aq,za,hlen,Nat.reduceLT,aF,zR,qR,qU,qo]
 have Fp:∀r:aD,nth (bs.set b (.ul v 19 r 115)) b=some (.ul v 19 r 115):=λr=>by
  have bR:b<bs.length:=by rw[zg] at hb;exact(c_.1 hb).1
  rw[zg,s4,if_pos rfl,if_pos bR]
 by_cases hi:i<19
 ·refine .inl ⟨by simp;omega,?_⟩
  simp only[bz,zh,zw]
  refine zi ?_;simp only[qw,aH,zK,z6,zL,ak,h5,zr,aL,aq,za,bD,hlen,Nat.reduceEqDiff,Nat.reduceLT,aF,bw,zR,qq,z9]
  refine qG (tk:=[]) (by kernel_rfl) (by kernel_rfl) ?_
  have Fq:(Hi i).get b=some (.ul v 19 (pre++pv 19 (y8 p q i)++post) 115):=Fp _;have LN:(Hi i).get b'=some (.cells (pre'++pv 19 q++post') ty'):=by
   show nth (bs.set b _) b'=_;rw[zg,s4,if_neg (Ne.symm cI),<- zg,cZ]
  have dg:nth (pre++pv 19 (y8 p q i)++post) (off+i)=some (.int .u64 (kK p i:Nat)):=by
   rw[zg,<- ho,xE jE hi,yH hi,zhf]
  have CD:nth (pre'++pv 19 q++post') (off'+i)=some (.int .u64 (kK q i:Nat)):=by
   rw[zg,<- XC,xE jE hi,yH hi]
  have gw:zk prog (Hi i) gl.g 48 (.gj b v (off+i))=some (.int .u64 (kK p i:Nat)):=zeU mX Fq dg;have Fs:zk prog (Hi i) gl.g 48 (.ptr b' (off'+i))=some (.int .u64 (kK q i:Nat)):=zq mX LN CD
  simp only[jY,bk,au,mX,iU,zK,zG,zT,qu,zV,zU,zL,ak,h0,h1,zr,aL,aq,za,bD,hlen,Nat.reduceEqDiff,Nat.reduceLT,aF,bw,qk,jR,zR,qq,aS,aT,aa,aE,TP hi,zhn hi,gw,Fs,Xe kZ kZ]
  rw[zks D4 Fq rfl rfl rfl (by simp[jE,<- ho];omega)]
  simp only[bu,qC,aq,V.cells,Vm.storeCells]
  rw[jT (by simp[V.top])]
  have hH:(Hi i).set b (.ul v 19 ((pre++pv 19 (y8 p q i)++post).set (off+i) (.int .u64 ((kK p i ||| kK q i:Nat):Int))) 115)=Hi (i+1):=by
   rw[<- ho,Xf jE hi,zhg];simp only[Hi,Hp.set,List.set_set]
  rw[hH];refine zi ?_;simp only[qw,aH,zV,zK,ak,aj,h5,zr,aL,aq,za,bD,hlen,Nat.reduceEqDiff,Nat.reduceLT,aF,bw,zR,qc (show i<2 ^ 60 by omega),zp,aM]
  refine⟨18 - i,by omega,i+1,_,by omega,rfl,?_,?_,?_,?_⟩<;>simp[za,hlen,h0,h1]
 ·obtain rfl:i=19:=by omega
  refine .inr ⟨by decide,?_⟩
  simp only[ql,zN,zp,bJ,zD,iN,aF,Fx];refine⟨trivial,[],rfl,rfl,?_⟩;simp only[Hi,zji]
end
section
variable{gl:Gl}
theorem JS:mN prog 149 157 11 112:=⟨by kernel_rfl,by kernel_rfl,by kernel_rfl,by decide,by kernel_rfl,by kernel_rfl,by kernel_rfl⟩
theorem CE:zB prog 151 0=some 0:=by kernel_rfl
theorem CF:qD prog 149=some false:=by kernel_rfl
theorem Bg:qD prog 157=some true:=by kernel_rfl
theorem v_:z4 prog 157=some 11:=by kernel_rfl
theorem zpt(hg:GW gl){n:Nat}{H:Hp}{b:Nat}{c:V}{ty:aB}{i:Option Nat}{xs:List aD}{x:aD}(hb:H.get b=some (.cells [c] ty))(hu:UL H 11 157 c i xs)(XD:i≠some b)(hx:x.length=11)(El:x.map aW=x)(fM:kx (xs.length+1) 112=true) :
  ∃H' c' j,zj prog gl (n+1) 88 [.ptr b 0,.agg x] H=some (.ret (.bq []),H')/\H'.get b=some (.cells [c'] ty)/\UL H' 11 157 c' (some j) (xs++[x])/\j≠b/\(i=some j\/H.az.length<=j)/\sF H H' (λd=>d=b\/i=some d):=by
 obtain⟨bs,es⟩:=H;have bR:b<bs.length:=kI hb;have tP:Hp.get ⟨bs,[]⟩ b=some (.cells [c] ty):=hb;have Dj:UL ⟨bs,[]⟩ 11 157 c i xs:=hu;have NV:c.top<=bs.length/\(c=.aG\/∃j v l,c=.dD j v l):=by
  cases i with
  | none=>obtain⟨rfl,_⟩:=hu;exact⟨eg _,.inl rfl⟩
  | some j=>obtain⟨v,rfl,hj⟩:=hu;exact⟨kI hj,.inr ⟨_,_,_,rfl⟩⟩
 suffices bL:(go ⟨prog,gl,zj prog gl n,fy⟩ n (Fx prog [] λv H1=>v=.bq []/\∃c' j,(∀d,d<bs.length->d≠b->i≠some d->H1.get d=Hp.get ⟨bs,es⟩ d)/\H1.get b=some (.cells [c'] ty)/\UL H1 11 157 c' (some j) (xs++[x])/\j≠b/\(i=some j\/bs.length<=j/\(b,j+1)∈H1.bG)/\bs.length<=H1.az.length) [.c (f88.body.getD .skip)] .normal ⟨[.ptr b 0,.agg x]++List.replicate 12 (.bq []),⟨bs,[]⟩,[],[]⟩) by
  obtain⟨v,H1,h0,rfl,c',j,h2,h3,h4,h5,h6,h7⟩:=zQ (gl:=gl) (f:=88) (bs:=bs) (es:=es) (args:=[.ptr b 0,.agg x]) (n:=n) (hg.hk _ _ (by decide)) (λH=>hg.fG _ _ _ _) func88 rfl (by rw[hg.uq];exact bL)
  have hj:(zW bs.length es 0 H1).get j=H1.get j:=by
   rcases h6 with rfl|⟨h6,h8⟩
   ·exact ja (hu.lt)
   ·exact xG h8 bR (by omega) _
  exact⟨_,c',j,h0,(ja bR).trans h3,h4.frame λk hk=>by cases hk;exact hj,h5,h6.imp id And.left,vX h7,λd hd hn=>(ja hd).trans (h2 d hd (λe=>hn (.inl e)) (λe=>hn (.inr e)))⟩
 have oJ:dz (.agg x)=true:=rfl;have gw:zk prog (Hp.push ⟨bs,[]⟩ (.cells x 157)) gl.g 157 (.ptr bs.length 0)=some (.agg x):=by
  rw[qY Bg v_ TI (by simp[hx])]
  simp[<- hx]
 have lR:=JS.BQ (v:=.agg x) rfl hx;have EX:UL (Hp.push ⟨bs,[]⟩ (.cells x 157)) 11 157 c i xs:=Dj.frame λj hj=>by
  subst hj;obtain⟨v,_,h⟩:=Dj;rw[h];exact zM h
 have fz:=JS.app (env:=[.ptr b 0,.agg x,.bq [],.ptr bs.length 0,.ptr b 0,.ptr b 0,.ptr b 0,.ptr b (0+0),c,.agg x,.sl 11 [.agg x] (.yes 157),.bq [],.bq [],.bq []]) (H:=Hp.push ⟨bs,[]⟩ (.cells x 157)) (lk:=[]) (df:=[]) (ys:=[.agg x]) (o:=.no) (by simp) EX fM
 simp only[f88,fQ,zh];refine zi ?_;simp only[qw,aH,wB,zL,qV,zd,ze,z7 oJ,aL,aq,bS,bT,List.replicate,a_,bg,V.laid,El]
 refine qG (tk:=[8]) (by kernel_rfl) (by kernel_rfl) ?_
 simp only[jY,au,iU,CF,jy,jq,ne_eq,Nat.reduceEqDiff,ue,zG,zA,ak,zd,ze,zr,aL,aq,bS,bT,qk,aT,aa,CE,zS,ah]
 rw[Xk (c:=c) CF (zM tP) rfl NV.2]
 simp only[aL,aq,bS,bT,jY,au,iU,Bg,jz,ne_eq,Nat.reduceEqDiff,ue,ak,zd,ze,qk,List.all_nil,aT,
  gw,aS,zr,qX,kY,jP,lR,W1 (cx:=⟨prog,gl.g,zj prog gl n,fy⟩) (show pN prog fy 149=true by kernel_rfl)]
 cases i with
 | none =>
  obtain⟨rfl,rfl⟩:=hu;simp only[di];rw[fz];simp only[aL,aq,bS,bT,jY,bk,au,iU,zG,zA,zU,zL,ak,zd,ze,zr,qk,aT,aa,CE,zS,ah,qH,nP]
  rw[zy (cs:=[.aG]) (ty:=ty) JS.st (zM (zM tP)) rfl rfl (by simp) (by simp[wv,locked])]
  simp only[bu,aq,zp,Fx,Vm.storeCells,V.laid,jl,bS]
  refine⟨trivial,[],rfl,rfl,.dD (bs.length+1) 0 1,bs.length+1,?_,?_,?_,by omega,.inr ⟨by omega,?_⟩,?_⟩
  ·intro d hd DZ _;rw[bU,jx,wX,wX];cases hg:Hp.get ⟨bs,[]⟩ d with
   | none=>exact absurd hg (by simp[Hp.get,zg,hd])
   | some y=>simp only[if_neg DZ];exact hg.symm
  ·rw[bU,jx,zM (zM tP)];simp
  ·refine⟨0,rfl,?_⟩;rw[bU,jx];have:Hp.get (Hp.push (Hp.push ⟨bs,[]⟩ (.cells x 157)) (.ul 0 11 (bW [.agg x]) 157)) (bs.length+1)=some (.ul 0 11 (bW [.agg x]) 157):=by
    rw[wX,zlG (by simp[Hp.push])];simp[Hp.push]
   rw[this];have cI:bs.length+1≠b:=by omega
   simp[cI,bW,V.cells]
  ·exact zhd (v:=.dD (bs.length+1) 0 1) (by simp[V.top];omega)
  ·rw[xk,wm,jl,jl];show bs.length<=bs.length+1+1;omega
 | some j =>
  obtain⟨v,rfl,hj⟩:=Dj;have tQ:j≠b:=λe=>XD (by rw[e])
  have AG:j<bs.length:=kI hj;simp only[q8] at fz ⊢;rw[fz];simp only[aL,aq,bS,bT,jY,bk,au,iU,zG,zA,zU,zL,ak,zd,ze,zr,qk,aT,aa,CE,zS,ah,qH,nP]
  have nA:∀y,(((Hp.push ⟨bs,[]⟩ (.cells x 157)).set j y).bQ j (.bq [.agg x])).get b=some (.cells [.dD j v xs.length] ty):=λy=>by
   rw[bU,jx,zM tP];simp[Ne.symm tQ]
  rw[zy (cs:=[.dD j v xs.length]) (ty:=ty) JS.st (nA _) rfl rfl (by simp) (by simp[wv,locked])]
  simp only[bu,aq,zp,Fx,Vm.storeCells,V.laid,bS]
  refine⟨trivial,[],rfl,rfl,.dD j (v+1) (xs.length+1),j,?_,?_,?_,tQ,.inl rfl,?_⟩
  ·intro d hd DZ XE;have LO:d≠j:=λe=>XE (by rw[e])
   rw[bU,jx,bU,jx,wX];cases hg:Hp.get ⟨bs,[]⟩ d with
   | none=>exact absurd hg (by simp[Hp.get,zg,hd])
   | some y=>simp only[if_neg DZ,if_neg LO];exact hg.symm
  ·rw[bU,jx,nA];simp
  ·refine⟨v+1,by simp,?_⟩
   rw[bU,jx,bU,jx,zM hj];simp[tQ,bW,V.cells]
  ·simp[xk,wm,jl]
theorem LP:mN prog 152 117 39 312:=⟨by kernel_rfl,by kernel_rfl,by kernel_rfl,by decide,by kernel_rfl,by kernel_rfl,by kernel_rfl⟩
theorem D6:zB prog 154 0=some 0:=by kernel_rfl
theorem D7:qD prog 152=some false:=by kernel_rfl
theorem tR:qD prog 117=some true:=by kernel_rfl
theorem rR:z4 prog 117=some 39:=by kernel_rfl
theorem zpu(hg:GW gl){n:Nat}{H:Hp}{b:Nat}{c:V}{ty:aB}{i:Option Nat}{xs:List aD}{x:aD}(hb:H.get b=some (.cells [c] ty))(hu:UL H 39 117 c i xs)(XD:i≠some b)(hx:x.length=39)(El:x.map aW=x)(fM:kx (xs.length+1) 312=true) :
  ∃H' c' j,zj prog gl (n+1) 91 [.ptr b 0,.agg x] H=some (.ret (.bq []),H')/\H'.get b=some (.cells [c'] ty)/\UL H' 39 117 c' (some j) (xs++[x])/\j≠b/\(i=some j\/H.az.length<=j)/\sF H H' (λd=>d=b\/i=some d):=by
 obtain⟨bs,es⟩:=H;have bR:b<bs.length:=kI hb;have tP:Hp.get ⟨bs,[]⟩ b=some (.cells [c] ty):=hb;have Dj:UL ⟨bs,[]⟩ 39 117 c i xs:=hu;have NV:c.top<=bs.length/\(c=.aG\/∃j v l,c=.dD j v l):=by
  cases i with
  | none=>obtain⟨rfl,_⟩:=hu;exact⟨eg _,.inl rfl⟩
  | some j=>obtain⟨v,rfl,hj⟩:=hu;exact⟨kI hj,.inr ⟨_,_,_,rfl⟩⟩
 suffices bL:(go ⟨prog,gl,zj prog gl n,fy⟩ n (Fx prog [] λv H1=>v=.bq []/\∃c' j,(∀d,d<bs.length->d≠b->i≠some d->H1.get d=Hp.get ⟨bs,es⟩ d)/\H1.get b=some (.cells [c'] ty)/\UL H1 39 117 c' (some j) (xs++[x])/\j≠b/\(i=some j\/bs.length<=j/\(b,j+1)∈H1.bG)/\bs.length<=H1.az.length) [.c (f91.body.getD .skip)] .normal ⟨[.ptr b 0,.agg x]++List.replicate 12 (.bq []),⟨bs,[]⟩,[],[]⟩) by
  obtain⟨v,H1,h0,rfl,c',j,h2,h3,h4,h5,h6,h7⟩:=zQ (gl:=gl) (f:=91) (bs:=bs) (es:=es) (args:=[.ptr b 0,.agg x]) (n:=n) (hg.hk _ _ (by decide)) (λH=>hg.fG _ _ _ _) func91 rfl (by rw[hg.uq];exact bL)
  have hj:(zW bs.length es 0 H1).get j=H1.get j:=by
   rcases h6 with rfl|⟨h6,h8⟩
   ·exact ja (hu.lt)
   ·exact xG h8 bR (by omega) _
  exact⟨_,c',j,h0,(ja bR).trans h3,h4.frame λk hk=>by cases hk;exact hj,h5,h6.imp id And.left,vX h7,λd hd hn=>(ja hd).trans (h2 d hd (λe=>hn (.inl e)) (λe=>hn (.inr e)))⟩
 have oJ:dz (.agg x)=true:=rfl;have gw:zk prog (Hp.push ⟨bs,[]⟩ (.cells x 117)) gl.g 117 (.ptr bs.length 0)=some (.agg x):=by
  rw[qY tR rR TI (by simp[hx])]
  simp[<- hx]
 have lR:=LP.BQ (v:=.agg x) rfl hx;have EX:UL (Hp.push ⟨bs,[]⟩ (.cells x 117)) 39 117 c i xs:=Dj.frame λj hj=>by
  subst hj;obtain⟨v,_,h⟩:=Dj;rw[h];exact zM h
 have fz:=LP.app (env:=[.ptr b 0,.agg x,.bq [],.ptr bs.length 0,.ptr b 0,.ptr b 0,.ptr b 0,.ptr b (0+0),c,.agg x,.sl 39 [.agg x] (.yes 117),.bq [],.bq [],.bq []]) (H:=Hp.push ⟨bs,[]⟩ (.cells x 117)) (lk:=[]) (df:=[]) (ys:=[.agg x]) (o:=.no) (by simp) EX fM
 simp only[f91,fQ,zh];refine zi ?_;simp only[qw,aH,wB,zL,qV,zd,ze,z7 oJ,aL,aq,bS,bT,List.replicate,a_,bg,V.laid,El]
 refine qG (tk:=[8]) (by kernel_rfl) (by kernel_rfl) ?_
 simp only[jY,au,iU,D7,jy,jq,ne_eq,Nat.reduceEqDiff,ue,zG,zA,ak,zd,ze,zr,aL,aq,bS,bT,qk,aT,aa,D6,zS,ah]
 rw[Xk (c:=c) D7 (zM tP) rfl NV.2]
 simp only[aL,aq,bS,bT,jY,au,iU,tR,jz,ne_eq,Nat.reduceEqDiff,ue,ak,zd,ze,qk,List.all_nil,aT,
  gw,aS,zr,qX,kY,jP,lR,W1 (cx:=⟨prog,gl.g,zj prog gl n,fy⟩) (show pN prog fy 152=true by kernel_rfl)]
 cases i with
 | none =>
  obtain⟨rfl,rfl⟩:=hu;simp only[di];rw[fz];simp only[aL,aq,bS,bT,jY,bk,au,iU,zG,zA,zU,zL,ak,zd,ze,zr,qk,aT,aa,D6,zS,ah,qH,nP]
  rw[zy (cs:=[.aG]) (ty:=ty) LP.st (zM (zM tP)) rfl rfl (by simp) (by simp[wv,locked])]
  simp only[bu,aq,zp,Fx,Vm.storeCells,V.laid,jl,bS]
  refine⟨trivial,[],rfl,rfl,.dD (bs.length+1) 0 1,bs.length+1,?_,?_,?_,by omega,.inr ⟨by omega,?_⟩,?_⟩
  ·intro d hd DZ _;rw[bU,jx,wX,wX];cases hg:Hp.get ⟨bs,[]⟩ d with
   | none=>exact absurd hg (by simp[Hp.get,zg,hd])
   | some y=>simp only[if_neg DZ];exact hg.symm
  ·rw[bU,jx,zM (zM tP)];simp
  ·refine⟨0,rfl,?_⟩;rw[bU,jx];have:Hp.get (Hp.push (Hp.push ⟨bs,[]⟩ (.cells x 117)) (.ul 0 39 (bW [.agg x]) 117)) (bs.length+1)=some (.ul 0 39 (bW [.agg x]) 117):=by
    rw[wX,zlG (by simp[Hp.push])];simp[Hp.push]
   rw[this];have cI:bs.length+1≠b:=by omega
   simp[cI,bW,V.cells]
  ·exact zhd (v:=.dD (bs.length+1) 0 1) (by simp[V.top];omega)
  ·rw[xk,wm,jl,jl];show bs.length<=bs.length+1+1;omega
 | some j =>
  obtain⟨v,rfl,hj⟩:=Dj;have tQ:j≠b:=λe=>XD (by rw[e])
  have AG:j<bs.length:=kI hj;simp only[q8] at fz ⊢;rw[fz];simp only[aL,aq,bS,bT,jY,bk,au,iU,zG,zA,zU,zL,ak,zd,ze,zr,qk,aT,aa,D6,zS,ah,qH,nP]
  have nA:∀y,(((Hp.push ⟨bs,[]⟩ (.cells x 117)).set j y).bQ j (.bq [.agg x])).get b=some (.cells [.dD j v xs.length] ty):=λy=>by
   rw[bU,jx,zM tP];simp[Ne.symm tQ]
  rw[zy (cs:=[.dD j v xs.length]) (ty:=ty) LP.st (nA _) rfl rfl (by simp) (by simp[wv,locked])]
  simp only[bu,aq,zp,Fx,Vm.storeCells,V.laid,bS]
  refine⟨trivial,[],rfl,rfl,.dD j (v+1) (xs.length+1),j,?_,?_,?_,tQ,.inl rfl,?_⟩
  ·intro d hd DZ XE;have LO:d≠j:=λe=>XE (by rw[e])
   rw[bU,jx,bU,jx,wX];cases hg:Hp.get ⟨bs,[]⟩ d with
   | none=>exact absurd hg (by simp[Hp.get,zg,hd])
   | some y=>simp only[if_neg DZ,if_neg LO];exact hg.symm
  ·rw[bU,jx,nA];simp
  ·refine⟨v+1,by simp,?_⟩
   rw[bU,jx,bU,jx,zM hj];simp[tQ,bW,V.cells]
  ·simp[xk,wm,jl]
end
section
variable{gl:Gl}
theorem Iw:prog.underlying 149=some (.slice 157):=JS.u
theorem zqd(hg:GW gl){n:Nat}{H:Hp}{b j:Nat}{c:V}{ty:aB}{xs:List aD}{x:aD}(hb:H.get b=some (.cells [c] ty))(hu:UL H 11 157 c (some j) (xs++[x]))(tQ:j≠b)(hx:x.length=11)(El:x.map aW=x)(DN:aI x=0)(oU:∀y∈xs,y.length=11)(hlen:xs.length<140737488355328) :
  ∃H' c',zj prog gl (n+1) 90 [.ptr b 0] H=some (.ret (.agg x),H')/\H'.get b=some (.cells [c'] ty)/\UL H' 11 157 c' (some j) xs/\sF H H' (λd=>d=b\/d=j):=by
 obtain⟨bs,es⟩:=H;have bR:b<bs.length:=kI hb;obtain⟨v,rfl,hj⟩:=hu;have AG:j<bs.length:=kI hj;have tP:Hp.get ⟨bs,[]⟩ b=some (.cells [.dD j v (xs++[x]).length] ty):=hb;have XF:Hp.get ⟨bs,[]⟩ j=some (.ul v 11 (xs++[x]).flatten 157):=hj;obtain⟨z,GM,D1,CG,P6⟩:=JS.zero;have m5:(xs++[x]).flatten.length=xs.length * 11+11:=by
  rw[vq (n:=11) (by intro y hy;rcases rK.1 hy with h|h;exact oU y h;simp at h;rw[h,hx])]
  simp[Hr]
 suffices bL:(go ⟨prog,gl,zj prog gl n,fy⟩ n (Fx prog f90.results.toList λw H1=>w=.agg x/\∃c',(∀d,d<bs.length->d≠b->d≠j->H1.get d=Hp.get ⟨bs,es⟩ d)/\H1.get b=some (.cells [c'] ty)/\UL H1 11 157 c' (some j) xs/\bs.length<=H1.az.length) [.c (f90.body.getD .skip)] .normal ⟨[.ptr b 0]++List.replicate 30 (.bq []),⟨bs,[]⟩,[],[]⟩) by
  obtain⟨w,H1,h0,rfl,c',h2,h3,h4,h7⟩:=zQ (gl:=gl) (f:=90) (bs:=bs) (es:=es) (args:=[.ptr b 0]) (n:=n) (hg.hk _ _ (by decide)) (λH=>hg.fG _ _ _ _) func90 rfl (by rw[hg.uq];exact bL)
  exact⟨_,c',h0,(ja bR).trans h3,h4.frame λk hk=>by cases hk;exact ja AG,vX h7,λd hd hn=>(ja hd).trans (h2 d hd (λe=>hn (.inl e)) (λe=>hn (.inr e)))⟩
 simp only[f90,fQ,zh];refine zi ?_;simp only[qw,aH,zh,qO,GM,zH D1,aL,aq,bS,bT,List.replicate,a_,bg]
 refine qG (tk:=[]) (by kernel_rfl) (by kernel_rfl) ?_
 have LQ:(Hp.push ⟨bs,[]⟩ (.cells z.cells 157)).get b=some (.cells [.dD j v (xs++[x]).length] ty):=zM tP;have LR:(Hp.push ⟨bs,[]⟩ (.cells z.cells 157)).get j=some (.ul v 11 (xs++[x]).flatten 157):=zM XF;have lQ:∀u w,qP prog .sub 3 u w (some (.int .i64 ((xs++[x]).length:Int))) (some (.int .i64 1))=some (.int .i64 (xs.length:Int)):=λu w=>by
  rw[jX,kS (by simp only[aU,Jk];omega) (by simp only[aU,Jk];omega)];simp
 have LS:zk prog (Hp.push ⟨bs,[]⟩ (.cells z.cells 157)) gl.g 157 (.gj j v (xs.length * 11))=some (.agg x):=by
  rw[zhe Bg v_ LR (by rw[m5];omega)]
  rw[List.flatten_append,List.drop_append_of_le_length (by rw[vq oU];omega),List.drop_eq_nil_of_le (by rw[vq oU];omega)]
  simp[<- hx]
 have Bh:zk prog (Hp.push ⟨bs,[]⟩ (.cells z.cells 157)) gl.g 149 (.ptr b 0)=some (.dD j v (xs++[x]).length):=zq CF LQ rfl;have Iv:zt prog 149 (.dD j v (xs++[x]).length) (xs.length:Int)=some (.gj j v (xs.length * 11)):=by
  rw[TJ Iw v_ (by simp only[aU,Jk];omega),uP]
 simp only[jY,bk,au,iU,Bg,CF,zK,qu,zG,zA,kA,zV,zT,qO,GM,zH D1,zU,zL,ak,aj,zd,ze,zr,aL,aq,bS,bT,qk,q8,zR,qX,jR,qV,aS,aT,aa,CE,zS,ah,nP,
  Bh,xo Iw,lQ,aE,Iv,LS]
 obtain⟨HA,Ix⟩:∃HA,HA=Hp.push ⟨bs,[]⟩ (.cells z.cells 157):=⟨_,rfl⟩;rw[<- Ix] at LQ LR Bh ⊢;have LU:HA.az.length=bs.length+1:=by rw[Ix,jl]
 have XG:HA.get bs.length=some (.cells z.cells 157):=by rw[Ix];exact TI
 have XH:∀d,d<bs.length->HA.get d=Hp.get ⟨bs,es⟩ d:=λd hd=>by rw[Ix,jG hd];rfl
 rw[zy (v:=.agg x) v_ (wc (H:=HA)) rfl (by simp[V.laid,hx]) (by rw[CG];omega) (wh P6 (by rw[CG];omega))]
 simp only[bu,aq,zh,V.laid,El,wO (show z.cells.length=x.length by rw[CG,hx])]
 rw[jT (v:=.agg x) (by simp[V.top,DN])]
 obtain⟨HB,tf⟩:∃HB,HB=Hp.set (HA.push (.cells z.cells 157)) HA.az.length (.cells x 157):=⟨_,rfl⟩;rw[<- tf,LU];have dV:HB.get b=some (.cells [.dD j v (xs++[x]).length] ty):=by rw[tf,qB (by omega),jG (by omega),LQ]
 have P7:HB.get j=some (.ul v 11 (xs++[x]).flatten 157):=by rw[tf,qB (by omega),jG (by omega),LR]
 have XI:HB.get bs.length=some (.cells z.cells 157):=by rw[tf,qB (by omega),jG (by omega),XG]
 have XJ:HB.get (bs.length+1)=some (.cells x 157):=by rw[tf,<- LU,wH wc]
 have XK:∀d,d<bs.length->HB.get d=Hp.get ⟨bs,es⟩ d:=λd hd=>by rw[tf,qB (by omega),jG (by omega),XH d hd]
 have XL:HB.az.length=bs.length+2:=by rw[tf,wm,jl,LU]
 refine qG (tk:=[]) (by kernel_rfl) (by kernel_rfl) ?_
 have LV:zk prog HB gl.g 149 (.ptr b 0)=some (.dD j v (xs++[x]).length):=zq CF dV rfl
 simp only[jY,au,iU,CF,zK,qu,zG,zA,kA,zV,zeP,zdA (cx:=⟨prog,gl.g,zj prog gl n,fy⟩) (show pN prog fy 149=true by kernel_rfl),ak,cU,aj,zd,ze,zr,aL,aq,bS,bT,qk,q8,zR,aS,aT,aa,CE,zS,ah,nP,
  LV,xo Iw,lQ]
 have LW:∀env,NQ prog 149 env HB [] [] (some (.dD j v (xs++[x]).length)) (some none) (some (some (.int .i64 (xs.length:Int))))=some (.val (.dD j (v+1) xs.length),⟨env,(HB.set j (.ul (v+1) 11 xs.flatten 157)).bQ j .fR,[],[]⟩):=λenv=>by
  have hle:xs.length<=(xs++[x]).length:=by simp
  simp only[NQ,Iw,P7,v_,uP,hle,At,Int.natCast_nonneg,aF];rw[List.flatten_append,<- vq oU,List.take_left]
 rw[LW];simp only[jY,bk,zh,au,iU,zG,zA,zU,zL,ak,zd,ze,zr,aL,aq,bS,bT,qk,qH,aT,aa,CE,zS,ah,nP]
 rw[zy (cs:=[.dD j v (xs++[x]).length]) (ty:=ty) JS.st (by rw[ki (Ne.symm tQ),dV]) rfl rfl (by simp) (by simp[wv,locked])]
 obtain⟨HC,CH⟩:∃HC,HC=Hp.bQ (Hp.set ((HB.set j (.ul (v+1) 11 xs.flatten 157)).bQ j .fR) b (.cells (Vm.storeCells [.dD j v (xs++[x]).length] 0 (V.laid (.dD j (v+1) xs.length))) ty)) b (.dD j (v+1) xs.length):=⟨_,rfl⟩;rw[<- CH];have XM:HC.get b=some (.cells [.dD j (v+1) xs.length] ty):=by rw[CH,gy (by rw[ki (Ne.symm tQ),dV])];rfl
 have XN:HC.get j=some (.ul (v+1) 11 xs.flatten 157):=by rw[CH,ki tQ,gy P7]
 have P8:HC.get bs.length=some (.cells z.cells 157):=by rw[CH,ki (by omega),ki (by omega),XI]
 have XO:HC.get (bs.length+1)=some (.cells x 157):=by rw[CH,ki (by omega),ki (by omega),XJ]
 have XP:∀d,d<bs.length->d≠b->d≠j->HC.get d=Hp.get ⟨bs,es⟩ d:=λd hd h1 h2=>by rw[CH,ki h1,ki h2,XK d hd]
 have XQ:HC.az.length=bs.length+2:=by rw[CH,TK,TK,XL]
 simp only[bu,aq]
 refine zi ?_;have Ft:zk prog HC gl.g 157 (.ptr (bs.length+1) 0)=some (.agg x):=by
  rw[qY Bg v_ XO (by simp[hx])];simp[<- hx]
 simp only[qw,aH,qu,zU,zL,ak,zd,ze,zr,aL,aq,bS,bT,qk,qX,qV,aS,aT,Ft]
 rw[zy (v:=.agg x) v_ P8 rfl (by simp[V.laid,hx]) (by rw[CG];omega) (wh P6 (by rw[CG];omega))]
 simp only[bu,aq,go_ret,zp,Fx,V.laid,El,wO (show z.cells.length=x.length by rw[CG,hx])]
 rw[jT (v:=.agg x) (by simp[V.top,DN])]
 obtain⟨HD,D8⟩:∃HD,HD=Hp.set HC bs.length (.cells x 157):=⟨_,rfl⟩;rw[<- D8];have XR:HD.get bs.length=some (.cells x 157):=by rw[D8,wH P8]
 refine⟨trivial,[.agg x],?_,rfl,.dD j (v+1) xs.length,λd hd h1 h2=>by rw[D8,qB (by omega),XP d hd h1 h2],by rw[D8,qB (by omega),XM],⟨v+1,rfl,by rw[D8,qB (by omega),XN]⟩,by rw[D8,wm,XQ];omega⟩
 simp only[zx,zd,ze];rw[qY Bg v_ XR (by simp[hx])]
 simp[aW,<- hx]
theorem Iy:prog.underlying 152=some (.slice 117):=LP.u
theorem zqe(hg:GW gl){n:Nat}{H:Hp}{b j:Nat}{c:V}{ty:aB}{xs:List aD}{x:aD}(hb:H.get b=some (.cells [c] ty))(hu:UL H 39 117 c (some j) (xs++[x]))(tQ:j≠b)(hx:x.length=39)(El:x.map aW=x)(DN:aI x=0)(oU:∀y∈xs,y.length=39)(hlen:xs.length<140737488355328) :
  ∃H' c',zj prog gl (n+1) 93 [.ptr b 0] H=some (.ret (.agg x),H')/\H'.get b=some (.cells [c'] ty)/\UL H' 39 117 c' (some j) xs/\sF H H' (λd=>d=b\/d=j):=by
 obtain⟨bs,es⟩:=H;have bR:b<bs.length:=kI hb;obtain⟨v,rfl,hj⟩:=hu;have AG:j<bs.length:=kI hj;have tP:Hp.get ⟨bs,[]⟩ b=some (.cells [.dD j v (xs++[x]).length] ty):=hb;have XF:Hp.get ⟨bs,[]⟩ j=some (.ul v 39 (xs++[x]).flatten 117):=hj;obtain⟨z,GM,D1,CG,P6⟩:=LP.zero;have m5:(xs++[x]).flatten.length=xs.length * 39+39:=by
  rw[vq (n:=39) (by intro y hy;rcases rK.1 hy with h|h;exact oU y h;simp at h;rw[h,hx])]
  simp[Hr]
 suffices bL:(go ⟨prog,gl,zj prog gl n,fy⟩ n (Fx prog f93.results.toList λw H1=>w=.agg x/\∃c',(∀d,d<bs.length->d≠b->d≠j->H1.get d=Hp.get ⟨bs,es⟩ d)/\H1.get b=some (.cells [c'] ty)/\UL H1 39 117 c' (some j) xs/\bs.length<=H1.az.length) [.c (f93.body.getD .skip)] .normal ⟨[.ptr b 0]++List.replicate 30 (.bq []),⟨bs,[]⟩,[],[]⟩) by
  obtain⟨w,H1,h0,rfl,c',h2,h3,h4,h7⟩:=zQ (gl:=gl) (f:=93) (bs:=bs) (es:=es) (args:=[.ptr b 0]) (n:=n) (hg.hk _ _ (by decide)) (λH=>hg.fG _ _ _ _) func93 rfl (by rw[hg.uq];exact bL)
  exact⟨_,c',h0,(ja bR).trans h3,h4.frame λk hk=>by cases hk;exact ja AG,vX h7,λd hd hn=>(ja hd).trans (h2 d hd (λe=>hn (.inl e)) (λe=>hn (.inr e)))⟩
 simp only[f93,fQ,zh];refine zi ?_;simp only[qw,aH,zh,qO,GM,zH D1,aL,aq,bS,bT,List.replicate,a_,bg]
 refine qG (tk:=[]) (by kernel_rfl) (by kernel_rfl) ?_
 have LQ:(Hp.push ⟨bs,[]⟩ (.cells z.cells 117)).get b=some (.cells [.dD j v (xs++[x]).length] ty):=zM tP;have LR:(Hp.push ⟨bs,[]⟩ (.cells z.cells 117)).get j=some (.ul v 39 (xs++[x]).flatten 117):=zM XF;have lQ:∀u w,qP prog .sub 3 u w (some (.int .i64 ((xs++[x]).length:Int))) (some (.int .i64 1))=some (.int .i64 (xs.length:Int)):=λu w=>by
  rw[jX,kS (by simp only[aU,Jk];omega) (by simp only[aU,Jk];omega)];simp
 have LS:zk prog (Hp.push ⟨bs,[]⟩ (.cells z.cells 117)) gl.g 117 (.gj j v (xs.length * 39))=some (.agg x):=by
  rw[zhe tR rR LR (by rw[m5];omega)]
  rw[List.flatten_append,List.drop_append_of_le_length (by rw[vq oU];omega),List.drop_eq_nil_of_le (by rw[vq oU];omega)]
  simp[<- hx]
 have Bh:zk prog (Hp.push ⟨bs,[]⟩ (.cells z.cells 117)) gl.g 152 (.ptr b 0)=some (.dD j v (xs++[x]).length):=zq D7 LQ rfl;have Iv:zt prog 152 (.dD j v (xs++[x]).length) (xs.length:Int)=some (.gj j v (xs.length * 39)):=by
  rw[TJ Iy rR (by simp only[aU,Jk];omega),uP]
 simp only[jY,bk,au,iU,tR,D7,zK,qu,zG,zA,kA,zV,zT,qO,GM,zH D1,zU,zL,ak,aj,zd,ze,zr,aL,aq,bS,bT,qk,q8,zR,qX,jR,qV,aS,aT,aa,D6,zS,ah,nP,
  Bh,xo Iy,lQ,aE,Iv,LS]
 obtain⟨HA,Ix⟩:∃HA,HA=Hp.push ⟨bs,[]⟩ (.cells z.cells 117):=⟨_,rfl⟩;rw[<- Ix] at LQ LR Bh ⊢;have LU:HA.az.length=bs.length+1:=by rw[Ix,jl]
 have XG:HA.get bs.length=some (.cells z.cells 117):=by rw[Ix];exact TI
 have XH:∀d,d<bs.length->HA.get d=Hp.get ⟨bs,es⟩ d:=λd hd=>by rw[Ix,jG hd];rfl
 rw[zy (v:=.agg x) rR (wc (H:=HA)) rfl (by simp[V.laid,hx]) (by rw[CG];omega) (wh P6 (by rw[CG];omega))]
 simp only[bu,aq,zh,V.laid,El,wO (show z.cells.length=x.length by rw[CG,hx])]
 rw[jT (v:=.agg x) (by simp[V.top,DN])]
 obtain⟨HB,tf⟩:∃HB,HB=Hp.set (HA.push (.cells z.cells 117)) HA.az.length (.cells x 117):=⟨_,rfl⟩;rw[<- tf,LU];have dV:HB.get b=some (.cells [.dD j v (xs++[x]).length] ty):=by rw[tf,qB (by omega),jG (by omega),LQ]
 have P7:HB.get j=some (.ul v 39 (xs++[x]).flatten 117):=by rw[tf,qB (by omega),jG (by omega),LR]
 have XI:HB.get bs.length=some (.cells z.cells 117):=by rw[tf,qB (by omega),jG (by omega),XG]
 have XJ:HB.get (bs.length+1)=some (.cells x 117):=by rw[tf,<- LU,wH wc]
 have XK:∀d,d<bs.length->HB.get d=Hp.get ⟨bs,es⟩ d:=λd hd=>by rw[tf,qB (by omega),jG (by omega),XH d hd]
 have XL:HB.az.length=bs.length+2:=by rw[tf,wm,jl,LU]
 refine qG (tk:=[]) (by kernel_rfl) (by kernel_rfl) ?_
 have LV:zk prog HB gl.g 152 (.ptr b 0)=some (.dD j v (xs++[x]).length):=zq D7 dV rfl
 simp only[jY,au,iU,D7,zK,qu,zG,zA,kA,zV,zeP,zdA (cx:=⟨prog,gl.g,zj prog gl n,fy⟩) (show pN prog fy 152=true by kernel_rfl),ak,cU,aj,zd,ze,zr,aL,aq,bS,bT,qk,q8,zR,aS,aT,aa,D6,zS,ah,nP,
  LV,xo Iy,lQ]
 have LW:∀env,NQ prog 152 env HB [] [] (some (.dD j v (xs++[x]).length)) (some none) (some (some (.int .i64 (xs.length:Int))))=some (.val (.dD j (v+1) xs.length),⟨env,(HB.set j (.ul (v+1) 39 xs.flatten 117)).bQ j .fR,[],[]⟩):=λenv=>by
  have hle:xs.length<=(xs++[x]).length:=by simp
  simp only[NQ,Iy,P7,rR,uP,hle,At,Int.natCast_nonneg,aF];rw[List.flatten_append,<- vq oU,List.take_left]
 rw[LW];simp only[jY,bk,zh,au,iU,zG,zA,zU,zL,ak,zd,ze,zr,aL,aq,bS,bT,qk,qH,aT,aa,D6,zS,ah,nP]
 rw[zy (cs:=[.dD j v (xs++[x]).length]) (ty:=ty) LP.st (by rw[ki (Ne.symm tQ),dV]) rfl rfl (by simp) (by simp[wv,locked])]
 obtain⟨HC,CH⟩:∃HC,HC=Hp.bQ (Hp.set ((HB.set j (.ul (v+1) 39 xs.flatten 117)).bQ j .fR) b (.cells (Vm.storeCells [.dD j v (xs++[x]).length] 0 (V.laid (.dD j (v+1) xs.length))) ty)) b (.dD j (v+1) xs.length):=⟨_,rfl⟩;rw[<- CH];have XM:HC.get b=some (.cells [.dD j (v+1) xs.length] ty):=by rw[CH,gy (by rw[ki (Ne.symm tQ),dV])];rfl
 have XN:HC.get j=some (.ul (v+1) 39 xs.flatten 117):=by rw[CH,ki tQ,gy P7]
 have P8:HC.get bs.length=some (.cells z.cells 117):=by rw[CH,ki (by omega),ki (by omega),XI]
 have XO:HC.get (bs.length+1)=some (.cells x 117):=by rw[CH,ki (by omega),ki (by omega),XJ]
 have XP:∀d,d<bs.length->d≠b->d≠j->HC.get d=Hp.get ⟨bs,es⟩ d:=λd hd h1 h2=>by rw[CH,ki h1,ki h2,XK d hd]
 have XQ:HC.az.length=bs.length+2:=by rw[CH,TK,TK,XL]
 simp only[bu,aq]
 refine zi ?_;have Ft:zk prog HC gl.g 117 (.ptr (bs.length+1) 0)=some (.agg x):=by
  rw[qY tR rR XO (by simp[hx])];simp[<- hx]
 simp only[qw,aH,qu,zU,zL,ak,zd,ze,zr,aL,aq,bS,bT,qk,qX,qV,aS,aT,Ft]
 rw[zy (v:=.agg x) rR P8 rfl (by simp[V.laid,hx]) (by rw[CG];omega) (wh P6 (by rw[CG];omega))]
 simp only[bu,aq,go_ret,zp,Fx,V.laid,El,wO (show z.cells.length=x.length by rw[CG,hx])]
 rw[jT (v:=.agg x) (by simp[V.top,DN])]
 obtain⟨HD,D8⟩:∃HD,HD=Hp.set HC bs.length (.cells x 117):=⟨_,rfl⟩;rw[<- D8];have XR:HD.get bs.length=some (.cells x 117):=by rw[D8,wH P8]
 refine⟨trivial,[.agg x],?_,rfl,.dD j (v+1) xs.length,λd hd h1 h2=>by rw[D8,qB (by omega),XP d hd h1 h2],by rw[D8,qB (by omega),XM],⟨v+1,rfl,by rw[D8,qB (by omega),XN]⟩,by rw[D8,wm,XQ];omega⟩
 simp only[zx,zd,ze];rw[qY tR rR XR (by simp[hx])]
 simp[aW,<- hx]
end
section
variable{gl:Gl}
theorem zho{q:Nat->Bool}{k:Nat}:∀{ks:bN}{ns:List (Nat->Bool)},mF q (ks++[k]) ns=(mF q ks ns).set k (jB ((mF q ks ns).getD k λ_=>false) q)
 | [],_=>rfl
 | _::ks,_=>by simp only[a_,mF];exact zho
def ee(bs:List aV)(i:Option Nat)(ns:List (Nat->Bool)):List aV :=
 match i with
 | none=>bs
 | some j=>match nth bs j with
  | some (.ul v sz _ e)=>bs.set j (.ul v sz (ns.map (pv 19)).flatten e)
  | _=>bs
theorem XS{bs:List aV}{j v sz e:Nat}{cs:aD}{ns:List (Nat->Bool)}(h:nth bs j=some (.ul v sz cs e)):ee bs (some j) ns=bs.set j (.ul v sz (ns.map (pv 19)).flatten e):=by simp only[ee,h]
theorem yI{bs:List aV}{i:Option Nat}{ns:List (Nat->Bool)}:(ee bs i ns).length=bs.length:=by
 unfold ee;split
 ·rfl
 ·split
  ·simp
  ·rfl
theorem TQ{bs:List aV}{i:Option Nat}{ns:List (Nat->Bool)}{d:Nat}(h:i≠some d):nth (ee bs i ns) d=nth bs d:=by
 unfold ee;split
 ·rfl
 ·rename_i j;split
  ·rw[zg,rW (by intro e;exact h (by rw[e])),zg]
  ·rfl
theorem TR{bs:List aV}{es:aN}{sz:Nat}{e:aB}{c:V}{i:Option Nat}{xs:List aD}(h:UL ⟨bs,es⟩ sz e c i xs){d:Nat}{cs:aD}{ty:aB}(hd:nth bs d=some (.cells cs ty)):i≠some d:=by
 intro e;subst e;obtain⟨v,_,h2⟩:=h;simp only[Hp.get] at h2;rw[hd] at h2;cases h2
theorem zjq{bs:List aV}{es fs:aN}{e:aB}{c:V}{i:Option Nat}{ns ns':List (Nat->Bool)}(h:UL ⟨bs,es⟩ 19 e c i (ns.map (pv 19)))(hl:ns'.length=ns.length):UL ⟨ee bs i ns',fs⟩ 19 e c i (ns'.map (pv 19)):=by
 cases i with
 | none =>
  obtain⟨h1,h2⟩:=h;have:ns=[]:=by simpa using h2
  subst this;exact⟨h1,by simp[He hl]⟩
 | some j =>
  obtain⟨v,h1,h2⟩:=h;have Gs:nth bs j=some (.ul v 19 (ns.map (pv 19)).flatten e):=h2;refine⟨v,by rw[h1];simp[hl],?_⟩
  have bR:j<bs.length:=by rw[zg] at Gs;exact(c_.1 Gs).1
  rw[XS Gs];simp[Hp.get,zg,bR]
theorem TS{bs:List aV}{es:aN}{e:aB}{c:V}{i:Option Nat}{ns:List (Nat->Bool)}(h:UL ⟨bs,es⟩ 19 e c i (ns.map (pv 19))):ee bs i ns=bs:=by
 cases i with
 | none=>rfl
 | some j =>
  obtain⟨v,h1,h2⟩:=h;have Gs:nth bs j=some (.ul v 19 (ns.map (pv 19)).flatten e):=h2;rw[XS Gs];exact jZ Gs
theorem zij{bs:List aV}{i:Option Nat}{ns ns':List (Nat->Bool)}:ee (ee bs i ns) i ns'=ee bs i ns':=by
 cases i with
 | none=>rfl
 | some j =>
  simp only[ee];cases h:nth bs j with
  | none=>simp[h]
  | some b =>
   have bR:j<bs.length:=by rw[zg] at h;exact(c_.1 h).1
   cases b<;>simp[h,zg,bR]
theorem pZ:zB prog 113 2=some 2:=by kernel_rfl
theorem Fu:qD prog 111=some false:=by kernel_rfl
theorem GQ:mN prog 111 115 19 152:=⟨by kernel_rfl,by kernel_rfl,by kernel_rfl,by decide,by kernel_rfl,by kernel_rfl,by kernel_rfl⟩
theorem NW:qD prog 3=some false:=by kernel_rfl
theorem XT(hg:GW gl){n:Nat}(hn:1300<=n){bs:List aV}{es:aN}{bm bl ol bf ob:Nat}{a0 a1 c:V}{i:Option Nat}{ns:List (Nat->Bool)}{p q:Nat->Bool}{pre post pre' post':aD}{ty ty' NX:aB}
  (hm:nth bs bm=some (.cells [a0,a1,c] NX)) (hu:UL ⟨bs,es⟩ 19 115 c i (ns.map (pv 19)))
  (hl:nth bs bl=some (.cells (pre++pv 19 p++post) ty)) (DT:pre.length=ol) (hf:nth bs bf=some (.cells (pre'++pv 19 q++post') ty')) (hof:pre'.length=ob)
  (dJ:∀k∈jh p 19,k<ns.length) :
  zj prog gl (n+1) 57 [.ptr bm 0,.ptr bl ol,.ptr bf ob] ⟨bs,es⟩=some (.ret (.bq []),⟨ee bs i (mF q (jh p 19) ns),es⟩):=by
 generalize hL:jh p 19=L at *;have iE:zW bs.length es 0 ⟨ee bs i (mF q L ns),[]⟩=⟨ee bs i (mF q L ns),es⟩:=by
  have:=z8 (bs:=ee bs i (mF q L ns)) (ls:=[]) (es:=es) (t:=0) (eg _)
  rwa [mT,yI] at this
 suffices bL:(go ⟨prog,gl,zj prog gl n,fy⟩ n (Fx prog f57.results.toList λw H1=>w=.bq []/\H1=⟨ee bs i (mF q L ns),[]⟩) [.c (f57.body.getD .skip)] .normal ⟨[.ptr bm 0,.ptr bl ol,.ptr bf ob]++List.replicate 21 (.bq []),⟨bs,[]⟩,[],[]⟩) by
  obtain⟨w,H1,h0,rfl,rfl⟩:=zQ (gl:=gl) (f:=57) (bs:=bs) (es:=es) (args:=[.ptr bm 0,.ptr bl ol,.ptr bf ob]) (n:=n) (hg.hk _ _ (by decide)) (λH=>hg.fG _ _ _ _) func57 rfl (by rw[hg.uq];exact bL)
  rw[h0,show(V.bq []).top=0 from rfl,iE]
 have hLl:L.length<=1216:=by
  have:=xn (p:=p) 19;rw[xF,gC,hL] at this;omega
 have P9:Cx.bC ⟨prog,gl.g,zj prog gl n,fy⟩ 59 [.ptr bl ol] ⟨bs,[]⟩=some (.val (aW (zl 1 3 (L.map λk=>V.int .i64 ((k:Nat):Int)))),⟨bs,[]⟩):=by
  have h:=zhm hg (n:=n - 1) (by omega) (H:=⟨bs,[]⟩) (b:=bl) (off:=ol) (pre:=pre) (post:=post) (p:=p) hl DT
  rw[xF,hL,show n - 1+1=n by omega] at h
  exact zu func59 rfl h
 simp only[f57,fQ,zh];refine zi ?_;simp only[qw,aH,zK,kf,av,ak,qp,aj,zd,ze,zr,aL,aq,bS,bT,List.replicate,a_,bg,qk,qM,aA,P9,aY,bp,kA,aT,qT,TL Et.u,aS,gC]
 simp only[zw];refine qh (λm s=>∃k env,m+k=L.length/\s=⟨env,⟨ee bs i (mF q (L.take k) ns),[]⟩,[],[]⟩/\env.length=24/\nth env 0=some (.ptr bm 0)/\nth env 2=some (.ptr bf ob)/\nth env 9=some (aW (zl 1 3 (L.map λk=>V.int .i64 ((k:Nat):Int))))/\nth env 10=some (.int .i64 (L.length:Nat))/\nth env 11=some (.int .i64 (k:Nat))) L.length (by omega) ?_ ?_
 ·have D5:ee bs i (mF q (L.take 0) ns)=bs:=TS hu;refine⟨0,_,rfl,by rw[D5],?_,?_,?_,?_,?_,?_⟩<;>rfl
 rintro m s ⟨k,env,De,rfl,hlen,h0,h2,h9,BR,P_⟩;simp only[zh];refine zi ?_;simp only[qw,aH,zh,qS,zV,ak,BR,P_,zr,aL,aq,za,hlen,Nat.reduceLT,aF,zR,qR,qU,qo]
 by_cases hk:k<L.length
 ·refine .inl ⟨by simp;omega,?_⟩
  simp only[bz,zh,zw]
  have hx:nth (L.map λk=>V.int .i64 ((k:Nat):Int)) k=some (.int .i64 ((L[k]:Nat):Int)):=by rw[zg];simp[hk]
  have gG:∀w:V,nth env 9=some w->aW w=w->aW (aW w)=w:=λw _ h=>by rw[h,h]
  refine zi ?_;have Iv:=zkt Et.u (show z4 prog 3=some 1 by kernel_rfl) hx
  simp only[qw,aH,zT,qu,z6,zL,ak,h9,P_,zr,z9,aL,aq,za,bD,hlen,Nat.reduceEqDiff,Nat.reduceLT,aF,bw,zR,aT,aE,qT,Iv,V.cells,wV,zlP NW,aS,qq]
  refine zi ?_;have hkL:L[k]<ns.length:=dJ _ (List.getElem_mem hk);obtain⟨j,rfl⟩:∃j,i=some j:=by
   cases i with
   | none =>
    have:ns=[]:=by simpa using hu.2
    subst this;simp at hkL
   | some j=>exact⟨j,rfl⟩
  have Wp:=TR hu hm;have hjf:=TR hu hf;have nh:=zjq (fs:=[]) (ns':=mF q (L.take k) ns) hu wr;obtain⟨v,rfl,hj⟩:=nh;obtain⟨Ax,Fm⟩:∃Ax,Ax=ee bs (some j) (mF q (L.take k) ns):=⟨_,rfl⟩;have ON:Hp.get ⟨Ax,[]⟩ bm=some (.cells [a0,a1,.dD j v (List.map (pv 19) (mF q (L.take k) ns)).length] NX):=by rw[Fm];exact(TQ Wp).trans hm
  have E4:nth Ax bf=some (.cells (pre'++pv 19 q++post') ty'):=by rw[Fm];exact(TQ hjf).trans hf
  obtain⟨pr,po,g1,g2,g3⟩:=zhc (ns:=mF q (L.take k) ns) (k:=L[k]) (by rw[wr];exact hkL)
  rw[<- Fm] at hj ⊢;have su:nth Ax j=some (.ul v 19 (pr++pv 19 ((mF q (L.take k) ns).getD L[k] λ_=>false)++po) 115):=by rw[<- g2];exact hj
  have gw:zk prog ⟨Ax,[]⟩ gl.g 111 (.ptr bm (0+2))=some (.dD j v (List.map (pv 19) (mF q (L.take k) ns)).length):=zq Fu ON rfl;have XU:zt prog 111 (.dD j v (List.map (pv 19) (mF q (L.take k) ns)).length) ((L[k]:Nat):Int)=some (.gj j v (L[k] * 19)):=by
   rw[TJ GQ.u GQ.s (by rw[gC,wr];omega),uP]
  have Qa:=zlY hg (n:=n - 1) (by omega) (es:=[]) su g1 E4 hof (λe=>hjf (by rw[e]))
  rw[show n - 1+1=n by omega,<- g3] at Qa
  have dw:Cx.bC ⟨prog,gl.g,zj prog gl n,fy⟩ 58 [.gj j v (L[k] * 19),.ptr bf ob] ⟨Ax,[]⟩=_:=zu func58 rfl Qa;simp only[qw,aH,zK,zG,zA,qu,zT,kf,av,qp,ak,h0,h2,zr,aL,aq,za,bD,hlen,Nat.reduceEqDiff,Nat.reduceLT,aF,bw,qk,zR,q8,jR,aT,aS,aa,pZ,zS,ah,aE,gw,XU,qM,aA,dw,aY,bp,qC]
  have hH:Ax.set j (.ul v 19 (((mF q (L.take k) ns).set L[k] (jB ((mF q (L.take k) ns).getD L[k] λ_=>false) q)).map (pv 19)).flatten 115)=ee bs (some j) (mF q (L.take (k+1)) ns):=by
   rw[<- zij (ns:=mF q (L.take k) ns),<- Fm,XS su,List.take_succ_eq_append_getElem hk,zho]
  rw[hH];refine zi ?_;simp only[qw,aH,zV,zK,ak,aj,P_,zr,aL,aq,za,bD,hlen,Nat.reduceEqDiff,Nat.reduceLT,aF,bw,zR,qc (show k<2 ^ 60 by omega),zp,aM]
  refine⟨L.length - (k+1),by omega,k+1,_,by omega,rfl,?_,?_,?_,?_,?_,?_⟩<;>simp[za,hlen,h0,h2,h9,BR]
 ·obtain rfl:k=L.length:=by omega
  refine .inr ⟨by simp,?_⟩
  simp only[ql,zN,zp,bJ,zD,iN,aF,Fx];refine⟨trivial,[],rfl,rfl,?_⟩;rw[DF]
end
section
variable{gl:Gl}
section
variable{B ls:List aV}{d k:Nat}{x:aV}
theorem gB(h:d<B.length):nth (B++ls) d=nth B d:=by rw[zg,zg,gb h]
theorem gN:nth (B++ls) (B.length+k)=nth ls k:=by rw[zg,zg,fE (by omega)];simp
theorem NY:nth (B++ls) B.length=nth ls 0:=gN (k:=0)
theorem sN:(B++ls).set (B.length+k) x=B++ls.set k x:=by rw[uM _ _ (by omega)];simp
theorem sN0:(B++ls).set B.length x=B++ls.set 0 x:=sN (k:=0)
theorem sB(h:d<B.length):(B++ls).set d x=B.set d x++ls:=Gp _ _ h
end
section
variable{P:aQ}{t n:aB}{B ls:List aV}{k off:Nat}{cs:aD}{ty:aB}{v:V}{env:aD}{lk:aN}{df:bO}{es:aN}{g:Nat->Nat->bX}
theorem JT(hs:z4 P t=some n)(hg:nth ls k=some (.cells cs ty))(h1:dz v=true)(h2:v.laid.length=n)(h3:off+n<=cs.length)(h4:cs.all (λc=>!(locked c))=true)(ht:v.top=0) :
  qr P t ⟨B++ls,es⟩ lk df (some (v,env)) (some (.ptr (B.length+k) off))=some (.skip,⟨env,⟨B++ls.set k (.cells (Vm.storeCells cs off v.laid) ty),es⟩,lk,df⟩):=by
 rw[zy hs (show Hp.get ⟨B++ls,es⟩ _=_ from gN.trans hg) h1 h2 h3 (wh h4 h3),jT (by rw[ht];omega)]
 simp only[Hp.set,sN]
theorem zlZ(hs:z4 P t=some n)(hg:nth ls 0=some (.cells cs ty))(h1:dz v=true)(h2:v.laid.length=n)(h3:off+n<=cs.length)(h4:cs.all (λc=>!(locked c))=true)(ht:v.top=0) :
  qr P t ⟨B++ls,es⟩ lk df (some (v,env)) (some (.ptr B.length off))=some (.skip,⟨env,⟨B++ls.set 0 (.cells (Vm.storeCells cs off v.laid) ty),es⟩,lk,df⟩):=JT (k:=0) hs hg h1 h2 h3 h4 ht
theorem XV(ha:qD P t=some false)(hg:nth ls k=some (.cells cs ty))(hn:nth cs off=some v):zk P ⟨B++ls,es⟩ g t (.ptr (B.length+k) off)=some v:=zq ha (gN.trans hg) hn
theorem XW(ha:qD P t=some false)(hg:nth ls 0=some (.cells cs ty))(hn:nth cs off=some v):zk P ⟨B++ls,es⟩ g t (.ptr B.length off)=some v:=zq ha (NY.trans hg) hn
theorem XX(ha:qD P t=some true)(hs:z4 P t=some n)(hg:nth ls k=some (.cells cs ty))(hl:off+n<=cs.length):zk P ⟨B++ls,es⟩ g t (.ptr (B.length+k) off)=some (.agg ((cs.drop off).take n)):=qY ha hs (gN.trans hg) hl
theorem zoR(ha:qD P t=some true)(hs:z4 P t=some n)(hg:nth ls 0=some (.cells cs ty))(hl:off+n<=cs.length):zk P ⟨B++ls,es⟩ g t (.ptr B.length off)=some (.agg ((cs.drop off).take n)):=qY ha hs (NY.trans hg) hl
end
section
variable{P:aQ}{t n:aB}{B ls:List aV}{k off bm:Nat}{cs:aD}{ty e:aB}{xs ys:aD}{env:aD}{lk:aN}{df:bO}{es:aN}
theorem zhp(ha:qD P t=some false)(bR:bm<B.length)(hb:nth B bm=some (.cells cs ty))(hn:nth cs off=some (zl n e xs)) :
  vW P t env ⟨B++ls,es⟩ [] df (some (.ptr bm off))=some (.val (zl n e xs),⟨env,⟨B.set bm (.cells (cs.set off (oh n xs)) ty)++ls,es⟩,kD bm off xs,df⟩):=by
 rw[TM ha (show Hp.get ⟨B++ls,es⟩ bm=_ from(gB bR).trans hb) hn];simp only[Hp.set,sB bR]
theorem zeW(hs:z4 P t=some 1)(bR:bm<B.length)(ho:off<cs.length)(ht:(zl n e ys).top=0) :
  qr P t ⟨B.set bm (.cells (cs.set off (oh n xs)) ty)++ls,es⟩ (kD bm off xs) df (some (zl n e ys,env)) (some (.ptr bm off))=some (.skip,⟨env,⟨B.set bm (.cells (cs.set off (zl n e ys)) ty)++ls,es⟩,kD bm off xs,df⟩):=by
 have mK:bm<(B.set bm (.cells (cs.set off (oh n xs)) ty)).length:=by rw[bD];exact bR
 rw[zy hs (show Hp.get ⟨_++ls,es⟩ bm=some (.cells (cs.set off (oh n xs)) ty) from(gB mK).trans (by simp[zg,bR])) PX (by rw[vt];rfl) (by rw[bD];omega) (PW ho),jT (by rw[ht];omega)]
 simp only[Hp.set,sB mK,List.set_set,vt,Vm.storeCells]
end
def cQ:Nat->Bool:=λ_=>false
structure Part where
 null:Bool
 first:Nat->Bool
 last:Nat->Bool
def zo(p:Part):aD:=.bool p.null::(pv 19 p.first++pv 19 p.last)
theorem qW{p:Part}:(zo p).length=39:=by simp[zo,jE]
theorem zl1{m:Nat}{p:Nat->Bool}:(pv m p).map aW=pv m p:=by
 simp only[pv,List.map_map];rfl
theorem wQ{p:Part}:(zo p).map aW=zo p:=by simp[zo,zl1,qR]
theorem gz:∀{xs ys:aD},aI xs=0->aI ys=0->aI (xs++ys)=0
 | [],_,_,h=>h
 | x::xs,ys,h1,h2=>by
  simp only[aI,a_,Nat.max_eq_zero_iff] at h1 ⊢;exact⟨h1.1,gz h1.2 h2⟩
theorem TT{m:Nat}{p:Nat->Bool}:aI (pv m p)=0:=by
 unfold pv
 induction List.range m with
 | nil=>rfl
 | cons x xs ih=>simp only[aY,aI,V.top,ih];rfl
theorem yJ{p:Part}:aI (zo p)=0:=by
 simp only[zo,aI,V.top,gz TT TT];rfl
theorem LX:qQ prog 117=some (.agg (zo ⟨false,cQ,cQ⟩)):=by kernel_rfl
theorem zqf{env:aD}:ky prog 115 #[] env=some (.agg (pv 19 cQ)):=by kernel_rfl
theorem zpx{m:Nat}{p:Nat->Bool}:(pv m p).all (λc=>!(locked c))=true:=by
 simp[pv,locked]
theorem yq{p:Part}:(zo p).all (λc=>!(locked c))=true:=by
 simp only[zo,List.all_cons,List.all_append,zpx];rfl
theorem znU{x:V}{cs:aD}{k:Nat}:Vm.storeCells cs k [x]=cs.set k x:=rfl
theorem Eu{B ls:List aV}{k:Nat}{p:Part}{es:aN}{g:Nat->Nat->bX}(hg:nth ls k=some (.cells (zo p) 117)):zk prog ⟨B++ls,es⟩ g 117 (.ptr (B.length+k) 0)=some (.agg (zo p)):=by
 rw[XX tR rR hg (by rw[qW];decide)]
 rw[mg,<- qW (p:=p),DF]
theorem Qb{B ls:List aV}{k:Nat}{p q:Part}{env:aD}{lk:aN}{df:bO}{es:aN}(hg:nth ls k=some (.cells (zo q) 117)):qr prog 117 ⟨B++ls,es⟩ lk df (some (.agg (zo p),env)) (some (.ptr (B.length+k) 0))=some (.skip,⟨env,⟨B++ls.set k (.cells (zo p) 117),es⟩,lk,df⟩):=by
 rw[JT (k:=k) (v:=.agg (zo p)) rR hg rfl (by simp[V.laid,qW]) (by rw[qW];decide) yq (by simp[V.top,yJ])]
 simp only[V.laid,wQ];rw[wO (by rw[qW,qW])]
structure Mk where
 bZ:List (Int×Int×Int×Int)
 rules:List Int
 next:List (Nat->Bool)
def Fv(s0 s1 s2 s3:Int):V:=.agg [.int .u64 s0,.int .u64 s1,.int .u64 s2,.int .u64 s3]
def XY(q:Int×Int×Int×Int):V:=Fv q.1 q.2.1 q.2.2.1 q.2.2.2
def Mk.lG(m:Mk):aD:=m.bZ.map XY
def Mk.fW(m:Mk):aD:=m.rules.map (.int .i64)
theorem wu{α:Type}{h:α->V}(hh:∀a,(h a).top=0):∀(l:List α),aI (l.map h)=0
 | []=>rfl
 | a::l=>by simp[aI,hh a,wu hh l]
theorem Qc{n:Nat}{e:aB}{xs:aD}(h:aI xs=0):(zl n e xs).top=0:=by
 cases xs with
 | nil=>rfl
 | cons x xs=>simpa[zl,V.top] using h
def MK(n0:Nat)(H:Hp)(bm:Nat)(m:Mk)(i:Option Nat):Prop :=
 ∃c,H.get bm=some (.cells [zl 4 50 m.lG,zl 1 3 m.fW,c] 113)/\UL H 19 115 c i (m.next.map (pv 19))/\∀j,i=some j->n0<=j->bm<j/\(bm,j+1)∈H.bG
def JU(n0:Nat)(i i':Option Nat):Prop:=i'=i\/i=none/\∃j,i'=some j/\n0<=j
theorem MK.start{bs:List aV}{es:aN}{n0 bm:Nat}{m:Mk}{i:Option Nat}(h:MK n0 ⟨bs,es⟩ bm m i):MK bs.length ⟨bs,[]⟩ bm m i:=by
 obtain⟨c,h1,h2,_⟩:=h;refine⟨c,h1,h2,λj hj hn=>?_⟩;subst hj;exact absurd h2.lt (by simpa using hn)
theorem MK.finish{bs:List aV}{es:aN}{n0 bm t:Nat}{m m':Mk}{i i':Option Nat}{H:Hp}(h:MK n0 ⟨bs,es⟩ bm m i)(_hn:n0<=bs.length)(dX:JU bs.length i i')(h1:MK bs.length H bm m' i'):MK n0 (zW bs.length es t H) bm m' i':=by
 obtain⟨c,g1,g2,g3⟩:=h;obtain⟨c',k1,k2,k3⟩:=h1;have bR:bm<bs.length:=kI g1;refine⟨c',(ja bR).trans k1,k2.frame λj hj=>?_,λj hj hn=>?_⟩
 ·by_cases Qa:j<bs.length
  ·exact ja Qa
  ·exact xG (k3 j hj (by omega)).2 bR (by omega) _
 ·by_cases Qa:j<bs.length
  ·have:i=some j:=by
    rcases dX with rfl|⟨_,j',h1,h2⟩
    ·exact hj
    ·rw[hj] at h1;cases h1;omega
   have:=g3 j this hn;refine⟨this.1,?_⟩;unfold zW;obtain⟨b,e⟩:=H;simp only;split<;>exact C2 _ this.2
  ·have:=k3 j hj (by omega)
   refine⟨this.1,?_⟩;unfold zW;obtain⟨b,e⟩:=H;simp only;split
   ·refine AO _ (List.mem_filter.2 ⟨this.2,?_⟩);exact KH (show bm+1<=bs.length by omega)
   ·exact AO _ this.2
theorem zdM{bs:List aV}{es:aN}{t:Nat}{H:Hp}{S:Nat->Prop}(h:sF ⟨bs,[]⟩ H S):sF ⟨bs,es⟩ (zW bs.length es t H) S :=
 ⟨vX h.len,λd hd hn=>(ja hd).trans (h.get d hd hn)⟩
theorem Iz:∀{pre xs ys:aD},ys.length=xs.length->Vm.storeCells (pre++ys) pre.length xs=pre++xs:=by
 intro pre xs ys h;apply ER;intro i;rw[Xl]
 by_cases h1:i<pre.length
 ·rw[if_neg (by omega),gb h1,gb h1]
 ·by_cases h2:i<pre.length+xs.length
  ·rw[if_pos ⟨by omega,h2,by rw[aU];omega⟩,fE (by omega)]
  ·rw[if_neg (by omega),uc (by rw[aU];omega),uc (by rw[aU];omega)]
theorem zl2{p:Part}{l:Nat->Bool}:Vm.storeCells (zo p) 20 (pv 19 l)=zo ⟨p.null,p.first,l⟩:=by
 have h:=Iz (pre:=.bool p.null::pv 19 p.first) (xs:=pv 19 l) (ys:=pv 19 p.last) (by rw[jE,jE])
 rw[show(V.bool p.null::pv 19 p.first).length=20 by simp[jE]] at h
 exact h
theorem zpz{m:Nat}{p:Nat->Bool}:(V.agg (pv m p)).top=0:=by simp[V.top,TT]
theorem zkv{p:Part}:((zo p).drop 20).take 19=pv 19 p.last:=by
 have h:(zo p).drop 20=pv 19 p.last:=by
  have:=List.drop_left (l₁:=V.bool p.null::pv 19 p.first) (l₂:=pv 19 p.last)
  rwa [show(V.bool p.null::pv 19 p.first).length=20 by simp[jE]] at this
 rw[h];exact p9 (by rw[jE];decide)
end
section
variable{gl:Gl}
def jM(op:Int)(set:Int×Int×Int×Int)(r:Int)(m:Mk):Part×Mk :=
 if op=1 then (⟨true,cQ,cQ⟩,m) else (⟨false,jQ cQ m.bZ.length,jQ cQ m.bZ.length⟩,⟨m.bZ++[set],m.rules++[r],m.next++[cQ]⟩)
theorem sH:z4 prog 53=some 10:=by kernel_rfl
theorem Bi:qD prog 53=some true:=by kernel_rfl
theorem CI:zB prog 53 0=some 0:=by kernel_rfl
theorem LY:zB prog 53 2=some 2:=by kernel_rfl
theorem ig:zB prog 117 0=some 0:=by kernel_rfl
theorem oK:zB prog 117 1=some 1:=by kernel_rfl
theorem oM:zB prog 117 2=some 20:=by kernel_rfl
theorem w_:zB prog 113 0=some 0:=by kernel_rfl
theorem Fw:zB prog 113 1=some 1:=by kernel_rfl
theorem NZ:qD prog 4=some false:=by kernel_rfl
theorem XZ:z4 prog 4=some 1:=by kernel_rfl
theorem Qd:z4 prog 27=some 1:=by kernel_rfl
theorem IA:qD prog 27=some false:=by kernel_rfl
theorem Fy:qD prog 26=some false:=by kernel_rfl
theorem Qe:z4 prog 26=some 1:=by kernel_rfl
theorem Qf:qD prog 50=some true:=by kernel_rfl
theorem X0:z4 prog 50=some 4:=by kernel_rfl
theorem X3:mN prog 26 50 4 32:=⟨by kernel_rfl,by kernel_rfl,by kernel_rfl,by decide,by kernel_rfl,by kernel_rfl,by kernel_rfl⟩
theorem zl3(hg:GW gl){n n0:Nat}{H:Hp}{bm:Nat}{m:Mk}{i:Option Nat}{op pl s0 s1 s2 s3 mn mx r:Int}{text:bN}{nl:Bool}{args:List E}
  (hm:MK n0 H bm m i) (AU:n0<=H.az.length) (hs:m.bZ.length<1216) (hr:m.rules.length<1216) (hx:m.next.length<1216) :
  ∃H' i',zj prog gl (n+2) 92 [.ptr bm 0,enc (.mk op pl s0 s1 s2 s3 text mn mx nl args),.int .i64 r] H=some (.ret (.agg (zo (jM op (s0,s1,s2,s3) r m).1)),H')/\MK n0 H' bm (jM op (s0,s1,s2,s3) r m).2 i'/\JU H.az.length i i'/\sF H H' (λd=>d=bm\/i=some d):=by
 obtain⟨bs,es⟩:=H;have Dd:=hm.start
 suffices bL:(go ⟨prog,gl,zj prog gl (n+1),fy⟩ (n+1) (Fx prog f92.results.toList λw H1=>w=.agg (zo (jM op (s0,s1,s2,s3) r m).1)/\∃i',MK bs.length H1 bm (jM op (s0,s1,s2,s3) r m).2 i'/\JU bs.length i i'/\sF ⟨bs,[]⟩ H1 (λd=>d=bm\/i=some d)) [.c (f92.body.getD .skip)] .normal ⟨[.ptr bm 0,enc (.mk op pl s0 s1 s2 s3 text mn mx nl args),.int .i64 r]++List.replicate 56 (.bq []),⟨bs,[]⟩,[],[]⟩) by
  obtain⟨w,H1,h0,rfl,i',h1,h2,h3⟩:=zQ (gl:=gl) (f:=92) (bs:=bs) (es:=es) (args:=[.ptr bm 0,enc (.mk op pl s0 s1 s2 s3 text mn mx nl args),.int .i64 r]) (n:=n+1) (hg.hk _ _ (by decide)) (λH=>hg.fG _ _ _ _) func92 rfl (by rw[hg.uq];exact bL)
  exact⟨_,i',h0,hm.finish AU h2 h1,h2,zdM h3⟩
 obtain⟨c,hc,hu,hed⟩:=Dd;have bR:bm<bs.length:=kI hc;obtain⟨S,hS⟩:∃S,S=m.lG:=⟨_,rfl⟩;obtain⟨R,hR⟩:∃R,R=m.fW:=⟨_,rfl⟩;have Qg:S.length=m.bZ.length:=by rw[hS,Mk.lG,gC]
 have hRl:R.length=m.rules.length:=by rw[hR,Mk.fW,gC]
 have hSt:aI S=0:=by rw[hS];exact wu (λ_=>rfl) _
 have hRt:aI R=0:=by rw[hR];exact wu (λ_=>rfl) _
 rw[<- hS,<- hR] at hc;have oJ:dz (enc (.mk op pl s0 s1 s2 s3 text mn mx nl args))=true:=rfl;simp only[f92,fQ,zh];refine zi ?_;simp only[enc] at oJ ⊢
 simp only[BA,aq,zc,zd,ze,bS,bT,z7 oJ,LX,zH (show dz (V.agg (zo ⟨false,cQ,cQ⟩))=true from rfl),V.laid,V.cells,zY,List.replicate];refine zi ?_
 simp only[BA,aq,zc,Nat.reduceAdd,bS,bT,LX,zH (show dz (V.agg (zo ⟨false,cQ,cQ⟩))=true from rfl),V.cells]
 generalize hX:aV.cells [V.int IntKind.i64 op,V.int IntKind.i64 pl,V.int IntKind.u64 s0,V.int IntKind.u64 s1,V.int IntKind.u64 s2,V.int IntKind.u64 s3,V.str text,V.int IntKind.i64 mn,V.int IntKind.i64 mx,ye nl (fe args)] 53=X;refine zi ?_;have so:∀x y,zk prog ⟨bs++[X,x,y],[]⟩ gl.g 3 (.ptr bs.length 0)=some (.int .i64 op):=λx y=>zq NW (by subst hX;exact NY) rfl
 simp only[BA,ak,aj,aq,ah,zd,ze,bS,bT,CI,ig,so,wM];rw[JT (k:=2) (cs:=zo ⟨false,cQ,cQ⟩) (ty:=117) XZ rfl rfl rfl (by rw[qW];decide) yq rfl]
 simp only[bu,aq,V.laid,znU,bT,bS]
 rw[show(zo ⟨false,cQ,cQ⟩).set 0 (.bool (op == 1))=zo ⟨op == 1,cQ,cQ⟩ from rfl];refine zi ?_;have GA:∀x y b p q,zk prog ⟨bs++[x,y,aV.cells (zo ⟨b,p,q⟩) 117],[]⟩ gl.g 4 (.ptr (bs.length+2) 0)=some (.bool b):=λx y b p q=>XV (k:=2) NZ rfl rfl
 simp only[BA,ak,aq,ah,zd,ze,bS,bT,ig,GA,iz];have hLP:∀x y p es,zk prog ⟨bs++[x,y,.cells (zo p) 117],es⟩ gl.g 117 (.ptr (bs.length+2) 0)=some (.agg (zo p)):=λx y p es=>Eu (k:=2) rfl
 by_cases aC:op=1
 ·subst aC;refine .inr ⟨by decide,?_⟩
  refine zi ?_;simp only[BA,ak,aq,zd,ze,bS,bT,hLP];rw[Qb (k:=1) (q:=⟨false,cQ,cQ⟩) rfl];simp only[bu,aq,go_ret,zp,Fx,bT,bS]
  refine⟨trivial,[.agg (zo ⟨true,cQ,cQ⟩)],?_,rfl,i,?_,.inl rfl,?_⟩
  ·simp only[zx,zd,ze];rw[Eu (k:=1) (p:=⟨1 == 1,cQ,cQ⟩) rfl];simp[aW]
  ·refine⟨c,(gB bR).trans (by have h:=hc;rw[hS,hR] at h;exact h),hu.frame λj hj=>gB (by subst hj;exact hu.lt),λj hj hn=>?_⟩
   subst hj;exact absurd hu.lt (by simpa using hn)
  ·exact⟨by simp,λd hd _=>gB hd⟩
 ·refine .inl ⟨by simp[aC],?_⟩
  have Gt:(op == 1)=false:=by simp[aC]
  simp only[Gt];refine zi ?_;have hl3:∀ls es,zk prog ⟨bs++ls,es⟩ gl.g 26 (.ptr bm 0)=some (zl 4 50 S):=λls es=>zq Fy (show Hp.get ⟨bs++ls,es⟩ bm=_ from(gB bR).trans hc) rfl;simp only[BA,ak,aq,aa,ah,zd,ze,bS,bT,w_,hl3,TL X3.u,Qg]
  refine zi ?_;have nY:∀(ls:List aV)(k off:Nat)(pre post:aD)(p:Nat->Bool),nth ls k=some (.cells (pre++pv 19 p++post) 117)->pre.length=off->Cx.bC ⟨prog,gl.g,zj prog gl (n+1),fy⟩ 56 [.ptr (bs.length+k) off,.int .i64 (m.bZ.length:Int)] ⟨bs++ls,[]⟩=some (.val (.bq []),⟨bs++ls.set k (.cells (pre++pv 19 (jQ p m.bZ.length)++post) 117),[]⟩):=λls k off pre post p h1 h2=>by
   have:=zjo hg (n:=n) (bs:=bs++ls) (es:=[]) (b:=bs.length+k) (gN.trans h1) h2 hs;rw[sN] at this;exact zu func56 rfl this
  have hA:=λx y=>nY [x,y,.cells (zo ⟨false,cQ,cQ⟩) 117] 2 1 [.bool false] (pv 19 cQ) cQ rfl rfl;have hB:=λx y=>nY [x,y,.cells (zo ⟨false,jQ cQ m.bZ.length,cQ⟩) 117] 2 20 (.bool false::pv 19 (jQ cQ m.bZ.length)) [] cQ (by simp[zo,nth]) (by simp[jE])
  simp only[BA,av,ak,aq,ah,aA,zd,ze,bS,bT,oK,hA];rw[show aV.cells (V.bool false::(pv 19 (jQ cQ m.bZ.length)++pv 19 cQ)) 117=.cells (zo ⟨false,jQ cQ m.bZ.length,cQ⟩) 117 from rfl];refine zi ?_
  simp only[BA,av,ak,aq,ah,aA,zd,ze,bS,bT,oM,hB,mT];rw[show aV.cells (V.bool false::(pv 19 (jQ cQ m.bZ.length)++pv 19 (jQ cQ m.bZ.length))) 117=.cells (zo ⟨false,jQ cQ m.bZ.length,jQ cQ m.bZ.length⟩) 117 from rfl]
  generalize hY:aV.cells (zo ⟨false,cQ,cQ⟩) 117=Y;generalize hZ:aV.cells (zo ⟨false,jQ cQ m.bZ.length,jQ cQ m.bZ.length⟩) 117=Z;refine qG (tk:=[31]) (by kernel_rfl) (by kernel_rfl) ?_
  have hbm:bs.length≠bm:=by omega
  have hl4:∀B ls es,zk prog ⟨B++X::ls,es⟩ gl.g 50 (.ptr B.length 2)=some (Fv s0 s1 s2 s3):=λB ls es=>by
   rw[zoR (cs:=[V.int IntKind.i64 op,V.int IntKind.i64 pl,V.int IntKind.u64 s0,V.int IntKind.u64 s1,V.int IntKind.u64 s2,V.int IntKind.u64 s3,V.str text,V.int IntKind.i64 mn,V.int IntKind.i64 mx,ye nl (fe args)]) (ty:=53) Qf X0 (by rw[hX];rfl) (by simp)]
   rfl
  have X5:∀(b:aV) ls es,zk prog ⟨bs.set bm b++X::ls,es⟩ gl.g 50 (.ptr bs.length 2)=some (Fv s0 s1 s2 s3):=λb ls es=>by
   have:=hl4 (bs.set bm b) ls es
   rwa [bD] at this
  have mO:∀env,vW prog 26 env ⟨bs++[X,Y,Z],[]⟩ [] [] (some (.ptr bm 0))=some (.val (zl 4 50 S),⟨env,⟨bs.set bm (.cells [oh 4 S,zl 1 3 R,c] 113)++[X,Y,Z],[]⟩,kD bm 0 S,[]⟩):=λenv=>zhp (off:=0) Fy bR hc rfl;have lR:=X3.BQ (v:=Fv s0 s1 s2 s3) rfl rfl
  have fM:∀{k b:Nat},k<1216->b<=152->kx (k+1) b=true:=λ{k b} h h'=>dG (by have:=Nat.mul_le_mul (show k+1<=1216 by omega) h';omega) (by omega)
  have fz:∀H,j9 prog H 26 (zl 4 50 S) (.sl 4 [Fv s0 s1 s2 s3] .no)=some (zl 4 50 (S++[Fv s0 s1 s2 s3])):=λH=>jC X3 (by simp) (by rw[Qg];exact fM hs (by decide))
  simp only[BA,Nat.reduceEqDiff,ak,aq,aa,ah,au,zd,ze,bS,bT,w_,LY,Fy,Qf,mO,X5,znM hbm,show aW (Fv s0 s1 s2 s3)=Fv s0 s1 s2 s3 from rfl,lR,xS,fz,w_,jV (cx:=⟨prog,gl.g,zj prog gl (n+1),fy⟩) (show pN prog fy 26=false by kernel_rfl)]
  have e_:∀env,qr prog 26 ⟨bs.set bm (.cells [oh 4 S,zl 1 3 R,c] 113)++[X,Y,Z],[]⟩ (kD bm 0 S) [] (some (zl 4 50 (S++[Fv s0 s1 s2 s3]),env)) (some (.ptr bm 0))=some (.skip,⟨env,⟨bs.set bm (.cells [zl 4 50 (S++[Fv s0 s1 s2 s3]),zl 1 3 R,c] 113)++[X,Y,Z],[]⟩,kD bm 0 S,[]⟩):=λenv =>
   zeW (off:=0) (cs:=[zl 4 50 S,zl 1 3 R,c]) Qe bR (by simp) (Qc (gz hSt rfl))
  rw[e_];simp only[bu,aq]
  refine wo (tk:=[42]) (by kernel_rfl) ?_
  generalize hS':S++[Fv s0 s1 s2 s3]=S';obtain⟨B,AH⟩:∃B,B=bs.set bm (.cells [zl 4 50 S',zl 1 3 R,c] 113):=⟨_,rfl⟩;have Qh:B.length=bs.length:=by rw[AH,bD]
  rw[<- AH];have IB:bm<B.length:=by omega
  have dV:nth B bm=some (.cells [zl 4 50 S',zl 1 3 R,c] 113):=by rw[AH];simp[zg,bR]
  have Qi:=Et.BQ (v:=.int .i64 r) rfl rfl;have Qj:∀H,j9 prog H 27 (zl 1 3 R) (.sl 1 [.int .i64 r] .no)=some (zl 1 3 (R++[.int .i64 r])):=λH=>jC Et (by simp) (by rw[hRl];exact fM hr (by decide))
  have Fz:∀env,vW prog 27 env ⟨B++[X,Y,Z],[]⟩ [] [] (some (.ptr bm 1))=some (.val (zl 1 3 R),⟨env,⟨B.set bm (.cells [zl 4 50 S',oh 1 R,c] 113)++[X,Y,Z],[]⟩,kD bm 1 R,[]⟩):=λenv=>zhp (off:=1) IA IB dV rfl
  have CJ:∀env,qr prog 27 ⟨B.set bm (.cells [zl 4 50 S',oh 1 R,c] 113)++[X,Y,Z],[]⟩ (kD bm 1 R) [] (some (zl 1 3 (R++[.int .i64 r]),env)) (some (.ptr bm 1))=some (.skip,⟨env,⟨B.set bm (.cells [zl 4 50 S',zl 1 3 (R++[.int .i64 r]),c] 113)++[X,Y,Z],[]⟩,kD bm 1 R,[]⟩):=λenv =>
   zeW (off:=1) (cs:=[zl 4 50 S',zl 1 3 R,c]) Qd IB (by simp) (Qc (gz hRt rfl))
  simp only[BA,Nat.reduceEqDiff,ak,aq,aa,ah,zd,ze,bS,bT,Fw,Fz,Qi,xS,Qj,CJ,jV (cx:=⟨prog,gl.g,zj prog gl (n+1),fy⟩) (show pN prog fy 27=false by kernel_rfl)]
  generalize oN:R++[V.int .i64 r]=R';have hBB:B.set bm (.cells [zl 4 50 S',zl 1 3 R',c] 113)=bs.set bm (.cells [zl 4 50 S',zl 1 3 R',c] 113):=by rw[AH,List.set_set]
  rw[hBB];refine wo (tk:=[52]) (by kernel_rfl) ?_
  obtain⟨cm,pQ⟩:∃cm,cm=[zl 4 50 S',zl 1 3 R',c]:=⟨_,rfl⟩;rw[<- pQ];obtain⟨B2,GR⟩:∃B2,B2=bs.set bm (.cells cm 113):=⟨_,rfl⟩;have IC:B2.length=bs.length:=by rw[GR,bD]
  have LZ:nth B2 bm=some (.cells cm 113):=by rw[GR];simp[zg,bR]
  have ID:∀d,d≠bm->nth B2 d=nth bs d:=λd hd=>by rw[GR,zg,zg,rW (Ne.symm hd)]
  rw[<- GR,<- IC];have IE:bm<B2.length:=by omega
  have Cn:c=.aG\/∃j v l,c=.dD j v l:=by
   cases i with
   | none=>exact .inl hu.1
   | some j=>obtain⟨v,h,_⟩:=hu;exact .inr ⟨_,_,_,h⟩
  have X6:Hp.get ⟨B2++[X,Y,Z],[]⟩ bm=some (.cells cm 113):=(gB IE).trans LZ;have Qk:∀env,vW prog 111 env ⟨B2++[X,Y,Z],[]⟩ [] [] (some (.ptr bm 2))=some (.val c,⟨env,⟨B2++[X,Y,Z],[]⟩,[],[]⟩):=λenv=>Xk Fu X6 (by rw[pQ];rfl) Cn
  have Ql:=GQ.BQ (v:=.agg (pv 19 cQ)) rfl jE;have ri:aW c=c:=by rcases Cn with rfl|⟨j,v,l,rfl⟩<;>rfl
  have hu3:UL ⟨B2++[X,Y,Z],[]⟩ 19 115 c i (m.next.map (pv 19)):=hu.frame λj hj=>by
   subst hj;have AG:=hu.lt;have tQ:j≠bm:=λe=>TR hu hc (by rw[e])
   exact(gB (by rw[IC];exact AG)).trans (ID j tQ)
  have Qm:=λenv=>GQ.app (env:=env) (lk:=[]) (df:=[]) (ys:=[.agg (pv 19 cQ)]) (o:=.no) (by simp) hu3 (by rw[gC];exact fM hx (by decide))
  have hLD:∀ls es p,nth ls 2=some (.cells (zo p) 117)->zk prog ⟨B2++ls,es⟩ gl.g 117 (.ptr (B2.length+2) 0)=some (.agg (zo p)):=λls es p h=>Eu h
  simp only[BA,Nat.reduceEqDiff,ak,aq,aa,ah,zc,Nat.reduceAdd,zd,ze,bS,bT,pZ,Qk,zqf,Ql,ri,W1 (cx:=⟨prog,gl.g,zj prog gl (n+1),fy⟩) (show pN prog fy 111=true by kernel_rfl),Qm]
  have oz:∀lk,wv lk bm 2 1 (cm.drop 2)=true:=λlk=>by
   rw[pQ];rcases Cn with rfl|⟨j,v,l,rfl⟩<;>simp[wv,locked]
  have Qn:∀x,Vm.storeCells cm 2 [x]=[zl 4 50 S',zl 1 3 R',x]:=λx=>by rw[pQ];rfl
  have gG:2+1<=cm.length:=by rw[pQ];simp
  have X7:∀l b v,∃p6,Hp.bQ ⟨l,[]⟩ b v=⟨l,p6⟩:=λl b v=>by unfold Hp.bQ;split<;>exact⟨_,rfl⟩
  have hSR:∀x,[zl 4 50 S',zl 1 3 R',x]=[zl 4 50 (jM op (s0,s1,s2,s3) r m).2.lG,zl 1 3 (jM op (s0,s1,s2,s3) r m).2.fW,x]:=λx=>by
   rw[jM,if_neg aC,<- hS',<- oN,hS,hR];simp only[Mk.lG,Mk.fW,List.map_append,aY,bp,XY]
  have hP:(jM op (s0,s1,s2,s3) r m).1=⟨false,jQ cQ m.bZ.length,jQ cQ m.bZ.length⟩:=by rw[jM,if_neg aC]
  have hN:(jM op (s0,s1,s2,s3) r m).2.next=m.next++[cQ]:=by rw[jM,if_neg aC]
  cases i with
  | none =>
   obtain⟨rfl,GU⟩:=hu;have Qo:m.next=[]:=by simpa using GU
   have FA:∀env U,qr prog 111 ⟨B2++[X,Y,Z,U],[]⟩ [] [] (some (.dD (B2.length+3) 0 1,env)) (some (.ptr bm 2))=some (.skip,⟨env,⟨B2.set bm (.cells [zl 4 50 S',zl 1 3 R',.dD (B2.length+3) 0 1] 113)++[X,Y,Z,U],[(bm,B2.length+4)]⟩,[],[]⟩):=λenv U=>by
    rw[zy (cs:=cm) (ty:=113) GQ.st (show Hp.get ⟨B2++[X,Y,Z,U],[]⟩ bm=some (.cells cm 113) from(gB IE).trans LZ) rfl rfl gG (oz _)];simp only[V.laid,Qn,Hp.set,sB IE,Hp.bQ,V.top];rw[if_neg (by omega)]
   simp only[BA,ak,aq,aa,ah,zd,ze,bS,bT,pZ,FA];obtain⟨B3,Di⟩:∃B3,B3=B2.set bm (.cells [zl 4 50 S',zl 1 3 R',.dD (B2.length+3) 0 1] 113):=⟨_,rfl⟩;have CK:B3.length=B2.length:=by rw[Di,bD]
   have N0:nth B3 bm=some (.cells [zl 4 50 S',zl 1 3 R',.dD (B2.length+3) 0 1] 113):=by rw[Di];simp[zg,IE]
   have CL:∀d,d≠bm->nth B3 d=nth bs d:=λd hd=>by rw[Di,zg,rW (Ne.symm hd),<- zg,ID d hd]
   rw[<- Di,<- CK];rw[<- CK] at N0;refine zi ?_;have Ew:∀U es,zk prog ⟨B3++[X,Y,Z,U],es⟩ gl.g 117 (.ptr (B3.length+2) 0)=some (.agg (zo ⟨false,jQ cQ m.bZ.length,jQ cQ m.bZ.length⟩)):=λU es=>Eu (k:=2) (by rw[<- hZ];rfl)
   simp only[BA,ak,aq,zd,ze,bS,bT,Ew];rw[Qb (k:=1) (q:=⟨false,cQ,cQ⟩) (by rw[<- hY];rfl)]
   simp only[bu,aq,go_ret,zp,Fx,bT,bS]
   refine⟨trivial,[.agg (zo ⟨false,jQ cQ m.bZ.length,jQ cQ m.bZ.length⟩)],?_,by rw[hP];rfl,some (B3.length+3),⟨_,(gB (by omega)).trans (N0.trans (by rw[hSR])),⟨0,by rw[hN,Qo];rfl,(gN (k:=3)).trans (by rw[hN,Qo];rfl)⟩,λj hj hn=>?_⟩,.inr ⟨rfl,_,rfl,by omega⟩,?_⟩
   ·simp only[zx,zd,ze];rw[Eu (k:=1) (p:=⟨false,jQ cQ m.bZ.length,jQ cQ m.bZ.length⟩) rfl];simp[aW]
   ·cases hj;exact⟨by omega,by rw[CK];simp⟩
   ·exact⟨by simp only[aU];omega,λd hd rY=>(gB (by rw[CK,IC];exact hd)).trans (CL d λe=>rY (.inl e))⟩
  | some j =>
   obtain⟨v,rfl,hj⟩:=hu;have AG:j<bs.length:=kI hj;have tQ:j≠bm:=by
    intro e;subst e;rw[hc] at hj;cases hj
   have X8:nth B2 j=some (.ul v 19 (m.next.map (pv 19)).flatten 115):=(ID j tQ).trans hj
   dsimp only
   rw[jT (by simp[V.top,aI,TT])]
   simp only[Hp.set,sB (show j<B2.length by omega),aL,aq]
   obtain⟨B3,Di⟩:∃B3,B3=B2.set j (.ul (v+1) 19 ((m.next.map (pv 19)).flatten++bW [V.agg (pv 19 cQ)]) 115):=⟨_,rfl⟩
   have CK:B3.length=B2.length:=by rw[Di,bD]
   have hb3:nth B3 bm=some (.cells cm 113):=by rw[Di,zg,rW tQ,<- zg,LZ]
   have hj3:nth B3 j=some (.ul (v+1) 19 ((m.next.map (pv 19)).flatten++bW [V.agg (pv 19 cQ)]) 115):=by rw[Di,zg,B7 (by omega)]
   have CL:∀d,d≠bm->d≠j->nth B3 d=nth bs d:=λd hd Az=>by rw[Di,zg,rW (Ne.symm Az),<- zg,ID d hd]
   rw[<- Di,<- CK];have Qp:bm<B3.length:=by omega
   obtain⟨u,nh⟩:∃u,u=V.dD j (v+1) ((m.next.map (pv 19)).length+1):=⟨_,rfl⟩
   obtain⟨p6,Aw⟩:=X7 (B3.set bm (.cells [zl 4 50 S',zl 1 3 R',u] 113)++[X,Y,Z]) bm u;have FA:∀env,qr prog 111 ⟨B3++[X,Y,Z],[]⟩ [] [] (some (u,env)) (some (.ptr bm 2))=some (.skip,⟨env,⟨B3.set bm (.cells [zl 4 50 S',zl 1 3 R',u] 113)++[X,Y,Z],p6⟩,[],[]⟩):=λenv=>by
    rw[zy (cs:=cm) (ty:=113) GQ.st (show Hp.get ⟨B3++[X,Y,Z],[]⟩ bm=some (.cells cm 113) from(gB Qp).trans hb3) (by rw[nh];rfl) (by rw[nh];rfl) gG (oz _)]
    rw[show u.laid=[u] by rw[nh];rfl]
    simp only[Qn,Hp.set,sB Qp];rw[Aw]
   have mb:∀env t,qK env t (some u)=some (u,env):=λ_ _=>by rw[nh];rfl
   rw[<- nh];simp only[BA,ak,aq,aa,ah,zd,ze,bS,bT,pZ,mb,FA];obtain⟨B4,JV⟩:∃B4,B4=B3.set bm (.cells [zl 4 50 S',zl 1 3 R',u] 113):=⟨_,rfl⟩;have Qq:B4.length=B3.length:=by rw[JV,bD]
   have hg4:nth B4 bm=some (.cells [zl 4 50 S',zl 1 3 R',u] 113):=by rw[JV,zg,B7 (by omega)]
   have L0:∀d,d≠bm->nth B4 d=nth B3 d:=λd hd=>by rw[JV,zg,rW (Ne.symm hd),<- zg]
   rw[<- JV,<- Qq];refine zi ?_;have Ew:∀es,zk prog ⟨B4++[X,Y,Z],es⟩ gl.g 117 (.ptr (B4.length+2) 0)=some (.agg (zo ⟨false,jQ cQ m.bZ.length,jQ cQ m.bZ.length⟩)):=λes=>Eu (k:=2) (by rw[<- hZ];rfl)
   simp only[BA,ak,aq,zd,ze,bS,bT,Ew];rw[Qb (k:=1) (q:=⟨false,cQ,cQ⟩) (by rw[<- hY];rfl)]
   simp only[bu,aq,go_ret,zp,Fx,bT,bS]
   refine⟨trivial,[.agg (zo ⟨false,jQ cQ m.bZ.length,jQ cQ m.bZ.length⟩)],?_,by rw[hP];rfl,some j,⟨u,(gB (by omega)).trans (hg4.trans (by rw[hSR])),⟨v+1,by rw[nh,hN];simp,(gB (by omega)).trans ((L0 j tQ).trans (hj3.trans (by rw[hN];simp[bW,V.cells])))⟩,λk hk hn=>?_⟩,.inl rfl,?_⟩
   ·simp only[zx,zd,ze];rw[Eu (k:=1) (p:=⟨false,jQ cQ m.bZ.length,jQ cQ m.bZ.length⟩) rfl];simp[aW]
   ·cases hk;omega
   ·exact⟨by simp only[aU];omega,λd hd rY=>(gB (by rw[Qq,CK,IC];exact hd)).trans ((L0 d λe=>rY (.inl e)).trans (CL d (λe=>rY (.inl e)) (λe=>rY (.inr (by rw[e])))))⟩
end
section
variable{gl:Gl}
def zP(op:Int)(k:Nat)(a b:Part)(ns:List (Nat->Bool)):Part×List (Nat->Bool) :=
 if k=0 then (b,ns)
 else if op=6 then (⟨a.null || b.null,jB a.first b.first,jB a.last b.last⟩,ns)
 else (⟨a.null && b.null,if a.null then jB a.first b.first else a.first,if b.null then jB a.last b.last else b.last⟩,mF b.first (jh a.last 19) ns)
theorem zhr{bs ls:List aV}{i:Option Nat}{ns:List (Nat->Bool)}(h:∀j,i=some j->j<bs.length):ee (bs++ls) i ns=ee bs i ns++ls:=by
 cases i with
 | none=>rfl
 | some j =>
  have hj:=h j rfl;simp only[ee,gB hj];cases nth bs j with
  | none=>rfl
  | some x=>cases x<;>simp[sB hj]
theorem X9:qD prog 115=some true:=by kernel_rfl
theorem Qr:z4 prog 115=some 19:=by kernel_rfl
theorem N1(p:Part):zo p=[.bool p.null]++pv 19 p.first++pv 19 p.last:=rfl
theorem Qs(p:Part):zo p=(.bool p.null::pv 19 p.first)++pv 19 p.last++[]:=by simp[zo]
theorem zl4(hg:GW gl){n:Nat}(hn:21<=n){B:List aV}{z:aV}{a b:Part}:Cx.bC ⟨prog,gl.g,zj prog gl n,fy⟩ 58 [.ptr B.length 1,.ptr (B.length+1) 1] ⟨B++[.cells (zo a) 117,.cells (zo b) 117,z],[]⟩=some (.val (.bq []),⟨B++[.cells (zo ⟨a.null,jB a.first b.first,a.last⟩) 117,.cells (zo b) 117,z],[]⟩):=by
 have h:=XB hg (n:=n - 1) (by omega) (bs:=B++[.cells (zo a) 117,.cells (zo b) 117,z]) (es:=[]) (b:=B.length) (b':=B.length+1) (NY.trans (by rw[N1 a];rfl)) rfl ((gN (k:=1)).trans (by rw[N1 b];rfl)) rfl (by omega)
 rw[show n - 1+1=n by omega,sN0] at h
 exact zu func58 rfl h
theorem zl5(hg:GW gl){n:Nat}(hn:21<=n){B:List aV}{z:aV}{a b:Part}:Cx.bC ⟨prog,gl.g,zj prog gl n,fy⟩ 58 [.ptr B.length 20,.ptr (B.length+1) 20] ⟨B++[.cells (zo a) 117,.cells (zo b) 117,z],[]⟩=some (.val (.bq []),⟨B++[.cells (zo ⟨a.null,a.first,jB a.last b.last⟩) 117,.cells (zo b) 117,z],[]⟩):=by
 have h:=XB hg (n:=n - 1) (by omega) (bs:=B++[.cells (zo a) 117,.cells (zo b) 117,z]) (es:=[]) (b:=B.length) (b':=B.length+1) (NY.trans (by rw[Qs a];rfl)) (off:=20) (by simp[jE]) ((gN (k:=1)).trans (by rw[Qs b];rfl)) (off':=20) (by simp[jE]) (by omega)
 rw[show n - 1+1=n by omega,sN0] at h
 simp only[mT] at h;exact zu func58 rfl h
theorem zik(hg:GW gl){n:Nat}(hn:1301<=n){bs:List aV}{es:aN}{bm:Nat}{a0 a1 c:V}{i:Option Nat}{ns:List (Nat->Bool)}{op:Int}{k:Nat}{a b:Part}{NX:aB}(hk:k<2 ^ 60)
  (hm:nth bs bm=some (.cells [a0,a1,c] NX)) (hu:UL ⟨bs,es⟩ 19 115 c i (ns.map (pv 19))) (dJ:∀k∈jh a.last 19,k<ns.length) :
  zj prog gl (n+1) 94 [.ptr bm 0,.int .i64 op,.int .i64 k,.agg (zo a),.agg (zo b)] ⟨bs,es⟩=some (.ret (.agg (zo (zP op k a b ns).1)),⟨ee bs i (zP op k a b ns).2,es⟩):=by
 have bR:bm<bs.length:=kI (H:=⟨bs,es⟩) hm
 suffices bL:(go ⟨prog,gl,zj prog gl n,fy⟩ n (Fx prog f94.results.toList λw H1=>w=.agg (zo (zP op k a b ns).1)/\∃ls,H1=⟨ee bs i (zP op k a b ns).2++ls,[]⟩) [.c (f94.body.getD .skip)] .normal ⟨[.ptr bm 0,.int .i64 op,.int .i64 k,.agg (zo a),.agg (zo b)]++List.replicate 52 (.bq []),⟨bs,[]⟩,[],[]⟩) by
  obtain⟨w,H1,h0,rfl,ls,rfl⟩:=zQ (gl:=gl) (f:=94) (bs:=bs) (es:=es) (args:=[.ptr bm 0,.int .i64 op,.int .i64 k,.agg (zo a),.agg (zo b)]) (n:=n) (hg.hk _ _ (by decide)) (λH=>hg.fG _ _ _ _) func94 rfl (by rw[hg.uq];exact bL)
  rw[h0];have:=z8 (bs:=ee bs i (zP op k a b ns).2) (ls:=ls) (es:=es) (t:=(V.agg (zo (zP op k a b ns).1)).top) (by simp[V.top,yJ])
  rw[yI] at this;rw[this]
 have oJ:∀p:Part,dz (V.agg (zo p))=true:=λ_=>rfl;simp only[f94,fQ,zh];refine zi ?_;simp only[BA,aq,zc,Nat.reduceAdd,zd,ze,bS,bT,z7 (oJ a),z7 (oJ b),LX,zH (oJ ⟨false,cQ,cQ⟩),V.laid,V.cells,wQ,List.replicate];refine zi ?_
 simp only[BA,ak,aj,aq,zd,ze,bS,bT,wM];have GV:∀(B ls:List aV)(p:Part) es,zk prog ⟨B++.cells (zo p) 117::ls,es⟩ gl.g 117 (.ptr B.length 0)=some (.agg (zo p)):=λB ls p es=>Eu (k:=0) rfl
 have Ew:∀(B ls:List aV) x (p:Part) es,zk prog ⟨B++x::.cells (zo p) 117::ls,es⟩ gl.g 117 (.ptr (B.length+1) 0)=some (.agg (zo p)):=λB ls x p es=>Eu (k:=1) rfl;have X_:∀(B ls:List aV)(p:Part) es,zk prog ⟨B++.cells (zo p) 117::ls,es⟩ gl.g 4 (.ptr B.length 0)=some (.bool p.null):=λB ls p es=>XW NZ rfl rfl
 have N2:∀(B ls:List aV) x (p:Part) es,zk prog ⟨B++x::.cells (zo p) 117::ls,es⟩ gl.g 4 (.ptr (B.length+1) 0)=some (.bool p.null):=λB ls x p es=>XV (k:=1) NZ rfl rfl
 have Qt:∀(B:List aV) x y (p q:Part) es env,qr prog 117 ⟨B++[x,y,.cells (zo q) 117],es⟩ [] [] (some (.agg (zo p),env)) (some (.ptr (B.length+2) 0))=some (.skip,⟨env,⟨B++[x,y,.cells (zo p) 117],es⟩,[],[]⟩):=λB x y p q es env=>Qb (k:=2) rfl
 have Qu:∀(B ls:List aV)(p:Part) es env v,qr prog 4 ⟨B++.cells (zo p) 117::ls,es⟩ [] [] (some (.bool v,env)) (some (.ptr B.length 0))=some (.skip,⟨env,⟨B++.cells (zo ⟨v,p.first,p.last⟩) 117::ls,es⟩,[],[]⟩):=λB ls p es env v=>by
  rw[zlZ (cs:=zo p) (ty:=117) XZ rfl rfl rfl (by rw[qW];decide) yq rfl]
  rfl
 have lP:∀(B:List aV) x y (p:Part) es (env:aD),nth env 10=some (.ptr (B.length+2) 0)->zx prog ⟨B++[x,y,.cells (zo p) 117],es⟩ env [.cell 10 117]=some [.agg (zo p)]:=λB x y p es env he=>by
  simp only[zx,he];rw[Eu (k:=2) rfl];simp[aW]
 by_cases FB:k=0
 ·subst FB;refine .inl ⟨rfl,?_⟩;refine zi ?_;simp only[BA,ak,aq,zd,ze,bS,bT,Ew,Qt,go_ret]
  simp only[zp,we,wk,Fx,show zP op 0 a b ns=(b,ns) from if_pos rfl,TS hu]
  exact⟨trivial,[.agg (zo b)],lP _ _ _ _ _ _ rfl,rfl,_,rfl⟩
 ·refine .inr ⟨by simpa using FB,?_⟩
  refine zi ?_;simp only[BA,ak,aj,aq,zd,ze,bS,bT,wM];obtain⟨an,af,al⟩:=a;obtain⟨bn,bf,bl⟩:=b
  by_cases h6:op=6
  ·subst h6;refine .inl ⟨rfl,?_⟩;refine zi ?_;simp only[BA,ak,aq,ah,zd,ze,bS,bT,ig,X_];have hJ:zP 6 k ⟨an,af,al⟩ ⟨bn,bf,bl⟩ ns=(⟨an || bn,jB af bf,jB al bl⟩,ns):=by rw[zP,if_neg FB,if_pos rfl]
   rcases an with _|_
   all_goals
    simp only[j4,qg,zd,ze,aS,jn,cB,cC,wI,wJ];simp only[BA,ak,aj,aq,ah,zd,ze,bS,bT,ig];simp only[j4,qg,zd,ze,aS,jn,cB,cC,wI,wJ]
    try simp only[BA,ak,aj,aq,ah,zd,ze,bS,bT,ig,N2,Qu]
    refine zi ?_;simp only[BA,av,ak,aq,ah,aA,zd,ze,bS,bT,oK,zl4 hg (show 21<=n by omega)]
    refine zi ?_;simp only[BA,av,ak,aq,ah,aA,zd,ze,bS,bT,oM,zl5 hg (show 21<=n by omega)]
    refine zi ?_;simp only[BA,ak,aq,zd,ze,bS,bT,GV,Qt];simp only[go_ret,zp,we,wk,Fx,hJ,TS hu]
    exact⟨trivial,_,lP _ _ _ _ _ _ rfl,rfl,_,rfl⟩
  ·refine .inr ⟨by simpa using h6,?_⟩
   have hJ:zP op k ⟨an,af,al⟩ ⟨bn,bf,bl⟩ ns=(⟨an && bn,if an then jB af bf else af,if bn then jB al bl else bl⟩,mF bf (jh al 19) ns):=by rw[zP,if_neg FB,if_neg h6]
   have FC:∀j,i=some j->j<bs.length:=λj hj=>by subst hj;exact hu.lt
   have IF:Cx.bC ⟨prog,gl.g,zj prog gl n,fy⟩ 57 [.ptr bm 0,.ptr bs.length 20,.ptr (bs.length+1) 1] ⟨bs++[aV.cells (zo ⟨an,af,al⟩) 117,.cells (zo ⟨bn,bf,bl⟩) 117,.cells (zo ⟨false,cQ,cQ⟩) 117],[]⟩=some (.val (.bq []),⟨ee bs i (mF bf (jh al 19) ns)++[aV.cells (zo ⟨an,af,al⟩) 117,.cells (zo ⟨bn,bf,bl⟩) 117,.cells (zo ⟨false,cQ,cQ⟩) 117],[]⟩):=by
    have h:=XT hg (n:=n - 1) (by omega) (bs:=bs++[aV.cells (zo ⟨an,af,al⟩) 117,.cells (zo ⟨bn,bf,bl⟩) 117,.cells (zo ⟨false,cQ,cQ⟩) 117]) (es:=[]) (bm:=bm) (bl:=bs.length) (bf:=bs.length+1) (ns:=ns) (i:=i) ((gB bR).trans hm) (hu.frame λj hj=>gB (FC j hj)) (NY.trans (by rw[Qs ⟨an,af,al⟩];rfl)) (ol:=20) (by simp[jE]) ((gN (k:=1)).trans (by rw[N1 ⟨bn,bf,bl⟩];rfl)) (ob:=1) rfl dJ
    rw[show n - 1+1=n by omega,zhr FC] at h
    exact zu func57 rfl h
   refine zi ?_;simp only[BA,av,ak,aq,ah,aA,zd,ze,bS,bT,oK,oM,IF];obtain⟨B,hB⟩:∃B,B=ee bs i (mF bf (jh al 19) ns):=⟨_,rfl⟩;have Qh:B.length=bs.length:=by rw[hB,yI]
   rw[<- hB,<- Qh];refine zi ?_;simp only[BA,ak,aq,ah,zd,ze,bS,bT,ig,X_];have h60:∀(B ls:List aV) x (p:Part) es,zk prog ⟨B++x::.cells (zo p) 117::ls,es⟩ gl.g 115 (.ptr (B.length+1) 20)=some (.agg (pv 19 p.last)):=λB ls x p es=>by
    rw[XX (k:=1) X9 Qr rfl (by rw[qW];decide),zkv]
   have Ya:∀(B ls:List aV)(p:Part) l es env,qr prog 115 ⟨B++.cells (zo p) 117::ls,es⟩ [] [] (some (.agg (pv 19 l),env)) (some (.ptr B.length 20))=some (.skip,⟨env,⟨B++.cells (zo ⟨p.null,p.first,l⟩) 117::ls,es⟩,[],[]⟩):=λB ls p l es env=>by
    rw[zlZ (cs:=zo p) (ty:=117) Qr rfl rfl (by simp[V.laid,jE]) (by rw[qW];decide) yq zpz]
    simp only[V.laid,zl1,zl2,bS]
   cases an
   all_goals
    first
     |refine .inl ⟨rfl,?_⟩
      refine zi ?_;simp only[BA,av,ak,aq,ah,aA,zd,ze,bS,bT,oK,zl4 hg (show 21<=n by omega)]
     |refine .inr ⟨rfl,?_⟩
    refine zi ?_;simp only[BA,ak,aq,ah,zd,ze,bS,bT,ig,N2]
   all_goals cases bn
   all_goals
    first
     |refine .inl ⟨rfl,?_⟩
      refine zi ?_;simp only[BA,av,ak,aq,ah,aA,zd,ze,bS,bT,oM,zl5 hg (show 21<=n by omega)]
     |refine .inr ⟨rfl,?_⟩
      refine zi ?_;simp only[BA,ak,aq,ah,zd,ze,bS,bT,oM,h60,Ya]
    refine zi ?_;simp only[BA,ak,aq,ah,zd,ze,bS,bT,ig,X_];simp only[j4,qg,zd,ze,aS,jn,cw,cA,wI,wJ]
    simp only[BA,ak,aj,aq,ah,zd,ze,bS,bT,ig];simp only[j4,qg,zd,ze,aS,jn,cw,cA,wI,wJ]
    try simp only[BA,ak,aj,aq,ah,zd,ze,bS,bT,ig,N2,Qu]
    refine zi ?_;simp only[BA,ak,aq,zd,ze,bS,bT,GV,Qt];simp only[go_ret,zp,Fx,hJ,<- hB]
    exact⟨trivial,_,lP _ _ _ _ _ _ rfl,rfl,_,rfl⟩
end
section
variable{gl:Gl}
def xT(mn mx:Int)(p:Part)(ns:List (Nat->Bool)):Part×List (Nat->Bool) :=
 (⟨p.null || mn == 0,p.first,p.last⟩,if mx<0 then mF p.first (jh p.last 19) ns else ns)
theorem FD:zB prog 53 4=some 7:=by kernel_rfl
theorem L1:zB prog 53 5=some 8:=by kernel_rfl
theorem zfR(hg:GW gl){n:Nat}(hn:1301<=n){bs:List aV}{es:aN}{bm:Nat}{a0 a1 c:V}{i:Option Nat}{ns:List (Nat->Bool)}{op pl s0 s1 s2 s3 mn mx:Int}{text:bN}{nl:Bool}{args:List E}{p:Part}{NX:aB}
  (hm:nth bs bm=some (.cells [a0,a1,c] NX)) (hu:UL ⟨bs,es⟩ 19 115 c i (ns.map (pv 19))) (dJ:∀k∈jh p.last 19,k<ns.length) :
  zj prog gl (n+1) 95 [.ptr bm 0,enc (.mk op pl s0 s1 s2 s3 text mn mx nl args),.agg (zo p)] ⟨bs,es⟩=some (.ret (.agg (zo (xT mn mx p ns).1)),⟨ee bs i (xT mn mx p ns).2,es⟩):=by
 have bR:bm<bs.length:=kI (H:=⟨bs,es⟩) hm
 suffices bL:(go ⟨prog,gl,zj prog gl n,fy⟩ n (Fx prog f95.results.toList λw H1=>w=.agg (zo (xT mn mx p ns).1)/\∃ls,H1=⟨ee bs i (xT mn mx p ns).2++ls,[]⟩) [.c (f95.body.getD .skip)] .normal ⟨[.ptr bm 0,enc (.mk op pl s0 s1 s2 s3 text mn mx nl args),.agg (zo p)]++List.replicate 20 (.bq []),⟨bs,[]⟩,[],[]⟩) by
  obtain⟨w,H1,h0,rfl,ls,rfl⟩:=zQ (gl:=gl) (f:=95) (bs:=bs) (es:=es) (args:=[.ptr bm 0,enc (.mk op pl s0 s1 s2 s3 text mn mx nl args),.agg (zo p)]) (n:=n) (hg.hk _ _ (by decide)) (λH=>hg.fG _ _ _ _) func95 rfl (by rw[hg.uq];exact bL)
  rw[h0];have:=z8 (bs:=ee bs i (xT mn mx p ns).2) (ls:=ls) (es:=es) (t:=(V.agg (zo (xT mn mx p ns).1)).top) (by simp[V.top,yJ])
  rw[yI] at this;rw[this]
 have oJ:∀p:Part,dz (V.agg (zo p))=true:=λ_=>rfl;have JW:dz (enc (.mk op pl s0 s1 s2 s3 text mn mx nl args))=true:=rfl;simp only[f95,fQ,zh];refine zi ?_;simp only[enc] at JW ⊢
 simp only[BA,aq,zc,Nat.reduceAdd,zd,ze,bS,bT,z7 JW,z7 (oJ p),LX,zH (oJ ⟨false,cQ,cQ⟩),V.laid,V.cells,wQ,zY,List.replicate]
 generalize hX:aV.cells [V.int IntKind.i64 op,V.int IntKind.i64 pl,V.int IntKind.u64 s0,V.int IntKind.u64 s1,V.int IntKind.u64 s2,V.int IntKind.u64 s3,V.str text,V.int IntKind.i64 mn,V.int IntKind.i64 mx,ye nl (fe args)] 53=X;have hmx:∀(B ls:List aV) es,zk prog ⟨B++X::ls,es⟩ gl.g 3 (.ptr B.length 8)=some (.int .i64 mx):=λB ls es=>XW NW (by rw[<- hX];rfl) rfl
 have N3:∀(B ls:List aV) es,zk prog ⟨B++X::ls,es⟩ gl.g 3 (.ptr B.length 7)=some (.int .i64 mn):=λB ls es=>XW NW (by rw[<- hX];rfl) rfl
 have Ew:∀(B ls:List aV) x (p:Part) es,zk prog ⟨B++x::.cells (zo p) 117::ls,es⟩ gl.g 117 (.ptr (B.length+1) 0)=some (.agg (zo p)):=λB ls x p es=>Eu (k:=1) rfl;have N2:∀(B ls:List aV) x (p:Part) es,zk prog ⟨B++x::.cells (zo p) 117::ls,es⟩ gl.g 4 (.ptr (B.length+1) 0)=some (.bool p.null):=λB ls x p es=>XV (k:=1) NZ rfl rfl
 have Qt:∀(B:List aV) x y (p q:Part) es env,qr prog 117 ⟨B++[x,y,.cells (zo q) 117],es⟩ [] [] (some (.agg (zo p),env)) (some (.ptr (B.length+2) 0))=some (.skip,⟨env,⟨B++[x,y,.cells (zo p) 117],es⟩,[],[]⟩):=λB x y p q es env=>Qb (k:=2) rfl
 have Yb:∀(B ls:List aV) x (p:Part) es env v,qr prog 4 ⟨B++x::.cells (zo p) 117::ls,es⟩ [] [] (some (.bool v,env)) (some (.ptr (B.length+1) 0))=some (.skip,⟨env,⟨B++x::.cells (zo ⟨v,p.first,p.last⟩) 117::ls,es⟩,[],[]⟩):=λB ls x p es env v=>by
  rw[JT (k:=1) (cs:=zo p) (ty:=117) XZ rfl rfl rfl (by rw[qW];decide) yq rfl]
  rfl
 have lP:∀(B:List aV) x y (p:Part) es (env:aD),nth env 6=some (.ptr (B.length+2) 0)->zx prog ⟨B++[x,y,.cells (zo p) 117],es⟩ env [.cell 6 117]=some [.agg (zo p)]:=λB x y p es env he=>by
  simp only[zx,he];rw[Eu (k:=2) rfl];simp[aW]
 refine zi ?_;simp only[BA,ak,aj,aq,ah,zd,ze,bS,bT,L1,hmx,qU];have FC:∀j,i=some j->j<bs.length:=λj hj=>by subst hj;exact hu.lt
 obtain⟨pn,pf,pl⟩:=p;have IF:Cx.bC ⟨prog,gl.g,zj prog gl n,fy⟩ 57 [.ptr bm 0,.ptr (bs.length+1) 20,.ptr (bs.length+1) 1] ⟨bs++[X,.cells (zo ⟨pn,pf,pl⟩) 117,.cells (zo ⟨false,cQ,cQ⟩) 117],[]⟩=some (.val (.bq []),⟨ee bs i (mF pf (jh pl 19) ns)++[X,.cells (zo ⟨pn,pf,pl⟩) 117,.cells (zo ⟨false,cQ,cQ⟩) 117],[]⟩):=by
  have h:=XT hg (n:=n - 1) (by omega) (bs:=bs++[X,.cells (zo ⟨pn,pf,pl⟩) 117,.cells (zo ⟨false,cQ,cQ⟩) 117]) (es:=[]) (bm:=bm) (bl:=bs.length+1) (bf:=bs.length+1) (ns:=ns) (i:=i) ((gB bR).trans hm) (hu.frame λj hj=>gB (FC j hj)) ((gN (k:=1)).trans (by rw[Qs ⟨pn,pf,pl⟩];rfl)) (ol:=20) (by simp[jE]) ((gN (k:=1)).trans (by rw[N1 ⟨pn,pf,pl⟩];rfl)) (ob:=1) rfl dJ
  rw[show n - 1+1=n by omega,zhr FC] at h
  exact zu func57 rfl h
 obtain⟨ns',ov⟩:∃ns',ns'=(xT mn mx ⟨pn,pf,pl⟩ ns).2:=⟨_,rfl⟩;rw[<- ov];obtain⟨B,hB⟩:∃B,B=ee bs i ns':=⟨_,rfl⟩;have Qh:B.length=bs.length:=by rw[hB,yI]
 have hP:(xT mn mx ⟨pn,pf,pl⟩ ns).1=⟨pn || mn == 0,pf,pl⟩:=rfl
 rcases Classical.em (mx<0) with h|h
 all_goals
  first
   |refine .inl ⟨by simpa using h,?_⟩
    refine zi ?_;have:ns'=mF pf (jh pl 19) ns:=by rw[ov];exact if_pos h
    rw[<- this] at IF;simp only[BA,av,ak,aq,ah,aA,zd,ze,bS,bT,oK,oM,IF,<- hB];rw[<- Qh]
   |refine .inr ⟨by simpa using h,?_⟩
    have:ns'=ns:=by rw[ov];exact if_neg h
    have hBb:B=bs:=by rw[hB,this];exact TS hu
    rw[<- hB,<- hBb]
  refine zi ?_;simp only[BA,ak,aq,ah,zd,ze,bS,bT,ig,N2];cases pn
 all_goals
  simp only[j4,qg,zd,ze,aS,jn,cB,cC,wI,wJ]
  try simp only[BA,ak,aj,aq,ah,zd,ze,bS,bT,FD]
  try simp only[j4,qg,zd,ze,aS,jn,cB,cC,wI,wJ]
  try simp only[BA,ak,aq,zd,ze,bS,bT,N3]
  try simp only[j4,qg,zd,ze,aS,jn,cC,wI]
  try simp only[BA,ak,aj,aq,ah,zd,ze,bS,bT,wM,ig,Yb]
  refine zi ?_;simp only[BA,ak,aq,zd,ze,bS,bT,Ew,Qt];simp only[go_ret,zp,Fx,hP]
  exact⟨trivial,_,lP _ _ _ _ _ _ rfl,rfl,_,rfl⟩
theorem u84:prog.underlying 149=some (.slice 157):=JS.u
theorem zkw(hg:GW gl){n:Nat}{bs:List aV}{es:aN}{b:Nat}{c:V}{ty:aB}{i:Option Nat}{xs:List aD}(hb:nth bs b=some (.cells [c] ty))(hu:UL ⟨bs,es⟩ 11 157 c i xs) :
  zj prog gl (n+1) 89 [.ptr b 0] ⟨bs,es⟩=some (.ret (.bool xs.isEmpty),⟨bs,es⟩):=by
 suffices bL:(go ⟨prog,gl,zj prog gl n,fy⟩ n (Fx prog f89.results.toList λw H1=>w=.bool xs.isEmpty/\H1=⟨bs,[]⟩) [.c (f89.body.getD .skip)] .normal ⟨[.ptr b 0]++List.replicate 8 (.bq []),⟨bs,[]⟩,[],[]⟩) by
  obtain⟨w,H1,h0,rfl,rfl⟩:=zQ (gl:=gl) (f:=89) (bs:=bs) (es:=es) (args:=[.ptr b 0]) (n:=n) (hg.hk _ _ (by decide)) (λH=>hg.fG _ _ _ _) func89 rfl (by rw[hg.uq];exact bL)
  rw[h0];have:=z8 (bs:=bs) (ls:=[]) (es:=es) (t:=(V.bool xs.isEmpty).top) (eg _);rw[mT] at this;rw[this]
 have gw:zk prog ⟨bs,[]⟩ gl.g 149 (.ptr b 0)=some c:=zq CF hb rfl;have gG:aW c=c/\jb prog ⟨bs,[]⟩ 149 c=some (xs.length:Int):=by
  cases i with
  | none=>obtain⟨rfl,rfl⟩:=hu;exact⟨rfl,zeT u84⟩
  | some j=>obtain⟨v,rfl,_⟩:=hu;exact⟨rfl,xo u84⟩
 have he:((xs.length:Int) == 0)=xs.isEmpty:=by cases xs<;>simp;omega
 simp only[f89,fQ,zh];refine zi ?_;simp only[BA,aj,aq,bS,bT,List.replicate];refine zi ?_
 simp only[BA,ak,aj,aq,aa,ah,zd,ze,bS,bT,CE,gw,gG.1,gG.2,wM,he];simp only[go_ret,zp,Fx]
 exact⟨trivial,[.bool xs.isEmpty],rfl,rfl,trivial⟩
end
section
variable{gl:Gl}
theorem TU{P:aQ}(fG:∀n f args H,gl.fG n f args H=none){n:Nat}{f:FuncId}{args:aD}{H H':Hp}{o:Out}(h:zj P gl n f args H=some (o,H')):∀e∈H.bG,e∈H'.bG:=by
 intro e he;obtain⟨bs,es⟩:=H;have iE:∀(t:Nat)(H1:Hp),e∈(zW bs.length es t H1).bG:=λt H1=>by
  unfold zW;split<;>exact C2 _ he
 cases n with
 | zero=>simp[zj] at h
 | succ n =>
  simp only[zj,qz,eE,fG] at h;split at h
  ·simp only[br,cg] at h;obtain⟨_,rfl⟩:=h;exact he
  ·split at h<;>try (cases h;done)
   split at h<;>try (cases h;done)
   split at h<;>try (cases h;done)
   split at h<;>try (cases h;done)
   split at h<;>try (cases h;done)
   ·simp only[kV,br,cg] at h;rw[<- h.2];exact iE _ _
   ·split at h<;>try (cases h;done)
    simp only[qp,kV,br,cg] at h;rw[<- h.2];exact iE _ _
def aK:E->aD
 | .mk op pl s0 s1 s2 s3 text mn mx nl args=>[.int .i64 op,.int .i64 pl,.int .u64 s0,.int .u64 s1,.int .u64 s2,.int .u64 s3,.str text,.int .i64 mn,.int .i64 mx,ye nl (fe args)]
theorem qA(e:E):enc e=.agg (aK e):=by cases e;rfl
theorem zZ(e:E):(aK e).length=10:=by cases e;rfl
theorem qi(e:E):(aK e).map aW=aK e:=by cases e;simp[aK,zY,zR,kN]
theorem vZ(e:E):aI (aK e)=0:=by have:=u7 e;rwa [qA] at this
theorem Yc(e:E):(aK e).all (λc=>!(locked c))=true:=by
 obtain⟨op,pl,s0,s1,s2,s3,text,mn,mx,nl,args⟩:=e;rcases vG nl (fe args) with h|⟨_,h⟩<;>simp[aK,h,locked]
def rS(f:E×Nat):aD:=aK f.1++[.int .i64 (f.2:Int)]
theorem N4(f:E×Nat):(rS f).length=11:=by simp[rS,zZ]
theorem Yd(f:E×Nat):(rS f).map aW=rS f:=by simp[rS,qi,zR]
theorem zhs(f:E×Nat):aI (rS f)=0:=gz (vZ _) rfl
def Kp(N bm:Nat)(H H':Hp):Prop:=∀d cs ty,d≠bm->d≠N+2->d≠N+3->H.get d=some (.cells cs ty)->H'.get d=some (.cells cs ty)
theorem Kp.refl{N bm:Nat}{H:Hp}:Kp N bm H H:=λ_ _ _ _ _ _ h=>h
structure WS(bs:List aV)(bm:Nat)(i0:Option Nat)(H:Hp)(S:List (E×Nat))(ps:List Part)(m:Mk):Prop where
 len:bs.length+4<=H.az.length
 lt:bm<bs.length
 op:∃c i,H.get (bs.length+2)=some (.cells [c] 151)/\UL H 11 157 c i (S.reverse.map rS)/\∀j,i=some j->bs.length<=j
 dn:∃c i,H.get (bs.length+3)=some (.cells [c] 154)/\UL H 39 117 c i (ps.reverse.map zo)/\∀j,i=some j->bs.length<=j
 AJ:∃i,MK bs.length H bm m i/\JU bs.length i0 i
 fr:∀d,d<bs.length->d≠bm->i0≠some d->H.get d=nth bs d
theorem L3{H:Hp}{sz:Nat}{e:aB}{c:V}{i:Option Nat}{xs:List aD}(h:UL H sz e c i xs){d:Nat}{cs:aD}{ty:aB}(hd:H.get d=some (.cells cs ty)):i≠some d:=by
 intro e;subst e;obtain⟨v,_,h2⟩:=h;rw[hd] at h2;cases h2
theorem WS.opened{bs:List aV}{bm:Nat}{i0:Option Nat}{H H':Hp}{S S':List (E×Nat)}{ps:List Part}{m:Mk}(h:WS bs bm i0 H S ps m)
  (Aw:∀e∈H.bG,e∈H'.bG) {co c':V} {io i':Option Nat} (a1:H.get (bs.length+2)=some (.cells [co] 151)) (a2:UL H 11 157 co io (S.reverse.map rS)) (a3:∀j,io=some j->bs.length<=j)
  (h1:H'.get (bs.length+2)=some (.cells [c'] 151)) (h2:UL H' 11 157 c' i' (S'.reverse.map rS))
  (hi:∀j,i'=some j->io=some j\/H.az.length<=j) (hf:sF H H' (λd=>d=bs.length+2\/io=some d)):WS bs bm i0 H' S' ps m/\Kp bs.length bm H H':=by
 obtain⟨cd,id,b1,b2,b3⟩:=h.dn;obtain⟨im,⟨cm,k1,k2,k3⟩,k4⟩:=h.AJ;have hlen:=h.len;have Ey:∀d,io=some d->bs.length<=d/\∃v cs,H.get d=some (.ul v 11 cs 157):=λd hd=>by
  subst hd;obtain⟨v,_,g⟩:=a2;exact⟨a3 d rfl,v,_,g⟩
 have FE:∀d cs ty,d≠bs.length+2->H.get d=some (.cells cs ty)->H'.get d=some (.cells cs ty):=λd cs ty hd hg=>hf.some hg λhc=>by
  rcases hc with rfl|hc
  ·exact hd rfl
  ·obtain⟨_,v,cs',g⟩:=Ey d hc;rw[hg] at g;cases g
 have Qv:∀d v sz cs e,e≠157->H.get d=some (.ul v sz cs e)->H'.get d=some (.ul v sz cs e):=λd v sz cs e he hg=>hf.some hg λhc=>by
  rcases hc with rfl|hc
  ·rw[a1] at hg;cases hg
  ·obtain⟨_,v',cs',g⟩:=Ey d hc;rw[hg] at g;injection g with g;injection g with _ _ _ g;exact he g
 have Ez:∀{sz e c i xs},e≠157->UL H sz e c i xs->UL H' sz e c i xs:=λ{sz e c i xs} he hu=>hu.frame λj hj=>by
  subst hj;obtain⟨v,_,g⟩:=hu;rw[g,Qv _ _ _ _ _ he g]
 refine⟨⟨cP hlen hf.len,h.lt,⟨c',i',h1,h2,λj hj=>?_⟩,⟨cd,id,FE _ _ _ (by omega) b1,Ez (by decide) b2,b3⟩,⟨im,⟨cm,FE _ _ _ (by have:=h.lt;omega) k1,Ez (by decide) k2,λj hj hn=>⟨(k3 j hj hn).1,Aw _ (k3 j hj hn).2⟩⟩,k4⟩,λd hd JX JY=>?_⟩,λd cs ty _ h2 _ hg=>FE d cs ty h2 hg⟩
 ·rcases hi j hj with hc|hc
  ·exact(Ey j hc).1
  ·omega
 ·rw[<- h.fr d hd JX JY];refine hf.get d (by omega) λhc=>?_
  rcases hc with rfl|hc
  ·omega
  ·have:=(Ey d hc).1;omega
theorem WS.Qw{bs:List aV}{bm:Nat}{i0:Option Nat}{H H':Hp}{S:List (E×Nat)}{ps ps':List Part}{m:Mk}(h:WS bs bm i0 H S ps m)
  (Aw:∀e∈H.bG,e∈H'.bG) {co c':V} {io i':Option Nat} (a1:H.get (bs.length+3)=some (.cells [co] 154)) (a2:UL H 39 117 co io (ps.reverse.map zo)) (a3:∀j,io=some j->bs.length<=j)
  (h1:H'.get (bs.length+3)=some (.cells [c'] 154)) (h2:UL H' 39 117 c' i' (ps'.reverse.map zo))
  (hi:∀j,i'=some j->io=some j\/H.az.length<=j) (hf:sF H H' (λd=>d=bs.length+3\/io=some d)):WS bs bm i0 H' S ps' m/\Kp bs.length bm H H':=by
 obtain⟨cd,id,b1,b2,b3⟩:=h.op;obtain⟨im,⟨cm,k1,k2,k3⟩,k4⟩:=h.AJ;have hlen:=h.len;have Ey:∀d,io=some d->bs.length<=d/\∃v cs,H.get d=some (.ul v 39 cs 117):=λd hd=>by
  subst hd;obtain⟨v,_,g⟩:=a2;exact⟨a3 d rfl,v,_,g⟩
 have FE:∀d cs ty,d≠bs.length+3->H.get d=some (.cells cs ty)->H'.get d=some (.cells cs ty):=λd cs ty hd hg=>hf.some hg λhc=>by
  rcases hc with rfl|hc
  ·exact hd rfl
  ·obtain⟨_,v,cs',g⟩:=Ey d hc;rw[hg] at g;cases g
 have Qv:∀d v sz cs e,e≠117->H.get d=some (.ul v sz cs e)->H'.get d=some (.ul v sz cs e):=λd v sz cs e he hg=>hf.some hg λhc=>by
  rcases hc with rfl|hc
  ·rw[a1] at hg;cases hg
  ·obtain⟨_,v',cs',g⟩:=Ey d hc;rw[hg] at g;injection g with g;injection g with _ _ _ g;exact he g
 have Ez:∀{sz e c i xs},e≠117->UL H sz e c i xs->UL H' sz e c i xs:=λ{sz e c i xs} he hu=>hu.frame λj hj=>by
  subst hj;obtain⟨v,_,g⟩:=hu;rw[g,Qv _ _ _ _ _ he g]
 refine⟨⟨cP hlen hf.len,h.lt,⟨cd,id,FE _ _ _ (by omega) b1,Ez (by decide) b2,b3⟩,⟨c',i',h1,h2,λj hj=>?_⟩,⟨im,⟨cm,FE _ _ _ (by have:=h.lt;omega) k1,Ez (by decide) k2,λj hj hn=>⟨(k3 j hj hn).1,Aw _ (k3 j hj hn).2⟩⟩,k4⟩,λd hd JX JY=>?_⟩,λd cs ty _ _ h3 hg=>FE d cs ty h3 hg⟩
 ·rcases hi j hj with hc|hc
  ·exact(Ey j hc).1
  ·omega
 ·rw[<- h.fr d hd JX JY];refine hf.get d (by omega) λhc=>?_
  rcases hc with rfl|hc
  ·omega
  ·have:=(Ey d hc).1;omega
theorem WS.made{bs:List aV}{bm:Nat}{i0:Option Nat}{H H':Hp}{S:List (E×Nat)}{ps:List Part}{m m':Mk}(h:WS bs bm i0 H S ps m)
  {i i':Option Nat} (k0:JU bs.length i0 i) (hm:MK bs.length H bm m i) (ON:MK bs.length H' bm m' i') (hn:JU H.az.length i i')
  (hf:sF H H' (λd=>d=bm\/i=some d)):WS bs bm i0 H' S ps m'/\Kp bs.length bm H H':=by
 obtain⟨co,io,a1,a2,a3⟩:=h.op;obtain⟨cd,id,b1,b2,b3⟩:=h.dn;obtain⟨cm,k1,k2,k3⟩:=hm;have hlen:=h.len;have bR:=h.lt;have Ey:∀d,i=some d->∃v cs,H.get d=some (.ul v 19 cs 115):=λd hd=>by
  subst hd;obtain⟨v,_,g⟩:=k2;exact⟨v,_,g⟩
 have FE:∀d cs ty,d≠bm->H.get d=some (.cells cs ty)->H'.get d=some (.cells cs ty):=λd cs ty hd hg=>hf.some hg λhc=>by
  rcases hc with rfl|hc
  ·exact hd rfl
  ·obtain⟨v,cs',g⟩:=Ey d hc;rw[hg] at g;cases g
 have Qv:∀d v sz cs e,e≠115->H.get d=some (.ul v sz cs e)->H'.get d=some (.ul v sz cs e):=λd v sz cs e he hg=>hf.some hg λhc=>by
  rcases hc with rfl|hc
  ·rw[k1] at hg;cases hg
  ·obtain⟨v',cs',g⟩:=Ey d hc;rw[hg] at g;injection g with g;injection g with _ _ _ g;exact he g
 have Ez:∀{sz e c i xs},e≠115->UL H sz e c i xs->UL H' sz e c i xs:=λ{sz e c i xs} he hu=>hu.frame λj hj=>by
  subst hj;obtain⟨v,_,g⟩:=hu;rw[g,Qv _ _ _ _ _ he g]
 refine⟨⟨cP hlen hf.len,bR,⟨co,io,FE _ _ _ (by omega) a1,Ez (by decide) a2,a3⟩,⟨cd,id,FE _ _ _ (by omega) b1,Ez (by decide) b2,b3⟩,⟨i',ON,?_⟩,λd hd JX JY=>?_⟩,λd cs ty h1 _ _ hg=>FE d cs ty h1 hg⟩
 ·rcases hn with rfl|⟨rfl,j,rfl,hj⟩
  ·exact k0
  ·rcases k0 with rfl|⟨rfl,j',h1,_⟩
   ·exact .inr ⟨rfl,j,rfl,by omega⟩
   ·cases h1
 ·rw[<- h.fr d hd JX JY];refine hf.get d (by omega) λhc=>?_
  rcases hc with rfl|hc
  ·exact JX rfl
  ·rcases k0 with rfl|⟨rfl,j',h1,h2⟩
   ·exact JY hc
   ·rw[h1] at hc;cases hc;omega
theorem WS.push{bs:List aV}{bm:Nat}{i0:Option Nat}{H:Hp}{S:List (E×Nat)}{ps:List Part}{m:Mk}(h:WS bs bm i0 H S ps m){x:aV}:WS bs bm i0 (H.push x) S ps m/\Kp bs.length bm H (H.push x):=by
 have hf:sF H (H.push x) (λ_=>False):=⟨by rw[jl];omega,λd hd _=>jG hd⟩
 obtain⟨co,io,a1,a2,a3⟩:=h.op;refine h.opened (λe he=>he) a1 a2 a3 (hf.some a1 id) (a2.frame λj hj=>?_) (λj hj=>.inl hj) (hf.mono λ_ _ h=>h.elim);subst hj;exact jG a2.lt
theorem WS.CM{bs:List aV}{bm:Nat}{i0:Option Nat}{H:Hp}{S:List (E×Nat)}{ps:List Part}{m:Mk}(h:WS bs bm i0 H S ps m){b:Nat}{cs cs':aD}{ty ty':aB}(hb:H.get b=some (.cells cs ty))(h0:bs.length<=b)(h2:b≠bs.length+2)(h3:b≠bs.length+3):WS bs bm i0 (H.set b (.cells cs' ty')) S ps m:=by
 obtain⟨co,io,a1,a2,a3⟩:=h.op;obtain⟨cd,id,b1,b2,b3⟩:=h.dn;obtain⟨im,⟨cm,k1,k2,k3⟩,k4⟩:=h.AJ;have bR:=h.lt;have Ez:∀{sz e c i xs},UL H sz e c i xs->UL (H.set b (.cells cs' ty')) sz e c i xs:=λ{sz e c i xs} hu=>hu.frame λj hj=>qB λe=>by
  subst hj e;obtain⟨v,_,g⟩:=hu;rw[hb] at g;cases g
 exact⟨by rw[wm];exact h.len,bR,⟨co,io,(qB (Ne.symm h2)).trans a1,Ez a2,a3⟩,⟨cd,id,(qB (Ne.symm h3)).trans b1,Ez b2,b3⟩,⟨im,⟨cm,(qB (by omega)).trans k1,Ez k2,k3⟩,k4⟩,λd hd JX JY=>(qB (by omega)).trans (h.fr d hd JX JY)⟩
end
section
variable{gl:Gl}
noncomputable abbrev JZ(gl:Gl)(n:Nat):Cx:=⟨prog,gl.g,zj prog gl n,fy⟩
variable{bs:List aV}{bm:Nat}{i0:Option Nat}{H:Hp}{S:List (E×Nat)}{ps:List Part}{m:Mk}
theorem zpA{k:Nat}(h:k<2 ^ 32):kx (k+1) 112=true:=dG (by omega) (by omega)
theorem zpB{k:Nat}(h:k<2 ^ 32):kx (k+1) 312=true:=dG (by omega) (by omega)
theorem WS.FF(hg:GW gl){n:Nat}(hn:1<=n)(h:WS bs bm i0 H S ps m)(f:E×Nat)(hr:S.length<2 ^ 32) :
  ∃H',(JZ gl n).bC 88 [.ptr (bs.length+2) 0,.agg (rS f)] H=some (.val (.bq []),H')/\WS bs bm i0 H' (f::S) ps m/\Kp bs.length bm H H':=by
 obtain⟨co,io,a1,a2,a3⟩:=h.op;obtain⟨H',c',j,h1,h2,h3,h4,h5,h6⟩:=zpt hg (n:=n - 1) a1 a2 (L3 a2 a1) (N4 f) (Yd f) (by rw[gC,List.length_reverse];exact zpA hr)
 rw[show n - 1+1=n by omega] at h1
 have:=h.opened (S':=f::S) (TU hg.fG h1) a1 a2 a3 h2 (by simpa using h3) (λk hk=>by cases hk;exact h5) h6
 exact⟨H',zu func88 rfl h1,this.1,this.2⟩
theorem WS.Ye(hg:GW gl){n:Nat}(hn:1<=n){f:E×Nat}(h:WS bs bm i0 H (f::S) ps m)(hr:S.length<2 ^ 32) :
  ∃H',(JZ gl n).bC 90 [.ptr (bs.length+2) 0] H=some (.val (.agg (rS f)),H')/\WS bs bm i0 H' S ps m/\Kp bs.length bm H H':=by
 obtain⟨co,io,a1,a2,a3⟩:=h.op;obtain⟨j,rfl⟩:∃j,io=some j:=by
  cases io with
  | none=>exact absurd a2.2 (by simp)
  | some j=>exact⟨j,rfl⟩
 have Yf:UL H 11 157 co (some j) (S.reverse.map rS++[rS f]):=by simpa using a2
 obtain⟨H',c',h1,h2,h3,h6⟩:=zqd hg (n:=n - 1) a1 Yf (λe=>L3 a2 a1 (by rw[e])) (N4 f) (Yd f) (zhs f) (λy hy=>by obtain⟨z,_,rfl⟩:=mj.1 hy;exact N4 z) (by rw[gC,List.length_reverse];omega)
 rw[show n - 1+1=n by omega] at h1
 have:=h.opened (S':=S) (TU hg.fG h1) a1 a2 a3 h2 h3 (λk hk=>.inl hk) (h6.mono λd _ hd=>by rcases hd with h|h;exact .inl h;exact .inr (by rw[h]))
 exact⟨H',zu func90 rfl h1,this.1,this.2⟩
theorem WS.Dl(hg:GW gl){n:Nat}(hn:1<=n)(h:WS bs bm i0 H S ps m)(p:Part)(hr:ps.length<2 ^ 32) :
  ∃H',(JZ gl n).bC 91 [.ptr (bs.length+3) 0,.agg (zo p)] H=some (.val (.bq []),H')/\WS bs bm i0 H' S (p::ps) m/\Kp bs.length bm H H':=by
 obtain⟨co,io,a1,a2,a3⟩:=h.dn;obtain⟨H',c',j,h1,h2,h3,h4,h5,h6⟩:=zpu hg (n:=n - 1) a1 a2 (L3 a2 a1) qW wQ (by rw[gC,List.length_reverse];exact zpB hr)
 rw[show n - 1+1=n by omega] at h1
 have:=h.Qw (ps':=p::ps) (TU hg.fG h1) a1 a2 a3 h2 (by simpa using h3) (λk hk=>by cases hk;exact h5) h6
 exact⟨H',zu func91 rfl h1,this.1,this.2⟩
theorem WS.IG(hg:GW gl){n:Nat}(hn:1<=n){p:Part}(h:WS bs bm i0 H S (p::ps) m)(hr:ps.length<2 ^ 32) :
  ∃H',(JZ gl n).bC 93 [.ptr (bs.length+3) 0] H=some (.val (.agg (zo p)),H')/\WS bs bm i0 H' S ps m/\Kp bs.length bm H H':=by
 obtain⟨co,io,a1,a2,a3⟩:=h.dn;obtain⟨j,rfl⟩:∃j,io=some j:=by
  cases io with
  | none=>exact absurd a2.2 (by simp)
  | some j=>exact⟨j,rfl⟩
 have Yf:UL H 39 117 co (some j) (ps.reverse.map zo++[zo p]):=by simpa using a2
 obtain⟨H',c',h1,h2,h3,h6⟩:=zqe hg (n:=n - 1) a1 Yf (λe=>L3 a2 a1 (by rw[e])) qW wQ yJ (λy hy=>by obtain⟨z,_,rfl⟩:=mj.1 hy;exact qW) (by rw[gC,List.length_reverse];omega)
 rw[show n - 1+1=n by omega] at h1
 have:=h.Qw (ps':=ps) (TU hg.fG h1) a1 a2 a3 h2 h3 (λk hk=>.inl hk) (h6.mono λd _ hd=>by rcases hd with h|h;exact .inl h;exact .inr (by rw[h]))
 exact⟨H',zu func93 rfl h1,this.1,this.2⟩
theorem WS.emp(hg:GW gl){n:Nat}(hn:1<=n)(h:WS bs bm i0 H S ps m):(JZ gl n).bC 89 [.ptr (bs.length+2) 0] H=some (.val (.bool S.isEmpty),H):=by
 obtain⟨co,io,a1,a2,a3⟩:=h.op;obtain⟨b,e⟩:=H;have h1:=zkw hg (n:=n - 1) (es:=e) a1 a2;rw[show n - 1+1=n by omega] at h1
 have:(S.reverse.map rS).isEmpty=S.isEmpty:=by cases S<;>simp
 rw[this] at h1;exact zu func89 rfl h1
structure Mk.Ok(m:Mk):Prop where
 r:m.rules.length=m.bZ.length
 n:m.next.length=m.bZ.length
theorem WS.leaf(hg:GW gl){n:Nat}(hn:2<=n)(h:WS bs bm i0 H S ps m)(ek:m.Ok)(hs:m.bZ.length<1216){op pl s0 s1 s2 s3 mn mx r:Int}{text:bN}{nl:Bool}{args:List E} :
  ∃H',(JZ gl n).bC 92 [.ptr bm 0,enc (.mk op pl s0 s1 s2 s3 text mn mx nl args),.int .i64 r] H=some (.val (.agg (zo (jM op (s0,s1,s2,s3) r m).1)),H')/\WS bs bm i0 H' S ps (jM op (s0,s1,s2,s3) r m).2/\Kp bs.length bm H H':=by
 obtain⟨i,k1,k2⟩:=h.AJ;obtain⟨H',i',h1,h2,h3,h4⟩:=zl3 hg (n:=n - 2) (r:=r) (op:=op) (pl:=pl) (s0:=s0) (s1:=s1) (s2:=s2) (s3:=s3) (mn:=mn) (mx:=mx) (text:=text) (nl:=nl) (args:=args) k1 (by have:=h.len;omega) hs (by rw[ek.r];exact hs) (by rw[ek.n];exact hs)
 rw[show n - 2+2=n by omega] at h1
 have:=h.made k2 k1 h2 h3 h4;exact⟨H',zu func92 rfl h1,this.1,this.2⟩
theorem Yg{bs:List aV}{es:aN}{i:Option Nat}{ns:List (Nat->Bool)}{bm:Nat}:sF ⟨bs,es⟩ ⟨ee bs i ns,es⟩ (λd=>d=bm\/i=some d) :=
 ⟨by rw[yI];exact dI _,λd _ hd=>TQ λe=>hd (.inr e)⟩
theorem MK.ee{bs:List aV}{es:aN}{n0 bm:Nat}{m:Mk}{i:Option Nat}(h:MK n0 ⟨bs,es⟩ bm m i){ns:List (Nat->Bool)}(hl:ns.length=m.next.length):MK n0 ⟨ee bs i ns,es⟩ bm { m with next:=ns } i:=by
 obtain⟨c,h1,h2,h3⟩:=h;exact⟨c,(TQ (TR h2 h1)).trans h1,zjq h2 hl,h3⟩
theorem Yh{op:Int}{k:Nat}{a b:Part}{ns:List (Nat->Bool)}:(zP op k a b ns).2.length=ns.length:=by
 unfold zP;split
 ·rfl
 ·split
  ·rfl
  ·simp only[wr]
theorem zht{mn mx:Int}{p:Part}{ns:List (Nat->Bool)}:(xT mn mx p ns).2.length=ns.length:=by
 unfold xT;simp only;split
 ·simp only[wr]
 ·rfl
theorem WS.L4(hg:GW gl){n:Nat}(hn:1302<=n)(h:WS bs bm i0 H S ps m){op:Int}{k:Nat}{a b:Part}(hk:k<2 ^ 60)(dJ:∀k∈jh a.last 19,k<m.next.length) :
  ∃H',(JZ gl n).bC 94 [.ptr bm 0,.int .i64 op,.int .i64 k,.agg (zo a),.agg (zo b)] H=some (.val (.agg (zo (zP op k a b m.next).1)),H')/\WS bs bm i0 H' S ps { m with next:=(zP op k a b m.next).2 }/\Kp bs.length bm H H':=by
 obtain⟨i,k1,k2⟩:=h.AJ;obtain⟨b',e'⟩:=H;obtain⟨c,g1,g2,g3⟩:=k1;have h1:=zik hg (n:=n - 1) (by omega) (es:=e') (op:=op) (b:=b) hk g1 g2 dJ
 rw[show n - 1+1=n by omega] at h1
 have:=h.made k2 ⟨c,g1,g2,g3⟩ (MK.ee (es:=e') ⟨c,g1,g2,g3⟩ (Yh (op:=op) (k:=k) (a:=a) (b:=b))) (.inl rfl) Yg;exact⟨_,zu func94 rfl h1,this.1,this.2⟩
theorem WS.FG(hg:GW gl){n:Nat}(hn:1302<=n)(h:WS bs bm i0 H S ps m){op pl s0 s1 s2 s3 mn mx:Int}{text:bN}{nl:Bool}{args:List E}{p:Part}(dJ:∀k∈jh p.last 19,k<m.next.length) :
  ∃H',(JZ gl n).bC 95 [.ptr bm 0,enc (.mk op pl s0 s1 s2 s3 text mn mx nl args),.agg (zo p)] H=some (.val (.agg (zo (xT mn mx p m.next).1)),H')/\WS bs bm i0 H' S ps { m with next:=(xT mn mx p m.next).2 }/\Kp bs.length bm H H':=by
 obtain⟨i,k1,k2⟩:=h.AJ;obtain⟨b',e'⟩:=H;obtain⟨c,g1,g2,g3⟩:=k1;have h1:=zfR hg (n:=n - 1) (by omega) (es:=e') (op:=op) (pl:=pl) (s0:=s0) (s1:=s1) (s2:=s2) (s3:=s3) (mn:=mn) (mx:=mx) (text:=text) (nl:=nl) (args:=args) g1 g2 dJ
 rw[show n - 1+1=n by omega] at h1
 have:=h.made k2 ⟨c,g1,g2,g3⟩ (MK.ee (es:=e') ⟨c,g1,g2,g3⟩ (zht (mn:=mn) (mx:=mx) (p:=p))) (.inl rfl) Yg;exact⟨_,zu func95 rfl h1,this.1,this.2⟩
end
section
def p0:Part:=⟨false,cQ,cQ⟩
def y9(op mn mx:Int)(x:Part×Mk):Part×Mk:=if op=7 then ((xT mn mx x.1 x.2.next).1,{ x.2 with next:=(xT mn mx x.1 x.2.next).2 }) else x
mutual
def iR(r:Int):E->Mk->Part×Mk
 | .mk op _ s0 s1 s2 s3 _ mn mx _ args,m=>match args with
  | []=>jM op (s0,s1,s2,s3) r m
  | a::tl=>y9 op mn mx (sI r op 0 p0 (a::tl) m)
def sI(r:Int)(op:Int):Nat->Part->List E->Mk->Part×Mk
 | _,a,[],m=>(a,m)
 | k,a,e::es,m=>sI r op (k+1) (zP op k a (iR r e m).1 (iR r e m).2.next).1 es { (iR r e m).2 with next:=(zP op k a (iR r e m).1 (iR r e m).2.next).2 }
end
def EA(r:Int):E×Nat->List Part->Mk->Option (List Part×Mk)
 | (.mk op _pl s0 s1 s2 s3 _tx _mn _mx _nl [],_d),ps,m=>some ((jM op (s0,s1,s2,s3) r m).1::ps,(jM op (s0,s1,s2,s3) r m).2)
 | (.mk op pl s0 s1 s2 s3 tx mn mx nl (a::tl),0),ps,m=>some ((iR r (.mk op pl s0 s1 s2 s3 tx mn mx nl (a::tl)) m).1::ps,(iR r (.mk op pl s0 s1 s2 s3 tx mn mx nl (a::tl)) m).2)
 | (.mk op _pl _s0 _s1 _s2 _s3 _tx mn mx _nl (a::tl),d+1),b::x::ps,m =>
  some ((y9 op mn mx (sI r op (d+1) (zP op d x b m.next).1 ((a::tl).drop (d+1)) { m with next:=(zP op d x b m.next).2 })).1::ps,(y9 op mn mx (sI r op (d+1) (zP op d x b m.next).1 ((a::tl).drop (d+1)) { m with next:=(zP op d x b m.next).2 })).2)
 | (.mk _ _ _ _ _ _ _ _ _ _ (_::_),_+1),_,_=>none
def den(r:Int):List (E×Nat)->List Part->Mk->Option (List Part×Mk)
 | [],ps,m=>some (ps,m)
 | f::S,ps,m=>match EA r f ps m with
  | some (ps',m')=>den r S ps' m'
  | none=>none
theorem TV{r:Int}{e:E}{ps:List Part}{m:Mk}:EA r (e,0) ps m=some ((iR r e m).1::ps,(iR r e m).2):=by
 obtain⟨op,pl,s0,s1,s2,s3,tx,mn,mx,nl,args⟩:=e;cases args with
 | nil=>simp only[EA,iR]
 | cons a tl=>simp only[EA]
variable{r op pl s0 s1 s2 s3 mn mx:Int}{tx:bN}{nl:Bool}{args:List E}{S:List (E×Nat)}{ps:List Part}{m:Mk}{d:Nat}
theorem TW{a:E}{tl:List E}{b x:Part}:EA r (.mk op pl s0 s1 s2 s3 tx mn mx nl (a::tl),d+1) (b::x::ps) m=some ((y9 op mn mx (sI r op (d+1) (zP op d x b m.next).1 ((a::tl).drop (d+1)) { m with next:=(zP op d x b m.next).2 })).1::ps,(y9 op mn mx (sI r op (d+1) (zP op d x b m.next).1 ((a::tl).drop (d+1)) { m with next:=(zP op d x b m.next).2 })).2):=rfl
theorem vu{f:E×Nat}{y:List Part×Mk}(h:EA r f ps m=some y):den r (f::S) ps m=den r S y.1 y.2:=by simp only[den,h]
theorem zhu{a:E}{tl:List E}:iR r (.mk op pl s0 s1 s2 s3 tx mn mx nl (a::tl)) m=y9 op mn mx (sI r op 0 p0 (a::tl) m):=by simp only[iR]
theorem Yi{e:E}{es:List E}{k:Nat}{a:Part}:sI r op k a (e::es) m=sI r op (k+1) (zP op k a (iR r e m).1 (iR r e m).2.next).1 es { (iR r e m).2 with next:=(zP op k a (iR r e m).1 (iR r e m).2.next).2 }:=by simp only[sI]
theorem zjr{k:Nat}{a:Part}:sI r op k a [] m=(a,m):=by simp only[sI]
theorem FH:den r ((.mk op pl s0 s1 s2 s3 tx mn mx nl [],d)::S) ps m=den r S ((jM op (s0,s1,s2,s3) r m).1::ps) (jM op (s0,s1,s2,s3) r m).2:=by
 cases d with
 | zero=>exact vu (y:=(_,_)) (by simp only[EA])
 | succ d=>exact vu (y:=(_,_)) (by simp only[EA])
theorem zl6{a:E}{tl:List E}:den r ((.mk op pl s0 s1 s2 s3 tx mn mx nl (a::tl),0)::S) ps m=den r ((a,0)::(.mk op pl s0 s1 s2 s3 tx mn mx nl (a::tl),1)::S) (p0::ps) m:=by
 rw[vu TV,vu TV,vu (TW (d:=0)),zhu,Yi];rfl
theorem zl7{a:E}{tl:List E}{x b:Part}{c:E}(hc:(a::tl)[d+1]?=some c) :
  den r ((.mk op pl s0 s1 s2 s3 tx mn mx nl (a::tl),d+1)::S) (b::x::ps) m=den r ((c,0)::(.mk op pl s0 s1 s2 s3 tx mn mx nl (a::tl),d+2)::S) ((zP op d x b m.next).1::ps) { m with next:=(zP op d x b m.next).2 }:=by
 obtain⟨bR,iV⟩:=c_.1 hc;have eZ:(a::tl).drop (d+1)=c::(a::tl).drop (d+2):=by rw[EL bR,iV]
 rw[vu TW,vu TV,vu (TW (d:=d+1)),eZ,Yi]
theorem znV{a:E}{tl:List E}{x b:Part}(hd:(a::tl).length<=d+1) :
  den r ((.mk op pl s0 s1 s2 s3 tx mn mx nl (a::tl),d+1)::S) (b::x::ps) m=den r S ((y9 op mn mx ((zP op d x b m.next).1,{ m with next:=(zP op d x b m.next).2 })).1::ps) (y9 op mn mx ((zP op d x b m.next).1,{ m with next:=(zP op d x b m.next).2 })).2:=by
 rw[vu TW,List.drop_eq_nil_of_le hd,zjr]
theorem Yj{q:Int×Int×Int×Int}:m.bZ.length<=(jM op q r m).2.bZ.length:=by
 unfold jM;split<;>simp
theorem Yk{x:Part×Mk}:(y9 op mn mx x).2.bZ=x.2.bZ:=by
 unfold y9;split<;>rfl
mutual
theorem sJ:∀(e:E)(m:Mk),m.bZ.length<=(iR r e m).2.bZ.length
 | .mk op _ s0 s1 s2 s3 _ mn mx _ [],m=>by simp only[iR];exact Yj
 | .mk op _ s0 s1 s2 s3 _ mn mx _ (a::tl),m=>by
  simp only[iR,Yk];exact sK (a::tl) op 0 p0 m
theorem sK:∀(es:List E)(op:Int)(k:Nat)(a:Part)(m:Mk),m.bZ.length<=(sI r op k a es m).2.bZ.length
 | [],op,k,a,m=>by simp only[sI];exact dI _
 | e::es,op,k,a,m=>by
  simp only[sI];exact cP (sJ e m) (sK es op (k+1) (zP op k a (iR r e m).1 (iR r e m).2.next).1 { (iR r e m).2 with next:=(zP op k a (iR r e m).1 (iR r e m).2.next).2 })
end
theorem zl8{f:E×Nat}{ps':List Part}{m':Mk}(h:EA r f ps m=some (ps',m')):m.bZ.length<=m'.bZ.length:=by
 unfold EA at h;split at h<;>simp only[br,cg,reduceCtorEq] at h
 ·rw[<- h.2];exact Yj
 ·rw[<- h.2];exact sJ _ _
 ·rw[<- h.2,Yk];refine cP (Nat.le_of_eq ?_) (sK _ _ _ _ _);rfl
theorem Bj:∀{S:List (E×Nat)}{ps:List Part}{m:Mk}{y:List Part×Mk},den r S ps m=some y->m.bZ.length<=y.2.bZ.length
 | [],_,_,_,h=>by simp only[den,br] at h;rw[<- h];exact dI _
 | f::S,ps,m,y,h=>by
  simp only[den] at h;split at h
  next ps' m' he=>exact cP (zl8 he) (Bj h)
  ·cases h
def Dm(n:Nat)(p:Part):Prop:=(∀x∈jh p.first 19,x<n)/\(∀x∈jh p.last 19,x<n)
theorem Dm.mono{n n':Nat}{p:Part}(h:Dm n p)(hn:n<=n'):Dm n' p:=⟨λx hx=>uO (h.1 x hx) hn,λx hx=>uO (h.2 x hx) hn⟩
theorem zl9{n:Nat}{b:Bool}:Dm n ⟨b,cQ,cQ⟩:=by
 constructor<;>(intro x hx;rw[iy] at hx;simp[cQ] at hx)
theorem TX{n:Nat}{p q:Nat->Bool}(hp:∀x∈jh p 19,x<n)(hq:∀x∈jh q 19,x<n):∀x∈jh (jB p q) 19,x<n:=by
 intro x hx;rw[iy] at hx;obtain⟨h1,h2⟩:=hx;simp only[jB,tn] at h2;rcases h2 with h|h
 ·exact hp x (iy.2 ⟨h1,h⟩)
 ·exact hq x (iy.2 ⟨h1,h⟩)
theorem zpC{n k:Nat}(h:k<n):∀x∈jh (jQ cQ k) 19,x<n:=by
 intro x hx;rw[iy] at hx;have:=hx.2;simp[jQ,cQ] at this;omega
theorem zhv{q:Int×Int×Int×Int}(h:m.Ok):(jM op q r m).2.Ok/\Dm (jM op q r m).2.next.length (jM op q r m).1:=by
 unfold jM;split
 ·exact⟨h,zl9⟩
 ·refine⟨⟨by simp[h.r],by simp[h.n]⟩,?_⟩
  constructor<;>exact zpC (by simp[h.n])
theorem zil{n:Nat}{k:Nat}{a b:Part}{ns:List (Nat->Bool)}(ha:Dm n a)(hb:Dm n b):Dm n (zP op k a b ns).1:=by
 unfold zP;split
 ·exact hb
 ·split
  ·exact⟨TX ha.1 hb.1,TX ha.2 hb.2⟩
  ·refine⟨?_,?_⟩
   ·simp only;split
    ·exact TX ha.1 hb.1
    ·exact ha.1
   ·simp only;split
    ·exact TX ha.2 hb.2
    ·exact hb.2
theorem znW{n:Nat}{p:Part}{ns:List (Nat->Bool)}(h:Dm n p):Dm n (xT mn mx p ns).1:=h
mutual
def wE:E->Nat
 | .mk _ _ _ _ _ _ _ _ _ _ args=>3+D9 args
def D9:List E->Nat
 | []=>0
 | e::es=>wE e+2+D9 es
end
def wF:E×Nat->Nat
 | (e,0)=>wE e
 | (.mk _ _ _ _ _ _ _ _ _ _ args,d+1)=>1+D9 (args.drop (d+1))
def wS:List (E×Nat)->Nat
 | []=>0
 | f::S=>wF f+wS S
theorem TY(f:E×Nat):1<=wF f:=by
 obtain⟨⟨op,pl,s0,s1,s2,s3,tx,mn,mx,nl,args⟩,d⟩:=f;cases d<;>simp only[wF,wE]<;>omega
theorem znX{a:E}{tl:List E}:wS ((a,0)::(.mk op pl s0 s1 s2 s3 tx mn mx nl (a::tl),1)::S)+4=wS ((.mk op pl s0 s1 s2 s3 tx mn mx nl (a::tl),0)::S):=by
 simp only[wS,wF,wE,D9,ud,mg];omega
theorem znY{c:E}(hc:args[d+1]?=some c):wS ((c,0)::(.mk op pl s0 s1 s2 s3 tx mn mx nl args,d+2)::S)+2=wS ((.mk op pl s0 s1 s2 s3 tx mn mx nl args,d+1)::S):=by
 obtain⟨bR,iV⟩:=c_.1 hc;have eZ:args.drop (d+1)=c::args.drop (d+2):=by rw[EL bR,iV]
 simp only[wS,wF];rw[eZ,show d+1+1=d+2 from rfl];simp only[D9];omega
end
section
variable{gl:Gl}
theorem Yl:qQ prog 157=some (.agg [.int .i64 0,.int .i64 0,.int .u64 0,.int .u64 0,.int .u64 0,.int .u64 0,.str [],.int .i64 0,.int .i64 0,.aG,.int .i64 0]):=by kernel_rfl
theorem z86:qQ prog 151=some (.agg [.aG]):=by kernel_rfl
theorem z89:qQ prog 154=some (.agg [.aG]):=by kernel_rfl
theorem zqg:(match prog.underlying 157 with|some (.struct fs)=>SB prog fs|_=>none)=some [(0,10),(10,1)]:=by kernel_rfl
theorem zoS{x:aX}{env:aD}{e:E}(h:ak env x=some (.agg (aK e))):ky prog 157 #[(0,x)] env=some (.agg (rS (e,0))):=by
 have hp:=zqg;unfold ky;rw[Yl];cases hu:prog.underlying 157 with
 | none=>rw[hu] at hp;cases hp
 | some d =>
  rw[hu] at hp;cases d<;>simp only at hp<;>try (cases hp;done)
  simp only[hp];obtain⟨op,pl,s0,s1,s2,s3,text,mn,mx,nl,args⟩:=e;simp[dz,xO,h,nth,aK,V.cells,Vm.storeCells,rS]
theorem zpD{x y:aX}{env:aD}{e:E}{d:Nat}(h:ak env x=some (.agg (aK e)))(h':ak env y=some (.int .i64 (d:Int))):ky prog 157 #[(0,x),(1,y)] env=some (.agg (rS (e,d))):=by
 have hp:=zqg;unfold ky;rw[Yl];cases hu:prog.underlying 157 with
 | none=>rw[hu] at hp;cases hp
 | some d =>
  rw[hu] at hp;cases d<;>simp only at hp<;>try (cases hp;done)
  simp only[hp];obtain⟨op,pl,s0,s1,s2,s3,text,mn,mx,nl,args⟩:=e;simp[dz,xO,h,h',nth,aK,V.cells,Vm.storeCells,rS]
theorem zqh{env:aD}:ky prog 117 #[] env=some (.agg (zo p0)):=by kernel_rfl
theorem Ym:qD prog 51=some false:=by kernel_rfl
theorem TZ:prog.underlying 51=some (.slice 53):=by kernel_rfl
theorem nE:zB prog 157 0=some 0:=by kernel_rfl
theorem oO:zB prog 157 1=some 10:=by kernel_rfl
theorem CN:zB prog 53 6=some 9:=by kernel_rfl
theorem zhw{H:Hp}{nl:Bool}{l:List E}:jb prog H 51 (ye nl (fe l))=some (l.length:Int):=by
 rcases vG nl (fe l) with h|⟨h0,h⟩<;>rw[h]
 ·simp[jb,fD]
 ·have:l=[]:=by
   have:=congrArg List.length h0;rw[fD] at this;exact He this
  subst this;simp[jb]
theorem T1{H:Hp}{b:Nat}{p q:Part}{env:aD}{lk:aN}{df:bO}(hg:H.get b=some (.cells (zo q) 117)):qr prog 117 H lk df (some (.agg (zo p),env)) (some (.ptr b 0))=some (.skip,⟨env,H.set b (.cells (zo p) 117),lk,df⟩):=by
 rw[zy (v:=.agg (zo p)) rR hg rfl (by simp[V.laid,qW]) (by rw[qW];decide) (wh yq (by rw[qW];decide)),jT (by simp[V.top,yJ])]
 simp only[V.laid,wQ];rw[wO (by rw[qW,qW])]
theorem Yn{H:Hp}{b:Nat}{p:Part}{g:Nat->Nat->bX}(hg:H.get b=some (.cells (zo p) 117)):zk prog H g 117 (.ptr b 0)=some (.agg (zo p)):=by
 rw[qY tR rR hg (by rw[qW];decide),mg,p9 (by rw[qW];decide)]
def E.args:E->List E
 | .mk _ _ _ _ _ _ _ _ _ _ a=>a
structure EF(bs:List aV)(bm:Nat)(r:Int)(env:aD):Prop where
 len:env.length=86
 e0:nth env 0=some (.ptr bm 0)
 e2:nth env 2=some (.int .i64 r)
 e6:nth env 6=some (.ptr (bs.length+1) 0)
 e7:nth env 7=some (.ptr (bs.length+2) 0)
 e8:nth env 8=some (.ptr (bs.length+3) 0)
structure WI(bs:List aV)(bm:Nat)(i0:Option Nat)(r:Int)(P:Part)(M:Mk)(Wm:Nat)(H:Hp)(S:List (E×Nat))(ps:List Part)(m:Mk):Prop where
 ws:WS bs bm i0 H S ps m
 dn:den r S ps m=some ([P],M)
 N5:∀p∈ps,Dm m.next.length p
 ok:m.Ok
 wf:∀f∈S,f.2<=f.1.args.length/\wE f.1<=2 ^ 31
 bd:S.length+ps.length+wS S<=Wm
 res:∃q,H.get (bs.length+1)=some (.cells (zo q) 117)
theorem zqL{H:Hp}{b:Nat}{f:E×Nat}{cs:aD}{ty:aB}{env:aD}{lk:aN}{df:bO}(hg:H.get b=some (.cells cs ty))(hl:cs.length=11)(hu:cs.all (λc=>!(locked c))=true):qr prog 157 H lk df (some (.agg (rS f),env)) (some (.ptr b 0))=some (.skip,⟨env,H.set b (.cells (rS f) ty),lk,df⟩):=by
 rw[zy (v:=.agg (rS f)) v_ hg rfl (by simp[V.laid,N4]) (by rw[hl];decide) (wh hu (by rw[hl];decide)),jT (by simp[V.top,zhs])]
 simp only[V.laid,Yd];rw[wO (by rw[hl,N4])]
theorem J0{H:Hp}{b d:Nat}{op pl s0 s1 s2 s3 mn mx:Int}{tx:bN}{nl:Bool}{args:List E}{g:Nat->Nat->bX}(hg:H.get b=some (.cells (rS (.mk op pl s0 s1 s2 s3 tx mn mx nl args,d)) 157)) :
  zk prog H g 3 (.ptr b 0)=some (.int .i64 op)/\zk prog H g 51 (.ptr b 9)=some (ye nl (fe args))/\zk prog H g 3 (.ptr b 10)=some (.int .i64 (d:Int))/\zk prog H g 53 (.ptr b 0)=some (.agg (aK (.mk op pl s0 s1 s2 s3 tx mn mx nl args))) :=
 ⟨zq NW hg rfl,zq Ym hg rfl,zq NW hg rfl,by rw[qY Bi sH hg (by rw[N4];decide)];rfl⟩
theorem Yo{nl:Bool}{args:List E}{D:Nat}{c:E}(h:args[D]?=some c):zt prog 51 (ye nl (fe args)) (D:Int)=some (.vp (aK c)):=by
 have cI:ye nl (fe args)=.sl 10 (fe args) .no:=by
  rcases vG nl (fe args) with h'|⟨h0,h'⟩
  ·exact h'
  ·have:=congrArg List.length h0;rw[fD] at this;rw[He this] at h;simp at h
 have hn:nth (fe args) D=some (enc c):=by rw[zg,Bf,h];rfl
 have hD:¬((D:Int)<0):=by omega
 simp[cI,zt,sH,hD,hn,qA,V.cells]
theorem T4{H:Hp}{g:Nat->Nat->bX}{c:E}:zk prog H g 53 (.vp (aK c))=some (.agg (aK c)):=by
 have:(aK c).take 10=aK c:=p9 (by rw[zZ];decide)
 simp[zk,qy,Bi,sH,NL,zZ,this]
structure T5(bs:List aV)(bm:Nat)(r:Int)(L:Nat)(env:aD):Prop extends EF bs bm r env where
 e9:nth env 9=some (.ptr L 0)
theorem zjs{c:E}:∀{l:List E},c∈l->wE c+2<=D9 l
 | a::l,h=>by
  simp only[D9];rcases dH.1 h with rfl|h
  ·omega
  ·have:=zjs h;omega
theorem x_:∀{l:List E},l.length<=D9 l
 | []=>dI _
 | a::l=>by have:=x_ (l:=l);simp only[D9,aZ];omega
theorem Yp(e:E):wE e=3+D9 e.args:=by cases e;simp only[wE,E.args]
theorem zn0{r op pl s0 s1 s2 s3 mn mx:Int}{tx:bN}{nl:Bool}{a:E}{tl:List E}{d:Nat}{S:List (E×Nat)}{ps:List Part}{m:Mk}{y:List Part×Mk}(h:den r ((.mk op pl s0 s1 s2 s3 tx mn mx nl (a::tl),d+1)::S) ps m=some y):∃b x ps',ps=b::x::ps':=by
 cases ps with
 | nil=>simp[den,EA] at h
 | cons b ps =>
  cases ps with
  | nil=>simp[den,EA] at h
  | cons x ps=>exact⟨b,x,ps,rfl⟩
def Mid(bs:List aV)(bm:Nat)(i0:Option Nat)(r:Int)(P:Part)(M:Mk)(Wm L:Nat)(e:E)(d:Nat)(S:List (E×Nat))(s:St):Prop :=
 ∃env H ps m q,s=⟨env,H,[],[]⟩/\T5 bs bm r L env/\WS bs bm i0 H S ps m/\(∀p∈ps,Dm m.next.length p)/\m.Ok/\H.get L=some (.cells (rS (e,d)) 157)/\H.get (bs.length+1)=some (.cells (zo q) 117) /\
  (∀c,e.args[d]?=some c->den r ((c,0)::(e,d+1)::S) ps m=some ([P],M)/\S.length+2+ps.length+wS ((c,0)::(e,d+1)::S)<=Wm/\wS ((c,0)::(e,d+1)::S)<wS ((e,d)::S)) /\
  (d=e.args.length->match e with|.mk op _ _ _ _ _ _ mn mx _ _=>∃p ps',ps=p::ps'/\den r S ((y9 op mn mx (p,m)).1::ps') (y9 op mn mx (p,m)).2=some ([P],M)/\S.length+ps.length+wS S<=Wm)
theorem zma(hg:GW gl){n n0:Nat}{H:Hp}{bm:Nat}{m:Mk}{i:Option Nat}{e:E}{r:Int}{P:Part}{M:Mk}
  (hm:MK n0 H bm m i) (AU:n0<=H.az.length) (hP:iR r e m=(P,M)) (ek:m.Ok) (hM:M.bZ.length<=1200) (hn:wE e+2000<=n) (hw:wE e+2<=2 ^ 31) :
  ∃H' i',zj prog gl (n+1) 55 [.ptr bm 0,enc e,.int .i64 r] H=some (.ret (.agg (zo P)),H')/\MK n0 H' bm M i'/\JU H.az.length i i'/\sF H H' (λd=>d=bm\/i=some d)/\M.Ok/\Dm M.next.length P:=by
 obtain⟨bs,es⟩:=H;have Dd:=hm.start
 suffices bL:(go ⟨prog,gl,zj prog gl n,fy⟩ n (Fx prog f55.results.toList λw H1=>w=.agg (zo P)/\∃i',MK bs.length H1 bm M i'/\JU bs.length i i'/\sF ⟨bs,[]⟩ H1 (λd=>d=bm\/i=some d)/\M.Ok/\Dm M.next.length P) [.c (f55.body.getD .skip)] .normal ⟨[.ptr bm 0,enc e,.int .i64 r]++List.replicate 83 (.bq []),⟨bs,[]⟩,[],[]⟩) by
  obtain⟨w,H1,h0,rfl,i',h1,h2,h3,h4,h5⟩:=zQ (gl:=gl) (f:=55) (bs:=bs) (es:=es) (args:=[.ptr bm 0,enc e,.int .i64 r]) (n:=n) (hg.hk _ _ (by decide)) (λH=>hg.fG _ _ _ _) func55 rfl (by rw[hg.uq];exact bL)
  exact⟨_,i',h0,hm.finish AU h2 h1,h2,zdM h3,h4,h5⟩
 obtain⟨c,hc,hu,hed⟩:=Dd;have bR:bm<bs.length:=kI hc;have oJ:dz (.agg (aK e))=true:=rfl;simp only[f55,fQ,zh,qA];refine zi ?_
 simp only[BA,aq,zc,zd,ze,bS,bT,z7 oJ,LX,zH (show dz (V.agg (zo ⟨false,cQ,cQ⟩))=true from rfl),V.laid,V.cells,qi,List.replicate];refine zi ?_
 simp only[qw,aH,zh,qO,aL,aq,zc,aU,aZ,List.length_nil,nO,Nat.reduceAdd,bh,a_,bg,bS,bT,z86,zH (show dz (V.agg [V.aG])=true from rfl),V.cells]
 refine zi ?_
 simp only[qw,aH,zh,qO,aL,aq,zc,aU,aZ,List.length_nil,nO,Nat.reduceAdd,bh,a_,bg,bS,bT,z89,zH (show dz (V.agg [V.aG])=true from rfl),V.cells]
 generalize FI:Hp.mk (bs++[aV.cells (aK e) 53,.cells (zo ⟨false,cQ,cQ⟩) 117,.cells [.aG] 151,.cells [.aG] 154]) []=H0;have Dn:WS bs bm i H0 [] [] m:=by
  subst FI;refine⟨by simp,bR,⟨.aG,none,gN (k:=2),⟨rfl,rfl⟩,by simp⟩,⟨.aG,none,gN (k:=3),⟨rfl,rfl⟩,by simp⟩,⟨i,⟨c,(gB bR).trans hc,hu.frame λj hj=>gB (by subst hj;exact hu.lt),λj hj hn=>?_⟩,.inl rfl⟩,λd hd _ _=>gB hd⟩
  subst hj;exact absurd hu.lt (by simpa using hn)
 have Bh:zk prog H0 gl.g 53 (.ptr bs.length 0)=some (.agg (aK e)):=by
  subst FI;rw[zoR Bi sH rfl (by simp[zZ])]
  rw[mg,p9 (by rw[zZ];decide)]
 have lP:H0.get (bs.length+1)=some (.cells (zo p0) 117):=by subst FI;exact gN (k:=1)
 obtain⟨H1,ng,GP,DS⟩:=Dn.FF hg (show 1<=n by omega) (e,0) (by decide)
 refine zi ?_;simp only[BA,ak,aq,zd,ze,bS,bT,Bh];rw[zoS (e:=e) (by rfl)]
 simp only[BA,av,ak,aq,aA,zd,ze,bS,bT,ng];refine y7 (EF bs bm r) ⟨rfl,rfl,rfl,rfl,rfl,rfl⟩ λenv i_=>?_
 have uX:WI bs bm i r P M (wE e+2) H1 [(e,0)] [] m:=⟨GP,by simp only[den,TV,hP],λp hp=>by simp at hp,ek,λf hf=>by simp at hf;subst hf;exact⟨eg _,by simp only;omega⟩,by simp[wS,wF];omega,⟨p0,DS _ _ _ (by omega) (by omega) (by omega) lP⟩⟩
 refine qh (λj s=>∃S ps m H env,wS S=j/\s=⟨env,H,[],[]⟩/\EF bs bm r env/\WI bs bm i r P M (wE e+2) H S ps m) (wS [(e,0)]) (by simp[wS,wF];omega) ⟨_,_,_,_,_,rfl,rfl,i_,uX⟩ ?_
 clear uX Dn Bh lP ng GP DS FI i_ env H0 H1;rintro j s ⟨S,ps,m1,H,env,rfl,rfl,he,hi⟩;simp only[zh];refine zi ?_;have Yq:=hi.ws.emp hg (show 1<=n by omega)
 have hlen:=he.len;simp only[BA,Nat.reduceEqDiff,av,ak,aq,aA,za,bD,Nat.reduceLT,bw,he.e7,hlen,Yq,iz];cases S with
 | nil =>
  refine .inr ⟨rfl,?_⟩;have hd:=hi.dn;simp only[den,br,cg] at hd;obtain⟨rfl,rfl⟩:=hd;obtain⟨H2,rX,Qx,fG⟩:=hi.ws.IG hg (show 1<=n by omega) (by decide)
  obtain⟨q,hq⟩:=hi.res;have L5:=fG _ _ _ (by have:=hi.ws.lt;omega) (by omega) (by omega) hq
  simp only[ql,zN,zp,bJ,zD,iN,aF,zh];refine zi ?_;simp only[BA,Nat.reduceEqDiff,av,ak,aq,aA,za,bD,Nat.reduceLT,bw,he.e8,he.e6,hlen,rX];rw[T1 L5];simp only[bu,aq,go_ret,zp,Fx]
  have II:=Qx.CM (cs':=zo P) (ty':=117) L5 (by omega) (by omega) (by omega)
  obtain⟨i',k1,k2⟩:=II.AJ;refine⟨trivial,[.agg (zo P)],?_,rfl,i',k1,k2,⟨by have:=II.len;show bs.length<=_;omega,λd hd rY=>II.fr d hd (λe=>rY (.inl e)) (λe=>rY (.inr e))⟩,hi.ok,hi.N5 P (by simp)⟩
  simp only[zx,za,bD,Nat.reduceEqDiff,bw,he.e6];rw[Yn (wH L5)];simp[aW]
 | cons f S =>
  refine .inl ⟨rfl,?_⟩;have N6:=hi.bd;have Qg:S.length<2 ^ 32:=by simp only[aZ] at N6;omega
  have HG:ps.length<2 ^ 31:=by simp only[aZ] at N6;omega
  obtain⟨H1,ng,GP,DS⟩:=hi.ws.Ye hg (show 1<=n by omega) Qg
  refine zi ?_
  simp only[qw,aH,zh,zw,qO,zU,kf,Nat.reduceEqDiff,av,qp,ak,zL,qV,aL,aq,qk,qM,aA,aY,bp,aF,za,bD,Nat.reduceLT,aF,bw,he.e7,hlen,ng,Yl,zH (show dz (V.agg [.int .i64 0,.int .i64 0,.int .u64 0,.int .u64 0,.int .u64 0,.int .u64 0,.str [],.int .i64 0,.int .i64 0,.aG,.int .i64 0])=true from rfl),V.cells]
  rw[zqL wc rfl rfl];obtain⟨L,hL⟩:∃L,L=H1.az.length:=⟨_,rfl⟩;obtain⟨z,hz⟩:∃z,z=aV.cells [.int .i64 0,.int .i64 0,.int .u64 0,.int .u64 0,.int .u64 0,.int .u64 0,.str [],.int .i64 0,.int .i64 0,.aG,.int .i64 0] 157:=⟨_,rfl⟩;rw[<- hz,<- hL];obtain⟨H2,FJ⟩:∃H2,H2=(H1.push z).set L (.cells (rS f) 157):=⟨_,rfl⟩;rw[<- FJ];have hLn:bs.length+4<=L:=by rw[hL];exact GP.len
  have Yr:(H1.push z).get L=some z:=by rw[hL];exact wc
  have N7:H2.get L=some (.cells (rS f) 157):=by rw[FJ,wH Yr]
  have Qx:WS bs bm i H2 S ps m1:=by rw[FJ];exact GP.push.1.CM (by rw[Yr,hz]) (by omega) (by omega) (by omega)
  obtain⟨q,hq⟩:=hi.res;have L5:H2.get (bs.length+1)=some (.cells (zo q) 117):=by
   rw[FJ,qB (by omega),jG (by omega)]
   exact DS _ _ _ (by omega) (by omega) (by omega) hq
  clear FJ Yr hz z DS hq ng GP;simp only[bu,aq]
  refine y7 (T5 bs bm r L) ⟨⟨by simp[hlen],by simp[za,he.e0],by simp[za,he.e2],by simp[za,he.e6],by simp[za,he.e7],by simp[za,he.e8]⟩,by simp[za,hlen]⟩ λenv he=>?_
  have hlen:=he.len;obtain⟨⟨op,pl,s0,s1,s2,s3,tx,mn,mx,nl,args⟩,d⟩:=f;obtain⟨l1,l2,l3,l4⟩:=J0 (g:=gl.g) N7;refine zi ?_;simp only[BA,Nat.reduceEqDiff,ak,aj,aq,ah,za,bD,Nat.reduceLT,bw,he.e9,hlen,nE,CN,l2,zY,zhw,wM];cases args with
  | nil =>
   refine .inl ⟨rfl,?_⟩;have Dk:=hi.dn;rw[FH] at Dk;have N8:=Bj Dk;have iA:=zhv (op:=op) (r:=r) (q:=(s0,s1,s2,s3)) hi.ok;have Ys:=Yj (op:=op) (r:=r) (q:=(s0,s1,s2,s3)) (m:=m1);have FK:m1.next.length<=(jM op (s0,s1,s2,s3) r m1).2.next.length:=by rw[hi.ok.n,iA.1.n];exact Ys
   simp only at N8;obtain⟨H3,BJ,II,CL⟩:=Qx.leaf hg (show 2<=n by omega) hi.ok (by omega) (op:=op) (pl:=pl) (s0:=s0) (s1:=s1) (s2:=s2) (s3:=s3) (mn:=mn) (mx:=mx) (r:=r) (text:=tx) (nl:=nl) (args:=[])
   obtain⟨H4,Qy,T6,L0⟩:=II.Dl hg (show 1<=n by omega) (jM op (s0,s1,s2,s3) r m1).1 (by omega)
   rw[qA] at BJ;simp only[ql,zN,zD,zh,iN,aF]
   refine zi ?_;simp only[BA,Nat.reduceEqDiff,av,ak,aq,ah,aA,za,bD,Nat.reduceLT,bw,he.e0,he.e2,he.e8,he.e9,hlen,nE,l4,BJ,Qy];simp only[ql,zN,zD,zp,aM,qC,iN,gW,gX,aF,fP,bw]
   refine⟨_,?_,S,_,_,H4,_,rfl,rfl,⟨by simp[hlen],by simp[za,he.e0],by simp[za,he.e2],by simp[za,he.e6],by simp[za,he.e7],by simp[za,he.e8]⟩,T6,Dk,λp hp=>?_,iA.1,λf hf=>hi.wf f (dR _ hf),?_,⟨q,L0 _ _ _ (by have:=hi.ws.lt;omega) (by omega) (by omega) (CL _ _ _ (by have:=hi.ws.lt;omega) (by omega) (by omega) L5)⟩⟩
   ·simp only[wS];have:=TY (.mk op pl s0 s1 s2 s3 tx mn mx nl [],d);omega
   ·rcases dH.1 hp with rfl|hp
    ·exact iA.2
    ·exact(hi.N5 p hp).mono FK
   ·simp only[wS,aZ] at N6 ⊢;have:=TY (.mk op pl s0 s1 s2 s3 tx mn mx nl [],d);omega
  | cons a tl =>
   refine .inr ⟨by simp;omega,?_⟩
   refine y7 (T5 bs bm r L) ⟨⟨by simp[hlen],by simp[za,he.e0],by simp[za,he.e2],by simp[za,he.e6],by simp[za,he.e7],by simp[za,he.e8]⟩,by simp[za,he.e9]⟩ λenv he=>?_
   have hlen:=he.len;have amD:=hi.ws.lt;refine zi ?_;simp only[BA,Nat.reduceEqDiff,ak,aj,aq,ah,za,bD,Nat.reduceLT,bw,he.e9,hlen,oO,l3,wM];have s9:=hi.wf _ (eH ..);have Dk:=hi.dn;rcases d with _|d
   refine .inl ⟨rfl,?_⟩;rw[zl6] at Dk;obtain⟨H3,BJ,II,CL⟩:=Qx.Dl hg (show 1<=n by omega) p0 (by omega)
   have hf3:=CL _ _ _ (by omega) (by omega) (by omega) N7
   have hq3:=CL _ _ _ (by omega) (by omega) (by omega) L5
   obtain⟨l1,l2,l3,l4⟩:=J0 (g:=gl.g) hf3;simp only[ql,zN,zD,iN,gS,aF,fP,bw]
   refine zi ?_;simp only[BA,Nat.reduceEqDiff,av,ak,aq,aA,za,bD,Nat.reduceLT,bw,he.e8,hlen,zqh,BJ];refine zi ?_
   simp only[BA,Nat.reduceEqDiff,ak,aj,aq,ah,za,bD,Nat.reduceLT,bw,he.e9,hlen,oO,l3,w4];refine .inr ⟨rfl,?_⟩
   refine l_ (λs=>∃D,D<=(a::tl).length/\(∀k,k<wS ((.mk op pl s0 s1 s2 s3 tx mn mx nl (a::tl),D)::S)->k<wS ((.mk op pl s0 s1 s2 s3 tx mn mx nl (a::tl),0)::S))/\Mid bs bm i r P M (wE e+2) L (.mk op pl s0 s1 s2 s3 tx mn mx nl (a::tl)) D S s) ⟨0,eg _,λ_ h=>h,_,_,_,_,_,rfl,⟨⟨by simp[hlen],by simp[za,he.e0],by simp[za,he.e2],by simp[za,he.e6],by simp[za,he.e7],by simp[za,he.e8]⟩,by simp[za,he.e9]⟩,II,λp hp=>?_,hi.ok,hf3,hq3,λc hc=>?_,λh=>by simp[E.args] at h⟩ ?_
   ·rcases dH.1 hp with rfl|hp
    ·exact zl9
    ·exact hi.N5 p hp
   ·simp only[E.args,KG,br] at hc;subst hc;refine⟨Dk,?_,?_⟩ <;>
    ·have:=znX (op:=op) (pl:=pl) (s0:=s0) (s1:=s1) (s2:=s2) (s3:=s3) (tx:=tx) (mn:=mn) (mx:=mx) (nl:=nl) (a:=a) (tl:=tl) (S:=S);simp only[aZ,nO] at N6 ⊢;omega
   rotate_left
   refine .inr ⟨by simp;omega,?_⟩
   obtain⟨b,x,ps,rfl⟩:=zn0 Dk;have hpx:=hi.N5 x (by simp)
   have hpb:=hi.N5 b (by simp)
   have hla:(a::tl).length<=2 ^ 31:=by
    have h1:=s9.2;rw[Yp] at h1;have h2:=x_ (l:=a::tl);simp only[E.args] at h1;omega
   have hdd:d<2 ^ 40:=by have h1:=s9.1;simp only[E.args] at h1;omega
   simp only[aZ] at HG;obtain⟨H3,BJ,II,CL⟩:=Qx.IG hg (show 1<=n by omega) (by simp only[aZ];omega)
   obtain⟨H4,Qy,T6,L0⟩:=II.IG hg (show 1<=n by omega) (by omega)
   have hf4:=L0 _ _ _ (by omega) (by omega) (by omega) (CL _ _ _ (by omega) (by omega) (by omega) N7)
   have Yt:=L0 _ _ _ (by omega) (by omega) (by omega) (CL _ _ _ (by omega) (by omega) (by omega) L5)
   simp only[ql,zN,zD,zh,iN,gT,gU,aF,fP,bw]
   refine zi ?_;simp only[BA,Nat.reduceEqDiff,ak,aj,aq,ah,za,bD,Nat.reduceLT,bw,he.e9,hlen,oO,l3,w4];refine .inl ⟨by simp,?_⟩
   refine zi ?_;simp only[BA,Nat.reduceEqDiff,av,ak,aq,aA,za,bD,Nat.reduceLT,bw,he.e8,hlen,BJ,Qy,LX,zH (show dz (V.agg (zo ⟨false,cQ,cQ⟩))=true from rfl),V.cells,jl];obtain⟨Z,hZ⟩:∃Z,Z=aV.cells (zo ⟨false,cQ,cQ⟩) 117:=⟨_,rfl⟩;rw[<- hZ]
   obtain⟨L2,Qz⟩:∃L2,L2=H4.az.length:=⟨_,rfl⟩;have Cv:((H4.push Z).push Z).get L2=some Z:=by rw[jG (by rw[jl,Qz];omega),Qz];exact wc
   have N0:((H4.push Z).push Z).get (L2+1)=some Z:=by rw[Qz,<- jl (x:=Z)];exact wc
   rw[<- Qz,T1 (Cv.trans (by rw[hZ]))]
   simp only[bu,aq,qw];rw[zU];simp only[BA,Nat.reduceEqDiff,ak,za,bD,Nat.reduceLT,bw,hlen];rw[T1 (((qB (show L2+1≠L2 by omega)).trans N0).trans (by rw[hZ]))]
   simp only[bu,aq]
   obtain⟨H5,N9⟩:∃H5,H5=(((H4.push Z).push Z).set L2 (.cells (zo b) 117)).set (L2+1) (.cells (zo x) 117):=⟨_,rfl⟩;rw[<- N9];have amH:bs.length+4<=L2:=by rw[Qz];exact T6.len
   have hb5:H5.get L2=some (.cells (zo b) 117):=by rw[N9,qB (by omega),wH Cv]
   have hx5:H5.get (L2+1)=some (.cells (zo x) 117):=by rw[N9,wH ((qB (by omega)).trans N0)]
   have hk5:∀d y,H4.get d=some y->H5.get d=some y:=λd y hy=>by
    have hl:=kI hy;rw[N9,qB (by omega),qB (by omega),jG (by rw[jl];omega),jG hl,hy]
   have QA:WS bs bm i H5 S ps m1:=by
    rw[N9];exact((T6.push.1.push.1).CM (Cv.trans (by rw[hZ])) (by omega) (by omega) (by omega)).CM (((qB (show L2+1≠L2 by omega)).trans N0).trans (by rw[hZ])) (by omega) (by omega) (by omega)
   have N_:=hk5 _ _ hf4;have QB:=hk5 _ _ Yt;refine y7 (λenv=>T5 bs bm r L env/\nth env 10=some (.ptr L2 0)/\nth env 11=some (.ptr (L2+1) 0)) ⟨⟨⟨by simp[hlen],by simp[za,he.e0],by simp[za,he.e2],by simp[za,he.e6],by simp[za,he.e7],by simp[za,he.e8]⟩,by simp[za,he.e9]⟩,by simp[za,hlen],by simp[za,hlen]⟩ λenv AE=>?_
   obtain⟨he,Yu,Yv⟩:=AE;have hlen:=he.len;obtain⟨l1,l2,l3,l4⟩:=J0 (g:=gl.g) N_;obtain⟨H6,L6,QC,J1⟩:=QA.L4 hg (show 1302<=n by omega) (op:=op) (k:=d) (a:=x) (b:=b) (by omega) hpx.2
   obtain⟨H7,J2,QD,L7⟩:=QC.Dl hg (show 1<=n by omega) (zP op d x b m1.next).1 (by omega)
   have lQ:∀u w,qP prog .sub 3 u w (some (.int .i64 ((d+1:Nat):Int))) (some (.int .i64 1))=some (.int .i64 (d:Int)):=λu w=>Xn (a:=d+1) (b:=1) (by omega) (by omega)
   refine zi ?_;simp only[BA,Nat.reduceEqDiff,av,ak,aj,aq,ah,aA,za,bD,Nat.reduceLT,bw,he.e0,he.e9,he.e8,Yu,Yv,hlen,nE,CI,oO,l1,l3,lQ,Yn hx5,Yn hb5,L6,J2]
   have T7:=L7 _ _ _ (by omega) (by omega) (by omega) (J1 _ _ _ (by omega) (by omega) (by omega) N_)
   have Yw:=L7 _ _ _ (by omega) (by omega) (by omega) (J1 _ _ _ (by omega) (by omega) (by omega) QB)
   have AG:(zP op d x b m1.next).2.length=m1.next.length:=Yh
   refine l_ (λs=>∃D,D<=(a::tl).length/\(∀k,k<wS ((.mk op pl s0 s1 s2 s3 tx mn mx nl (a::tl),D)::S)->k<wS ((.mk op pl s0 s1 s2 s3 tx mn mx nl (a::tl),d+1)::S))/\Mid bs bm i r P M (wE e+2) L (.mk op pl s0 s1 s2 s3 tx mn mx nl (a::tl)) D S s) ⟨d+1,s9.1,λ_ h=>h,_,_,_,_,_,rfl,⟨⟨by simp[hlen],by simp[za,he.e0],by simp[za,he.e2],by simp[za,he.e6],by simp[za,he.e7],by simp[za,he.e8]⟩,by simp[za,he.e9]⟩,QD,λp hp=>?_,⟨hi.ok.r,by rw[AG];exact hi.ok.n⟩,T7,Yw,λc hc=>?_,λh=>?_⟩ ?_
   ·rw[AG];rcases dH.1 hp with rfl|hp
    ·exact zil hpx hpb
    ·exact hi.N5 p (by simp[hp])
   ·simp only[E.args] at hc;have L8:=zl7 (r:=r) (op:=op) (pl:=pl) (s0:=s0) (s1:=s1) (s2:=s2) (s3:=s3) (tx:=tx) (mn:=mn) (mx:=mx) (nl:=nl) (S:=S) (ps:=ps) (m:=m1) (x:=x) (b:=b) hc;have Dn:=znY (op:=op) (pl:=pl) (s0:=s0) (s1:=s1) (s2:=s2) (s3:=s3) (tx:=tx) (mn:=mn) (mx:=mx) (nl:=nl) (S:=S) hc;rw[show d+2=d+1+1 from rfl] at Dn;refine⟨L8 ▸ Dk,?_,?_⟩ <;>
    ·simp only[aZ] at N6 ⊢;omega
   ·have L8:=znV (r:=r) (op:=op) (pl:=pl) (s0:=s0) (s1:=s1) (s2:=s2) (s3:=s3) (tx:=tx) (mn:=mn) (mx:=mx) (nl:=nl) (S:=S) (ps:=ps) (m:=m1) (x:=x) (b:=b) (a:=a) (tl:=tl) (d:=d) (by simp only[E.args] at h;omega)
    refine⟨_,_,rfl,L8 ▸ Dk,?_⟩;simp only[aZ,wS] at N6 ⊢;omega
   all_goals
    rintro s ⟨D,hDl,hJ,env,H5,Ic,m2,q2,rfl,he,QA,IJ,Bk,N_,QB,Yx,Vq⟩;have hlen:=he.len;obtain⟨l1,l2,l3,l4⟩:=J0 (g:=gl.g) N_;have hDb:D<2 ^ 40:=by
     have h1:=s9.2;rw[Yp] at h1;have h2:=x_ (l:=a::tl);simp only[E.args] at h1;omega
    refine zi ?_;simp only[BA,Nat.reduceEqDiff,ak,aq,ah,za,bD,Nat.reduceLT,bw,he.e9,hlen,nE,oO,CN,l2,l3,zY,zhw,wM];rcases eX D (a::tl).length with hD|hD
    ·refine .inr ⟨by simp;simp only[aZ] at hD;omega,?_⟩
     obtain⟨c,A4⟩:∃c,(a::tl)[D]?=some c:=⟨_,gh hD⟩;obtain⟨ur,Df,hm3⟩:=Yx c A4;have pQ:c∈a::tl:=m_ A4;have hwc:=zjs pQ;have nY:∀u w,qP prog .add 3 u w (some (.int .i64 (D:Int))) (some (.int .i64 1))=some (.int .i64 ((D+1:Nat):Int)):=λu w=>qc (by omega)
     obtain⟨H6,L6,QC,J1⟩:=QA.FF hg (show 1<=n by omega) (.mk op pl s0 s1 s2 s3 tx mn mx nl (a::tl),D+1) Qg
     have L9:=J1 _ _ _ (by omega) (by omega) (by omega) N_
     have hq6:=J1 _ _ _ (by omega) (by omega) (by omega) QB
     obtain⟨H7,J2,QD,L7⟩:=QC.FF hg (show 1<=n by omega) (c,0) (by simp only[aZ];omega)
     have Yw:=L7 _ _ _ (by omega) (by omega) (by omega) hq6
     refine zi ?_;simp only[BA,Nat.reduceEqDiff,ak,aj,aq,ah,za,bD,Nat.reduceLT,bw,he.e9,hlen,nE,oO,l4,l3,nY];rw[zpD (e:=.mk op pl s0 s1 s2 s3 tx mn mx nl (a::tl)) (d:=D+1) (by simp[ak,za,hlen,aW]) (by simp[ak,za,hlen,aW])]
     simp only[BA,Nat.reduceEqDiff,av,ak,aq,aA,za,bD,Nat.reduceLT,bw,he.e7,hlen,L6];obtain⟨m1',m2',m3',m4'⟩:=J0 (g:=gl.g) L9;refine zi ?_
     simp only[BA,Nat.reduceEqDiff,ak,aq,ah,aE,za,bD,Nat.reduceLT,bw,he.e9,hlen,nE,oO,CN,m2',m3',zY,Yo A4,T4];rw[zoS (e:=c) (by simp[ak,za,hlen,aW])]
     simp only[BA,Nat.reduceEqDiff,av,ak,aq,aA,za,bD,Nat.reduceLT,bw,he.e7,hlen,J2];simp only[ql,zD,zp,aM,qC,iN,aF]
     refine⟨_,hJ _ hm3,_,_,_,H7,_,rfl,rfl,⟨by simp[hlen],by simp[za,he.e0],by simp[za,he.e2],by simp[za,he.e6],by simp[za,he.e7],by simp[za,he.e8]⟩,QD,ur,IJ,Bk,λf hf=>?_,Df,⟨_,Yw⟩⟩
     rcases dH.1 hf with rfl|hf
     ·refine⟨eg _,?_⟩;have h1:=s9.2;rw[Yp] at h1;simp only[E.args] at h1 ⊢;omega
     ·rcases dH.1 hf with rfl|hf
      ·exact⟨hD,s9.2⟩
      ·exact hi.wf f (dR _ hf)
    ·obtain rfl:D=(a::tl).length:=by omega
     refine .inl ⟨by simp,?_⟩
     obtain⟨p,ps3,rfl,IK,L_⟩:=Vq rfl;refine zi ?_;simp only[BA,Nat.reduceEqDiff,ak,aj,aq,ah,za,bD,Nat.reduceLT,bw,he.e9,hlen,nE,CI,l1,wM]
     by_cases h7:op=7
     ·refine .inl ⟨by simp[h7],?_⟩
      rw[y9,if_pos h7] at IK;have hpp:=IJ p (eH ..);have hp3:ps3.length<2 ^ 32:=by simp only[aZ] at L_;omega
      obtain⟨H6,L6,QC,J1⟩:=QA.IG hg (show 1<=n by omega) hp3
      obtain⟨H7,J2,QD,L7⟩:=QC.FG hg (show 1302<=n by omega) (op:=op) (pl:=pl) (s0:=s0) (s1:=s1) (s2:=s2) (s3:=s3) (mn:=mn) (mx:=mx) (text:=tx) (nl:=nl) (args:=a::tl) hpp.2
      rw[qA] at J2;obtain⟨H8,Yy,hw8,hk8⟩:=QD.Dl hg (show 1<=n by omega) (xT mn mx p m2.next).1 hp3
      have L9:=J1 _ _ _ (by omega) (by omega) (by omega) N_
      have T7:=L7 _ _ _ (by omega) (by omega) (by omega) L9
      have hf8:=hk8 _ _ _ (by omega) (by omega) (by omega) T7
      have hq8:=hk8 _ _ _ (by omega) (by omega) (by omega) (L7 _ _ _ (by omega) (by omega) (by omega) (J1 _ _ _ (by omega) (by omega) (by omega) QB))
      refine Tw [2] [(false,false),(false,false),(true,false),(false,true),(false,true),(false,true)] (tk:=[]) (by kernel_rfl) (by kernel_rfl) ?_
      simp only[BA,Nat.reduceEqDiff,av,ak,aq,ah,aA,au,za,bD,Nat.reduceLT,bw,r8,u6,Tx,Ty,Tz,TA,he.e0,he.e9,he.e8,hlen,nE,l4,L6,J2,Yy,Bi,List.all_nil]
      refine⟨vE (p:=.ptr L 0) (by simp[ak,za,hlen,aW]) (J0 L9).2.2.2 rfl,vE (p:=.ptr L 0) (by simp[ak,za,hlen,aW]) (J0 T7).2.2.2 rfl,vE (p:=.ptr L 0) (by simp[ak,za,hlen,aW]) (J0 hf8).2.2.2 rfl,?_⟩
      simp only[ql,zN,zD,zp,aM,iN,gZ,aF,fP,bw]
      have J3:(xT mn mx p m2.next).2.length=m2.next.length:=zht
      refine⟨_,hJ _ (show wS S<_ by simp only[wS];have:=TY (.mk op pl s0 s1 s2 s3 tx mn mx nl (a::tl),(a::tl).length);omega),S,_,_,H8,_,rfl,rfl,⟨by simp[hlen],by simp[za,he.e0],by simp[za,he.e2],by simp[za,he.e6],by simp[za,he.e7],by simp[za,he.e8]⟩,hw8,IK,λy hy=>?_,⟨Bk.r,by rw[J3];exact Bk.n⟩,λf hf=>hi.wf f (dR _ hf),L_,⟨_,hq8⟩⟩
      rw[J3];rcases dH.1 hy with rfl|hy
      ·exact znW hpp
      ·exact IJ y (dR _ hy)
     ·refine .inr ⟨by simp[h7],?_⟩
      simp only[ql,zN,zD,zp,aM,iN,gZ,aF,fP,bw]
      rw[y9,if_neg h7] at IK;refine⟨_,hJ _ (show wS S<_ by simp only[wS];have:=TY (.mk op pl s0 s1 s2 s3 tx mn mx nl (a::tl),(a::tl).length);omega),S,_,_,H5,_,rfl,rfl,⟨by simp[hlen],by simp[za,he.e0],by simp[za,he.e2],by simp[za,he.e6],by simp[za,he.e7],by simp[za,he.e8]⟩,QA,IK,IJ,Bk,λf hf=>hi.wf f (dR _ hf),L_,⟨_,QB⟩⟩
end
section
variable{gl:Gl}
abbrev Cr:=E×Bool×E
def iS(c:Cr):aD:=aK c.1++[.bool c.2.1]++aK c.2.2
def BS(c:Cr):V:=.agg (iS c)
def z0(nl:Bool)(l:List Cr):V:=if nl && l.isEmpty then .aG else .sl 21 (l.map BS) .no
def ff(c:Cr):E:=if c.2.1 then .mk 5 0 0 0 0 0 [] 0 0 false [c.1,c.2.2] else c.1
def jU(n r:Nat)(e:E)(m:Mk):bN×Mk :=
 (jh (if (iR r e m).1.null then jB (iR r e m).1.first (jQ cQ (n+r)) else (iR r e m).1.first) 19,
  {(iR r e m).2 with next:=mF (jQ cQ (n+r)) (jh (iR r e m).1.last 19) (iR r e m).2.next })
theorem Yz{n r:Nat}{e:E}{m:Mk}:(jU n r e m).2.bZ=(iR r e m).2.bZ:=by simp only[jU]
def qt(n:Nat):Nat->List E->Mk->List bN×Mk
 | _,[],m=>([],m)
 | r,e::es,m=>((jU n r e m).1::(qt n (r+1) es (jU n r e m).2).1,(qt n (r+1) es (jU n r e m).2).2)
def m0:Mk:=⟨[],[],[]⟩
theorem zcM{n:Nat}:∀{r:Nat}{es:List E}{m:Mk},m.bZ.length<=(qt n r es m).2.bZ.length
 | _,[],_=>dI _
 | r,e::es,m=>by
  simp only[qt];refine cP ?_ (zcM (m:=(jU n r e m).2));rw[Yz];exact sJ e m
def FL(k:Nat):V:=.int .i64 (k:Int)
def jH(l:bN):V:=aW (zl 1 3 (l.map FL))
theorem w5(c:Cr):(iS c).length=21:=by simp[iS,zZ]
theorem yf(c:Cr):(iS c).map aW=iS c:=by simp[iS,qi,qR]
theorem YA(c:Cr):aI (iS c)=0:=gz (gz (vZ _) rfl) (vZ _)
theorem zjt(c:Cr):(iS c).all (λc=>!(locked c))=true:=by simp only[iS,List.all_append,Yc];rfl
theorem je{nl:Bool}{l:List Cr}:aW (z0 nl l)=z0 nl l:=by unfold z0;split<;>rfl
theorem YB:prog.underlying 24=some (.slice 55):=by kernel_rfl
theorem IL:z4 prog 55=some 21:=by kernel_rfl
theorem YC:qD prog 55=some true:=by kernel_rfl
theorem xq{H:Hp}{nl:Bool}{l:List Cr}:jb prog H 24 (z0 nl l)=some (l.length:Int):=by
 unfold z0;split
 ·rename_i h;have:l=[]:=by simp at h;exact h.2
  subst this;simp[jb]
 ·simp[jb]
theorem YD{nl:Bool}{l:List Cr}{k:Nat}{c:Cr}(h:l[k]?=some c):zt prog 24 (z0 nl l) (k:Int)=some (.vp (iS c)):=by
 have cI:z0 nl l=.sl 21 (l.map BS) .no:=by
  unfold z0;rw[if_neg];intro h';have:l=[]:=by simp at h';exact h'.2
  rw[this] at h;simp at h
 have hn:nth (l.map BS) k=some (BS c):=by rw[zg,iY,h];rfl
 have hk:¬((k:Int)<0):=by omega
 simp[cI,zt,IL,hk,hn,BS,V.cells]
theorem zju{H:Hp}{g:Nat->Nat->bX}{c:Cr}:zk prog H g 55 (.vp (iS c))=some (.agg (iS c)):=by
 have:(iS c).take 21=iS c:=p9 (by rw[w5];decide)
 simp[zk,qy,YC,IL,NL,w5,this]
theorem xr{P:aQ}{n:Nat}{f:FuncId}{args:aD}{v:V}{H:Hp}(h:gl.hk f args=some v):zj P gl (n+1) f args H=some (.ret v,H):=by
 obtain⟨b,e⟩:=H;simp only[zj,h]
def zF:aD:=[.aG,.aG,.aG,.aG]
theorem YE:qQ prog 30=some (.agg zF):=by kernel_rfl
theorem zoT{env:aD}:ky prog 30 #[] env=some (.agg zF):=by kernel_rfl
theorem zqi{env:aD}:ky prog 113 #[] env=some (.agg [.aG,.aG,.aG]):=by kernel_rfl
theorem z47:qQ prog 55=some (.agg (iS (.mk 0 0 0 0 0 0 [] 0 0 true [],false,.mk 0 0 0 0 0 0 [] 0 0 true []))):=by kernel_rfl
theorem YF:qQ prog 53=some (.agg (aK (.mk 0 0 0 0 0 0 [] 0 0 true []))):=by kernel_rfl
theorem z60:qQ prog 115=some (.agg (pv 19 cQ)):=by kernel_rfl
theorem FM:z4 prog 30=some 4:=by kernel_rfl
theorem Ma:qD prog 30=some true:=by kernel_rfl
theorem IM:qD prog 37=some false:=by kernel_rfl
theorem zkx(hg:GW gl){n:Nat}(hn:1<=n){nl:Bool}{l:List Cr}{k:Int}{ok:Bool}{e0 e1:V}(hm:gl.hk 54 [z0 nl l]=some (.bq [.int .i64 k,.bool ok]))(h0:gl.g 0 0=some e0)(h1:gl.g 1 0=some e1)(Nw:e0.top=0)(OW:e1.top=0)
  (sy:∃t v,e0=.ec t v) (ng:∃t v,e1=.ec t v) (iH:ok=false\/1000<k):zj prog gl (n+1) 14 [z0 nl l] ⟨[],[]⟩=some (.ret (.bq [.agg zF,if ok then e1 else e0]),⟨[],[]⟩):=by
 have dw:Cx.bC ⟨prog,gl.g,zj prog gl n,fy⟩ 54 [z0 nl l] ⟨[.cells zF 30],[]⟩=some (.val (.bq [.int .i64 k,.bool ok]),⟨[.cells zF 30],[]⟩):=by
  have:=xr (P:=prog) (n:=n - 1) (H:=⟨[.cells zF 30],[]⟩) hm;rw[show n - 1+1=n by omega] at this
  exact zu func54 rfl this
 suffices bL:(go ⟨prog,gl,zj prog gl n,fy⟩ n (Fx prog f14.results.toList λw H1=>w=.bq [.agg zF,if ok then e1 else e0]/\H1=⟨[.cells zF 30],[]⟩) [.c (f14.body.getD .skip)] .normal ⟨[z0 nl l]++List.replicate 109 (.bq []),⟨[],[]⟩,[],[]⟩) by
  obtain⟨w,H1,h0,rfl,rfl⟩:=zQ (gl:=gl) (f:=14) (bs:=[]) (es:=[]) (args:=[z0 nl l]) (n:=n) (hg.hk _ _ (by decide)) (λH=>hg.fG _ _ _ _) func14 rfl (by rw[hg.uq];exact bL)
  rw[h0];have:(V.bq [.agg zF,if ok then e1 else e0]).top=0:=by
   cases ok<;>simp[V.top,aI,zF,Nw,OW]
  rw[this];rfl
 have hz:dz (V.agg zF)=true:=rfl;simp only[f14,fQ,zh];refine zi ?_;simp only[BA,aj,aq,zc,bS,bT,YE,zH hz,V.cells,List.replicate];refine zi ?_
 simp only[BA,av,ak,aq,aA,zd,ze,bS,bT,je,dw,kX,dA];refine zi ?_;simp only[BA,ak,aq,zd,ze,bS,bT,iz]
 have e_:∀env,qr prog 30 ⟨[.cells zF 30],[]⟩ [] [] (some (.agg zF,env)) (some (.ptr 0 0))=some (.skip,⟨env,⟨[.cells zF 30],[]⟩,[],[]⟩):=λenv=>by
  rw[zy (cs:=zF) (ty:=30) FM rfl rfl rfl (by decide) rfl]
  rfl
 have En:∀g,zk prog ⟨[.cells zF 30],[]⟩ g 30 (.ptr 0 0)=some (.agg zF):=λg=>by
  rw[qY (cs:=zF) (ty:=30) Ma FM rfl (by decide)]
  rfl
 cases ok with
 | false =>
  refine .inl ⟨rfl,?_⟩;refine Tw [1] [(false,false),(true,false),(false,true),(false,false)] (tk:=[]) (by kernel_rfl) (by kernel_rfl) ?_
  have hl:∀H,zk prog H gl.g 37 (.fq 0 0)=some e0:=λH=>by simp[zk,IM,h0]
  obtain⟨t,v,rfl⟩:=sy;simp only[BA,ak,aq,au,zd,ze,bS,bT,r8,u6,Tx,W9,Tz,TA,IM,zoT,hl,zja,zeL,e_];refine⟨λ_=>vE (p:=.fq 0 0) rfl (hl _) rfl,?_⟩;simp only[go_ret,zp,we,Fx]
  refine⟨trivial,[.agg zF,.ec t v],?_,by simp[iZ,aW],trivial⟩
  simp only[zx,zd,ze,En];rfl
 | true =>
  have hk:1000<k:=by rcases iH with h|h;cases h;exact h
  refine .inr ⟨rfl,?_⟩;refine zi ?_;simp only[BA,ak,aj,aq,zd,ze,bS,bT,w4];refine .inl ⟨by simpa using hk,?_⟩
  refine Tw [1] [(false,false),(true,false),(false,true),(false,false)] (tk:=[]) (by kernel_rfl) (by kernel_rfl) ?_
  have hl:∀H,zk prog H gl.g 37 (.fq 1 0)=some e1:=λH=>by simp[zk,IM,h1]
  obtain⟨t,v,rfl⟩:=ng;simp only[BA,ak,aq,au,zd,ze,bS,bT,r8,u6,Tx,W9,Tz,TA,IM,zoT,hl,zja,zeL,e_];refine⟨λ_=>vE (p:=.fq 1 0) rfl (hl _) rfl,?_⟩;simp only[go_ret,zp,we,Fx]
  refine⟨trivial,[.agg zF,.ec t v],?_,by simp[iZ,aW],trivial⟩
  simp only[zx,zd,ze,En];rfl
end
section
open Go.Vm.Sx
variable{gl:Gl}
def J4(e:E):Bool:=(cO e 1 0 0).1
def vv(e:E):Int:=bif (cO e 1 0 0).1 then (bif dj 1001 (cO e 1 0 0).2.2 then 1001 else (cO e 1 0 0).2.2) else 0
def mG:E->Bool
 | .mk op pl s0 s1 s2 s3 text mn mx _ args=>(((((((op == 0) && (pl == 0)) && (s0 == 0 && (s1 == 0 && (s2 == 0 && s3 == 0)))) && nQ text []) && (mn == 0)) && (mx == 0)) && ((args.length:Int) == 0))
theorem zeX(nl:Bool)(l:List Cr):z0 nl l=lv 21 nl (l.map BS):=by cases l<;>cases nl<;>rfl
theorem zhy(nl:Bool)(l:List Cr):vL (z0 nl l)=l.map BS:=by rw[zeX];exact zqc ..
theorem zpF(c:Cr):(BS c).top=0:=YA c
theorem zeY(nl:Bool)(l:List Cr):(z0 nl l).top=0:=by
 rw[zeX,JR];exact wu zpF _
def Mb(c:Cr):Prop:=Wf c.1/\Wf c.2.2
def CO(c:Cr):Bool:=J4 c.1 && (bif c.2.1 then J4 c.2.2 else mG c.2.2)
def FO(p:Int)(c:Cr):Int:=bif dj 1001 (IntKind.i64.wrap (IntKind.i64.wrap (p+vv c.1)+vv c.2.2)) then 1001 else IntKind.i64.wrap (IntKind.i64.wrap (p+vv c.1)+vv c.2.2)
def m7:Int->List Cr->Int×Bool
 | p,[]=>(p,true)
 | p,c::l=>bif CO c then m7 (FO p c) l else (0,false)
def yO(l:List Cr):Int×Bool:=bif dj 200 (l.length:Int) then (0,false) else m7 0 l
def fh:Int->List Cr->Int
 | n,[]=>n
 | n,c::l=>fh (IntKind.i64.wrap (IntKind.i64.wrap (n+eC c.1 0)+eC c.2.2 0)) l
end
section
open Go.Vm.Sx
variable{gl:Gl}
def nv(l:List Int):V:=lv 1 true (l.map (.int .i64))
def GX(l:List (List Int)):V:=lv 1 true (l.map nv)
def T8(l:List (Int×Int×Int×Int)):V:=lv 4 true (l.map XY)
structure Fo where
 s:List (Int×Int×Int×Int)
 r:List Int
 f:List (List Int)
 n:List (List Int)
def QF(F:Fo):aD:=[T8 F.s,nv F.r,GX F.f,GX F.n]
def T9(F:Fo):V:=.agg (QF F)
theorem zmb(l:List Int):(nv l).top=0:=by unfold nv;rw[JR];exact wu (λ_=>rfl) _
theorem zn1(l:List (List Int)):(GX l).top=0:=by unfold GX;rw[JR];exact wu zmb _
theorem zn2(l:List (Int×Int×Int×Int)):(T8 l).top=0:=by unfold T8;rw[JR];exact wu (λ_=>rfl) _
end
section
open Go.Vm.Sx
mutual
def nodes:E->Nat
 | .mk _ _ _ _ _ _ _ _ _ _ args=>1+eR args
def eR:List E->Nat
 | []=>0
 | a::l=>nodes a+eR l
end
mutual
def lH:E->Nat
 | .mk op _ _ _ _ _ _ _ _ _ args=>(if op == 2 then 1 else 0)+iL args
def iL:List E->Nat
 | []=>0
 | a::l=>lH a+iL l
end
mutual
def uY:E->Int->Bool
 | .mk op pl s0 s1 s2 s3 text mn mx nl args,d=>decide (d<=4096) && (lC (.mk op pl s0 s1 s2 s3 text mn mx nl args) && (fU (.mk op pl s0 s1 s2 s3 text mn mx nl args) && rC args (d+1)))
def rC:List E->Int->Bool
 | [],_=>true
 | a::l,d=>uY a d && rC l d
end
mutual
theorem r9:∀e,lH e<=nodes e
 | .mk op _ _ _ _ _ _ _ _ _ args=>by
  have:=Bl args;simp only[lH,nodes];split<;>omega
theorem Bl:∀l,iL l<=eR l
 | []=>by simp[iL]
 | a::l=>by have:=r9 a;have:=Bl l;simp only[iL,eR];omega
end
def Bd(d:Int):Int:=1048576 * (5003 - d)
mutual
theorem r_:∀(e:E)(d:Int),Wf e->0<=d->d<=5001->1<=eC e d/\eC e d<=Bd d
 | .mk _ _ _ _ _ _ _ _ _ _ args,d,hw,h0,h1=>by
  simp only[eC];cases hd:dj 5000 d with
  | true=>simp only[aF,Bd];omega
  | false =>
   have GC:d<=5000:=by
    rcases Int.lt_or_le 5000 d with h|h
    ·rw[JQ h] at hd;cases hd
    ·exact h
   simp only[fP,bw];rw[Es (x:=d+1) (by omega) (by omega)]
   have:=sL args (d+1) 1 hw.2.2 (by omega) (by omega) (by omega) (by simp only[Bd];omega)
   refine⟨by omega,?_⟩
   have:=this.2;simp only[Bd] at this ⊢;omega
theorem sL:∀(l:List E)(d n:Int),Iu l->0<=d->d<=5001->1<=n->n<=Bd (d - 1)->n<=lE d n l/\lE d n l<=Bd (d - 1)
 | [],d,n,_,h0,h1,hn,hb=>by simp only[lE];omega
 | a::l,d,n,hw,h0,h1,hn,hb=>by
  obtain⟨a1,a2⟩:=r_ a d hw.1 h0 h1;simp only[lE];cases hc:dj n 1048576 with
  | false=>simp only[fP,bw];omega
  | true =>
   have ej:=Fl.1 hc;simp only[aF];simp only[Bd] at a2 hb;rw[Es (by omega) (by omega)]
   have:=sL l d (n+eC a d) hw.2 h0 h1 (by omega) (by simp only[Bd];omega)
   exact⟨by omega,this.2⟩
end
mutual
theorem oP:∀(e:E)(d:Int),Wf e->0<=d->d<=5001->eC e d<=20000->(nodes e:Int)<=eC e d
 | .mk _ _ _ _ _ _ _ _ _ _ args,d,hw,h0,h1,hs=>by
  simp only[eC] at hs ⊢;cases hd:dj 5000 d with
  | true=>rw[hd] at hs;simp only[aF] at hs;omega
  | false =>
   rw[hd] at hs;have GC:d<=5000:=by
    rcases Int.lt_or_le 5000 d with h|h
    ·rw[JQ h] at hd;cases hd
    ·exact h
   simp only[fP,bw] at hs ⊢;rw[Es (x:=d+1) (by omega) (by omega)] at hs ⊢
   have g1:=rE args (d+1) 1 hw.2.2 (by omega) (by omega) (by omega) (by simp only[Bd];omega) hs
   simp only[nodes];omega
theorem rE:∀(l:List E)(d n:Int),Iu l->0<=d->d<=5001->1<=n->n<=Bd (d - 1)->lE d n l<=20000->n+(eR l:Int)<=lE d n l
 | [],d,n,hw,h0,h1,hn,hb,hs=>by simp only[lE,eR] at hs ⊢;omega
 | a::l,d,n,hw,h0,h1,hn,hb,hs=>by
  obtain⟨a1,a2⟩:=r_ a d hw.1 h0 h1;simp only[lE] at hs ⊢;cases hc:dj n 1048576 with
  | false =>
   rw[hc] at hs;simp only[fP,bw] at hs;rw[JQ (by omega)] at hc;cases hc
  | true =>
   have ej:=Fl.1 hc;rw[hc] at hs;simp only[aF] at hs ⊢;simp only[Bd] at a2 hb;rw[Es (by omega) (by omega)] at hs ⊢
   have cZ:n+eC a d<=Bd (d - 1):=by simp only[Bd];omega
   have:=(sL l d (n+eC a d) hw.2 h0 h1 (by omega) cZ).1
   have g1:=rE l d (n+eC a d) hw.2 h0 h1 (by omega) cZ hs
   have f1:=oP a d hw.1 h0 h1 (by omega)
   simp only[eR];omega
end
mutual
theorem oQ:∀(e:E)(d n s:Int),0<=d->d<=4097->0<=n->n+(nodes e:Int)<=65536->0<=s->s+(nodes e:Int)<=65536->(cO e d n s).1=uY e d/\(uY e d=true->(cO e d n s).2.1=n+nodes e/\(cO e d n s).2.2=s+lH e)
 | .mk op pl s0 s1 s2 s3 text mn mx nl args,d,n,s,h0,h1,h2,h3,h4,h5=>by
  simp only[nodes] at h3 h5;simp only[cO,uY];rw[Es (x:=n+1) (by omega) (by omega),Xo (x:=65536) (by omega),uQ]
  cases hd:dj 4096 d with
  | true =>
   have:=Fl.1 hd;simp only[aF];rw[decide_eq_false (by omega)]
   simp
  | false =>
   have GC:d<=4096:=by
    rcases Int.lt_or_le 4096 d with h|h
    ·rw[JQ h] at hd;cases hd
    ·exact h
   rw[decide_eq_true GC,s5];simp only[fP,bw];cases hl:lC (.mk op pl s0 s1 s2 s3 text mn mx nl args) with
   | false=>simp
   | true =>
   cases hk:fU (.mk op pl s0 s1 s2 s3 text mn mx nl args) with
   | false=>simp
   | true =>
   simp only[aF,s5];rw[Es (x:=d+1) (by omega) (by omega),Es (x:=s+1) (by omega) (by omega)]
   cases ho:op == 2 with
   | true =>
    simp only[aF];obtain⟨g1,g2⟩:=nF args (d+1) (n+1) (s+1) (by omega) (by omega) (by omega) (by omega) (by omega) (by omega)
    refine⟨g1,λhg=>?_⟩;obtain⟨g3,g4⟩:=g2 hg;rw[g3,g4];simp only[nodes,lH,ho,aF];omega
   | false =>
    simp only[fP,bw];obtain⟨g1,g2⟩:=nF args (d+1) (n+1) s (by omega) (by omega) (by omega) (by omega) (by omega) (by omega)
    refine⟨g1,λhg=>?_⟩;obtain⟨g3,g4⟩:=g2 hg;rw[g3,g4];simp only[nodes,lH,ho,fP,bw];omega
theorem nF:∀(l:List E)(d n s:Int),0<=d->d<=4097->0<=n->n+(eR l:Int)<=65536->0<=s->s+(eR l:Int)<=65536->(iG d l n s).1=rC l d/\(rC l d=true->(iG d l n s).2.1=n+eR l/\(iG d l n s).2.2=s+iL l)
 | [],d,n,s,_,_,_,_,_,_=>by simp[iG,rC,eR,iL]
 | a::l,d,n,s,h0,h1,h2,h3,h4,h5=>by
  simp only[eR] at h3 h5;obtain⟨g1,g2⟩:=oQ a d n s h0 h1 h2 (by omega) h4 (by omega)
  simp only[iG,rC];cases hg:uY a d with
  | false =>
   rw[hg] at g1;simp[g1]
  | true =>
   rw[hg] at g1;obtain⟨g3,g4⟩:=g2 hg;have:=r9 a;simp only[g1,aF,s5,g3,g4];obtain⟨f1,f2⟩:=nF l d (n+nodes a) (s+lH a) h0 h1 (by omega) (by omega) (by omega) (by omega)
   refine⟨f1,λhh=>?_⟩;obtain⟨f3,f4⟩:=f2 hh;rw[f3,f4];simp only[eR,iL];omega
end
mutual
def gd:E->Bool
 | .mk op pl s0 s1 s2 s3 text mn mx nl args=>lC (.mk op pl s0 s1 s2 s3 text mn mx nl args) && (fU (.mk op pl s0 s1 s2 s3 text mn mx nl args) && J5 args)
def J5:List E->Bool
 | []=>true
 | a::l=>gd a && J5 l
end
mutual
theorem y_:∀(e:E)(d:Int),d+nodes e<=4097->uY e d=gd e
 | .mk op pl s0 s1 s2 s3 text mn mx nl args,d,h=>by
  simp only[nodes] at h;simp only[uY,gd];rw[decide_eq_true (by omega),s5,Bm args (d+1) (by omega)]
theorem Bm:∀(l:List E)(d:Int),d+eR l<=4097->rC l d=J5 l
 | [],_,_=>rfl
 | a::l,d,h=>by
  simp only[eR] at h;simp only[rC,J5];rw[y_ a d (by omega),Bm l d (by omega)]
end
theorem zmc{e:E}(h:nodes e<=4000):J4 e=gd e:=by
 obtain⟨h1,_⟩:=oQ e 1 0 0 (by omega) (by omega) (by omega) (by omega) (by omega) (by omega)
 rw[J4,h1,y_ e 1 (by omega)]
theorem T_{e:E}(h:nodes e<=4000):vv e=if gd e then (if 1001<(lH e:Int) then 1001 else (lH e:Int)) else 0:=by
 obtain⟨h1,h2⟩:=oQ e 1 0 0 (by omega) (by omega) (by omega) (by omega) (by omega) (by omega)
 have hg:=y_ e 1 (by omega)
 rw[vv,h1,hg];cases h3:gd e with
 | false=>rfl
 | true =>
  rw[(h2 (by rw[hg,h3])).2]
  simp only[mJ,aF,Int.zero_add]
  by_cases h4:1001<(lH e:Int)
  ·rw[if_pos h4,JQ h4];rfl
  ·rw[if_neg h4,Xo (by omega)];rfl
theorem zmd{e:E}(h:mG e=true):gd e=false:=by
 obtain⟨op,pl,s0,s1,s2,s3,text,mn,mx,nl,args⟩:=e;simp only[mG,eo,beq_iff_eq] at h;obtain⟨⟨⟨⟨⟨⟨rfl,_⟩,_⟩,_⟩,_⟩,_⟩,_⟩:=h;simp[gd,fU]
theorem rF:∀(l:List Cr)(n:Int),(∀c∈l,Mb c)->0<=n->n+11000000000 * (l.length:Int)<=9000000000000000000->fh n l<=800->n<=fh n l/\∀c∈l,nodes c.1<=800/\nodes c.2.2<=800
 | [],n,_,_,_,h=>by simp only[fh] at h ⊢;exact⟨by omega,λc hc=>by cases hc⟩
 | c::l,n,hw,h0,hb,h=>by
  obtain⟨w1,w2⟩:=hw c (eH ..);obtain⟨a1,a2⟩:=r_ c.1 0 w1 (by omega) (by omega)
  obtain⟨b1,b2⟩:=r_ c.2.2 0 w2 (by omega) (by omega)
  simp only[Bd] at a2 b2;simp only[aZ] at hb;simp only[fh] at h ⊢;rw[Es (x:=n+eC c.1 0) (by omega) (by omega),Es (by omega) (by omega)] at h ⊢
  obtain⟨g1,g2⟩:=rF l (n+eC c.1 0+eC c.2.2 0) (λc hc=>hw c (dR _ hc)) (by omega) (by push_cast at hb ⊢;omega) h
  have f1:=oP c.1 0 w1 (by omega) (by omega) (by omega)
  have f2:=oP c.2.2 0 w2 (by omega) (by omega) (by omega)
  refine⟨by omega,λc' hc=>?_⟩
  rcases dH.1 hc with rfl|hc
  ·exact⟨by omega,by omega⟩
  ·exact g2 c' hc
end
section
open Go.Vm.Sx
def D_(ns:List (Nat->Bool))(x:Nat):Nat->Bool:=ns.getD x cQ
theorem zn3{ns:List (Nat->Bool)}{k x:Nat}{p:Nat->Bool}(hx:x<ns.length):D_ (ns.set k p) x=if k=x then p else D_ ns x:=by
 unfold D_;rw[Nf,Nf,s4]
 by_cases h:k=x
 ·subst h;simp[hx]
 ·simp[h]
theorem YG{q:Nat->Bool}{x:Nat}:∀{ks:bN}{ns:List (Nat->Bool)},x<ns.length->∀y,D_ (mF q ks ns) x y=(D_ ns x y || (decide (x∈ks) && q y))
 | [],ns,_,y=>by simp[mF]
 | k::ks,ns,hx,y=>by
  rw[mF,YG (by rw[bD];exact hx),zn3 hx]
  by_cases h:k=x
  ·subst h;simp only[aF,jB,dH,true_or,decide_true,s5];show(D_ ns k y || q y || (decide (k∈ks) && q y))=(D_ ns k y || q y)
   cases D_ ns k y<;>cases q y<;>simp
  ·have:decide (x∈k::ks)=decide (x∈ks):=by simp[Ne.symm h]
   rw[if_neg h,this]
def J6(ns:List (Nat->Bool))(x:Nat):Prop:=∃y,y<1216/\D_ ns x y=true
structure lT(ns ns':List (Nat->Bool)):Prop where
 len:ns.length<=ns'.length
 row:∀x,x<ns.length->∀y,D_ ns x y=true->D_ ns' x y=true
theorem lT.refl{ns:List (Nat->Bool)}:lT ns ns:=⟨dI _,λ_ _ _ h=>h⟩
theorem lT.trans{a b c:List (Nat->Bool)}(h:lT a b)(k:lT b c):lT a c:=⟨cP h.len k.len,λx hx y hy=>k.row x (uO hx h.len) y (h.row x hx y hy)⟩
theorem lT.Bn{a b:List (Nat->Bool)}(h:lT a b){x:Nat}(hx:x<a.length)(hr:J6 a x):J6 b x:=by
 obtain⟨y,h1,h2⟩:=hr;exact⟨y,h1,h.row x hx y h2⟩
theorem lI{q:Nat->Bool}{ks:bN}{ns:List (Nat->Bool)}:lT ns (mF q ks ns):=⟨by rw[wr];exact dI _,λx hx y hy=>by rw[YG hx,hy];rfl⟩
theorem zme{ns:List (Nat->Bool)}{p:Nat->Bool}:lT ns (ns++[p]):=⟨by simp,λx hx y hy=>by
 unfold D_ at hy ⊢;rw[Nf] at hy ⊢
 rw[gb hx];exact hy⟩
structure Inv(n0:Nat)(P:Part)(ns:List (Nat->Bool)):Prop where
 nn:P.null=true\/∃y,y<1216/\P.first y=true
 lv:∀x,n0<=x->x<ns.length->P.last x=true\/J6 ns x
theorem zhA{q:Nat->Bool}{p:Nat->Bool}{ns:List (Nat->Bool)}{x:Nat}(hx:x<ns.length)(Lz:x<1216)(hp:p x=true)(hq:∃y,y<1216/\q y=true):J6 (mF q (jh p 19) ns) x:=by
 obtain⟨y,h1,h2⟩:=hq;refine⟨y,h1,?_⟩;rw[YG hx,h2];have:x∈jh p 19:=iy.2 ⟨by omega,hp⟩
 simp[this]
theorem zhB{op:Int}{k:Nat}{a b:Part}{ns:List (Nat->Bool)}:lT ns (zP op k a b ns).2:=by
 unfold zP;split
 ·exact lT.refl
 ·split
  ·exact lT.refl
  ·simp only;exact lI
theorem zim{op:Int}{k:Nat}{n0:Nat}{a b:Part}{QG ns:List (Nat->Bool)}(hk:0<k)(ha:Inv n0 a QG)(hb:Inv QG.length b ns)(hg:lT QG ns)(hl:ns.length<=1200):Inv n0 (zP op k a b ns).1 (zP op k a b ns).2:=by
 unfold zP;rw[if_neg (by omega)]
 split
 ·refine⟨?_,λx h0 hx=>?_⟩
  ·rcases ha.nn with h|⟨y,h1,h2⟩
   ·left;simp[h]
   ·right;exact⟨y,h1,by simp[jB,h2]⟩
  ·by_cases Db:x<QG.length
   ·rcases ha.lv x h0 Db with h|h
    ·left;simp[jB,h]
    ·right;exact hg.Bn Db h
   ·rcases hb.lv x (by omega) hx with h|h
    ·left;simp[jB,h]
    ·right;exact h
 ·refine⟨?_,λx h0 hx=>?_⟩
  ·simp only;rcases ha.nn with h|⟨y,h1,h2⟩
   ·rcases hb.nn with h'|⟨y,h1,h2⟩
    ·left;simp[h,h']
    ·right;exact⟨y,h1,by simp[h,jB,h2]⟩
   ·right
    refine⟨y,h1,?_⟩;split
    ·simp[jB,h2]
    ·exact h2
  ·simp only[wr] at hx ⊢
   by_cases Db:x<QG.length
   ·rcases ha.lv x h0 Db with h|h
    ·rcases hb.nn with h'|h'
     ·left;simp[h',jB,h]
     ·right;exact zhA hx (by omega) h h'
    ·right;exact lI.Bn hx (hg.Bn Db h)
   ·rcases hb.lv x (by omega) hx with h|h
    ·left
     split
     ·simp[jB,h]
     ·exact h
    ·right;exact lI.Bn hx h
variable{r:Int}
theorem zmf{op:Int}{q:Int×Int×Int×Int}{m:Mk}(ek:m.Ok)(aC:op=1\/op=2)(hl:m.bZ.length<=1200):Inv m.next.length (jM op q r m).1 (jM op q r m).2.next/\lT m.next (jM op q r m).2.next/\(jM op q r m).2.bZ.length=m.bZ.length+(if op == 2 then 1 else 0)/\(jM op q r m).2.Ok:=by
 refine⟨?_,?_,?_,(zhv ek).1⟩
 ·unfold jM;split
  ·exact⟨.inl rfl,λx h0 hx=>by simp only at hx;omega⟩
  ·refine⟨.inr ⟨m.bZ.length,by omega,by simp[jQ,cQ]⟩,λx h0 hx=>.inl ?_⟩
   simp only[aU,Jk] at hx;have:x=m.bZ.length:=by rw[<- ek.n];omega
   simp[jQ,cQ,this]
 ·unfold jM;split
  ·exact lT.refl
  ·exact zme
 ·unfold jM;rcases aC with rfl|rfl
  ·simp
  ·simp
theorem zmg{op mn mx:Int}{n0:Nat}{x:Part×Mk}(h:Inv n0 x.1 x.2.next)(ek:x.2.Ok):Inv n0 (y9 op mn mx x).1 (y9 op mn mx x).2.next/\lT x.2.next (y9 op mn mx x).2.next/\(y9 op mn mx x).2.Ok:=by
 unfold y9;split
 ·unfold xT;simp only;split
  ·refine⟨⟨?_,λy h0 hy=>?_⟩,lI,⟨ek.r,by simp only[wr];exact ek.n⟩⟩
   ·rcases h.nn with h1|h1
    ·left;simp[h1]
    ·right;exact h1
   ·rw[wr] at hy;rcases h.lv y h0 hy with h1|h1
    ·left;exact h1
    ·right;exact lI.Bn hy h1
  ·refine⟨⟨?_,h.lv⟩,lT.refl,⟨ek.r,ek.n⟩⟩;rcases h.nn with h1|h1
   ·left;simp[h1]
   ·right;exact h1
 ·exact⟨h,lT.refl,ek⟩
mutual
theorem Dp:∀(e:E)(m:Mk),gd e=true->m.Ok->m.bZ.length+lH e<=1200->Inv m.next.length (iR r e m).1 (iR r e m).2.next/\lT m.next (iR r e m).2.next/\(iR r e m).2.bZ.length=m.bZ.length+lH e/\(iR r e m).2.Ok
 | .mk op pl s0 s1 s2 s3 tx mn mx nl [],m,hg,ek,hl=>by
  have aC:op=1\/op=2:=by
   simp only[gd,fU,eo] at hg
   by_cases h1:op=1
   ·exact .inl h1
   ·by_cases h2:op=2
    ·exact .inr h2
    ·have:=hg.2.1;simp[h1,h2] at this;exfalso;revert this;simp[dj]
  obtain⟨g1,g2,g3,g4⟩:=zmf (op:=op) (q:=(s0,s1,s2,s3)) (r:=r) ek aC (by omega)
  simp only[iR];refine⟨g1,g2,?_,g4⟩;rw[g3];simp only[lH,iL];rfl
 | .mk op pl s0 s1 s2 s3 tx mn mx nl (a::tl),m,hg,ek,hl=>by
  have aC:(op == 2)=false:=by
   simp only[gd,fU,eo] at hg;cases h2:op == 2 with
   | false=>rfl
   | true =>
    have:=hg.2.1;have e2:=beq_iff_eq.1 h2;subst e2;simp at this;omega
  have hgF:J5 (a::tl)=true:=by
   simp only[gd,eo] at hg;exact hg.2.2
  have ov:lH (.mk op pl s0 s1 s2 s3 tx mn mx nl (a::tl))=iL (a::tl):=by simp only[lH,aC,fP,bw,nO]
  rw[ov] at hl ⊢;obtain⟨g1,g2,g3,g4⟩:=Dq (a::tl) op 0 p0 m m.next.length hgF ek (.inl ⟨rfl,rfl,by simp⟩) hl
  rw[zhu];obtain⟨f1,f2,f3⟩:=zmg (op:=op) (mn:=mn) (mx:=mx) g1 g4;exact⟨f1,g2.trans f2,by rw[Yk];exact g3,f3⟩
theorem Dq:∀(es:List E)(op:Int)(k:Nat)(a:Part)(m:Mk)(n0:Nat),J5 es=true->m.Ok->((k=0/\m.next.length=n0/\es≠[])\/(0<k/\Inv n0 a m.next))->m.bZ.length+iL es<=1200 ->
  Inv n0 (sI r op k a es m).1 (sI r op k a es m).2.next/\lT m.next (sI r op k a es m).2.next/\(sI r op k a es m).2.bZ.length=m.bZ.length+iL es/\(sI r op k a es m).2.Ok
 | [],op,k,a,m,n0,hg,ek,hi,hl=>by
  rw[zjr];rcases hi with⟨_,_,h⟩|⟨_,h⟩
  ·exact absurd rfl h
  ·exact⟨h,lT.refl,by simp[iL],ek⟩
 | e::es,op,k,a,m,n0,hg,ek,hi,hl=>by
  simp only[J5,eo] at hg;simp only[iL] at hl;obtain⟨g1,g2,g3,g4⟩:=Dp e m hg.1 ek (by omega)
  rw[Yi];obtain⟨x,hx⟩:∃x,x=iR r e m:=⟨_,rfl⟩;rw[<- hx] at g1 g2 g3 g4 ⊢;have AG:(zP op k a x.1 x.2.next).2.length=x.2.next.length:=Yh
  have Bk:Mk.Ok { x.2 with next:=(zP op k a x.1 x.2.next).2 }:=⟨g4.r,by simp only[AG];exact g4.n⟩
  have hinv:Inv n0 (zP op k a x.1 x.2.next).1 (zP op k a x.1 x.2.next).2:=by
   rcases hi with⟨rfl,h,_⟩|⟨hk,h⟩
   ·subst h;simpa[zP] using g1
   ·exact zim hk h g1 g2 (by rw[g4.n];omega)
  obtain⟨f1,f2,f3,f4⟩:=Dq es op (k+1) (zP op k a x.1 x.2.next).1 { x.2 with next:=(zP op k a x.1 x.2.next).2 } n0 hg.2 Bk (.inr ⟨by omega,hinv⟩) (by simp only;omega)
  refine⟨f1,(g2.trans zhB).trans f2,?_,f4⟩;rw[f3];simp only[iL];omega
end
def mH:List E->Nat
 | []=>0
 | e::es=>lH e+mH es
theorem YH{n:Nat}:∀(es:List E)(r:Nat)(m:Mk),(∀e∈es,gd e=true)->m.Ok->m.bZ.length+mH es<=1200->n+r+es.length<=1216->(∀x,x<m.next.length->J6 m.next x) ->
  (qt n r es m).2.bZ.length=m.bZ.length+mH es/\(∀x,x<(qt n r es m).2.next.length->J6 (qt n r es m).2.next x)/\(qt n r es m).2.Ok
 | [],r,m,hg,ek,hl,hn,hr=>⟨by simp[qt,mH],hr,ek⟩
 | e::es,r,m,hg,ek,hl,hn,hr=>by
  simp only[mH] at hl;simp only[aZ] at hn;obtain⟨g1,g2,g3,g4⟩:=Dp (r:=r) e m (hg e (eH ..)) ek (by omega)
  have Bk:(jU n r e m).2.Ok:=by
   simp only[jU];exact⟨g4.r,by simp only[wr];exact g4.n⟩
  have hs:(jU n r e m).2.bZ.length=m.bZ.length+lH e:=by rw[Yz];exact g3
  have FP:∀x,x<(jU n r e m).2.next.length->J6 (jU n r e m).2.next x:=λx hx=>by
   simp only[jU,wr] at hx ⊢;have A0:∃y,y<1216/\jQ cQ (n+r) y=true:=⟨n+r,by omega,by simp[jQ]⟩
   have Lz:x<1216:=by rw[g4.n,g3] at hx;omega
   by_cases GB:x<m.next.length
   ·exact lI.Bn hx (g2.Bn GB (hr x GB))
   ·rcases g1.lv x (by omega) hx with h|h
    ·exact zhA hx Lz h A0
    ·exact lI.Bn hx h
  obtain⟨f1,f2,f3⟩:=YH (n:=n) es (r+1) (jU n r e m).2 (λe he=>hg e (dR _ he)) Bk (by rw[hs];omega) (by omega) FP
  simp only[qt];exact⟨by rw[f1,hs,mH];omega,f2,f3⟩
theorem zjv{ns:List (Nat->Bool)}(h:∀x,x<ns.length->J6 ns x):∀p∈ns,jh p 19≠[]:=by
 intro p hp e;obtain⟨x,hx,rfl⟩:=List.getElem_of_mem hp;obtain⟨y,h1,h2⟩:=h x hx
 have:y∈jh ns[x] 19:=iy.2 ⟨by omega,by
  unfold D_ at h2;rw[Nf,gh hx] at h2
  exact h2⟩
 rw[e] at this;cases this
end
end Go.Proofs.YthohlnmcjkjeiaaGreatDoor
