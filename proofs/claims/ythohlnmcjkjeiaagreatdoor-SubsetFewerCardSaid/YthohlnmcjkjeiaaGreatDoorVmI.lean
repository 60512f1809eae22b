/- Seat 8: expressions as data. Conditions: none but those named. -/
import Derived.Test.YthohlnmcjkjeiaaGreatDoorVmF
namespace Go.Proofs.YthohlnmcjkjeiaaGreatDoor
open Go Go.Vm
open Go.Proofs.Tryz
set_option maxRecDepth 100000
section
inductive E where
 |mk (op pl s0 s1 s2 s3:Int) (text:bM) (mn mx:Int) (nl:Bool) (args:List E)
def ye(nl:Bool)(l:aD):V:=if nl && l.isEmpty then .aG else .sl 10 l .no
mutual
def enc:E->V
 | .mk op pl s0 s1 s2 s3 text mn mx nl args=>.agg [.int .i64 op,.int .i64 pl,.int .u64 s0,.int .u64 s1,.int .u64 s2,.int .u64 s3,.str text,.int .i64 mn,.int .i64 mx,ye nl (fe args)]
def fe:List E->aD
 | []=>[]
 | e::es=>enc e::fe es
end
theorem fE:∀(l:List E),(fe l).length=l.length
 | []=>rfl
 | e::l=>by simp[fe,fE l]
theorem Bw:∀(l:List E)(i:Nat),(fe l)[i]?=(l[i]?).map enc
 | [],i=>by simp[fe]
 | e::l,0=>by simp[fe]
 | e::l,i+1=>by simp[fe,Bw l i]
theorem vF(nl:Bool)(l:aD):ye nl l=.sl 10 l .no\/(l=[]/\ye nl l=.aG):=by
 unfold ye;split
 next h=>rw[d_] at h;exact .inr ⟨by simpa using h.2,rfl⟩
 ·exact .inl rfl
theorem zZ{nl:Bool}{l:aD}:aV (ye nl l)=ye nl l:=by
 rcases vF nl l with h|⟨_,h⟩<;>rw[h]<;>rfl
theorem Oo(a:E):aV (enc a)=enc a:=by cases a;rfl
theorem zmk{nl:Bool}{l:aD}:(ye nl l).top=aI l:=by
 rcases vF nl l with h|⟨hl,h⟩<;>rw[h]
 ·rfl
 ·rw[hl];rfl
mutual
theorem Ao:∀(e:E),(enc e).top=0
 | .mk op pl s0 s1 s2 s3 text mn mx nl args=>by
  simp only[enc,V.top,aI,zmk,uX args];rfl
theorem uX:∀(l:List E),aI (fe l)=0
 | []=>rfl
 | e::l=>by simp[fe,aI,Ao e,uX l]
end
theorem EU{x:Int}(h1:-9223372036854775808<=x)(h2:x<=9223372036854775807):IntKind.i64.wrap x=x:=by
 simp only[IntKind.wrap,IntKind.bits,IntKind.signed];simp;omega
theorem X_{i:Nat}(h:i<9223372036854775807):IntKind.i64.wrap ((i:Int)+1)=((i+1:Nat):Int):=by
 rw[EU (by omega) (by omega)];omega
mutual
def Wf:E->Prop
 | .mk _ _ _ _ _ _ text _ _ _ args=>text.length<=maxLen/\args.length<=maxLen/\IV args
def IV:List E->Prop
 | []=>True
 | e::l=>Wf e/\IV l
end
theorem IV.mem{a:E}:∀{l:List E},IV l->a∈l->Wf a
 | e::l,h,ha=>by
  rcases dG.1 ha with rfl|ha
  ·exact h.1
  ·exact IV.mem h.2 ha
theorem rF:maxLen<=9223372036854775807:=by decide
mutual
def hg:E->Nat
 | .mk _ _ _ _ _ _ _ _ _ _ args=>Oq args+args.length+2
def Oq:List E->Nat
 | []=>0
 | e::l=>max (hg e) (Oq l)
end
theorem Qz{a:E}:∀{l:List E},a∈l->hg a<=Oq l
 | e::l,h=>by
  simp only[Oq];rcases dG.1 h with rfl|h
  ·exact D2 _ _
  ·exact cN (Qz h) (HV _ _)
end
section
open Go.Vm.Sx
variable{gl:Gl}
def lz:E->Bool
 | .mk op pl s0 s1 s2 s3 text mn mx _ _=>((pl == 0 && n6 text []) && (op == 2 || (s0 == 0 && (s1 == 0 && (s2 == 0 && s3 == 0))))) && (op == 7 || (mn == 0 && mx == 0))
def fX:E->Bool
 | .mk op _ _ _ _ _ _ mn mx _ args =>
  if op == 1 then (args.length:Int) == 0 else if op == 2 then (args.length:Int) == 0 else if op == 5 then cJ 1 (args.length:Int) else if op == 6 then cJ 1 (args.length:Int) else
  if op == 7 then (args.length:Int) == 1 && ((mn == 0 && mx == -1 || mn == 1 && mx == -1) || mn == 0 && mx == 1) else false
mutual
def ey:E->Int->Int
 | .mk _ _ _ _ _ _ _ _ _ _ args,deep=>if cJ 5000 deep then 1048576 else lC (IntKind.i64.wrap (deep+1)) 1 args
def lC:Int->Int->List E->Int
 | _,n,[]=>n
 | d,n,a::l=>if cJ n 1048576 then lC d (IntKind.i64.wrap (n+ey a d)) l else n
end
mutual
def cM:E->Int->Int->Int->Bool×Int×Int
 | .mk op pl s0 s1 s2 s3 text mn mx nl args,d,n,s =>
  if (cJ 65536 (IntKind.i64.wrap (n+1)) || cJ 4096 d) then (false,IntKind.i64.wrap (n+1),s) else
  if lz (.mk op pl s0 s1 s2 s3 text mn mx nl args) then
   if fX (.mk op pl s0 s1 s2 s3 text mn mx nl args) then iF (IntKind.i64.wrap (d+1)) args (IntKind.i64.wrap (n+1)) (if op == 2 then IntKind.i64.wrap (s+1) else s)
   else (false,IntKind.i64.wrap (n+1),s)
  else (false,IntKind.i64.wrap (n+1),s)
def iF:Int->List E->Int->Int->Bool×Int×Int
 | _,[],n,s=>(true,n,s)
 | d,a::l,n,s=>if (cM a d n s).1 then iF d l (cM a d n s).2.1 (cM a d n s).2.2 else cM a d n s
end
end
section
variable{gl:Gl}
theorem Ya:prog.underlying 224=some (.array 64 5):=by kernel_rfl
theorem sz5:z4 prog 5=some 1:=by kernel_rfl
theorem Yb:qz prog 5=some false:=by kernel_rfl
theorem u3:prog.underlying 3=some (.int .i64):=by kernel_rfl
theorem u5:prog.underlying 5=some (.int .u8):=by kernel_rfl
theorem zml(hg:GW gl){n:Nat}{H:Hp}{k m:Nat}(hw:2 ^ (k+1) * m+2 ^ k<2 ^ 64):zj prog gl (n+1) 96 [.int .u64 ((2 ^ (k+1) * m+2 ^ k:Nat):Int)] H=some (.ret (.int .i64 (k:Nat)),H):=by
 obtain⟨bs,es⟩:=H;have hk:k<64:=Qr hw;obtain⟨w,w',hwd,AS,Yc,hand⟩:=zn5 (P:=prog) hw;obtain⟨x,ix,hmul,Yd,Ce,Ye⟩:=zn4 (P:=prog) hk;rw[<- hwd];clear hwd hw;have iD:zW bs.length es 0 ⟨bs,[]⟩=⟨bs,es⟩:=by
  have:=z9 (bs:=bs) (ls:=[]) (es:=es) (t:=0) (ec _)
  rwa [m7] at this
 suffices bL:(go ⟨prog,gl,zj prog gl n,fu⟩ n (Fx prog f96.results.toList λw H1=>w=.int .i64 (k:Nat)/\H1=⟨bs,[]⟩) [.c (f96.body.getD .skip)] .normal ⟨[.int .u64 (w:Nat)]++List.replicate 13 (.br []),⟨bs,[]⟩,[],[]⟩) by
  obtain⟨w,H1,h0,rfl,rfl⟩:=zQ (gl:=gl) (f:=96) (bs:=bs) (es:=es) (args:=[.int .u64 (w:Nat)]) (n:=n) (hg.hk _ _ (by decide)) (λH=>hg.fA _ _ _ _) func96 rfl (by rw[hg.uq];exact bL)
  rw[h0];exact congrArg (λx=>some (Out.ret _,x)) iD
 simp only[f96,fS,zh];refine zi ?_;simp only[qx,aH,zh,z7,qG,aj,aS,qd,aM,aq,bS,bT,List.replicate,bh,aZ]
 refine zi ?_;simp only[qx,aH,zh,qR,zK,zV,ak,aj,zd,ze,zr,aM,aq,bS,bT,zR,qQ,wO,qi]
 refine .inr ⟨by simp;omega,?_⟩
 simp only[bz,zh]
 refine zi ?_;have IW:zp prog 224 (.eT 4 0) ((ix:Nat):Int)=some (.eT 4 ix):=by
  simp only[zp,Ya,sz5];simp only[Ac];rw[if_pos (by omega)]
  simp
 have gx:zk prog ⟨bs,[]⟩ gl.g 5 (.eT 4 ix)=some (.int .u8 (k:Nat)):=by
  simp only[zk,Yb,Option.bind_eq_bind,aT,fR,bw];rw[hg.tab _ Ce,Ye]
 have iT:vy prog 5 3 (.int .u8 (k:Nat))=some (.int .i64 (k:Nat)):=by
  simp only[vy,u5,u3,Option.bind_eq_bind,aT];rw[kT (by omega) (by omega)]
 simp only[qx,aH,zK,zV,kN,zT,qw,vT (a:=5) (b:=3) (hm:=rfl),show fu (vi 5)=false from rfl,z7,zL,ak,aj,zd,ze,zr,aM,aq,bS,bT,zR,zlY,aT,aS,Yc,hand,hmul,Yd,aE,IW,gx,iT,qq,qd,go_ret,zq,Fx]
 refine⟨trivial,[.int .i64 (k:Nat)],?_,rfl,trivial⟩;simp only[zx,zd,ze]
end
section
variable{gl:Gl}
theorem DA:mW prog 27 3 1 8:=⟨by kernel_rfl,by kernel_rfl,by kernel_rfl,by decide,by kernel_rfl,by kernel_rfl,by kernel_rfl⟩
theorem zhz{p:Nat->Bool}:∀i,aI (xo p i)=0
 | 0=>rfl
 | i+1=>by
  have h:∀(xs ys:aD),aI xs=0->aI ys=0->aI (xs++ys)=0:=by
   intro xs ys h1 h2
   induction xs with
   | nil=>exact h2
   | cons x xs ih =>
    simp only[aI,bh,Nat.max_eq_zero_iff] at h1 ⊢;exact⟨h1.1,ih h1.2⟩
  refine h _ _ (zhz i) ?_;unfold Um
  induction wi (kL p i) with
  | nil=>rfl
  | cons x xs ih=>simp only[bg,aI,V.top,ih];rfl
theorem zcW{p:Nat->Bool}(i:Nat):(aV (zl 1 3 (xo p i))).top=0:=by
 have h:=zhz (p:=p) i;cases hL:xo p i with
 | nil=>rfl
 | cons x xs=>rw[hL] at h;simpa[zl,aV,V.top] using h
theorem zhA(hg:GW gl){n:Nat}(hn:70<=n){H:Hp}{b off:Nat}{pre post:aD}{p:Nat->Bool}{ty:aB}(hb:H.get b=some (.cells (pre++pv 19 p++post) ty))(ho:pre.length=off) :
  zj prog gl (n+1) 59 [.ptr b off] H=some (.ret (aV (zl 1 3 (xo p 19))),H):=by
 obtain⟨bs,es⟩:=H;have uu:Hp.get ⟨bs,[]⟩ b=some (.cells (pre++pv 19 p++post) ty):=hb;have iD:zW bs.length es 0 ⟨bs,[]⟩=⟨bs,es⟩:=by
  have:=z9 (bs:=bs) (ls:=[]) (es:=es) (t:=0) (ec _)
  rwa [m7] at this
 generalize hL:xo p 19=L
 suffices bL:(go ⟨prog,gl,zj prog gl n,fu⟩ n (Fx prog f59.results.toList λw H1=>w=aV (zl 1 3 L)/\H1=⟨bs,[]⟩) [.c (f59.body.getD .skip)] .normal ⟨[.ptr b off]++List.replicate 28 (.br []),⟨bs,[]⟩,[],[]⟩) by
  obtain⟨w,H1,h0,h1,h2⟩:=zQ (gl:=gl) (f:=59) (bs:=bs) (es:=es) (args:=[.ptr b off]) (n:=n) (hg.hk _ _ (by decide)) (λH=>hg.fA _ _ _ _) func59 rfl (by rw[hg.uq];exact bL)
  rw[h0,h1,h2];have:(aV (zl 1 3 L)).top=0:=by
   rw[<- hL];exact zcW 19
  rw[this];exact congrArg (λx=>some (Out.ret _,x)) iD
 simp only[f59,fS,zh];refine zi ?_;simp only[qx,aH,zh,z7,qG,aj,aS,qd,aM,aq,bS,bT,List.replicate,bh,aZ]
 refine zi ?_;simp only[qx,aH,zh,z7,qG,aj,aS,qd,aM,aq,bS,bT]
 refine zi ?_;simp only[qx,aH,zw,zK,ak,aj,zd,zr,aM,aq,bS,bT,ql]
 refine qj (λm s=>∃i env,m+i=19/\s=⟨env,⟨bs,[]⟩,[],[]⟩/\env.length=29/\nth env 3=some (zl 1 3 (xo p i))/\nth env 6=some (.ptr b off)/\nth env 7=some (.int .i64 (i:Nat))) 19 (by omega) ⟨0,_,rfl,rfl,rfl,rfl,rfl,rfl⟩ ?_
 rintro m s ⟨i,env,tX,rfl,hlen,h3,h6,h7⟩;simp only[zh];refine zi ?_;simp only[qx,aH,zh,qR,zV,ak,aj,h7,zr,aM,aq,za,hlen,Nat.reduceLT,aF,zR,qQ,qT,qi]
 by_cases hi:i<19
 ·refine .inl ⟨by simp;omega,?_⟩
  simp only[bz,zh,zw]
  refine ja (tk:=[]) (by kernel_rfl) (by kernel_rfl) ?_
  have cU:nth (pre++pv 19 p++post) (off+i)=some (.int .u64 (kL p i:Nat)):=by
   rw[zg,<- ho,xG jE hi,yI hi]
  have gx:zk prog ⟨bs,[]⟩ gl.g 48 (.ptr b (off+i))=some (.int .u64 (kL p i:Nat)):=zt ng uu cU;simp only[jV,bk,zw,au,ng,lM,zK,zG,zT,qw,z7,zL,ak,h6,h7,zr,aM,aq,za,bD,hlen,Nat.reduceEqDiff,Nat.reduceLT,aF,bw,ql,zR,qq,qd,aS,aT,aa,aE,Uu hi,gx]
  refine qj (λm s=>∃w acc env,(wi w).length=m/\w<2 ^ 64/\acc++((wi w).map λj=>.int .i64 ((64 * i+j:Nat):Int))=xo p (i+1)/\s=⟨env,⟨bs,[]⟩,[],[]⟩/\env.length=29/\nth env 3=some (zl 1 3 acc)/\nth env 4=some (.int .i64 (i:Nat))/\nth env 5=some (.int .u64 (w:Nat))/\nth env 6=some (.ptr b off)/\nth env 7=some (.int .i64 (i:Nat))) (wi (kL p i)).length (by have:=XU (w:=kL p i);omega) ⟨kL p i,xo p i,_,rfl,wd,rfl,rfl,?_,?_,?_,?_,?_,?_⟩ ?_
  ·simp[hlen]
  ·simp[za,h3]
  ·simp[za,hlen]
  ·simp[za,hlen]
  ·simp[za,h6]
  ·simp[za,h7]
  clear h3 h6 h7 hlen;rintro m s ⟨w,acc,env,hm,hw,Ap,rfl,hlen,h3,h4,h5,h6,h7⟩;simp only[zh];refine zi ?_;simp only[qx,aH,qR,zK,zV,ak,aj,h5,zr,aM,aq,za,bD,hlen,Nat.reduceEqDiff,Nat.reduceLT,aF,bw,zR,qQ,Qj,qi]
  by_cases AS:w=0
  ·subst AS;rw[s4,bp,m7] at Ap;subst Ap;refine .inr ⟨by decide,?_⟩
   simp only[qm,zN,zq,bI,zD,lK,aF,qD];refine zi ?_;simp only[qx,aH,zK,zV,ak,aj,h7,zr,aM,aq,za,bD,hlen,Nat.reduceEqDiff,Nat.reduceLT,aF,bw,zR,z6 (show i<2 ^ 60 by omega),zq,aN]
   refine⟨18 - i,by omega,i+1,_,by omega,rfl,?_,?_,?_,?_⟩
   ·simp[hlen]
   ·simp[za,h3]
   ·simp[za,h6]
   ·simp[za,hlen]
  ·refine .inl ⟨by simp;omega,?_⟩
   obtain⟨k,mm,CS⟩:=Bs w AS;have G1:=λ(H:Hp)=>zml hg (n:=n - 1) (H:=H) (k:=k) (m:=mm) (by rw[<- CS];exact hw)
   rw[<- CS,show n - 1+1=n by omega] at G1
   simp only[bz,zh,zw]
   refine ww (tk:=[19]) (by kernel_rfl) ?_
   have dj:Cx.bB ⟨prog,gl.g,zj prog gl n,fu⟩ 96 [.int .u64 (w:Nat)] ⟨bs,[]⟩=some (.val (.int .i64 (k:Nat)),⟨bs,[]⟩):=zu func96 rfl (G1 _);have hk:k<64:=Qr (by rw[<- CS];exact hw)
   have QA:acc.length+1<=64 * (i+1):=by
    have h1:=congrArg List.length Ap;have h2:=xp (p:=p) (i+1);have h3:(wi w).length≠0:=by
     rw[CS,Uk (by rw[<- CS];exact hw)];simp
    simp only[aU,gk] at h1;omega
   have fy:=jD DA (H:=⟨bs,[]⟩) (xs:=acc) (ys:=[V.int .i64 ((64 * i+k:Nat):Int)]) (o:=.no) (by simp) (dD (by simp;omega) (by simp;omega))
   have FL:=DA.Cc (v:=.int .i64 ((64 * i+k:Nat):Int)) rfl rfl;have hmul:∀(u v:aW),qL prog .mul 3 u v (some (.int .i64 64)) (some (.int .i64 (i:Nat)))=some (.int .i64 ((64 * i:Nat):Int)):=λu v=>XY (a:=64) (by omega)
   have Mf:nth (((env.set 13 (V.int .u64 (w:Nat))).set 14 (V.bool ((w:Int) != 0)))) 3=some (zl 1 3 acc):=by simp[za,h3]
   simp only[qx,jz,jq,vW Mf,zV,kf,av,qp,ne_eq,uK,jO,jT (cx:=⟨prog,gl.g,zj prog gl n,fu⟩) (show p_ prog fu 27=false by kernel_rfl),ak,aj,h4,h5,zr,qd,aM,aq,za,bD,hlen,Nat.reduceEqDiff,Nat.reduceLT,aF,bw,zR,kZ,qM,bg,bp,aA,dj,hmul,xr (show 64 * i+k<2 ^ 60 by omega),FL]
   rw[vW (n:=1) (e:=3) (xs:=acc) (by simp[za,hlen])]
   simp only[xR,aT,fy,aM,aq,qx,aH,qD,z7]
   rw[vW (n:=1) (e:=3) (xs:=acc++[V.int .i64 ((64 * i+k:Nat):Int)]) (by simp[za,hlen])]
   simp only[qd,aM,aq]
   refine zi ?_;have Hr:w - 1<2 ^ 64:=by omega
   simp only[qx,aH,zK,zV,z7,zL,ak,aj,h5,zr,qd,aM,aq,za,bD,hlen,Nat.reduceEqDiff,Nat.reduceLT,aF,bw,zR,qq,ze6 AS hw,Ul hw Hr,zq,aN]
   have iU:wi w=k::wi (w &&& (w - 1)):=by
    rw[CS];exact Uk (by rw[<- CS];exact hw)
   refine⟨(wi (w &&& (w - 1))).length,by rw[<- hm,iU];simp,w &&& (w - 1),acc++[V.int .i64 ((64 * i+k:Nat):Int)],_,rfl,K7 Nat.and_le_left hw,?_,rfl,?_,?_,?_,?_,?_,?_⟩
   ·rw[<- Ap,iU];simp
   ·simp[hlen]
   ·simp[za,hlen]
   ·simp[za,h4]
   ·simp[za,hlen]
   ·simp[za,h6]
   ·simp[za,h7]
 ·obtain rfl:i=19:=by omega
  refine .inr ⟨by decide,?_⟩
  rw[hL] at h3;simp only[qm,zN,zq,bI,zD,lK,aF,zh];refine zi ?_;have rM:aV (aV (zl 1 3 L))=aV (zl 1 3 L):=by cases L<;>rfl
  have mq:∀e:aD,nth e 28=some (aV (zl 1 3 L))->take e (.tmp 28)=some (aV (zl 1 3 L),e):=λe he=>by
   rw[zL,he];cases L<;>rfl
  simp only[qx,aH,zK,z7,ak,h3,zr,aM,aq,za,hlen,Nat.reduceEqDiff,Nat.reduceLT,aF,bw]
  rw[mq _ (by simp[za,hlen])]
  simp only[qd,aM,aq,go_ret,zq,Fx]
  refine⟨trivial,[aV (zl 1 3 L)],?_,rfl,trivial⟩;simp[zx,za,hlen]
end
section
variable{gl:Gl}
theorem Yf(hg:GW gl){n:Nat}(hn:20<=n){bs:List aY}{es:aO}{b off b' off':Nat}{pre post pre' post':aD}{p q:Nat->Bool}{ty ty':aB}(hb:nth bs b=some (.cells (pre++pv 19 p++post) ty))(ho:pre.length=off)(cY:nth bs b'=some (.cells (pre'++pv 19 q++post') ty'))(Yg:pre'.length=off')(cH:b'≠b) :
  zj prog gl (n+1) 58 [.ptr b off,.ptr b' off'] ⟨bs,es⟩=some (.ret (.br []),⟨bs.set b (.cells (pre++pv 19 (jC p q)++post) ty),es⟩):=by
 have iD:zW bs.length es 0 ⟨bs.set b (.cells (pre++pv 19 (jC p q)++post) ty),[]⟩=⟨bs.set b (.cells (pre++pv 19 (jC p q)++post) ty),es⟩:=by
  have:=z9 (bs:=bs.set b (.cells (pre++pv 19 (jC p q)++post) ty)) (ls:=[]) (es:=es) (t:=0) (ec _)
  rwa [m7,bD] at this
 suffices bL:(go ⟨prog,gl,zj prog gl n,fu⟩ n (Fx prog f58.results.toList λw H1=>w=.br []/\H1=⟨bs.set b (.cells (pre++pv 19 (jC p q)++post) ty),[]⟩) [.c (f58.body.getD .skip)] .normal ⟨[.ptr b off,.ptr b' off']++List.replicate 20 (.br []),⟨bs,[]⟩,[],[]⟩) by
  obtain⟨w,H1,h0,rfl,rfl⟩:=zQ (gl:=gl) (f:=58) (bs:=bs) (es:=es) (args:=[.ptr b off,.ptr b' off']) (n:=n) (hg.hk _ _ (by decide)) (λH=>hg.fA _ _ _ _) func58 rfl (by rw[hg.uq];exact bL)
  rw[h0,show(V.br []).top=0 from rfl,iD]
 simp only[f58,fS,zh];refine zi ?_;simp only[qx,aH,zw,zK,ak,aj,zr,aM,aq,bS,bT,List.replicate,bh,aZ]
 let Hi:Nat->Hp:=λi=>⟨bs.set b (.cells (pre++pv 19 (xa p q i)++post) ty),[]⟩
 refine qj (λm s=>∃i env,m+i=19/\s=⟨env,Hi i,[],[]⟩/\env.length=22/\nth env 0=some (.ptr b off)/\nth env 1=some (.ptr b' off')/\nth env 5=some (.int .i64 (i:Nat))) 19 (by omega) ?_ ?_
 ·have Em:Hi 0=⟨bs,[]⟩:=by
   simp only[Hi,zhv];rw[show bs.set b (.cells (pre++pv 19 p++post) ty)=bs from jW hb]
  refine⟨0,_,rfl,by rw[Em],?_,?_,?_,?_⟩<;>rfl
 rintro m s ⟨i,env,tX,rfl,hlen,h0,h1,h5⟩;simp only[zh];refine zi ?_;simp only[qx,aH,zh,qR,zV,ak,aj,h5,zr,aM,aq,za,hlen,Nat.reduceLT,aF,zR,qQ,qT,qi]
 have FM:∀r:aD,nth (bs.set b (.cells r ty)) b=some (.cells r ty):=λr=>by
  have bR:b<bs.length:=by rw[zg] at hb;exact(cZ.1 hb).1
  rw[zg,tL,if_pos rfl,if_pos bR]
 by_cases hi:i<19
 ·refine .inl ⟨by simp;omega,?_⟩
  simp only[bz,zh,zw]
  refine zi ?_;simp only[qx,aH,zK,z7,zL,ak,h5,zr,aM,aq,za,bD,hlen,Nat.reduceEqDiff,Nat.reduceLT,aF,bw,zR,qq,qd]
  refine ja (tk:=[]) (by kernel_rfl) (by kernel_rfl) ?_
  have FO:(Hi i).get b=some (.cells (pre++pv 19 (xa p q i)++post) ty):=FM _;have Mg:(Hi i).get b'=some (.cells (pre'++pv 19 q++post') ty'):=by
   show nth (bs.set b _) b'=_;rw[zg,tL,if_neg (Ne.symm cH),<- zg,cY]
  have cU:nth (pre++pv 19 (xa p q i)++post) (off+i)=some (.int .u64 (kL p i:Nat)):=by
   rw[zg,<- ho,xG jE hi,yI hi,zht]
  have CT:nth (pre'++pv 19 q++post') (off'+i)=some (.int .u64 (kL q i:Nat)):=by
   rw[zg,<- Yg,xG jE hi,yI hi]
  have gx:zk prog (Hi i) gl.g 48 (.ptr b (off+i))=some (.int .u64 (kL p i:Nat)):=zt ng FO cU;have FP:zk prog (Hi i) gl.g 48 (.ptr b' (off'+i))=some (.int .u64 (kL q i:Nat)):=zt ng Mg CT;have oO:wz [] b (off+i) 1 ((pre++pv 19 (xa p q i)++post).drop (off+i))=true:=yp λk h=>by
   obtain rfl:k=0:=by omega
   exact⟨_,by rw[nZ,<- zg,cU],rfl⟩
  simp only[jV,bk,au,ng,lM,zK,zG,zT,qw,zV,zU,zL,ak,h0,h1,zr,aM,aq,za,bD,hlen,Nat.reduceEqDiff,Nat.reduceLT,aF,bw,ql,zR,qq,aS,aT,aa,aE,Uu hi,gx,FP,XQ wd wd]
  rw[zy El FO rfl rfl (by simp[jE,<- ho];omega) oO]
  simp only[bu,qD,aq,V.laid,Vm.storeCells]
  rw[jR (by simp[V.top])]
  have hH:(Hi i).set b (.cells ((pre++pv 19 (xa p q i)++post).set (off+i) (.int .u64 ((kL p i ||| kL q i:Nat):Int))) ty)=Hi (i+1):=by
   rw[<- ho,XR jE hi,zhu];simp only[Hi,Hp.set,List.set_set]
  rw[hH];refine zi ?_;simp only[qx,aH,zV,zK,ak,aj,h5,zr,aM,aq,za,bD,hlen,Nat.reduceEqDiff,Nat.reduceLT,aF,bw,zR,z6 (show i<2 ^ 60 by omega),zq,aN]
  refine⟨18 - i,by omega,i+1,_,by omega,rfl,?_,?_,?_,?_⟩<;>simp[za,hlen,h0,h1]
 ·obtain rfl:i=19:=by omega
  refine .inr ⟨by decide,?_⟩
  simp only[qm,zN,zq,bI,zD,lK,aF,Fx];refine⟨trivial,[],rfl,rfl,?_⟩;simp only[Hi,zjz]
theorem zhB{b v off i:Nat}(h:i<19):zp prog 115 (.gh b v off) i=some (.gh b v (off+i)):=by
 simp only[zp,u60,El];simp;omega
theorem zmm(hg:GW gl){n:Nat}(hn:20<=n){bs:List aY}{es:aO}{b off b' off':Nat}{pre post pre' post':aD}{p q:Nat->Bool}{v:Nat}{ty':aB}(hb:nth bs b=some (.ul v 19 (pre++pv 19 p++post) 115))(ho:pre.length=off)(cY:nth bs b'=some (.cells (pre'++pv 19 q++post') ty'))(Yg:pre'.length=off')(cH:b'≠b) :
  zj prog gl (n+1) 58 [.gh b v off,.ptr b' off'] ⟨bs,es⟩=some (.ret (.br []),⟨bs.set b (.ul v 19 (pre++pv 19 (jC p q)++post) 115),es⟩):=by
 have iD:zW bs.length es 0 ⟨bs.set b (.ul v 19 (pre++pv 19 (jC p q)++post) 115),[]⟩=⟨bs.set b (.ul v 19 (pre++pv 19 (jC p q)++post) 115),es⟩:=by
  have:=z9 (bs:=bs.set b (.ul v 19 (pre++pv 19 (jC p q)++post) 115)) (ls:=[]) (es:=es) (t:=0) (ec _)
  rwa [m7,bD] at this
 suffices bL:(go ⟨prog,gl,zj prog gl n,fu⟩ n (Fx prog f58.results.toList λw H1=>w=.br []/\H1=⟨bs.set b (.ul v 19 (pre++pv 19 (jC p q)++post) 115),[]⟩) [.c (f58.body.getD .skip)] .normal ⟨[.gh b v off,.ptr b' off']++List.replicate 20 (.br []),⟨bs,[]⟩,[],[]⟩) by
  obtain⟨w,H1,h0,rfl,rfl⟩:=zQ (gl:=gl) (f:=58) (bs:=bs) (es:=es) (args:=[.gh b v off,.ptr b' off']) (n:=n) (hg.hk _ _ (by decide)) (λH=>hg.fA _ _ _ _) func58 rfl (by rw[hg.uq];exact bL)
  rw[h0,show(V.br []).top=0 from rfl,iD]
 simp only[f58,fS,zh];refine zi ?_;simp only[qx,aH,zw,zK,ak,aj,zr,aM,aq,bS,bT,List.replicate,bh,aZ]
 let Hi:Nat->Hp:=λi=>⟨bs.set b (.ul v 19 (pre++pv 19 (xa p q i)++post) 115),[]⟩
 refine qj (λm s=>∃i env,m+i=19/\s=⟨env,Hi i,[],[]⟩/\env.length=22/\nth env 0=some (.gh b v off)/\nth env 1=some (.ptr b' off')/\nth env 5=some (.int .i64 (i:Nat))) 19 (by omega) ?_ ?_
 ·have Em:Hi 0=⟨bs,[]⟩:=by
   simp only[Hi,zhv];rw[show bs.set b (.ul v 19 (pre++pv 19 p++post) 115)=bs from jW hb]
  refine⟨0,_,rfl,by rw[Em],?_,?_,?_,?_⟩<;>rfl
 rintro m s ⟨i,env,tX,rfl,hlen,h0,h1,h5⟩;simp only[zh];refine zi ?_;simp only[qx,aH,zh,qR,zV,ak,aj,h5,zr,aM,aq,za,hlen,Nat.reduceLT,aF,zR,qQ,qT,qi]
 have FM:∀r:aD,nth (bs.set b (.ul v 19 r 115)) b=some (.ul v 19 r 115):=λr=>by
  have bR:b<bs.length:=by rw[zg] at hb;exact(cZ.1 hb).1
  rw[zg,tL,if_pos rfl,if_pos bR]
 by_cases hi:i<19
 ·refine .inl ⟨by simp;omega,?_⟩
  simp only[bz,zh,zw]
  refine zi ?_;simp only[qx,aH,zK,z7,zL,ak,h5,zr,aM,aq,za,bD,hlen,Nat.reduceEqDiff,Nat.reduceLT,aF,bw,zR,qq,qd]
  refine ja (tk:=[]) (by kernel_rfl) (by kernel_rfl) ?_
  have FO:(Hi i).get b=some (.ul v 19 (pre++pv 19 (xa p q i)++post) 115):=FM _;have Mg:(Hi i).get b'=some (.cells (pre'++pv 19 q++post') ty'):=by
   show nth (bs.set b _) b'=_;rw[zg,tL,if_neg (Ne.symm cH),<- zg,cY]
  have cU:nth (pre++pv 19 (xa p q i)++post) (off+i)=some (.int .u64 (kL p i:Nat)):=by
   rw[zg,<- ho,xG jE hi,yI hi,zht]
  have CT:nth (pre'++pv 19 q++post') (off'+i)=some (.int .u64 (kL q i:Nat)):=by
   rw[zg,<- Yg,xG jE hi,yI hi]
  have gx:zk prog (Hi i) gl.g 48 (.gh b v (off+i))=some (.int .u64 (kL p i:Nat)):=ze8 ng FO cU;have FP:zk prog (Hi i) gl.g 48 (.ptr b' (off'+i))=some (.int .u64 (kL q i:Nat)):=zt ng Mg CT
  simp only[jV,bk,au,ng,lM,zK,zG,zT,qw,zV,zU,zL,ak,h0,h1,zr,aM,aq,za,bD,hlen,Nat.reduceEqDiff,Nat.reduceLT,aF,bw,ql,jQ,zR,qq,aS,aT,aa,aE,Uu hi,zhB hi,gx,FP,XQ wd wd]
  rw[zkO El FO rfl rfl rfl (by simp[jE,<- ho];omega)]
  simp only[bu,qD,aq,V.cells,Vm.storeCells]
  rw[jR (by simp[V.top])]
  have hH:(Hi i).set b (.ul v 19 ((pre++pv 19 (xa p q i)++post).set (off+i) (.int .u64 ((kL p i ||| kL q i:Nat):Int))) 115)=Hi (i+1):=by
   rw[<- ho,XR jE hi,zhu];simp only[Hi,Hp.set,List.set_set]
  rw[hH];refine zi ?_;simp only[qx,aH,zV,zK,ak,aj,h5,zr,aM,aq,za,bD,hlen,Nat.reduceEqDiff,Nat.reduceLT,aF,bw,zR,z6 (show i<2 ^ 60 by omega),zq,aN]
  refine⟨18 - i,by omega,i+1,_,by omega,rfl,?_,?_,?_,?_⟩<;>simp[za,hlen,h0,h1]
 ·obtain rfl:i=19:=by omega
  refine .inr ⟨by decide,?_⟩
  simp only[qm,zN,zq,bI,zD,lK,aF,Fx];refine⟨trivial,[],rfl,rfl,?_⟩;simp only[Hi,zjz]
end
section
variable{gl:Gl}
theorem Kf:mW prog 149 157 11 112:=⟨by kernel_rfl,by kernel_rfl,by kernel_rfl,by decide,by kernel_rfl,by kernel_rfl,by kernel_rfl⟩
theorem CU:zB prog 151 0=some 0:=by kernel_rfl
theorem CV:qz prog 149=some false:=by kernel_rfl
theorem By:qz prog 157=some true:=by kernel_rfl
theorem Aq:z4 prog 157=some 11:=by kernel_rfl
theorem zpY(hg:GW gl){n:Nat}{H:Hp}{b:Nat}{c:V}{ty:aB}{i:Option Nat}{xs:List aD}{x:aD}(hb:H.get b=some (.cells [c] ty))(hu:UL H 11 157 c i xs)(Yh:i≠some b)(hx:x.length=11)(EM:x.map aV=x)(fP:kx (xs.length+1) 112=true) :
  ∃H' c' j,zj prog gl (n+1) 88 [.ptr b 0,.agg x] H=some (.ret (.br []),H')/\H'.get b=some (.cells [c'] ty)/\UL H' 11 157 c' (some j) (xs++[x])/\j≠b/\(i=some j\/H.az.length<=j)/\s5 H H' (λd=>d=b\/i=some d):=by
 obtain⟨bs,es⟩:=H;have bR:b<bs.length:=kJ hb;have uu:Hp.get ⟨bs,[]⟩ b=some (.cells [c] ty):=hb;have Dy:UL ⟨bs,[]⟩ 11 157 c i xs:=hu;have Ot:c.top<=bs.length/\(c=.aG\/∃j v l,c=.dB j v l):=by
  cases i with
  | none=>obtain⟨rfl,_⟩:=hu;exact⟨ec _,.inl rfl⟩
  | some j=>obtain⟨v,rfl,hj⟩:=hu;exact⟨kJ hj,.inr ⟨_,_,_,rfl⟩⟩
 suffices bL:(go ⟨prog,gl,zj prog gl n,fu⟩ n (Fx prog [] λv H1=>v=.br []/\∃c' j,(∀d,d<bs.length->d≠b->i≠some d->H1.get d=Hp.get ⟨bs,es⟩ d)/\H1.get b=some (.cells [c'] ty)/\UL H1 11 157 c' (some j) (xs++[x])/\j≠b/\(i=some j\/bs.length<=j/\(b,j+1)∈H1.bG)/\bs.length<=H1.az.length) [.c (f88.body.getD .skip)] .normal ⟨[.ptr b 0,.agg x]++List.replicate 12 (.br []),⟨bs,[]⟩,[],[]⟩) by
  obtain⟨v,H1,h0,rfl,c',j,h2,h3,h4,h5,h6,h7⟩:=zQ (gl:=gl) (f:=88) (bs:=bs) (es:=es) (args:=[.ptr b 0,.agg x]) (n:=n) (hg.hk _ _ (by decide)) (λH=>hg.fA _ _ _ _) func88 rfl (by rw[hg.uq];exact bL)
  have hj:(zW bs.length es 0 H1).get j=H1.get j:=by
   rcases h6 with rfl|⟨h6,h8⟩
   ·exact jb (hu.lt)
   ·exact xI h8 bR (by omega) _
  exact⟨_,c',j,h0,(jb bR).trans h3,h4.frame λk hk=>by cases hk;exact hj,h5,h6.imp id And.left,vV h7,λd hd hn=>(jb hd).trans (h2 d hd (λe=>hn (.inl e)) (λe=>hn (.inr e)))⟩
 have oX:dz (.agg x)=true:=rfl;have gx:zk prog (Hp.push ⟨bs,[]⟩ (.cells x 157)) gl.g 157 (.ptr bs.length 0)=some (.agg x):=by
  rw[jc By Aq Un (by simp[hx])]
  simp[<- hx]
 have lU:=Kf.Cc (v:=.agg x) rfl hx;have Fh:UL (Hp.push ⟨bs,[]⟩ (.cells x 157)) 11 157 c i xs:=Dy.frame λj hj=>by
  subst hj;obtain⟨v,_,h⟩:=Dy;rw[h];exact zM h
 have fy:=Kf.app (env:=[.ptr b 0,.agg x,.br [],.ptr bs.length 0,.ptr b 0,.ptr b 0,.ptr b 0,.ptr b (0+0),c,.agg x,.sl 11 [.agg x] (.yes 157),.br [],.br [],.br []]) (H:=Hp.push ⟨bs,[]⟩ (.cells x 157)) (lk:=[]) (df:=[]) (ys:=[.agg x]) (o:=.no) (by simp) Fh fP
 simp only[f88,fS,zh];refine zi ?_;simp only[qx,aH,wH,zL,qU,zd,ze,z8 oX,aM,aq,bS,bT,List.replicate,bh,aZ,V.laid,EM]
 refine ja (tk:=[8]) (by kernel_rfl) (by kernel_rfl) ?_
 simp only[jV,au,lM,CV,jz,jp,ne_eq,Nat.reduceEqDiff,uK,zG,zA,ak,zd,ze,zr,aM,aq,bS,bT,ql,aT,aa,CU,zS,ah]
 rw[XW (c:=c) CV (zM uu) rfl Ot.2]
 simp only[aM,aq,bS,bT,jV,au,lM,By,jA,ne_eq,Nat.reduceEqDiff,uK,ak,zd,ze,ql,List.all_nil,aT,
  gx,aS,zr,qW,kZ,jO,lU,XE (cx:=⟨prog,gl.g,zj prog gl n,fu⟩) (show p_ prog fu 149=true by kernel_rfl)]
 cases i with
 | none =>
  obtain⟨rfl,rfl⟩:=hu;simp only[dg];rw[fy];simp only[aM,aq,bS,bT,jV,bk,au,lM,zG,zA,zU,zL,ak,zd,ze,zr,ql,aT,aa,CU,zS,ah,qH,nZ]
  rw[zy (cs:=[.aG]) (ty:=ty) Kf.st (zM (zM uu)) rfl rfl (by simp) (by simp[wz,locked])]
  simp only[bu,aq,zq,Fx,Vm.storeCells,V.laid,jk,bS]
  refine⟨trivial,[],rfl,rfl,.dB (bs.length+1) 0 1,bs.length+1,?_,?_,?_,by omega,.inr ⟨by omega,?_⟩,?_⟩
  ·intro d hd Ei _;rw[bU,jy,wX,wX];cases hg:Hp.get ⟨bs,[]⟩ d with
   | none=>exact absurd hg (by simp[Hp.get,zg,hd])
   | some y=>simp only[if_neg Ei];exact hg.symm
  ·rw[bU,jy,zM (zM uu)];simp
  ·refine⟨0,rfl,?_⟩;rw[bU,jy];have:Hp.get (Hp.push (Hp.push ⟨bs,[]⟩ (.cells x 157)) (.ul 0 11 (bY [.agg x]) 157)) (bs.length+1)=some (.ul 0 11 (bY [.agg x]) 157):=by
    rw[wX,zl1 (by simp[Hp.push])];simp[Hp.push]
   rw[this];have cH:bs.length+1≠b:=by omega
   simp[cH,bY,V.cells]
  ·exact zhr (v:=.dB (bs.length+1) 0 1) (by simp[V.top];omega)
  ·rw[xm,wv,jk,jk];show bs.length<=bs.length+1+1;omega
 | some j =>
  obtain⟨v,rfl,hj⟩:=Dy;have uw:j≠b:=λe=>Yh (by rw[e])
  have AY:j<bs.length:=kJ hj;simp only[q8] at fy ⊢;rw[fy];simp only[aM,aq,bS,bT,jV,bk,au,lM,zG,zA,zU,zL,ak,zd,ze,zr,ql,aT,aa,CU,zS,ah,qH,nZ]
  have oe:∀y,(((Hp.push ⟨bs,[]⟩ (.cells x 157)).set j y).bQ j (.br [.agg x])).get b=some (.cells [.dB j v xs.length] ty):=λy=>by
   rw[bU,jy,zM uu];simp[Ne.symm uw]
  rw[zy (cs:=[.dB j v xs.length]) (ty:=ty) Kf.st (oe _) rfl rfl (by simp) (by simp[wz,locked])]
  simp only[bu,aq,zq,Fx,Vm.storeCells,V.laid,bS]
  refine⟨trivial,[],rfl,rfl,.dB j (v+1) (xs.length+1),j,?_,?_,?_,uw,.inl rfl,?_⟩
  ·intro d hd Ei Yi;have Mh:d≠j:=λe=>Yi (by rw[e])
   rw[bU,jy,bU,jy,wX];cases hg:Hp.get ⟨bs,[]⟩ d with
   | none=>exact absurd hg (by simp[Hp.get,zg,hd])
   | some y=>simp only[if_neg Ei,if_neg Mh];exact hg.symm
  ·rw[bU,jy,oe];simp
  ·refine⟨v+1,by simp,?_⟩
   rw[bU,jy,bU,jy,zM hj];simp[uw,bY,V.cells]
  ·simp[xm,wv,jk]
theorem Mi:mW prog 152 117 39 312:=⟨by kernel_rfl,by kernel_rfl,by kernel_rfl,by decide,by kernel_rfl,by kernel_rfl,by kernel_rfl⟩
theorem En:zB prog 154 0=some 0:=by kernel_rfl
theorem Eo:qz prog 152=some false:=by kernel_rfl
theorem ux:qz prog 117=some true:=by kernel_rfl
theorem so:z4 prog 117=some 39:=by kernel_rfl
theorem zpZ(hg:GW gl){n:Nat}{H:Hp}{b:Nat}{c:V}{ty:aB}{i:Option Nat}{xs:List aD}{x:aD}(hb:H.get b=some (.cells [c] ty))(hu:UL H 39 117 c i xs)(Yh:i≠some b)(hx:x.length=39)(EM:x.map aV=x)(fP:kx (xs.length+1) 312=true) :
  ∃H' c' j,zj prog gl (n+1) 91 [.ptr b 0,.agg x] H=some (.ret (.br []),H')/\H'.get b=some (.cells [c'] ty)/\UL H' 39 117 c' (some j) (xs++[x])/\j≠b/\(i=some j\/H.az.length<=j)/\s5 H H' (λd=>d=b\/i=some d):=by
 obtain⟨bs,es⟩:=H;have bR:b<bs.length:=kJ hb;have uu:Hp.get ⟨bs,[]⟩ b=some (.cells [c] ty):=hb;have Dy:UL ⟨bs,[]⟩ 39 117 c i xs:=hu;have Ot:c.top<=bs.length/\(c=.aG\/∃j v l,c=.dB j v l):=by
  cases i with
  | none=>obtain⟨rfl,_⟩:=hu;exact⟨ec _,.inl rfl⟩
  | some j=>obtain⟨v,rfl,hj⟩:=hu;exact⟨kJ hj,.inr ⟨_,_,_,rfl⟩⟩
 suffices bL:(go ⟨prog,gl,zj prog gl n,fu⟩ n (Fx prog [] λv H1=>v=.br []/\∃c' j,(∀d,d<bs.length->d≠b->i≠some d->H1.get d=Hp.get ⟨bs,es⟩ d)/\H1.get b=some (.cells [c'] ty)/\UL H1 39 117 c' (some j) (xs++[x])/\j≠b/\(i=some j\/bs.length<=j/\(b,j+1)∈H1.bG)/\bs.length<=H1.az.length) [.c (f91.body.getD .skip)] .normal ⟨[.ptr b 0,.agg x]++List.replicate 12 (.br []),⟨bs,[]⟩,[],[]⟩) by
  obtain⟨v,H1,h0,rfl,c',j,h2,h3,h4,h5,h6,h7⟩:=zQ (gl:=gl) (f:=91) (bs:=bs) (es:=es) (args:=[.ptr b 0,.agg x]) (n:=n) (hg.hk _ _ (by decide)) (λH=>hg.fA _ _ _ _) func91 rfl (by rw[hg.uq];exact bL)
  have hj:(zW bs.length es 0 H1).get j=H1.get j:=by
   rcases h6 with rfl|⟨h6,h8⟩
   ·exact jb (hu.lt)
   ·exact xI h8 bR (by omega) _
  exact⟨_,c',j,h0,(jb bR).trans h3,h4.frame λk hk=>by cases hk;exact hj,h5,h6.imp id And.left,vV h7,λd hd hn=>(jb hd).trans (h2 d hd (λe=>hn (.inl e)) (λe=>hn (.inr e)))⟩
 have oX:dz (.agg x)=true:=rfl;have gx:zk prog (Hp.push ⟨bs,[]⟩ (.cells x 117)) gl.g 117 (.ptr bs.length 0)=some (.agg x):=by
  rw[jc ux so Un (by simp[hx])]
  simp[<- hx]
 have lU:=Mi.Cc (v:=.agg x) rfl hx;have Fh:UL (Hp.push ⟨bs,[]⟩ (.cells x 117)) 39 117 c i xs:=Dy.frame λj hj=>by
  subst hj;obtain⟨v,_,h⟩:=Dy;rw[h];exact zM h
 have fy:=Mi.app (env:=[.ptr b 0,.agg x,.br [],.ptr bs.length 0,.ptr b 0,.ptr b 0,.ptr b 0,.ptr b (0+0),c,.agg x,.sl 39 [.agg x] (.yes 117),.br [],.br [],.br []]) (H:=Hp.push ⟨bs,[]⟩ (.cells x 117)) (lk:=[]) (df:=[]) (ys:=[.agg x]) (o:=.no) (by simp) Fh fP
 simp only[f91,fS,zh];refine zi ?_;simp only[qx,aH,wH,zL,qU,zd,ze,z8 oX,aM,aq,bS,bT,List.replicate,bh,aZ,V.laid,EM]
 refine ja (tk:=[8]) (by kernel_rfl) (by kernel_rfl) ?_
 simp only[jV,au,lM,Eo,jz,jp,ne_eq,Nat.reduceEqDiff,uK,zG,zA,ak,zd,ze,zr,aM,aq,bS,bT,ql,aT,aa,En,zS,ah]
 rw[XW (c:=c) Eo (zM uu) rfl Ot.2]
 simp only[aM,aq,bS,bT,jV,au,lM,ux,jA,ne_eq,Nat.reduceEqDiff,uK,ak,zd,ze,ql,List.all_nil,aT,
  gx,aS,zr,qW,kZ,jO,lU,XE (cx:=⟨prog,gl.g,zj prog gl n,fu⟩) (show p_ prog fu 152=true by kernel_rfl)]
 cases i with
 | none =>
  obtain⟨rfl,rfl⟩:=hu;simp only[dg];rw[fy];simp only[aM,aq,bS,bT,jV,bk,au,lM,zG,zA,zU,zL,ak,zd,ze,zr,ql,aT,aa,En,zS,ah,qH,nZ]
  rw[zy (cs:=[.aG]) (ty:=ty) Mi.st (zM (zM uu)) rfl rfl (by simp) (by simp[wz,locked])]
  simp only[bu,aq,zq,Fx,Vm.storeCells,V.laid,jk,bS]
  refine⟨trivial,[],rfl,rfl,.dB (bs.length+1) 0 1,bs.length+1,?_,?_,?_,by omega,.inr ⟨by omega,?_⟩,?_⟩
  ·intro d hd Ei _;rw[bU,jy,wX,wX];cases hg:Hp.get ⟨bs,[]⟩ d with
   | none=>exact absurd hg (by simp[Hp.get,zg,hd])
   | some y=>simp only[if_neg Ei];exact hg.symm
  ·rw[bU,jy,zM (zM uu)];simp
  ·refine⟨0,rfl,?_⟩;rw[bU,jy];have:Hp.get (Hp.push (Hp.push ⟨bs,[]⟩ (.cells x 117)) (.ul 0 39 (bY [.agg x]) 117)) (bs.length+1)=some (.ul 0 39 (bY [.agg x]) 117):=by
    rw[wX,zl1 (by simp[Hp.push])];simp[Hp.push]
   rw[this];have cH:bs.length+1≠b:=by omega
   simp[cH,bY,V.cells]
  ·exact zhr (v:=.dB (bs.length+1) 0 1) (by simp[V.top];omega)
  ·rw[xm,wv,jk,jk];show bs.length<=bs.length+1+1;omega
 | some j =>
  obtain⟨v,rfl,hj⟩:=Dy;have uw:j≠b:=λe=>Yh (by rw[e])
  have AY:j<bs.length:=kJ hj;simp only[q8] at fy ⊢;rw[fy];simp only[aM,aq,bS,bT,jV,bk,au,lM,zG,zA,zU,zL,ak,zd,ze,zr,ql,aT,aa,En,zS,ah,qH,nZ]
  have oe:∀y,(((Hp.push ⟨bs,[]⟩ (.cells x 117)).set j y).bQ j (.br [.agg x])).get b=some (.cells [.dB j v xs.length] ty):=λy=>by
   rw[bU,jy,zM uu];simp[Ne.symm uw]
  rw[zy (cs:=[.dB j v xs.length]) (ty:=ty) Mi.st (oe _) rfl rfl (by simp) (by simp[wz,locked])]
  simp only[bu,aq,zq,Fx,Vm.storeCells,V.laid,bS]
  refine⟨trivial,[],rfl,rfl,.dB j (v+1) (xs.length+1),j,?_,?_,?_,uw,.inl rfl,?_⟩
  ·intro d hd Ei Yi;have Mh:d≠j:=λe=>Yi (by rw[e])
   rw[bU,jy,bU,jy,wX];cases hg:Hp.get ⟨bs,[]⟩ d with
   | none=>exact absurd hg (by simp[Hp.get,zg,hd])
   | some y=>simp only[if_neg Ei,if_neg Mh];exact hg.symm
  ·rw[bU,jy,oe];simp
  ·refine⟨v+1,by simp,?_⟩
   rw[bU,jy,bU,jy,zM hj];simp[uw,bY,V.cells]
  ·simp[xm,wv,jk]
end
section
variable{gl:Gl}
theorem IX:prog.underlying 149=some (.slice 157):=Kf.u
theorem zqN(hg:GW gl){n:Nat}{H:Hp}{b j:Nat}{c:V}{ty:aB}{xs:List aD}{x:aD}(hb:H.get b=some (.cells [c] ty))(hu:UL H 11 157 c (some j) (xs++[x]))(uw:j≠b)(hx:x.length=11)(EM:x.map aV=x)(D8:aI x=0)(pz:∀y∈xs,y.length=11)(hlen:xs.length<140737488355328) :
  ∃H' c',zj prog gl (n+1) 90 [.ptr b 0] H=some (.ret (.agg x),H')/\H'.get b=some (.cells [c'] ty)/\UL H' 11 157 c' (some j) xs/\s5 H H' (λd=>d=b\/d=j):=by
 obtain⟨bs,es⟩:=H;have bR:b<bs.length:=kJ hb;obtain⟨v,rfl,hj⟩:=hu;have AY:j<bs.length:=kJ hj;have uu:Hp.get ⟨bs,[]⟩ b=some (.cells [.dB j v (xs++[x]).length] ty):=hb;have Yj:Hp.get ⟨bs,[]⟩ j=some (.ul v 11 (xs++[x]).flatten 157):=hj;obtain⟨z,Hj,ES,CW,QB⟩:=Kf.zero;have nk:(xs++[x]).flatten.length=xs.length * 11+11:=by
  rw[vt (n:=11) (by intro y hy;rcases sw.1 hy with h|h;exact pz y h;simp at h;rw[h,hx])]
  simp[HX]
 suffices bL:(go ⟨prog,gl,zj prog gl n,fu⟩ n (Fx prog f90.results.toList λw H1=>w=.agg x/\∃c',(∀d,d<bs.length->d≠b->d≠j->H1.get d=Hp.get ⟨bs,es⟩ d)/\H1.get b=some (.cells [c'] ty)/\UL H1 11 157 c' (some j) xs/\bs.length<=H1.az.length) [.c (f90.body.getD .skip)] .normal ⟨[.ptr b 0]++List.replicate 30 (.br []),⟨bs,[]⟩,[],[]⟩) by
  obtain⟨w,H1,h0,rfl,c',h2,h3,h4,h7⟩:=zQ (gl:=gl) (f:=90) (bs:=bs) (es:=es) (args:=[.ptr b 0]) (n:=n) (hg.hk _ _ (by decide)) (λH=>hg.fA _ _ _ _) func90 rfl (by rw[hg.uq];exact bL)
  exact⟨_,c',h0,(jb bR).trans h3,h4.frame λk hk=>by cases hk;exact jb AY,vV h7,λd hd hn=>(jb hd).trans (h2 d hd (λe=>hn (.inl e)) (λe=>hn (.inr e)))⟩
 simp only[f90,fS,zh];refine zi ?_;simp only[qx,aH,zh,qO,Hj,zJ ES,aM,aq,bS,bT,List.replicate,bh,aZ]
 refine ja (tk:=[]) (by kernel_rfl) (by kernel_rfl) ?_
 have Mj:(Hp.push ⟨bs,[]⟩ (.cells z.cells 157)).get b=some (.cells [.dB j v (xs++[x]).length] ty):=zM uu;have Ml:(Hp.push ⟨bs,[]⟩ (.cells z.cells 157)).get j=some (.ul v 11 (xs++[x]).flatten 157):=zM Yj;have lR:∀u w,qL prog .sub 3 u w (some (.int .i64 ((xs++[x]).length:Int))) (some (.int .i64 1))=some (.int .i64 (xs.length:Int)):=λu w=>by
  rw[kD,kT (by simp only[aU,JI];omega) (by simp only[aU,JI];omega)];simp
 have Mm:zk prog (Hp.push ⟨bs,[]⟩ (.cells z.cells 157)) gl.g 157 (.gh j v (xs.length * 11))=some (.agg x):=by
  rw[zhs By Aq Ml (by rw[nk];omega)]
  rw[List.flatten_append,List.drop_append_of_le_length (by rw[vt pz];omega),List.drop_eq_nil_of_le (by rw[vt pz];omega)]
  simp[<- hx]
 have Bz:zk prog (Hp.push ⟨bs,[]⟩ (.cells z.cells 157)) gl.g 149 (.ptr b 0)=some (.dB j v (xs++[x]).length):=zt CV Mj rfl;have IW:zp prog 149 (.dB j v (xs++[x]).length) (xs.length:Int)=some (.gh j v (xs.length * 11)):=by
  rw[Uo IX Aq (by simp only[aU,JI];omega),Ac]
 simp only[jV,bk,au,lM,By,CV,zK,qw,zG,zA,kz,zV,zT,qO,Hj,zJ ES,zU,zL,ak,aj,zd,ze,zr,aM,aq,bS,bT,ql,q8,zR,qW,jQ,qU,aS,aT,aa,CU,zS,ah,nZ,
  Bz,xq IX,lR,aE,IW,Mm]
 obtain⟨HA,IY⟩:∃HA,HA=Hp.push ⟨bs,[]⟩ (.cells z.cells 157):=⟨_,rfl⟩;rw[<- IY] at Mj Ml Bz ⊢;have Mn:HA.az.length=bs.length+1:=by rw[IY,jk]
 have Yk:HA.get bs.length=some (.cells z.cells 157):=by rw[IY];exact Un
 have Yl:∀d,d<bs.length->HA.get d=Hp.get ⟨bs,es⟩ d:=λd hd=>by rw[IY,jG hd];rfl
 rw[zy (v:=.agg x) Aq (we (H:=HA)) rfl (by simp[V.laid,hx]) (by rw[CW];omega) (wj QB (by rw[CW];omega))]
 simp only[bu,aq,zh,V.laid,EM,wQ (show z.cells.length=x.length by rw[CW,hx])]
 rw[jR (v:=.agg x) (by simp[V.top,D8])]
 obtain⟨HB,t_⟩:∃HB,HB=Hp.set (HA.push (.cells z.cells 157)) HA.az.length (.cells x 157):=⟨_,rfl⟩;rw[<- t_,Mn];have dV:HB.get b=some (.cells [.dB j v (xs++[x]).length] ty):=by rw[t_,qC (by omega),jG (by omega),Mj]
 have QC:HB.get j=some (.ul v 11 (xs++[x]).flatten 157):=by rw[t_,qC (by omega),jG (by omega),Ml]
 have Ym:HB.get bs.length=some (.cells z.cells 157):=by rw[t_,qC (by omega),jG (by omega),Yk]
 have Yn:HB.get (bs.length+1)=some (.cells x 157):=by rw[t_,<- Mn,wI we]
 have Yo:∀d,d<bs.length->HB.get d=Hp.get ⟨bs,es⟩ d:=λd hd=>by rw[t_,qC (by omega),jG (by omega),Yl d hd]
 have Yp:HB.az.length=bs.length+2:=by rw[t_,wv,jk,Mn]
 refine ja (tk:=[]) (by kernel_rfl) (by kernel_rfl) ?_
 have Mo:zk prog HB gl.g 149 (.ptr b 0)=some (.dB j v (xs++[x]).length):=zt CV dV rfl
 simp only[jV,au,lM,CV,zK,qw,zG,zA,kz,zV,ze3,zdN (cx:=⟨prog,gl.g,zj prog gl n,fu⟩) (show p_ prog fu 149=true by kernel_rfl),ak,cQ,aj,zd,ze,zr,aM,aq,bS,bT,ql,q8,zR,aS,aT,aa,CU,zS,ah,nZ,
  Mo,xq IX,lR]
 have Mp:∀env,Oj prog 149 env HB [] [] (some (.dB j v (xs++[x]).length)) (some none) (some (some (.int .i64 (xs.length:Int))))=some (.val (.dB j (v+1) xs.length),⟨env,(HB.set j (.ul (v+1) 11 xs.flatten 157)).bQ j .fT,[],[]⟩):=λenv=>by
  have hle:xs.length<=(xs++[x]).length:=by simp
  simp only[Oj,IX,QC,Aq,Ac,hle,BY,Int.natCast_nonneg,aF];rw[List.flatten_append,<- vt pz,List.take_left]
 rw[Mp];simp only[jV,bk,zh,au,lM,zG,zA,zU,zL,ak,zd,ze,zr,aM,aq,bS,bT,ql,qH,aT,aa,CU,zS,ah,nZ]
 rw[zy (cs:=[.dB j v (xs++[x]).length]) (ty:=ty) Kf.st (by rw[ki (Ne.symm uw),dV]) rfl rfl (by simp) (by simp[wz,locked])]
 obtain⟨HC,CX⟩:∃HC,HC=Hp.bQ (Hp.set ((HB.set j (.ul (v+1) 11 xs.flatten 157)).bQ j .fT) b (.cells (Vm.storeCells [.dB j v (xs++[x]).length] 0 (V.laid (.dB j (v+1) xs.length))) ty)) b (.dB j (v+1) xs.length):=⟨_,rfl⟩;rw[<- CX];have Yq:HC.get b=some (.cells [.dB j (v+1) xs.length] ty):=by rw[CX,gz (by rw[ki (Ne.symm uw),dV])];rfl
 have Yr:HC.get j=some (.ul (v+1) 11 xs.flatten 157):=by rw[CX,ki uw,gz QC]
 have QD:HC.get bs.length=some (.cells z.cells 157):=by rw[CX,ki (by omega),ki (by omega),Ym]
 have Ys:HC.get (bs.length+1)=some (.cells x 157):=by rw[CX,ki (by omega),ki (by omega),Yn]
 have Yt:∀d,d<bs.length->d≠b->d≠j->HC.get d=Hp.get ⟨bs,es⟩ d:=λd hd h1 h2=>by rw[CX,ki h1,ki h2,Yo d hd]
 have Yu:HC.az.length=bs.length+2:=by rw[CX,Up,Up,Yp]
 simp only[bu,aq]
 refine zi ?_;have FQ:zk prog HC gl.g 157 (.ptr (bs.length+1) 0)=some (.agg x):=by
  rw[jc By Aq Ys (by simp[hx])];simp[<- hx]
 simp only[qx,aH,qw,zU,zL,ak,zd,ze,zr,aM,aq,bS,bT,ql,qW,qU,aS,aT,FQ]
 rw[zy (v:=.agg x) Aq QD rfl (by simp[V.laid,hx]) (by rw[CW];omega) (wj QB (by rw[CW];omega))]
 simp only[bu,aq,go_ret,zq,Fx,V.laid,EM,wQ (show z.cells.length=x.length by rw[CW,hx])]
 rw[jR (v:=.agg x) (by simp[V.top,D8])]
 obtain⟨HD,Ep⟩:∃HD,HD=Hp.set HC bs.length (.cells x 157):=⟨_,rfl⟩;rw[<- Ep];have Yv:HD.get bs.length=some (.cells x 157):=by rw[Ep,wI QD]
 refine⟨trivial,[.agg x],?_,rfl,.dB j (v+1) xs.length,λd hd h1 h2=>by rw[Ep,qC (by omega),Yt d hd h1 h2],by rw[Ep,qC (by omega),Yq],⟨v+1,rfl,by rw[Ep,qC (by omega),Yr]⟩,by rw[Ep,wv,Yu];omega⟩
 simp only[zx,zd,ze];rw[jc By Aq Yv (by simp[hx])]
 simp[aV,<- hx]
theorem IZ:prog.underlying 152=some (.slice 117):=Mi.u
theorem zqO(hg:GW gl){n:Nat}{H:Hp}{b j:Nat}{c:V}{ty:aB}{xs:List aD}{x:aD}(hb:H.get b=some (.cells [c] ty))(hu:UL H 39 117 c (some j) (xs++[x]))(uw:j≠b)(hx:x.length=39)(EM:x.map aV=x)(D8:aI x=0)(pz:∀y∈xs,y.length=39)(hlen:xs.length<140737488355328) :
  ∃H' c',zj prog gl (n+1) 93 [.ptr b 0] H=some (.ret (.agg x),H')/\H'.get b=some (.cells [c'] ty)/\UL H' 39 117 c' (some j) xs/\s5 H H' (λd=>d=b\/d=j):=by
 obtain⟨bs,es⟩:=H;have bR:b<bs.length:=kJ hb;obtain⟨v,rfl,hj⟩:=hu;have AY:j<bs.length:=kJ hj;have uu:Hp.get ⟨bs,[]⟩ b=some (.cells [.dB j v (xs++[x]).length] ty):=hb;have Yj:Hp.get ⟨bs,[]⟩ j=some (.ul v 39 (xs++[x]).flatten 117):=hj;obtain⟨z,Hj,ES,CW,QB⟩:=Mi.zero;have nk:(xs++[x]).flatten.length=xs.length * 39+39:=by
  rw[vt (n:=39) (by intro y hy;rcases sw.1 hy with h|h;exact pz y h;simp at h;rw[h,hx])]
  simp[HX]
 suffices bL:(go ⟨prog,gl,zj prog gl n,fu⟩ n (Fx prog f93.results.toList λw H1=>w=.agg x/\∃c',(∀d,d<bs.length->d≠b->d≠j->H1.get d=Hp.get ⟨bs,es⟩ d)/\H1.get b=some (.cells [c'] ty)/\UL H1 39 117 c' (some j) xs/\bs.length<=H1.az.length) [.c (f93.body.getD .skip)] .normal ⟨[.ptr b 0]++List.replicate 30 (.br []),⟨bs,[]⟩,[],[]⟩) by
  obtain⟨w,H1,h0,rfl,c',h2,h3,h4,h7⟩:=zQ (gl:=gl) (f:=93) (bs:=bs) (es:=es) (args:=[.ptr b 0]) (n:=n) (hg.hk _ _ (by decide)) (λH=>hg.fA _ _ _ _) func93 rfl (by rw[hg.uq];exact bL)
  exact⟨_,c',h0,(jb bR).trans h3,h4.frame λk hk=>by cases hk;exact jb AY,vV h7,λd hd hn=>(jb hd).trans (h2 d hd (λe=>hn (.inl e)) (λe=>hn (.inr e)))⟩
 simp only[f93,fS,zh];refine zi ?_;simp only[qx,aH,zh,qO,Hj,zJ ES,aM,aq,bS,bT,List.replicate,bh,aZ]
 refine ja (tk:=[]) (by kernel_rfl) (by kernel_rfl) ?_
 have Mj:(Hp.push ⟨bs,[]⟩ (.cells z.cells 117)).get b=some (.cells [.dB j v (xs++[x]).length] ty):=zM uu;have Ml:(Hp.push ⟨bs,[]⟩ (.cells z.cells 117)).get j=some (.ul v 39 (xs++[x]).flatten 117):=zM Yj;have lR:∀u w,qL prog .sub 3 u w (some (.int .i64 ((xs++[x]).length:Int))) (some (.int .i64 1))=some (.int .i64 (xs.length:Int)):=λu w=>by
  rw[kD,kT (by simp only[aU,JI];omega) (by simp only[aU,JI];omega)];simp
 have Mm:zk prog (Hp.push ⟨bs,[]⟩ (.cells z.cells 117)) gl.g 117 (.gh j v (xs.length * 39))=some (.agg x):=by
  rw[zhs ux so Ml (by rw[nk];omega)]
  rw[List.flatten_append,List.drop_append_of_le_length (by rw[vt pz];omega),List.drop_eq_nil_of_le (by rw[vt pz];omega)]
  simp[<- hx]
 have Bz:zk prog (Hp.push ⟨bs,[]⟩ (.cells z.cells 117)) gl.g 152 (.ptr b 0)=some (.dB j v (xs++[x]).length):=zt Eo Mj rfl;have IW:zp prog 152 (.dB j v (xs++[x]).length) (xs.length:Int)=some (.gh j v (xs.length * 39)):=by
  rw[Uo IZ so (by simp only[aU,JI];omega),Ac]
 simp only[jV,bk,au,lM,ux,Eo,zK,qw,zG,zA,kz,zV,zT,qO,Hj,zJ ES,zU,zL,ak,aj,zd,ze,zr,aM,aq,bS,bT,ql,q8,zR,qW,jQ,qU,aS,aT,aa,En,zS,ah,nZ,
  Bz,xq IZ,lR,aE,IW,Mm]
 obtain⟨HA,IY⟩:∃HA,HA=Hp.push ⟨bs,[]⟩ (.cells z.cells 117):=⟨_,rfl⟩;rw[<- IY] at Mj Ml Bz ⊢;have Mn:HA.az.length=bs.length+1:=by rw[IY,jk]
 have Yk:HA.get bs.length=some (.cells z.cells 117):=by rw[IY];exact Un
 have Yl:∀d,d<bs.length->HA.get d=Hp.get ⟨bs,es⟩ d:=λd hd=>by rw[IY,jG hd];rfl
 rw[zy (v:=.agg x) so (we (H:=HA)) rfl (by simp[V.laid,hx]) (by rw[CW];omega) (wj QB (by rw[CW];omega))]
 simp only[bu,aq,zh,V.laid,EM,wQ (show z.cells.length=x.length by rw[CW,hx])]
 rw[jR (v:=.agg x) (by simp[V.top,D8])]
 obtain⟨HB,t_⟩:∃HB,HB=Hp.set (HA.push (.cells z.cells 117)) HA.az.length (.cells x 117):=⟨_,rfl⟩;rw[<- t_,Mn];have dV:HB.get b=some (.cells [.dB j v (xs++[x]).length] ty):=by rw[t_,qC (by omega),jG (by omega),Mj]
 have QC:HB.get j=some (.ul v 39 (xs++[x]).flatten 117):=by rw[t_,qC (by omega),jG (by omega),Ml]
 have Ym:HB.get bs.length=some (.cells z.cells 117):=by rw[t_,qC (by omega),jG (by omega),Yk]
 have Yn:HB.get (bs.length+1)=some (.cells x 117):=by rw[t_,<- Mn,wI we]
 have Yo:∀d,d<bs.length->HB.get d=Hp.get ⟨bs,es⟩ d:=λd hd=>by rw[t_,qC (by omega),jG (by omega),Yl d hd]
 have Yp:HB.az.length=bs.length+2:=by rw[t_,wv,jk,Mn]
 refine ja (tk:=[]) (by kernel_rfl) (by kernel_rfl) ?_
 have Mo:zk prog HB gl.g 152 (.ptr b 0)=some (.dB j v (xs++[x]).length):=zt Eo dV rfl
 simp only[jV,au,lM,Eo,zK,qw,zG,zA,kz,zV,ze3,zdN (cx:=⟨prog,gl.g,zj prog gl n,fu⟩) (show p_ prog fu 152=true by kernel_rfl),ak,cQ,aj,zd,ze,zr,aM,aq,bS,bT,ql,q8,zR,aS,aT,aa,En,zS,ah,nZ,
  Mo,xq IZ,lR]
 have Mp:∀env,Oj prog 152 env HB [] [] (some (.dB j v (xs++[x]).length)) (some none) (some (some (.int .i64 (xs.length:Int))))=some (.val (.dB j (v+1) xs.length),⟨env,(HB.set j (.ul (v+1) 39 xs.flatten 117)).bQ j .fT,[],[]⟩):=λenv=>by
  have hle:xs.length<=(xs++[x]).length:=by simp
  simp only[Oj,IZ,QC,so,Ac,hle,BY,Int.natCast_nonneg,aF];rw[List.flatten_append,<- vt pz,List.take_left]
 rw[Mp];simp only[jV,bk,zh,au,lM,zG,zA,zU,zL,ak,zd,ze,zr,aM,aq,bS,bT,ql,qH,aT,aa,En,zS,ah,nZ]
 rw[zy (cs:=[.dB j v (xs++[x]).length]) (ty:=ty) Mi.st (by rw[ki (Ne.symm uw),dV]) rfl rfl (by simp) (by simp[wz,locked])]
 obtain⟨HC,CX⟩:∃HC,HC=Hp.bQ (Hp.set ((HB.set j (.ul (v+1) 39 xs.flatten 117)).bQ j .fT) b (.cells (Vm.storeCells [.dB j v (xs++[x]).length] 0 (V.laid (.dB j (v+1) xs.length))) ty)) b (.dB j (v+1) xs.length):=⟨_,rfl⟩;rw[<- CX];have Yq:HC.get b=some (.cells [.dB j (v+1) xs.length] ty):=by rw[CX,gz (by rw[ki (Ne.symm uw),dV])];rfl
 have Yr:HC.get j=some (.ul (v+1) 39 xs.flatten 117):=by rw[CX,ki uw,gz QC]
 have QD:HC.get bs.length=some (.cells z.cells 117):=by rw[CX,ki (by omega),ki (by omega),Ym]
 have Ys:HC.get (bs.length+1)=some (.cells x 117):=by rw[CX,ki (by omega),ki (by omega),Yn]
 have Yt:∀d,d<bs.length->d≠b->d≠j->HC.get d=Hp.get ⟨bs,es⟩ d:=λd hd h1 h2=>by rw[CX,ki h1,ki h2,Yo d hd]
 have Yu:HC.az.length=bs.length+2:=by rw[CX,Up,Up,Yp]
 simp only[bu,aq]
 refine zi ?_;have FQ:zk prog HC gl.g 117 (.ptr (bs.length+1) 0)=some (.agg x):=by
  rw[jc ux so Ys (by simp[hx])];simp[<- hx]
 simp only[qx,aH,qw,zU,zL,ak,zd,ze,zr,aM,aq,bS,bT,ql,qW,qU,aS,aT,FQ]
 rw[zy (v:=.agg x) so QD rfl (by simp[V.laid,hx]) (by rw[CW];omega) (wj QB (by rw[CW];omega))]
 simp only[bu,aq,go_ret,zq,Fx,V.laid,EM,wQ (show z.cells.length=x.length by rw[CW,hx])]
 rw[jR (v:=.agg x) (by simp[V.top,D8])]
 obtain⟨HD,Ep⟩:∃HD,HD=Hp.set HC bs.length (.cells x 117):=⟨_,rfl⟩;rw[<- Ep];have Yv:HD.get bs.length=some (.cells x 117):=by rw[Ep,wI QD]
 refine⟨trivial,[.agg x],?_,rfl,.dB j (v+1) xs.length,λd hd h1 h2=>by rw[Ep,qC (by omega),Yt d hd h1 h2],by rw[Ep,qC (by omega),Yq],⟨v+1,rfl,by rw[Ep,qC (by omega),Yr]⟩,by rw[Ep,wv,Yu];omega⟩
 simp only[zx,zd,ze];rw[jc ux so Yv (by simp[hx])]
 simp[aV,<- hx]
end
section
variable{gl:Gl}
theorem zhC{q:Nat->Bool}{k:Nat}:∀{ks:bM}{ns:List (Nat->Bool)},mL q (ks++[k]) ns=(mL q ks ns).set k (jC ((mL q ks ns).getD k λ_=>false) q)
 | [],_=>rfl
 | _::ks,_=>by simp only[bh,mL];exact zhC
def eg(bs:List aY)(i:Option Nat)(ns:List (Nat->Bool)):List aY :=
 match i with
 | none=>bs
 | some j=>match nth bs j with
  | some (.ul v sz _ e)=>bs.set j (.ul v sz (ns.map (pv 19)).flatten e)
  | _=>bs
theorem Yw{bs:List aY}{j v sz e:Nat}{cs:aD}{ns:List (Nat->Bool)}(h:nth bs j=some (.ul v sz cs e)):eg bs (some j) ns=bs.set j (.ul v sz (ns.map (pv 19)).flatten e):=by simp only[eg,h]
theorem yJ{bs:List aY}{i:Option Nat}{ns:List (Nat->Bool)}:(eg bs i ns).length=bs.length:=by
 unfold eg;split
 ·rfl
 ·split
  ·simp
  ·rfl
theorem Uv{bs:List aY}{i:Option Nat}{ns:List (Nat->Bool)}{d:Nat}(h:i≠some d):nth (eg bs i ns) d=nth bs d:=by
 unfold eg;split
 ·rfl
 ·rename_i j;split
  ·rw[zg,su (by intro e;exact h (by rw[e])),zg]
  ·rfl
theorem Uw{bs:List aY}{es:aO}{sz:Nat}{e:aB}{c:V}{i:Option Nat}{xs:List aD}(h:UL ⟨bs,es⟩ sz e c i xs){d:Nat}{cs:aD}{ty:aB}(hd:nth bs d=some (.cells cs ty)):i≠some d:=by
 intro e;subst e;obtain⟨v,_,h2⟩:=h;simp only[Hp.get] at h2;rw[hd] at h2;cases h2
theorem zjJ{bs:List aY}{es fs:aO}{e:aB}{c:V}{i:Option Nat}{ns ns':List (Nat->Bool)}(h:UL ⟨bs,es⟩ 19 e c i (ns.map (pv 19)))(hl:ns'.length=ns.length):UL ⟨eg bs i ns',fs⟩ 19 e c i (ns'.map (pv 19)):=by
 cases i with
 | none =>
  obtain⟨h1,h2⟩:=h;have:ns=[]:=by simpa using h2
  subst this;exact⟨h1,by simp[HO hl]⟩
 | some j =>
  obtain⟨v,h1,h2⟩:=h;have GV:nth bs j=some (.ul v 19 (ns.map (pv 19)).flatten e):=h2;refine⟨v,by rw[h1];simp[hl],?_⟩
  have bR:j<bs.length:=by rw[zg] at GV;exact(cZ.1 GV).1
  rw[Yw GV];simp[Hp.get,zg,bR]
theorem Ux{bs:List aY}{es:aO}{e:aB}{c:V}{i:Option Nat}{ns:List (Nat->Bool)}(h:UL ⟨bs,es⟩ 19 e c i (ns.map (pv 19))):eg bs i ns=bs:=by
 cases i with
 | none=>rfl
 | some j =>
  obtain⟨v,h1,h2⟩:=h;have GV:nth bs j=some (.ul v 19 (ns.map (pv 19)).flatten e):=h2;rw[Yw GV];exact jW GV
theorem ziz{bs:List aY}{i:Option Nat}{ns ns':List (Nat->Bool)}:eg (eg bs i ns) i ns'=eg bs i ns':=by
 cases i with
 | none=>rfl
 | some j =>
  simp only[eg];cases h:nth bs j with
  | none=>simp[h]
  | some b =>
   have bR:j<bs.length:=by rw[zg] at h;exact(cZ.1 h).1
   cases b<;>simp[h,zg,bR]
theorem rG:zB prog 113 2=some 2:=by kernel_rfl
theorem FR:qz prog 111=some false:=by kernel_rfl
theorem Hs:mW prog 111 115 19 152:=⟨by kernel_rfl,by kernel_rfl,by kernel_rfl,by decide,by kernel_rfl,by kernel_rfl,by kernel_rfl⟩
theorem Ou:qz prog 3=some false:=by kernel_rfl
theorem Yx(hg:GW gl){n:Nat}(hn:1300<=n){bs:List aY}{es:aO}{bm bl ol bf ob:Nat}{a0 a1 c:V}{i:Option Nat}{ns:List (Nat->Bool)}{p q:Nat->Bool}{pre post pre' post':aD}{ty ty' Ov:aB}
  (hm:nth bs bm=some (.cells [a0,a1,c] Ov)) (hu:UL ⟨bs,es⟩ 19 115 c i (ns.map (pv 19)))
  (hl:nth bs bl=some (.cells (pre++pv 19 p++post) ty)) (Ec:pre.length=ol) (hf:nth bs bf=some (.cells (pre'++pv 19 q++post') ty')) (hof:pre'.length=ob)
  (dI:∀k∈jg p 19,k<ns.length) :
  zj prog gl (n+1) 57 [.ptr bm 0,.ptr bl ol,.ptr bf ob] ⟨bs,es⟩=some (.ret (.br []),⟨eg bs i (mL q (jg p 19) ns),es⟩):=by
 generalize hL:jg p 19=L at *;have iD:zW bs.length es 0 ⟨eg bs i (mL q L ns),[]⟩=⟨eg bs i (mL q L ns),es⟩:=by
  have:=z9 (bs:=eg bs i (mL q L ns)) (ls:=[]) (es:=es) (t:=0) (ec _)
  rwa [m7,yJ] at this
 suffices bL:(go ⟨prog,gl,zj prog gl n,fu⟩ n (Fx prog f57.results.toList λw H1=>w=.br []/\H1=⟨eg bs i (mL q L ns),[]⟩) [.c (f57.body.getD .skip)] .normal ⟨[.ptr bm 0,.ptr bl ol,.ptr bf ob]++List.replicate 21 (.br []),⟨bs,[]⟩,[],[]⟩) by
  obtain⟨w,H1,h0,rfl,rfl⟩:=zQ (gl:=gl) (f:=57) (bs:=bs) (es:=es) (args:=[.ptr bm 0,.ptr bl ol,.ptr bf ob]) (n:=n) (hg.hk _ _ (by decide)) (λH=>hg.fA _ _ _ _) func57 rfl (by rw[hg.uq];exact bL)
  rw[h0,show(V.br []).top=0 from rfl,iD]
 have hLl:L.length<=1216:=by
  have:=xp (p:=p) 19;rw[xH,gk,hL] at this;omega
 have QF:Cx.bB ⟨prog,gl.g,zj prog gl n,fu⟩ 59 [.ptr bl ol] ⟨bs,[]⟩=some (.val (aV (zl 1 3 (L.map λk=>V.int .i64 ((k:Nat):Int)))),⟨bs,[]⟩):=by
  have h:=zhA hg (n:=n - 1) (by omega) (H:=⟨bs,[]⟩) (b:=bl) (off:=ol) (pre:=pre) (post:=post) (p:=p) hl Ec
  rw[xH,hL,show n - 1+1=n by omega] at h
  exact zu func59 rfl h
 simp only[f57,fS,zh];refine zi ?_;simp only[qx,aH,zK,kf,av,ak,qp,aj,zd,ze,zr,aM,aq,bS,bT,List.replicate,bh,aZ,ql,qM,aA,QF,bg,bp,kz,aT,qS,Uq DA.u,aS,gk]
 simp only[zw];refine qj (λm s=>∃k env,m+k=L.length/\s=⟨env,⟨eg bs i (mL q (L.take k) ns),[]⟩,[],[]⟩/\env.length=24/\nth env 0=some (.ptr bm 0)/\nth env 2=some (.ptr bf ob)/\nth env 9=some (aV (zl 1 3 (L.map λk=>V.int .i64 ((k:Nat):Int))))/\nth env 10=some (.int .i64 (L.length:Nat))/\nth env 11=some (.int .i64 (k:Nat))) L.length (by omega) ?_ ?_
 ·have Em:eg bs i (mL q (L.take 0) ns)=bs:=Ux hu;refine⟨0,_,rfl,by rw[Em],?_,?_,?_,?_,?_,?_⟩<;>rfl
 rintro m s ⟨k,env,Ds,rfl,hlen,h0,h2,h9,CR,QG⟩;simp only[zh];refine zi ?_;simp only[qx,aH,zh,qR,zV,ak,CR,QG,zr,aM,aq,za,hlen,Nat.reduceLT,aF,zR,qQ,qT,qi]
 by_cases hk:k<L.length
 ·refine .inl ⟨by simp;omega,?_⟩
  simp only[bz,zh,zw]
  have hx:nth (L.map λk=>V.int .i64 ((k:Nat):Int)) k=some (.int .i64 ((L[k]:Nat):Int)):=by rw[zg];simp[hk]
  have gG:∀w:V,nth env 9=some w->aV w=w->aV (aV w)=w:=λw _ h=>by rw[h,h]
  refine zi ?_;have IW:=zkP DA.u (show z4 prog 3=some 1 by kernel_rfl) hx
  simp only[qx,aH,zT,qw,z7,zL,ak,h9,QG,zr,qd,aM,aq,za,bD,hlen,Nat.reduceEqDiff,Nat.reduceLT,aF,bw,zR,aT,aE,qS,IW,V.cells,wW,zma Ou,aS,qq]
  refine zi ?_;have hkL:L[k]<ns.length:=dI _ (List.getElem_mem hk);obtain⟨j,rfl⟩:∃j,i=some j:=by
   cases i with
   | none =>
    have:ns=[]:=by simpa using hu.2
    subst this;simp at hkL
   | some j=>exact⟨j,rfl⟩
  have W_:=Uw hu hm;have hjf:=Uw hu hf;have ny:=zjJ (fs:=[]) (ns':=mL q (L.take k) ns) hu wx;obtain⟨v,rfl,hj⟩:=ny;obtain⟨AQ,FL⟩:∃AQ,AQ=eg bs (some j) (mL q (L.take k) ns):=⟨_,rfl⟩;have Pn:Hp.get ⟨AQ,[]⟩ bm=some (.cells [a0,a1,.dB j v (List.map (pv 19) (mL q (L.take k) ns)).length] Ov):=by rw[FL];exact(Uv W_).trans hm
  have Fq:nth AQ bf=some (.cells (pre'++pv 19 q++post') ty'):=by rw[FL];exact(Uv hjf).trans hf
  obtain⟨pr,po,g1,g2,g3⟩:=zhq (ns:=mL q (L.take k) ns) (k:=L[k]) (by rw[wx];exact hkL)
  rw[<- FL] at hj ⊢;have sO:nth AQ j=some (.ul v 19 (pr++pv 19 ((mL q (L.take k) ns).getD L[k] λ_=>false)++po) 115):=by rw[<- g2];exact hj
  have gx:zk prog ⟨AQ,[]⟩ gl.g 111 (.ptr bm (0+2))=some (.dB j v (List.map (pv 19) (mL q (L.take k) ns)).length):=zt FR Pn rfl;have Yy:zp prog 111 (.dB j v (List.map (pv 19) (mL q (L.take k) ns)).length) ((L[k]:Nat):Int)=some (.gh j v (L[k] * 19)):=by
   rw[Uo Hs.u Hs.s (by rw[gk,wx];omega),Ac]
  have QH:=zmm hg (n:=n - 1) (by omega) (es:=[]) sO g1 Fq hof (λe=>hjf (by rw[e]))
  rw[show n - 1+1=n by omega,<- g3] at QH
  have dj:Cx.bB ⟨prog,gl.g,zj prog gl n,fu⟩ 58 [.gh j v (L[k] * 19),.ptr bf ob] ⟨AQ,[]⟩=_:=zu func58 rfl QH;simp only[qx,aH,zK,zG,zA,qw,zT,kf,av,qp,ak,h0,h2,zr,aM,aq,za,bD,hlen,Nat.reduceEqDiff,Nat.reduceLT,aF,bw,ql,zR,q8,jQ,aT,aS,aa,rG,zS,ah,aE,gx,Yy,qM,aA,dj,bg,bp,qD]
  have hH:AQ.set j (.ul v 19 (((mL q (L.take k) ns).set L[k] (jC ((mL q (L.take k) ns).getD L[k] λ_=>false) q)).map (pv 19)).flatten 115)=eg bs (some j) (mL q (L.take (k+1)) ns):=by
   rw[<- ziz (ns:=mL q (L.take k) ns),<- FL,Yw sO,List.take_succ_eq_append_getElem hk,zhC]
  rw[hH];refine zi ?_;simp only[qx,aH,zV,zK,ak,aj,QG,zr,aM,aq,za,bD,hlen,Nat.reduceEqDiff,Nat.reduceLT,aF,bw,zR,z6 (show k<2 ^ 60 by omega),zq,aN]
  refine⟨L.length - (k+1),by omega,k+1,_,by omega,rfl,?_,?_,?_,?_,?_,?_⟩<;>simp[za,hlen,h0,h2,h9,CR]
 ·obtain rfl:k=L.length:=by omega
  refine .inr ⟨by simp,?_⟩
  simp only[qm,zN,zq,bI,zD,lK,aF,Fx];refine⟨trivial,[],rfl,rfl,?_⟩;rw[D1]
end
section
variable{gl:Gl}
section
variable{B ls:List aY}{d k:Nat}{x:aY}
theorem gB(h:d<B.length):nth (B++ls) d=nth B d:=by rw[zg,zg,gb h]
theorem gN:nth (B++ls) (B.length+k)=nth ls k:=by rw[zg,zg,fI (by omega)];simp
theorem Ow:nth (B++ls) B.length=nth ls 0:=gN (k:=0)
theorem sN:(B++ls).set (B.length+k) x=B++ls.set k x:=by rw[Aa _ _ (by omega)];simp
theorem sN0:(B++ls).set B.length x=B++ls.set 0 x:=sN (k:=0)
theorem sB(h:d<B.length):(B++ls).set d x=B.set d x++ls:=GP _ _ h
end
section
variable{P:aQ}{t n:aB}{B ls:List aY}{k off:Nat}{cs:aD}{ty:aB}{v:V}{env:aD}{lk:aO}{df:bP}{es:aO}{g:Nat->Nat->b_}
theorem Kg(hs:z4 P t=some n)(hg:nth ls k=some (.cells cs ty))(h1:dz v=true)(h2:v.laid.length=n)(h3:off+n<=cs.length)(h4:cs.all (λc=>!(locked c))=true)(ht:v.top=0) :
  qr P t ⟨B++ls,es⟩ lk df (some (v,env)) (some (.ptr (B.length+k) off))=some (.skip,⟨env,⟨B++ls.set k (.cells (Vm.storeCells cs off v.laid) ty),es⟩,lk,df⟩):=by
 rw[zy hs (show Hp.get ⟨B++ls,es⟩ _=_ from gN.trans hg) h1 h2 h3 (wj h4 h3),jR (by rw[ht];omega)]
 simp only[Hp.set,sN]
theorem zmn(hs:z4 P t=some n)(hg:nth ls 0=some (.cells cs ty))(h1:dz v=true)(h2:v.laid.length=n)(h3:off+n<=cs.length)(h4:cs.all (λc=>!(locked c))=true)(ht:v.top=0) :
  qr P t ⟨B++ls,es⟩ lk df (some (v,env)) (some (.ptr B.length off))=some (.skip,⟨env,⟨B++ls.set 0 (.cells (Vm.storeCells cs off v.laid) ty),es⟩,lk,df⟩):=Kg (k:=0) hs hg h1 h2 h3 h4 ht
theorem Yz(ha:qz P t=some false)(hg:nth ls k=some (.cells cs ty))(hn:nth cs off=some v):zk P ⟨B++ls,es⟩ g t (.ptr (B.length+k) off)=some v:=zt ha (gN.trans hg) hn
theorem YA(ha:qz P t=some false)(hg:nth ls 0=some (.cells cs ty))(hn:nth cs off=some v):zk P ⟨B++ls,es⟩ g t (.ptr B.length off)=some v:=zt ha (Ow.trans hg) hn
theorem YB(ha:qz P t=some true)(hs:z4 P t=some n)(hg:nth ls k=some (.cells cs ty))(hl:off+n<=cs.length):zk P ⟨B++ls,es⟩ g t (.ptr (B.length+k) off)=some (.agg ((cs.drop off).take n)):=jc ha hs (gN.trans hg) hl
theorem zpm(ha:qz P t=some true)(hs:z4 P t=some n)(hg:nth ls 0=some (.cells cs ty))(hl:off+n<=cs.length):zk P ⟨B++ls,es⟩ g t (.ptr B.length off)=some (.agg ((cs.drop off).take n)):=jc ha hs (Ow.trans hg) hl
end
section
variable{P:aQ}{t n:aB}{B ls:List aY}{k off bm:Nat}{cs:aD}{ty e:aB}{xs ys:aD}{env:aD}{lk:aO}{df:bP}{es:aO}
theorem zhD(ha:qz P t=some false)(bR:bm<B.length)(hb:nth B bm=some (.cells cs ty))(hn:nth cs off=some (zl n e xs)) :
  vU P t env ⟨B++ls,es⟩ [] df (some (.ptr bm off))=some (.val (zl n e xs),⟨env,⟨B.set bm (.cells (cs.set off (oC n xs)) ty)++ls,es⟩,kE bm off xs,df⟩):=by
 rw[Ur ha (show Hp.get ⟨B++ls,es⟩ bm=_ from(gB bR).trans hb) hn];simp only[Hp.set,sB bR]
theorem zfa(hs:z4 P t=some 1)(bR:bm<B.length)(ho:off<cs.length)(ht:(zl n e ys).top=0) :
  qr P t ⟨B.set bm (.cells (cs.set off (oC n xs)) ty)++ls,es⟩ (kE bm off xs) df (some (zl n e ys,env)) (some (.ptr bm off))=some (.skip,⟨env,⟨B.set bm (.cells (cs.set off (zl n e ys)) ty)++ls,es⟩,kE bm off xs,df⟩):=by
 have mT:bm<(B.set bm (.cells (cs.set off (oC n xs)) ty)).length:=by rw[bD];exact bR
 rw[zy hs (show Hp.get ⟨_++ls,es⟩ bm=some (.cells (cs.set off (oC n xs)) ty) from(gB mT).trans (by simp[zg,bR])) Qu (by rw[vu];rfl) (by rw[bD];omega) (Qt ho),jR (by rw[ht];omega)]
 simp only[Hp.set,sB mT,List.set_set,vu,Vm.storeCells]
end
def cO:Nat->Bool:=λ_=>false
structure Part where
 null:Bool
 first:Nat->Bool
 last:Nat->Bool
def zo(p:Part):aD:=.bool p.null::(pv 19 p.first++pv 19 p.last)
theorem qV{p:Part}:(zo p).length=39:=by simp[zo,jE]
theorem zmp{m:Nat}{p:Nat->Bool}:(pv m p).map aV=pv m p:=by
 simp only[pv,List.map_map];rfl
theorem wR{p:Part}:(zo p).map aV=zo p:=by simp[zo,zmp,qQ]
theorem gC:∀{xs ys:aD},aI xs=0->aI ys=0->aI (xs++ys)=0
 | [],_,_,h=>h
 | x::xs,ys,h1,h2=>by
  simp only[aI,bh,Nat.max_eq_zero_iff] at h1 ⊢;exact⟨h1.1,gC h1.2 h2⟩
theorem Uy{m:Nat}{p:Nat->Bool}:aI (pv m p)=0:=by
 unfold pv
 induction List.range m with
 | nil=>rfl
 | cons x xs ih=>simp only[bg,aI,V.top,ih];rfl
theorem yK{p:Part}:aI (zo p)=0:=by
 simp only[zo,aI,V.top,gC Uy Uy];rfl
theorem Mq:qP prog 117=some (.agg (zo ⟨false,cO,cO⟩)):=by kernel_rfl
theorem zqP{env:aD}:ky prog 115 #[] env=some (.agg (pv 19 cO)):=by kernel_rfl
theorem zp2{m:Nat}{p:Nat->Bool}:(pv m p).all (λc=>!(locked c))=true:=by
 simp[pv,locked]
theorem yq{p:Part}:(zo p).all (λc=>!(locked c))=true:=by
 simp only[zo,List.all_cons,List.all_append,zp2];rfl
theorem zoi{x:V}{cs:aD}{k:Nat}:Vm.storeCells cs k [x]=cs.set k x:=rfl
theorem EV{B ls:List aY}{k:Nat}{p:Part}{es:aO}{g:Nat->Nat->b_}(hg:nth ls k=some (.cells (zo p) 117)):zk prog ⟨B++ls,es⟩ g 117 (.ptr (B.length+k) 0)=some (.agg (zo p)):=by
 rw[YB ux so hg (by rw[qV];decide)]
 rw[mu,<- qV (p:=p),D1]
theorem QI{B ls:List aY}{k:Nat}{p q:Part}{env:aD}{lk:aO}{df:bP}{es:aO}(hg:nth ls k=some (.cells (zo q) 117)):qr prog 117 ⟨B++ls,es⟩ lk df (some (.agg (zo p),env)) (some (.ptr (B.length+k) 0))=some (.skip,⟨env,⟨B++ls.set k (.cells (zo p) 117),es⟩,lk,df⟩):=by
 rw[Kg (k:=k) (v:=.agg (zo p)) so hg rfl (by simp[V.laid,qV]) (by rw[qV];decide) yq (by simp[V.top,yK])]
 simp only[V.laid,wR];rw[wQ (by rw[qV,qV])]
structure Mk where
 sets:List (Int×Int×Int×Int)
 rules:List Int
 next:List (Nat->Bool)
def FU(s0 s1 s2 s3:Int):V:=.agg [.int .u64 s0,.int .u64 s1,.int .u64 s2,.int .u64 s3]
def YC(q:Int×Int×Int×Int):V:=FU q.1 q.2.1 q.2.2.1 q.2.2.2
def Mk.lE(m:Mk):aD:=m.sets.map YC
def Mk.fY(m:Mk):aD:=m.rules.map (.int .i64)
theorem wy{α:Type}{h:α->V}(hh:∀a,(h a).top=0):∀(l:List α),aI (l.map h)=0
 | []=>rfl
 | a::l=>by simp[aI,hh a,wy hh l]
theorem QJ{n:Nat}{e:aB}{xs:aD}(h:aI xs=0):(zl n e xs).top=0:=by
 cases xs with
 | nil=>rfl
 | cons x xs=>simpa[zl,V.top] using h
def MK(n0:Nat)(H:Hp)(bm:Nat)(m:Mk)(i:Option Nat):Prop :=
 ∃c,H.get bm=some (.cells [zl 4 50 m.lE,zl 1 3 m.fY,c] 113)/\UL H 19 115 c i (m.next.map (pv 19))/\∀j,i=some j->n0<=j->bm<j/\(bm,j+1)∈H.bG
def Kh(n0:Nat)(i i':Option Nat):Prop:=i'=i\/i=none/\∃j,i'=some j/\n0<=j
theorem MK.start{bs:List aY}{es:aO}{n0 bm:Nat}{m:Mk}{i:Option Nat}(h:MK n0 ⟨bs,es⟩ bm m i):MK bs.length ⟨bs,[]⟩ bm m i:=by
 obtain⟨c,h1,h2,_⟩:=h;refine⟨c,h1,h2,λj hj hn=>?_⟩;subst hj;exact absurd h2.lt (by simpa using hn)
theorem MK.finish{bs:List aY}{es:aO}{n0 bm t:Nat}{m m':Mk}{i i':Option Nat}{H:Hp}(h:MK n0 ⟨bs,es⟩ bm m i)(_hn:n0<=bs.length)(dX:Kh bs.length i i')(h1:MK bs.length H bm m' i'):MK n0 (zW bs.length es t H) bm m' i':=by
 obtain⟨c,g1,g2,g3⟩:=h;obtain⟨c',k1,k2,k3⟩:=h1;have bR:bm<bs.length:=kJ g1;refine⟨c',(jb bR).trans k1,k2.frame λj hj=>?_,λj hj hn=>?_⟩
 ·by_cases QH:j<bs.length
  ·exact jb QH
  ·exact xI (k3 j hj (by omega)).2 bR (by omega) _
 ·by_cases QH:j<bs.length
  ·have:i=some j:=by
    rcases dX with rfl|⟨_,j',h1,h2⟩
    ·exact hj
    ·rw[hj] at h1;cases h1;omega
   have:=g3 j this hn;refine⟨this.1,?_⟩;unfold zW;obtain⟨b,e⟩:=H;simp only;split<;>exact Dc _ this.2
  ·have:=k3 j hj (by omega)
   refine⟨this.1,?_⟩;unfold zW;obtain⟨b,e⟩:=H;simp only;split
   ·refine A7 _ (D3.2 ⟨this.2,?_⟩);exact K3 (show bm+1<=bs.length by omega)
   ·exact A7 _ this.2
theorem zd1{bs:List aY}{es:aO}{t:Nat}{H:Hp}{S:Nat->Prop}(h:s5 ⟨bs,[]⟩ H S):s5 ⟨bs,es⟩ (zW bs.length es t H) S :=
 ⟨vV h.len,λd hd hn=>(jb hd).trans (h.get d hd hn)⟩
theorem I0:∀{pre xs ys:aD},ys.length=xs.length->Vm.storeCells (pre++ys) pre.length xs=pre++xs:=by
 intro pre xs ys h;apply Fa;intro i;rw[XX]
 by_cases h1:i<pre.length
 ·rw[if_neg (by omega),gb h1,gb h1]
 ·by_cases h2:i<pre.length+xs.length
  ·rw[if_pos ⟨by omega,h2,by rw[aU];omega⟩,fI (by omega)]
  ·rw[if_neg (by omega),uI (by rw[aU];omega),uI (by rw[aU];omega)]
theorem zmq{p:Part}{l:Nat->Bool}:Vm.storeCells (zo p) 20 (pv 19 l)=zo ⟨p.null,p.first,l⟩:=by
 have h:=I0 (pre:=.bool p.null::pv 19 p.first) (xs:=pv 19 l) (ys:=pv 19 p.last) (by rw[jE,jE])
 rw[show(V.bool p.null::pv 19 p.first).length=20 by simp[jE]] at h
 exact h
theorem zp4{m:Nat}{p:Nat->Bool}:(V.agg (pv m p)).top=0:=by simp[V.top,Uy]
theorem zkR{p:Part}:((zo p).drop 20).take 19=pv 19 p.last:=by
 have h:(zo p).drop 20=pv 19 p.last:=by
  have:=List.drop_left (l₁:=V.bool p.null::pv 19 p.first) (l₂:=pv 19 p.last)
  rwa [show(V.bool p.null::pv 19 p.first).length=20 by simp[jE]] at this
 rw[h];exact r9 (by rw[jE];decide)
end
section
variable{gl:Gl}
def jL(op:Int)(set:Int×Int×Int×Int)(r:Int)(m:Mk):Part×Mk :=
 if op=1 then (⟨true,cO,cO⟩,m) else (⟨false,jP cO m.sets.length,jP cO m.sets.length⟩,⟨m.sets++[set],m.rules++[r],m.next++[cO]⟩)
theorem s6:z4 prog 53=some 10:=by kernel_rfl
theorem BB:qz prog 53=some true:=by kernel_rfl
theorem CY:zB prog 53 0=some 0:=by kernel_rfl
theorem Mr:zB prog 53 2=some 2:=by kernel_rfl
theorem ia:zB prog 117 0=some 0:=by kernel_rfl
theorem oY:zB prog 117 1=some 1:=by kernel_rfl
theorem oZ:zB prog 117 2=some 20:=by kernel_rfl
theorem Ar:zB prog 113 0=some 0:=by kernel_rfl
theorem FV:zB prog 113 1=some 1:=by kernel_rfl
theorem Ox:qz prog 4=some false:=by kernel_rfl
theorem YD:z4 prog 4=some 1:=by kernel_rfl
theorem QK:z4 prog 27=some 1:=by kernel_rfl
theorem I1:qz prog 27=some false:=by kernel_rfl
theorem FW:qz prog 26=some false:=by kernel_rfl
theorem QL:z4 prog 26=some 1:=by kernel_rfl
theorem QM:qz prog 50=some true:=by kernel_rfl
theorem YE:z4 prog 50=some 4:=by kernel_rfl
theorem YF:mW prog 26 50 4 32:=⟨by kernel_rfl,by kernel_rfl,by kernel_rfl,by decide,by kernel_rfl,by kernel_rfl,by kernel_rfl⟩
theorem zmr(hg:GW gl){n n0:Nat}{H:Hp}{bm:Nat}{m:Mk}{i:Option Nat}{op pl s0 s1 s2 s3 mn mx r:Int}{text:bM}{nl:Bool}{args:List E}
  (hm:MK n0 H bm m i) (Be:n0<=H.az.length) (hs:m.sets.length<1216) (hr:m.rules.length<1216) (hx:m.next.length<1216) :
  ∃H' i',zj prog gl (n+2) 92 [.ptr bm 0,enc (.mk op pl s0 s1 s2 s3 text mn mx nl args),.int .i64 r] H=some (.ret (.agg (zo (jL op (s0,s1,s2,s3) r m).1)),H')/\MK n0 H' bm (jL op (s0,s1,s2,s3) r m).2 i'/\Kh H.az.length i i'/\s5 H H' (λd=>d=bm\/i=some d):=by
 obtain⟨bs,es⟩:=H;have Dr:=hm.start
 suffices bL:(go ⟨prog,gl,zj prog gl (n+1),fu⟩ (n+1) (Fx prog f92.results.toList λw H1=>w=.agg (zo (jL op (s0,s1,s2,s3) r m).1)/\∃i',MK bs.length H1 bm (jL op (s0,s1,s2,s3) r m).2 i'/\Kh bs.length i i'/\s5 ⟨bs,[]⟩ H1 (λd=>d=bm\/i=some d)) [.c (f92.body.getD .skip)] .normal ⟨[.ptr bm 0,enc (.mk op pl s0 s1 s2 s3 text mn mx nl args),.int .i64 r]++List.replicate 56 (.br []),⟨bs,[]⟩,[],[]⟩) by
  obtain⟨w,H1,h0,rfl,i',h1,h2,h3⟩:=zQ (gl:=gl) (f:=92) (bs:=bs) (es:=es) (args:=[.ptr bm 0,enc (.mk op pl s0 s1 s2 s3 text mn mx nl args),.int .i64 r]) (n:=n+1) (hg.hk _ _ (by decide)) (λH=>hg.fA _ _ _ _) func92 rfl (by rw[hg.uq];exact bL)
  exact⟨_,i',h0,hm.finish Be h2 h1,h2,zd1 h3⟩
 obtain⟨c,hc,hu,hed⟩:=Dr;have bR:bm<bs.length:=kJ hc;obtain⟨S,hS⟩:∃S,S=m.lE:=⟨_,rfl⟩;obtain⟨R,hR⟩:∃R,R=m.fY:=⟨_,rfl⟩;have QN:S.length=m.sets.length:=by rw[hS,Mk.lE,gk]
 have hRl:R.length=m.rules.length:=by rw[hR,Mk.fY,gk]
 have hSt:aI S=0:=by rw[hS];exact wy (λ_=>rfl) _
 have hRt:aI R=0:=by rw[hR];exact wy (λ_=>rfl) _
 rw[<- hS,<- hR] at hc;have oX:dz (enc (.mk op pl s0 s1 s2 s3 text mn mx nl args))=true:=rfl;simp only[f92,fS,zh];refine zi ?_;simp only[enc] at oX ⊢
 simp only[BA,aq,zc,zd,ze,bS,bT,z8 oX,Mq,zJ (show dz (V.agg (zo ⟨false,cO,cO⟩))=true from rfl),V.laid,V.cells,zZ,List.replicate];refine zi ?_
 simp only[BA,aq,zc,Nat.reduceAdd,bS,bT,Mq,zJ (show dz (V.agg (zo ⟨false,cO,cO⟩))=true from rfl),V.cells]
 generalize hX:aY.cells [V.int IntKind.i64 op,V.int IntKind.i64 pl,V.int IntKind.u64 s0,V.int IntKind.u64 s1,V.int IntKind.u64 s2,V.int IntKind.u64 s3,V.str text,V.int IntKind.i64 mn,V.int IntKind.i64 mx,ye nl (fe args)] 53=X;refine zi ?_;have sL:∀x y,zk prog ⟨bs++[X,x,y],[]⟩ gl.g 3 (.ptr bs.length 0)=some (.int .i64 op):=λx y=>zt Ou (by subst hX;exact Ow) rfl
 simp only[BA,ak,aj,aq,ah,zd,ze,bS,bT,CY,ia,sL,wO];rw[Kg (k:=2) (cs:=zo ⟨false,cO,cO⟩) (ty:=117) YD rfl rfl rfl (by rw[qV];decide) yq rfl]
 simp only[bu,aq,V.laid,zoi,bT,bS]
 rw[show(zo ⟨false,cO,cO⟩).set 0 (.bool (op == 1))=zo ⟨op == 1,cO,cO⟩ from rfl];refine zi ?_;have G4:∀x y b p q,zk prog ⟨bs++[x,y,aY.cells (zo ⟨b,p,q⟩) 117],[]⟩ gl.g 4 (.ptr (bs.length+2) 0)=some (.bool b):=λx y b p q=>Yz (k:=2) Ox rfl rfl
 simp only[BA,ak,aq,ah,zd,ze,bS,bT,ia,G4,iH];have hLP:∀x y p es,zk prog ⟨bs++[x,y,.cells (zo p) 117],es⟩ gl.g 117 (.ptr (bs.length+2) 0)=some (.agg (zo p)):=λx y p es=>EV (k:=2) rfl
 by_cases aC:op=1
 ·subst aC;refine .inr ⟨by decide,?_⟩
  refine zi ?_;simp only[BA,ak,aq,zd,ze,bS,bT,hLP];rw[QI (k:=1) (q:=⟨false,cO,cO⟩) rfl];simp only[bu,aq,go_ret,zq,Fx,bT,bS]
  refine⟨trivial,[.agg (zo ⟨true,cO,cO⟩)],?_,rfl,i,?_,.inl rfl,?_⟩
  ·simp only[zx,zd,ze];rw[EV (k:=1) (p:=⟨1 == 1,cO,cO⟩) rfl];simp[aV]
  ·refine⟨c,(gB bR).trans (by have h:=hc;rw[hS,hR] at h;exact h),hu.frame λj hj=>gB (by subst hj;exact hu.lt),λj hj hn=>?_⟩
   subst hj;exact absurd hu.lt (by simpa using hn)
  ·exact⟨by simp,λd hd _=>gB hd⟩
 ·refine .inl ⟨by simp[aC],?_⟩
  have GX:(op == 1)=false:=by simp[aC]
  simp only[GX];refine zi ?_;have hl3:∀ls es,zk prog ⟨bs++ls,es⟩ gl.g 26 (.ptr bm 0)=some (zl 4 50 S):=λls es=>zt FW (show Hp.get ⟨bs++ls,es⟩ bm=_ from(gB bR).trans hc) rfl;simp only[BA,ak,aq,aa,ah,zd,ze,bS,bT,Ar,hl3,Uq YF.u,QN]
  refine zi ?_;have om:∀(ls:List aY)(k off:Nat)(pre post:aD)(p:Nat->Bool),nth ls k=some (.cells (pre++pv 19 p++post) 117)->pre.length=off->Cx.bB ⟨prog,gl.g,zj prog gl (n+1),fu⟩ 56 [.ptr (bs.length+k) off,.int .i64 (m.sets.length:Int)] ⟨bs++ls,[]⟩=some (.val (.br []),⟨bs++ls.set k (.cells (pre++pv 19 (jP p m.sets.length)++post) 117),[]⟩):=λls k off pre post p h1 h2=>by
   have:=zjF hg (n:=n) (bs:=bs++ls) (es:=[]) (b:=bs.length+k) (gN.trans h1) h2 hs;rw[sN] at this;exact zu func56 rfl this
  have hA:=λx y=>om [x,y,.cells (zo ⟨false,cO,cO⟩) 117] 2 1 [.bool false] (pv 19 cO) cO rfl rfl;have hB:=λx y=>om [x,y,.cells (zo ⟨false,jP cO m.sets.length,cO⟩) 117] 2 20 (.bool false::pv 19 (jP cO m.sets.length)) [] cO (by simp[zo,nth]) (by simp[jE])
  simp only[BA,av,ak,aq,ah,aA,zd,ze,bS,bT,oY,hA];rw[show aY.cells (V.bool false::(pv 19 (jP cO m.sets.length)++pv 19 cO)) 117=.cells (zo ⟨false,jP cO m.sets.length,cO⟩) 117 from rfl];refine zi ?_
  simp only[BA,av,ak,aq,ah,aA,zd,ze,bS,bT,oZ,hB,m7];rw[show aY.cells (V.bool false::(pv 19 (jP cO m.sets.length)++pv 19 (jP cO m.sets.length))) 117=.cells (zo ⟨false,jP cO m.sets.length,jP cO m.sets.length⟩) 117 from rfl]
  generalize hY:aY.cells (zo ⟨false,cO,cO⟩) 117=Y;generalize hZ:aY.cells (zo ⟨false,jP cO m.sets.length,jP cO m.sets.length⟩) 117=Z;refine ja (tk:=[31]) (by kernel_rfl) (by kernel_rfl) ?_
  have hbm:bs.length≠bm:=by omega
  have hl4:∀B ls es,zk prog ⟨B++X::ls,es⟩ gl.g 50 (.ptr B.length 2)=some (FU s0 s1 s2 s3):=λB ls es=>by
   rw[zpm (cs:=[V.int IntKind.i64 op,V.int IntKind.i64 pl,V.int IntKind.u64 s0,V.int IntKind.u64 s1,V.int IntKind.u64 s2,V.int IntKind.u64 s3,V.str text,V.int IntKind.i64 mn,V.int IntKind.i64 mx,ye nl (fe args)]) (ty:=53) QM YE (by rw[hX];rfl) (by simp)]
   rfl
  have YG:∀(b:aY) ls es,zk prog ⟨bs.set bm b++X::ls,es⟩ gl.g 50 (.ptr bs.length 2)=some (FU s0 s1 s2 s3):=λb ls es=>by
   have:=hl4 (bs.set bm b) ls es
   rwa [bD] at this
  have mX:∀env,vU prog 26 env ⟨bs++[X,Y,Z],[]⟩ [] [] (some (.ptr bm 0))=some (.val (zl 4 50 S),⟨env,⟨bs.set bm (.cells [oC 4 S,zl 1 3 R,c] 113)++[X,Y,Z],[]⟩,kE bm 0 S,[]⟩):=λenv=>zhD (off:=0) FW bR hc rfl;have lU:=YF.Cc (v:=FU s0 s1 s2 s3) rfl rfl
  have fP:∀{k b:Nat},k<1216->b<=152->kx (k+1) b=true:=λ{k b} h h'=>dD (by have:=Nat.mul_le_mul (show k+1<=1216 by omega) h';omega) (by omega)
  have fy:∀H,j9 prog H 26 (zl 4 50 S) (.sl 4 [FU s0 s1 s2 s3] .no)=some (zl 4 50 (S++[FU s0 s1 s2 s3])):=λH=>jD YF (by simp) (by rw[QN];exact fP hs (by decide))
  simp only[BA,Nat.reduceEqDiff,ak,aq,aa,ah,au,zd,ze,bS,bT,Ar,Mr,FW,QM,mX,YG,zn6 hbm,show aV (FU s0 s1 s2 s3)=FU s0 s1 s2 s3 from rfl,lU,xR,fy,Ar,jT (cx:=⟨prog,gl.g,zj prog gl (n+1),fu⟩) (show p_ prog fu 26=false by kernel_rfl)]
  have eZ:∀env,qr prog 26 ⟨bs.set bm (.cells [oC 4 S,zl 1 3 R,c] 113)++[X,Y,Z],[]⟩ (kE bm 0 S) [] (some (zl 4 50 (S++[FU s0 s1 s2 s3]),env)) (some (.ptr bm 0))=some (.skip,⟨env,⟨bs.set bm (.cells [zl 4 50 (S++[FU s0 s1 s2 s3]),zl 1 3 R,c] 113)++[X,Y,Z],[]⟩,kE bm 0 S,[]⟩):=λenv =>
   zfa (off:=0) (cs:=[zl 4 50 S,zl 1 3 R,c]) QL bR (by simp) (QJ (gC hSt rfl))
  rw[eZ];simp only[bu,aq]
  refine ww (tk:=[42]) (by kernel_rfl) ?_
  generalize hS':S++[FU s0 s1 s2 s3]=S';obtain⟨B,AZ⟩:∃B,B=bs.set bm (.cells [zl 4 50 S',zl 1 3 R,c] 113):=⟨_,rfl⟩;have QO:B.length=bs.length:=by rw[AZ,bD]
  rw[<- AZ];have I2:bm<B.length:=by omega
  have dV:nth B bm=some (.cells [zl 4 50 S',zl 1 3 R,c] 113):=by rw[AZ];simp[zg,bR]
  have QS:=DA.Cc (v:=.int .i64 r) rfl rfl;have QT:∀H,j9 prog H 27 (zl 1 3 R) (.sl 1 [.int .i64 r] .no)=some (zl 1 3 (R++[.int .i64 r])):=λH=>jD DA (by simp) (by rw[hRl];exact fP hr (by decide))
  have FX:∀env,vU prog 27 env ⟨B++[X,Y,Z],[]⟩ [] [] (some (.ptr bm 1))=some (.val (zl 1 3 R),⟨env,⟨B.set bm (.cells [zl 4 50 S',oC 1 R,c] 113)++[X,Y,Z],[]⟩,kE bm 1 R,[]⟩):=λenv=>zhD (off:=1) I1 I2 dV rfl
  have CZ:∀env,qr prog 27 ⟨B.set bm (.cells [zl 4 50 S',oC 1 R,c] 113)++[X,Y,Z],[]⟩ (kE bm 1 R) [] (some (zl 1 3 (R++[.int .i64 r]),env)) (some (.ptr bm 1))=some (.skip,⟨env,⟨B.set bm (.cells [zl 4 50 S',zl 1 3 (R++[.int .i64 r]),c] 113)++[X,Y,Z],[]⟩,kE bm 1 R,[]⟩):=λenv =>
   zfa (off:=1) (cs:=[zl 4 50 S',zl 1 3 R,c]) QK I2 (by simp) (QJ (gC hRt rfl))
  simp only[BA,Nat.reduceEqDiff,ak,aq,aa,ah,zd,ze,bS,bT,FV,FX,QS,xR,QT,CZ,jT (cx:=⟨prog,gl.g,zj prog gl (n+1),fu⟩) (show p_ prog fu 27=false by kernel_rfl)]
  generalize o4:R++[V.int .i64 r]=R';have hBB:B.set bm (.cells [zl 4 50 S',zl 1 3 R',c] 113)=bs.set bm (.cells [zl 4 50 S',zl 1 3 R',c] 113):=by rw[AZ,List.set_set]
  rw[hBB];refine ww (tk:=[52]) (by kernel_rfl) ?_
  obtain⟨cm,rq⟩:∃cm,cm=[zl 4 50 S',zl 1 3 R',c]:=⟨_,rfl⟩;rw[<- rq];obtain⟨B2,Ht⟩:∃B2,B2=bs.set bm (.cells cm 113):=⟨_,rfl⟩;have I3:B2.length=bs.length:=by rw[Ht,bD]
  have Ms:nth B2 bm=some (.cells cm 113):=by rw[Ht];simp[zg,bR]
  have I4:∀d,d≠bm->nth B2 d=nth bs d:=λd hd=>by rw[Ht,zg,zg,su (Ne.symm hd)]
  rw[<- Ht,<- I3];have I5:bm<B2.length:=by omega
  have CG:c=.aG\/∃j v l,c=.dB j v l:=by
   cases i with
   | none=>exact .inl hu.1
   | some j=>obtain⟨v,h,_⟩:=hu;exact .inr ⟨_,_,_,h⟩
  have YH:Hp.get ⟨B2++[X,Y,Z],[]⟩ bm=some (.cells cm 113):=(gB I5).trans Ms;have QV:∀env,vU prog 111 env ⟨B2++[X,Y,Z],[]⟩ [] [] (some (.ptr bm 2))=some (.val c,⟨env,⟨B2++[X,Y,Z],[]⟩,[],[]⟩):=λenv=>XW FR YH (by rw[rq];rfl) CG
  have QW:=Hs.Cc (v:=.agg (pv 19 cO)) rfl jE;have rM:aV c=c:=by rcases CG with rfl|⟨j,v,l,rfl⟩<;>rfl
  have hu3:UL ⟨B2++[X,Y,Z],[]⟩ 19 115 c i (m.next.map (pv 19)):=hu.frame λj hj=>by
   subst hj;have AY:=hu.lt;have uw:j≠bm:=λe=>Uw hu hc (by rw[e])
   exact(gB (by rw[I3];exact AY)).trans (I4 j uw)
  have QX:=λenv=>Hs.app (env:=env) (lk:=[]) (df:=[]) (ys:=[.agg (pv 19 cO)]) (o:=.no) (by simp) hu3 (by rw[gk];exact fP hx (by decide))
  have hLD:∀ls es p,nth ls 2=some (.cells (zo p) 117)->zk prog ⟨B2++ls,es⟩ gl.g 117 (.ptr (B2.length+2) 0)=some (.agg (zo p)):=λls es p h=>EV h
  simp only[BA,Nat.reduceEqDiff,ak,aq,aa,ah,zc,Nat.reduceAdd,zd,ze,bS,bT,rG,QV,zqP,QW,rM,XE (cx:=⟨prog,gl.g,zj prog gl (n+1),fu⟩) (show p_ prog fu 111=true by kernel_rfl),QX]
  have oO:∀lk,wz lk bm 2 1 (cm.drop 2)=true:=λlk=>by
   rw[rq];rcases CG with rfl|⟨j,v,l,rfl⟩<;>simp[wz,locked]
  have QY:∀x,Vm.storeCells cm 2 [x]=[zl 4 50 S',zl 1 3 R',x]:=λx=>by rw[rq];rfl
  have gG:2+1<=cm.length:=by rw[rq];simp
  have YI:∀l b v,∃rH,Hp.bQ ⟨l,[]⟩ b v=⟨l,rH⟩:=λl b v=>by unfold Hp.bQ;split<;>exact⟨_,rfl⟩
  have hSR:∀x,[zl 4 50 S',zl 1 3 R',x]=[zl 4 50 (jL op (s0,s1,s2,s3) r m).2.lE,zl 1 3 (jL op (s0,s1,s2,s3) r m).2.fY,x]:=λx=>by
   rw[jL,if_neg aC,<- hS',<- o4,hS,hR];simp only[Mk.lE,Mk.fY,List.map_append,bg,bp,YC]
  have hP:(jL op (s0,s1,s2,s3) r m).1=⟨false,jP cO m.sets.length,jP cO m.sets.length⟩:=by rw[jL,if_neg aC]
  have hN:(jL op (s0,s1,s2,s3) r m).2.next=m.next++[cO]:=by rw[jL,if_neg aC]
  cases i with
  | none =>
   obtain⟨rfl,Hu⟩:=hu;have QZ:m.next=[]:=by simpa using Hu
   have FY:∀env U,qr prog 111 ⟨B2++[X,Y,Z,U],[]⟩ [] [] (some (.dB (B2.length+3) 0 1,env)) (some (.ptr bm 2))=some (.skip,⟨env,⟨B2.set bm (.cells [zl 4 50 S',zl 1 3 R',.dB (B2.length+3) 0 1] 113)++[X,Y,Z,U],[(bm,B2.length+4)]⟩,[],[]⟩):=λenv U=>by
    rw[zy (cs:=cm) (ty:=113) Hs.st (show Hp.get ⟨B2++[X,Y,Z,U],[]⟩ bm=some (.cells cm 113) from(gB I5).trans Ms) rfl rfl gG (oO _)];simp only[V.laid,QY,Hp.set,sB I5,Hp.bQ,V.top];rw[if_neg (by omega)]
   simp only[BA,ak,aq,aa,ah,zd,ze,bS,bT,rG,FY];obtain⟨B3,Dx⟩:∃B3,B3=B2.set bm (.cells [zl 4 50 S',zl 1 3 R',.dB (B2.length+3) 0 1] 113):=⟨_,rfl⟩;have C0:B3.length=B2.length:=by rw[Dx,bD]
   have Oy:nth B3 bm=some (.cells [zl 4 50 S',zl 1 3 R',.dB (B2.length+3) 0 1] 113):=by rw[Dx];simp[zg,I5]
   have C1:∀d,d≠bm->nth B3 d=nth bs d:=λd hd=>by rw[Dx,zg,su (Ne.symm hd),<- zg,I4 d hd]
   rw[<- Dx,<- C0];rw[<- C0] at Oy;refine zi ?_;have Mt:∀U es,zk prog ⟨B3++[X,Y,Z,U],es⟩ gl.g 117 (.ptr (B3.length+2) 0)=some (.agg (zo ⟨false,jP cO m.sets.length,jP cO m.sets.length⟩)):=λU es=>EV (k:=2) (by rw[<- hZ];rfl)
   simp only[BA,ak,aq,zd,ze,bS,bT,Mt];rw[QI (k:=1) (q:=⟨false,cO,cO⟩) (by rw[<- hY];rfl)]
   simp only[bu,aq,go_ret,zq,Fx,bT,bS]
   refine⟨trivial,[.agg (zo ⟨false,jP cO m.sets.length,jP cO m.sets.length⟩)],?_,by rw[hP];rfl,some (B3.length+3),⟨_,(gB (by omega)).trans (Oy.trans (by rw[hSR])),⟨0,by rw[hN,QZ];rfl,(gN (k:=3)).trans (by rw[hN,QZ];rfl)⟩,λj hj hn=>?_⟩,.inr ⟨rfl,_,rfl,by omega⟩,?_⟩
   ·simp only[zx,zd,ze];rw[EV (k:=1) (p:=⟨false,jP cO m.sets.length,jP cO m.sets.length⟩) rfl];simp[aV]
   ·cases hj;exact⟨by omega,by rw[C0];simp⟩
   ·exact⟨by simp only[aU];omega,λd hd sA=>(gB (by rw[C0,I3];exact hd)).trans (C1 d λe=>sA (.inl e))⟩
  | some j =>
   obtain⟨v,rfl,hj⟩:=hu;have AY:j<bs.length:=kJ hj;have uw:j≠bm:=by
    intro e;subst e;rw[hc] at hj;cases hj
   have YJ:nth B2 j=some (.ul v 19 (m.next.map (pv 19)).flatten 115):=(I4 j uw).trans hj
   dsimp only
   rw[jR (by simp[V.top,aI,Uy])]
   simp only[Hp.set,sB (show j<B2.length by omega),aM,aq]
   obtain⟨B3,Dx⟩:∃B3,B3=B2.set j (.ul (v+1) 19 ((m.next.map (pv 19)).flatten++bY [V.agg (pv 19 cO)]) 115):=⟨_,rfl⟩
   have C0:B3.length=B2.length:=by rw[Dx,bD]
   have hb3:nth B3 bm=some (.cells cm 113):=by rw[Dx,zg,su uw,<- zg,Ms]
   have hj3:nth B3 j=some (.ul (v+1) 19 ((m.next.map (pv 19)).flatten++bY [V.agg (pv 19 cO)]) 115):=by rw[Dx,zg,Cn (by omega)]
   have C1:∀d,d≠bm->d≠j->nth B3 d=nth bs d:=λd hd AR=>by rw[Dx,zg,su (Ne.symm AR),<- zg,I4 d hd]
   rw[<- Dx,<- C0];have Q0:bm<B3.length:=by omega
   obtain⟨u,ny⟩:∃u,u=V.dB j (v+1) ((m.next.map (pv 19)).length+1):=⟨_,rfl⟩
   obtain⟨rH,AP⟩:=YI (B3.set bm (.cells [zl 4 50 S',zl 1 3 R',u] 113)++[X,Y,Z]) bm u;have FY:∀env,qr prog 111 ⟨B3++[X,Y,Z],[]⟩ [] [] (some (u,env)) (some (.ptr bm 2))=some (.skip,⟨env,⟨B3.set bm (.cells [zl 4 50 S',zl 1 3 R',u] 113)++[X,Y,Z],rH⟩,[],[]⟩):=λenv=>by
    rw[zy (cs:=cm) (ty:=113) Hs.st (show Hp.get ⟨B3++[X,Y,Z],[]⟩ bm=some (.cells cm 113) from(gB Q0).trans hb3) (by rw[ny];rfl) (by rw[ny];rfl) gG (oO _)]
    rw[show u.laid=[u] by rw[ny];rfl]
    simp only[QY,Hp.set,sB Q0];rw[AP]
   have mq:∀env t,qF env t (some u)=some (u,env):=λ_ _=>by rw[ny];rfl
   rw[<- ny];simp only[BA,ak,aq,aa,ah,zd,ze,bS,bT,rG,mq,FY];obtain⟨B4,Ki⟩:∃B4,B4=B3.set bm (.cells [zl 4 50 S',zl 1 3 R',u] 113):=⟨_,rfl⟩;have Q1:B4.length=B3.length:=by rw[Ki,bD]
   have hg4:nth B4 bm=some (.cells [zl 4 50 S',zl 1 3 R',u] 113):=by rw[Ki,zg,Cn (by omega)]
   have Mu:∀d,d≠bm->nth B4 d=nth B3 d:=λd hd=>by rw[Ki,zg,su (Ne.symm hd),<- zg]
   rw[<- Ki,<- Q1];refine zi ?_;have Mt:∀es,zk prog ⟨B4++[X,Y,Z],es⟩ gl.g 117 (.ptr (B4.length+2) 0)=some (.agg (zo ⟨false,jP cO m.sets.length,jP cO m.sets.length⟩)):=λes=>EV (k:=2) (by rw[<- hZ];rfl)
   simp only[BA,ak,aq,zd,ze,bS,bT,Mt];rw[QI (k:=1) (q:=⟨false,cO,cO⟩) (by rw[<- hY];rfl)]
   simp only[bu,aq,go_ret,zq,Fx,bT,bS]
   refine⟨trivial,[.agg (zo ⟨false,jP cO m.sets.length,jP cO m.sets.length⟩)],?_,by rw[hP];rfl,some j,⟨u,(gB (by omega)).trans (hg4.trans (by rw[hSR])),⟨v+1,by rw[ny,hN];simp,(gB (by omega)).trans ((Mu j uw).trans (hj3.trans (by rw[hN];simp[bY,V.cells])))⟩,λk hk hn=>?_⟩,.inl rfl,?_⟩
   ·simp only[zx,zd,ze];rw[EV (k:=1) (p:=⟨false,jP cO m.sets.length,jP cO m.sets.length⟩) rfl];simp[aV]
   ·cases hk;omega
   ·exact⟨by simp only[aU];omega,λd hd sA=>(gB (by rw[Q1,C0,I3];exact hd)).trans ((Mu d λe=>sA (.inl e)).trans (C1 d (λe=>sA (.inl e)) (λe=>sA (.inr (by rw[e])))))⟩
end
section
variable{gl:Gl}
def zP(op:Int)(k:Nat)(a b:Part)(ns:List (Nat->Bool)):Part×List (Nat->Bool) :=
 if k=0 then (b,ns)
 else if op=6 then (⟨a.null || b.null,jC a.first b.first,jC a.last b.last⟩,ns)
 else (⟨a.null && b.null,if a.null then jC a.first b.first else a.first,if b.null then jC a.last b.last else b.last⟩,mL b.first (jg a.last 19) ns)
theorem zhF{bs ls:List aY}{i:Option Nat}{ns:List (Nat->Bool)}(h:∀j,i=some j->j<bs.length):eg (bs++ls) i ns=eg bs i ns++ls:=by
 cases i with
 | none=>rfl
 | some j =>
  have hj:=h j rfl;simp only[eg,gB hj];cases nth bs j with
  | none=>rfl
  | some x=>cases x<;>simp[sB hj]
theorem YK:qz prog 115=some true:=by kernel_rfl
theorem Q2:z4 prog 115=some 19:=by kernel_rfl
theorem Oz(p:Part):zo p=[.bool p.null]++pv 19 p.first++pv 19 p.last:=rfl
theorem Q3(p:Part):zo p=(.bool p.null::pv 19 p.first)++pv 19 p.last++[]:=by simp[zo]
theorem zms(hg:GW gl){n:Nat}(hn:21<=n){B:List aY}{z:aY}{a b:Part}:Cx.bB ⟨prog,gl.g,zj prog gl n,fu⟩ 58 [.ptr B.length 1,.ptr (B.length+1) 1] ⟨B++[.cells (zo a) 117,.cells (zo b) 117,z],[]⟩=some (.val (.br []),⟨B++[.cells (zo ⟨a.null,jC a.first b.first,a.last⟩) 117,.cells (zo b) 117,z],[]⟩):=by
 have h:=Yf hg (n:=n - 1) (by omega) (bs:=B++[.cells (zo a) 117,.cells (zo b) 117,z]) (es:=[]) (b:=B.length) (b':=B.length+1) (Ow.trans (by rw[Oz a];rfl)) rfl ((gN (k:=1)).trans (by rw[Oz b];rfl)) rfl (by omega)
 rw[show n - 1+1=n by omega,sN0] at h
 exact zu func58 rfl h
theorem zmt(hg:GW gl){n:Nat}(hn:21<=n){B:List aY}{z:aY}{a b:Part}:Cx.bB ⟨prog,gl.g,zj prog gl n,fu⟩ 58 [.ptr B.length 20,.ptr (B.length+1) 20] ⟨B++[.cells (zo a) 117,.cells (zo b) 117,z],[]⟩=some (.val (.br []),⟨B++[.cells (zo ⟨a.null,a.first,jC a.last b.last⟩) 117,.cells (zo b) 117,z],[]⟩):=by
 have h:=Yf hg (n:=n - 1) (by omega) (bs:=B++[.cells (zo a) 117,.cells (zo b) 117,z]) (es:=[]) (b:=B.length) (b':=B.length+1) (Ow.trans (by rw[Q3 a];rfl)) (off:=20) (by simp[jE]) ((gN (k:=1)).trans (by rw[Q3 b];rfl)) (off':=20) (by simp[jE]) (by omega)
 rw[show n - 1+1=n by omega,sN0] at h
 simp only[m7] at h;exact zu func58 rfl h
theorem ziA(hg:GW gl){n:Nat}(hn:1301<=n){bs:List aY}{es:aO}{bm:Nat}{a0 a1 c:V}{i:Option Nat}{ns:List (Nat->Bool)}{op:Int}{k:Nat}{a b:Part}{Ov:aB}(hk:k<2 ^ 60)
  (hm:nth bs bm=some (.cells [a0,a1,c] Ov)) (hu:UL ⟨bs,es⟩ 19 115 c i (ns.map (pv 19))) (dI:∀k∈jg a.last 19,k<ns.length) :
  zj prog gl (n+1) 94 [.ptr bm 0,.int .i64 op,.int .i64 k,.agg (zo a),.agg (zo b)] ⟨bs,es⟩=some (.ret (.agg (zo (zP op k a b ns).1)),⟨eg bs i (zP op k a b ns).2,es⟩):=by
 have bR:bm<bs.length:=kJ (H:=⟨bs,es⟩) hm
 suffices bL:(go ⟨prog,gl,zj prog gl n,fu⟩ n (Fx prog f94.results.toList λw H1=>w=.agg (zo (zP op k a b ns).1)/\∃ls,H1=⟨eg bs i (zP op k a b ns).2++ls,[]⟩) [.c (f94.body.getD .skip)] .normal ⟨[.ptr bm 0,.int .i64 op,.int .i64 k,.agg (zo a),.agg (zo b)]++List.replicate 52 (.br []),⟨bs,[]⟩,[],[]⟩) by
  obtain⟨w,H1,h0,rfl,ls,rfl⟩:=zQ (gl:=gl) (f:=94) (bs:=bs) (es:=es) (args:=[.ptr bm 0,.int .i64 op,.int .i64 k,.agg (zo a),.agg (zo b)]) (n:=n) (hg.hk _ _ (by decide)) (λH=>hg.fA _ _ _ _) func94 rfl (by rw[hg.uq];exact bL)
  rw[h0];have:=z9 (bs:=eg bs i (zP op k a b ns).2) (ls:=ls) (es:=es) (t:=(V.agg (zo (zP op k a b ns).1)).top) (by simp[V.top,yK])
  rw[yJ] at this;rw[this]
 have oX:∀p:Part,dz (V.agg (zo p))=true:=λ_=>rfl;simp only[f94,fS,zh];refine zi ?_;simp only[BA,aq,zc,Nat.reduceAdd,zd,ze,bS,bT,z8 (oX a),z8 (oX b),Mq,zJ (oX ⟨false,cO,cO⟩),V.laid,V.cells,wR,List.replicate];refine zi ?_
 simp only[BA,ak,aj,aq,zd,ze,bS,bT,wO];have Uz:∀(B ls:List aY)(p:Part) es,zk prog ⟨B++.cells (zo p) 117::ls,es⟩ gl.g 117 (.ptr B.length 0)=some (.agg (zo p)):=λB ls p es=>EV (k:=0) rfl
 have Mt:∀(B ls:List aY) x (p:Part) es,zk prog ⟨B++x::.cells (zo p) 117::ls,es⟩ gl.g 117 (.ptr (B.length+1) 0)=some (.agg (zo p)):=λB ls x p es=>EV (k:=1) rfl;have YL:∀(B ls:List aY)(p:Part) es,zk prog ⟨B++.cells (zo p) 117::ls,es⟩ gl.g 4 (.ptr B.length 0)=some (.bool p.null):=λB ls p es=>YA Ox rfl rfl
 have OA:∀(B ls:List aY) x (p:Part) es,zk prog ⟨B++x::.cells (zo p) 117::ls,es⟩ gl.g 4 (.ptr (B.length+1) 0)=some (.bool p.null):=λB ls x p es=>Yz (k:=1) Ox rfl rfl
 have Q5:∀(B:List aY) x y (p q:Part) es env,qr prog 117 ⟨B++[x,y,.cells (zo q) 117],es⟩ [] [] (some (.agg (zo p),env)) (some (.ptr (B.length+2) 0))=some (.skip,⟨env,⟨B++[x,y,.cells (zo p) 117],es⟩,[],[]⟩):=λB x y p q es env=>QI (k:=2) rfl
 have Q6:∀(B ls:List aY)(p:Part) es env v,qr prog 4 ⟨B++.cells (zo p) 117::ls,es⟩ [] [] (some (.bool v,env)) (some (.ptr B.length 0))=some (.skip,⟨env,⟨B++.cells (zo ⟨v,p.first,p.last⟩) 117::ls,es⟩,[],[]⟩):=λB ls p es env v=>by
  rw[zmn (cs:=zo p) (ty:=117) YD rfl rfl rfl (by rw[qV];decide) yq rfl]
  rfl
 have lQ:∀(B:List aY) x y (p:Part) es (env:aD),nth env 10=some (.ptr (B.length+2) 0)->zx prog ⟨B++[x,y,.cells (zo p) 117],es⟩ env [.cell 10 117]=some [.agg (zo p)]:=λB x y p es env he=>by
  simp only[zx,he];rw[EV (k:=2) rfl];simp[aV]
 by_cases FZ:k=0
 ·subst FZ;refine .inl ⟨rfl,?_⟩;refine zi ?_;simp only[BA,ak,aq,zd,ze,bS,bT,Mt,Q5,go_ret]
  simp only[zq,wh,wm,Fx,show zP op 0 a b ns=(b,ns) from if_pos rfl,Ux hu]
  exact⟨trivial,[.agg (zo b)],lQ _ _ _ _ _ _ rfl,rfl,_,rfl⟩
 ·refine .inr ⟨by simpa using FZ,?_⟩
  refine zi ?_;simp only[BA,ak,aj,aq,zd,ze,bS,bT,wO];obtain⟨an,af,al⟩:=a;obtain⟨bn,bf,bl⟩:=b
  by_cases h6:op=6
  ·subst h6;refine .inl ⟨rfl,?_⟩;refine zi ?_;simp only[BA,ak,aq,ah,zd,ze,bS,bT,ia,YL];have hJ:zP 6 k ⟨an,af,al⟩ ⟨bn,bf,bl⟩ ns=(⟨an || bn,jC af bf,jC al bl⟩,ns):=by rw[zP,if_neg FZ,if_pos rfl]
   rcases an with _|_
   all_goals
    simp only[jZ,qg,zd,ze,aS,jm,cC,cE,wJ,wK];simp only[BA,ak,aj,aq,ah,zd,ze,bS,bT,ia];simp only[jZ,qg,zd,ze,aS,jm,cC,cE,wJ,wK]
    try simp only[BA,ak,aj,aq,ah,zd,ze,bS,bT,ia,OA,Q6]
    refine zi ?_;simp only[BA,av,ak,aq,ah,aA,zd,ze,bS,bT,oY,zms hg (show 21<=n by omega)]
    refine zi ?_;simp only[BA,av,ak,aq,ah,aA,zd,ze,bS,bT,oZ,zmt hg (show 21<=n by omega)]
    refine zi ?_;simp only[BA,ak,aq,zd,ze,bS,bT,Uz,Q5];simp only[go_ret,zq,wh,wm,Fx,hJ,Ux hu]
    exact⟨trivial,_,lQ _ _ _ _ _ _ rfl,rfl,_,rfl⟩
  ·refine .inr ⟨by simpa using h6,?_⟩
   have hJ:zP op k ⟨an,af,al⟩ ⟨bn,bf,bl⟩ ns=(⟨an && bn,if an then jC af bf else af,if bn then jC al bl else bl⟩,mL bf (jg al 19) ns):=by rw[zP,if_neg FZ,if_neg h6]
   have F0:∀j,i=some j->j<bs.length:=λj hj=>by subst hj;exact hu.lt
   have I6:Cx.bB ⟨prog,gl.g,zj prog gl n,fu⟩ 57 [.ptr bm 0,.ptr bs.length 20,.ptr (bs.length+1) 1] ⟨bs++[aY.cells (zo ⟨an,af,al⟩) 117,.cells (zo ⟨bn,bf,bl⟩) 117,.cells (zo ⟨false,cO,cO⟩) 117],[]⟩=some (.val (.br []),⟨eg bs i (mL bf (jg al 19) ns)++[aY.cells (zo ⟨an,af,al⟩) 117,.cells (zo ⟨bn,bf,bl⟩) 117,.cells (zo ⟨false,cO,cO⟩) 117],[]⟩):=by
    have h:=Yx hg (n:=n - 1) (by omega) (bs:=bs++[aY.cells (zo ⟨an,af,al⟩) 117,.cells (zo ⟨bn,bf,bl⟩) 117,.cells (zo ⟨false,cO,cO⟩) 117]) (es:=[]) (bm:=bm) (bl:=bs.length) (bf:=bs.length+1) (ns:=ns) (i:=i) ((gB bR).trans hm) (hu.frame λj hj=>gB (F0 j hj)) (Ow.trans (by rw[Q3 ⟨an,af,al⟩];rfl)) (ol:=20) (by simp[jE]) ((gN (k:=1)).trans (by rw[Oz ⟨bn,bf,bl⟩];rfl)) (ob:=1) rfl dI
    rw[show n - 1+1=n by omega,zhF F0] at h
    exact zu func57 rfl h
   refine zi ?_;simp only[BA,av,ak,aq,ah,aA,zd,ze,bS,bT,oY,oZ,I6];obtain⟨B,hB⟩:∃B,B=eg bs i (mL bf (jg al 19) ns):=⟨_,rfl⟩;have QO:B.length=bs.length:=by rw[hB,yJ]
   rw[<- hB,<- QO];refine zi ?_;simp only[BA,ak,aq,ah,zd,ze,bS,bT,ia,YL];have h60:∀(B ls:List aY) x (p:Part) es,zk prog ⟨B++x::.cells (zo p) 117::ls,es⟩ gl.g 115 (.ptr (B.length+1) 20)=some (.agg (pv 19 p.last)):=λB ls x p es=>by
    rw[YB (k:=1) YK Q2 rfl (by rw[qV];decide),zkR]
   have YM:∀(B ls:List aY)(p:Part) l es env,qr prog 115 ⟨B++.cells (zo p) 117::ls,es⟩ [] [] (some (.agg (pv 19 l),env)) (some (.ptr B.length 20))=some (.skip,⟨env,⟨B++.cells (zo ⟨p.null,p.first,l⟩) 117::ls,es⟩,[],[]⟩):=λB ls p l es env=>by
    rw[zmn (cs:=zo p) (ty:=117) Q2 rfl rfl (by simp[V.laid,jE]) (by rw[qV];decide) yq zp4]
    simp only[V.laid,zmp,zmq,bS]
   cases an
   all_goals
    first
     |refine .inl ⟨rfl,?_⟩
      refine zi ?_;simp only[BA,av,ak,aq,ah,aA,zd,ze,bS,bT,oY,zms hg (show 21<=n by omega)]
     |refine .inr ⟨rfl,?_⟩
    refine zi ?_;simp only[BA,ak,aq,ah,zd,ze,bS,bT,ia,OA]
   all_goals cases bn
   all_goals
    first
     |refine .inl ⟨rfl,?_⟩
      refine zi ?_;simp only[BA,av,ak,aq,ah,aA,zd,ze,bS,bT,oZ,zmt hg (show 21<=n by omega)]
     |refine .inr ⟨rfl,?_⟩
      refine zi ?_;simp only[BA,ak,aq,ah,zd,ze,bS,bT,oZ,h60,YM]
    refine zi ?_;simp only[BA,ak,aq,ah,zd,ze,bS,bT,ia,YL];simp only[jZ,qg,zd,ze,aS,jm,cA,cB,wJ,wK]
    simp only[BA,ak,aj,aq,ah,zd,ze,bS,bT,ia];simp only[jZ,qg,zd,ze,aS,jm,cA,cB,wJ,wK]
    try simp only[BA,ak,aj,aq,ah,zd,ze,bS,bT,ia,OA,Q6]
    refine zi ?_;simp only[BA,ak,aq,zd,ze,bS,bT,Uz,Q5];simp only[go_ret,zq,Fx,hJ,<- hB]
    exact⟨trivial,_,lQ _ _ _ _ _ _ rfl,rfl,_,rfl⟩
end
section
variable{gl:Gl}
def xS(mn mx:Int)(p:Part)(ns:List (Nat->Bool)):Part×List (Nat->Bool) :=
 (⟨p.null || mn == 0,p.first,p.last⟩,if mx<0 then mL p.first (jg p.last 19) ns else ns)
theorem F1:zB prog 53 4=some 7:=by kernel_rfl
theorem Mv:zB prog 53 5=some 8:=by kernel_rfl
theorem zf8(hg:GW gl){n:Nat}(hn:1301<=n){bs:List aY}{es:aO}{bm:Nat}{a0 a1 c:V}{i:Option Nat}{ns:List (Nat->Bool)}{op pl s0 s1 s2 s3 mn mx:Int}{text:bM}{nl:Bool}{args:List E}{p:Part}{Ov:aB}
  (hm:nth bs bm=some (.cells [a0,a1,c] Ov)) (hu:UL ⟨bs,es⟩ 19 115 c i (ns.map (pv 19))) (dI:∀k∈jg p.last 19,k<ns.length) :
  zj prog gl (n+1) 95 [.ptr bm 0,enc (.mk op pl s0 s1 s2 s3 text mn mx nl args),.agg (zo p)] ⟨bs,es⟩=some (.ret (.agg (zo (xS mn mx p ns).1)),⟨eg bs i (xS mn mx p ns).2,es⟩):=by
 have bR:bm<bs.length:=kJ (H:=⟨bs,es⟩) hm
 suffices bL:(go ⟨prog,gl,zj prog gl n,fu⟩ n (Fx prog f95.results.toList λw H1=>w=.agg (zo (xS mn mx p ns).1)/\∃ls,H1=⟨eg bs i (xS mn mx p ns).2++ls,[]⟩) [.c (f95.body.getD .skip)] .normal ⟨[.ptr bm 0,enc (.mk op pl s0 s1 s2 s3 text mn mx nl args),.agg (zo p)]++List.replicate 20 (.br []),⟨bs,[]⟩,[],[]⟩) by
  obtain⟨w,H1,h0,rfl,ls,rfl⟩:=zQ (gl:=gl) (f:=95) (bs:=bs) (es:=es) (args:=[.ptr bm 0,enc (.mk op pl s0 s1 s2 s3 text mn mx nl args),.agg (zo p)]) (n:=n) (hg.hk _ _ (by decide)) (λH=>hg.fA _ _ _ _) func95 rfl (by rw[hg.uq];exact bL)
  rw[h0];have:=z9 (bs:=eg bs i (xS mn mx p ns).2) (ls:=ls) (es:=es) (t:=(V.agg (zo (xS mn mx p ns).1)).top) (by simp[V.top,yK])
  rw[yJ] at this;rw[this]
 have oX:∀p:Part,dz (V.agg (zo p))=true:=λ_=>rfl;have Kj:dz (enc (.mk op pl s0 s1 s2 s3 text mn mx nl args))=true:=rfl;simp only[f95,fS,zh];refine zi ?_;simp only[enc] at Kj ⊢
 simp only[BA,aq,zc,Nat.reduceAdd,zd,ze,bS,bT,z8 Kj,z8 (oX p),Mq,zJ (oX ⟨false,cO,cO⟩),V.laid,V.cells,wR,zZ,List.replicate]
 generalize hX:aY.cells [V.int IntKind.i64 op,V.int IntKind.i64 pl,V.int IntKind.u64 s0,V.int IntKind.u64 s1,V.int IntKind.u64 s2,V.int IntKind.u64 s3,V.str text,V.int IntKind.i64 mn,V.int IntKind.i64 mx,ye nl (fe args)] 53=X;have hmx:∀(B ls:List aY) es,zk prog ⟨B++X::ls,es⟩ gl.g 3 (.ptr B.length 8)=some (.int .i64 mx):=λB ls es=>YA Ou (by rw[<- hX];rfl) rfl
 have OB:∀(B ls:List aY) es,zk prog ⟨B++X::ls,es⟩ gl.g 3 (.ptr B.length 7)=some (.int .i64 mn):=λB ls es=>YA Ou (by rw[<- hX];rfl) rfl
 have Mt:∀(B ls:List aY) x (p:Part) es,zk prog ⟨B++x::.cells (zo p) 117::ls,es⟩ gl.g 117 (.ptr (B.length+1) 0)=some (.agg (zo p)):=λB ls x p es=>EV (k:=1) rfl;have OA:∀(B ls:List aY) x (p:Part) es,zk prog ⟨B++x::.cells (zo p) 117::ls,es⟩ gl.g 4 (.ptr (B.length+1) 0)=some (.bool p.null):=λB ls x p es=>Yz (k:=1) Ox rfl rfl
 have Q5:∀(B:List aY) x y (p q:Part) es env,qr prog 117 ⟨B++[x,y,.cells (zo q) 117],es⟩ [] [] (some (.agg (zo p),env)) (some (.ptr (B.length+2) 0))=some (.skip,⟨env,⟨B++[x,y,.cells (zo p) 117],es⟩,[],[]⟩):=λB x y p q es env=>QI (k:=2) rfl
 have YN:∀(B ls:List aY) x (p:Part) es env v,qr prog 4 ⟨B++x::.cells (zo p) 117::ls,es⟩ [] [] (some (.bool v,env)) (some (.ptr (B.length+1) 0))=some (.skip,⟨env,⟨B++x::.cells (zo ⟨v,p.first,p.last⟩) 117::ls,es⟩,[],[]⟩):=λB ls x p es env v=>by
  rw[Kg (k:=1) (cs:=zo p) (ty:=117) YD rfl rfl rfl (by rw[qV];decide) yq rfl]
  rfl
 have lQ:∀(B:List aY) x y (p:Part) es (env:aD),nth env 6=some (.ptr (B.length+2) 0)->zx prog ⟨B++[x,y,.cells (zo p) 117],es⟩ env [.cell 6 117]=some [.agg (zo p)]:=λB x y p es env he=>by
  simp only[zx,he];rw[EV (k:=2) rfl];simp[aV]
 refine zi ?_;simp only[BA,ak,aj,aq,ah,zd,ze,bS,bT,Mv,hmx,qT];have F0:∀j,i=some j->j<bs.length:=λj hj=>by subst hj;exact hu.lt
 obtain⟨pn,pf,pl⟩:=p;have I6:Cx.bB ⟨prog,gl.g,zj prog gl n,fu⟩ 57 [.ptr bm 0,.ptr (bs.length+1) 20,.ptr (bs.length+1) 1] ⟨bs++[X,.cells (zo ⟨pn,pf,pl⟩) 117,.cells (zo ⟨false,cO,cO⟩) 117],[]⟩=some (.val (.br []),⟨eg bs i (mL pf (jg pl 19) ns)++[X,.cells (zo ⟨pn,pf,pl⟩) 117,.cells (zo ⟨false,cO,cO⟩) 117],[]⟩):=by
  have h:=Yx hg (n:=n - 1) (by omega) (bs:=bs++[X,.cells (zo ⟨pn,pf,pl⟩) 117,.cells (zo ⟨false,cO,cO⟩) 117]) (es:=[]) (bm:=bm) (bl:=bs.length+1) (bf:=bs.length+1) (ns:=ns) (i:=i) ((gB bR).trans hm) (hu.frame λj hj=>gB (F0 j hj)) ((gN (k:=1)).trans (by rw[Q3 ⟨pn,pf,pl⟩];rfl)) (ol:=20) (by simp[jE]) ((gN (k:=1)).trans (by rw[Oz ⟨pn,pf,pl⟩];rfl)) (ob:=1) rfl dI
  rw[show n - 1+1=n by omega,zhF F0] at h
  exact zu func57 rfl h
 obtain⟨ns',oN⟩:∃ns',ns'=(xS mn mx ⟨pn,pf,pl⟩ ns).2:=⟨_,rfl⟩;rw[<- oN];obtain⟨B,hB⟩:∃B,B=eg bs i ns':=⟨_,rfl⟩;have QO:B.length=bs.length:=by rw[hB,yJ]
 have hP:(xS mn mx ⟨pn,pf,pl⟩ ns).1=⟨pn || mn == 0,pf,pl⟩:=rfl
 rcases Classical.em (mx<0) with h|h
 all_goals
  first
   |refine .inl ⟨by simpa using h,?_⟩
    refine zi ?_;have:ns'=mL pf (jg pl 19) ns:=by rw[oN];exact if_pos h
    rw[<- this] at I6;simp only[BA,av,ak,aq,ah,aA,zd,ze,bS,bT,oY,oZ,I6,<- hB];rw[<- QO]
   |refine .inr ⟨by simpa using h,?_⟩
    have:ns'=ns:=by rw[oN];exact if_neg h
    have hBb:B=bs:=by rw[hB,this];exact Ux hu
    rw[<- hB,<- hBb]
  refine zi ?_;simp only[BA,ak,aq,ah,zd,ze,bS,bT,ia,OA];cases pn
 all_goals
  simp only[jZ,qg,zd,ze,aS,jm,cC,cE,wJ,wK]
  try simp only[BA,ak,aj,aq,ah,zd,ze,bS,bT,F1]
  try simp only[jZ,qg,zd,ze,aS,jm,cC,cE,wJ,wK]
  try simp only[BA,ak,aq,zd,ze,bS,bT,OB]
  try simp only[jZ,qg,zd,ze,aS,jm,cE,wJ]
  try simp only[BA,ak,aj,aq,ah,zd,ze,bS,bT,wO,ia,YN]
  refine zi ?_;simp only[BA,ak,aq,zd,ze,bS,bT,Mt,Q5];simp only[go_ret,zq,Fx,hP]
  exact⟨trivial,_,lQ _ _ _ _ _ _ rfl,rfl,_,rfl⟩
theorem u84:prog.underlying 149=some (.slice 157):=Kf.u
theorem zkS(hg:GW gl){n:Nat}{bs:List aY}{es:aO}{b:Nat}{c:V}{ty:aB}{i:Option Nat}{xs:List aD}(hb:nth bs b=some (.cells [c] ty))(hu:UL ⟨bs,es⟩ 11 157 c i xs) :
  zj prog gl (n+1) 89 [.ptr b 0] ⟨bs,es⟩=some (.ret (.bool xs.isEmpty),⟨bs,es⟩):=by
 suffices bL:(go ⟨prog,gl,zj prog gl n,fu⟩ n (Fx prog f89.results.toList λw H1=>w=.bool xs.isEmpty/\H1=⟨bs,[]⟩) [.c (f89.body.getD .skip)] .normal ⟨[.ptr b 0]++List.replicate 8 (.br []),⟨bs,[]⟩,[],[]⟩) by
  obtain⟨w,H1,h0,rfl,rfl⟩:=zQ (gl:=gl) (f:=89) (bs:=bs) (es:=es) (args:=[.ptr b 0]) (n:=n) (hg.hk _ _ (by decide)) (λH=>hg.fA _ _ _ _) func89 rfl (by rw[hg.uq];exact bL)
  rw[h0];have:=z9 (bs:=bs) (ls:=[]) (es:=es) (t:=(V.bool xs.isEmpty).top) (ec _);rw[m7] at this;rw[this]
 have gx:zk prog ⟨bs,[]⟩ gl.g 149 (.ptr b 0)=some c:=zt CV hb rfl;have gG:aV c=c/\qX prog ⟨bs,[]⟩ 149 c=some (xs.length:Int):=by
  cases i with
  | none=>obtain⟨rfl,rfl⟩:=hu;exact⟨rfl,ze7 u84⟩
  | some j=>obtain⟨v,rfl,_⟩:=hu;exact⟨rfl,xq u84⟩
 have he:((xs.length:Int) == 0)=xs.isEmpty:=by cases xs<;>simp;omega
 simp only[f89,fS,zh];refine zi ?_;simp only[BA,aj,aq,bS,bT,List.replicate];refine zi ?_
 simp only[BA,ak,aj,aq,aa,ah,zd,ze,bS,bT,CU,gx,gG.1,gG.2,wO,he];simp only[go_ret,zq,Fx]
 exact⟨trivial,[.bool xs.isEmpty],rfl,rfl,trivial⟩
end
section
variable{gl:Gl}
theorem UA{P:aQ}(fA:∀n f args H,gl.fA n f args H=none){n:Nat}{f:FuncId}{args:aD}{H H':Hp}{o:Out}(h:zj P gl n f args H=some (o,H')):∀e∈H.bG,e∈H'.bG:=by
 intro e he;obtain⟨bs,es⟩:=H;have iD:∀(t:Nat)(H1:Hp),e∈(zW bs.length es t H1).bG:=λt H1=>by
  unfold zW;split<;>exact Dc _ he
 cases n with
 | zero=>simp[zj] at h
 | succ n =>
  simp only[zj,qA,eC,fA] at h;split at h
  ·simp only[bq,cq] at h;obtain⟨_,rfl⟩:=h;exact he
  ·split at h<;>try (cases h;done)
   split at h<;>try (cases h;done)
   split at h<;>try (cases h;done)
   split at h<;>try (cases h;done)
   split at h<;>try (cases h;done)
   ·simp only[kW,bq,cq] at h;rw[<- h.2];exact iD _ _
   ·split at h<;>try (cases h;done)
    simp only[qp,kW,bq,cq] at h;rw[<- h.2];exact iD _ _
def aK:E->aD
 | .mk op pl s0 s1 s2 s3 text mn mx nl args=>[.int .i64 op,.int .i64 pl,.int .u64 s0,.int .u64 s1,.int .u64 s2,.int .u64 s3,.str text,.int .i64 mn,.int .i64 mx,ye nl (fe args)]
theorem qB(e:E):enc e=.agg (aK e):=by cases e;rfl
theorem z0(e:E):(aK e).length=10:=by cases e;rfl
theorem qk(e:E):(aK e).map aV=aK e:=by cases e;simp[aK,zZ,zR,kO]
theorem vX(e:E):aI (aK e)=0:=by have:=Ao e;rwa [qB] at this
theorem YO(e:E):(aK e).all (λc=>!(locked c))=true:=by
 obtain⟨op,pl,s0,s1,s2,s3,text,mn,mx,nl,args⟩:=e;rcases vF nl (fe args) with h|⟨_,h⟩<;>simp[aK,h,locked]
def sq(f:E×Nat):aD:=aK f.1++[.int .i64 (f.2:Int)]
theorem OC(f:E×Nat):(sq f).length=11:=by simp[sq,z0]
theorem YP(f:E×Nat):(sq f).map aV=sq f:=by simp[sq,qk,zR]
theorem zhG(f:E×Nat):aI (sq f)=0:=gC (vX _) rfl
def Kp(N bm:Nat)(H H':Hp):Prop:=∀d cs ty,d≠bm->d≠N+2->d≠N+3->H.get d=some (.cells cs ty)->H'.get d=some (.cells cs ty)
theorem Kp.refl{N bm:Nat}{H:Hp}:Kp N bm H H:=λ_ _ _ _ _ _ h=>h
structure WS(bs:List aY)(bm:Nat)(i0:Option Nat)(H:Hp)(S:List (E×Nat))(ps:List Part)(m:Mk):Prop where
 len:bs.length+4<=H.az.length
 lt:bm<bs.length
 op:∃c i,H.get (bs.length+2)=some (.cells [c] 151)/\UL H 11 157 c i (S.reverse.map sq)/\∀j,i=some j->bs.length<=j
 dn:∃c i,H.get (bs.length+3)=some (.cells [c] 154)/\UL H 39 117 c i (ps.reverse.map zo)/\∀j,i=some j->bs.length<=j
 A1:∃i,MK bs.length H bm m i/\Kh bs.length i0 i
 fr:∀d,d<bs.length->d≠bm->i0≠some d->H.get d=nth bs d
theorem Mw{H:Hp}{sz:Nat}{e:aB}{c:V}{i:Option Nat}{xs:List aD}(h:UL H sz e c i xs){d:Nat}{cs:aD}{ty:aB}(hd:H.get d=some (.cells cs ty)):i≠some d:=by
 intro e;subst e;obtain⟨v,_,h2⟩:=h;rw[hd] at h2;cases h2
theorem WS.opened{bs:List aY}{bm:Nat}{i0:Option Nat}{H H':Hp}{S S':List (E×Nat)}{ps:List Part}{m:Mk}(h:WS bs bm i0 H S ps m)
  (AP:∀e∈H.bG,e∈H'.bG) {co c':V} {io i':Option Nat} (a1:H.get (bs.length+2)=some (.cells [co] 151)) (a2:UL H 11 157 co io (S.reverse.map sq)) (a3:∀j,io=some j->bs.length<=j)
  (h1:H'.get (bs.length+2)=some (.cells [c'] 151)) (h2:UL H' 11 157 c' i' (S'.reverse.map sq))
  (hi:∀j,i'=some j->io=some j\/H.az.length<=j) (hf:s5 H H' (λd=>d=bs.length+2\/io=some d)):WS bs bm i0 H' S' ps m/\Kp bs.length bm H H':=by
 obtain⟨cd,id,b1,b2,b3⟩:=h.dn;obtain⟨im,⟨cm,k1,k2,k3⟩,k4⟩:=h.A1;have hlen:=h.len;have EW:∀d,io=some d->bs.length<=d/\∃v cs,H.get d=some (.ul v 11 cs 157):=λd hd=>by
  subst hd;obtain⟨v,_,g⟩:=a2;exact⟨a3 d rfl,v,_,g⟩
 have F2:∀d cs ty,d≠bs.length+2->H.get d=some (.cells cs ty)->H'.get d=some (.cells cs ty):=λd cs ty hd hg=>hf.some hg λhc=>by
  rcases hc with rfl|hc
  ·exact hd rfl
  ·obtain⟨_,v,cs',g⟩:=EW d hc;rw[hg] at g;cases g
 have Q7:∀d v sz cs e,e≠157->H.get d=some (.ul v sz cs e)->H'.get d=some (.ul v sz cs e):=λd v sz cs e he hg=>hf.some hg λhc=>by
  rcases hc with rfl|hc
  ·rw[a1] at hg;cases hg
  ·obtain⟨_,v',cs',g⟩:=EW d hc;rw[hg] at g;injection g with g;injection g with _ _ _ g;exact he g
 have EX:∀{sz e c i xs},e≠157->UL H sz e c i xs->UL H' sz e c i xs:=λ{sz e c i xs} he hu=>hu.frame λj hj=>by
  subst hj;obtain⟨v,_,g⟩:=hu;rw[g,Q7 _ _ _ _ _ he g]
 refine⟨⟨cN hlen hf.len,h.lt,⟨c',i',h1,h2,λj hj=>?_⟩,⟨cd,id,F2 _ _ _ (by omega) b1,EX (by decide) b2,b3⟩,⟨im,⟨cm,F2 _ _ _ (by have:=h.lt;omega) k1,EX (by decide) k2,λj hj hn=>⟨(k3 j hj hn).1,AP _ (k3 j hj hn).2⟩⟩,k4⟩,λd hd Kk Kl=>?_⟩,λd cs ty _ h2 _ hg=>F2 d cs ty h2 hg⟩
 ·rcases hi j hj with hc|hc
  ·exact(EW j hc).1
  ·omega
 ·rw[<- h.fr d hd Kk Kl];refine hf.get d (by omega) λhc=>?_
  rcases hc with rfl|hc
  ·omega
  ·have:=(EW d hc).1;omega
theorem WS.Q8{bs:List aY}{bm:Nat}{i0:Option Nat}{H H':Hp}{S:List (E×Nat)}{ps ps':List Part}{m:Mk}(h:WS bs bm i0 H S ps m)
  (AP:∀e∈H.bG,e∈H'.bG) {co c':V} {io i':Option Nat} (a1:H.get (bs.length+3)=some (.cells [co] 154)) (a2:UL H 39 117 co io (ps.reverse.map zo)) (a3:∀j,io=some j->bs.length<=j)
  (h1:H'.get (bs.length+3)=some (.cells [c'] 154)) (h2:UL H' 39 117 c' i' (ps'.reverse.map zo))
  (hi:∀j,i'=some j->io=some j\/H.az.length<=j) (hf:s5 H H' (λd=>d=bs.length+3\/io=some d)):WS bs bm i0 H' S ps' m/\Kp bs.length bm H H':=by
 obtain⟨cd,id,b1,b2,b3⟩:=h.op;obtain⟨im,⟨cm,k1,k2,k3⟩,k4⟩:=h.A1;have hlen:=h.len;have EW:∀d,io=some d->bs.length<=d/\∃v cs,H.get d=some (.ul v 39 cs 117):=λd hd=>by
  subst hd;obtain⟨v,_,g⟩:=a2;exact⟨a3 d rfl,v,_,g⟩
 have F2:∀d cs ty,d≠bs.length+3->H.get d=some (.cells cs ty)->H'.get d=some (.cells cs ty):=λd cs ty hd hg=>hf.some hg λhc=>by
  rcases hc with rfl|hc
  ·exact hd rfl
  ·obtain⟨_,v,cs',g⟩:=EW d hc;rw[hg] at g;cases g
 have Q7:∀d v sz cs e,e≠117->H.get d=some (.ul v sz cs e)->H'.get d=some (.ul v sz cs e):=λd v sz cs e he hg=>hf.some hg λhc=>by
  rcases hc with rfl|hc
  ·rw[a1] at hg;cases hg
  ·obtain⟨_,v',cs',g⟩:=EW d hc;rw[hg] at g;injection g with g;injection g with _ _ _ g;exact he g
 have EX:∀{sz e c i xs},e≠117->UL H sz e c i xs->UL H' sz e c i xs:=λ{sz e c i xs} he hu=>hu.frame λj hj=>by
  subst hj;obtain⟨v,_,g⟩:=hu;rw[g,Q7 _ _ _ _ _ he g]
 refine⟨⟨cN hlen hf.len,h.lt,⟨cd,id,F2 _ _ _ (by omega) b1,EX (by decide) b2,b3⟩,⟨c',i',h1,h2,λj hj=>?_⟩,⟨im,⟨cm,F2 _ _ _ (by have:=h.lt;omega) k1,EX (by decide) k2,λj hj hn=>⟨(k3 j hj hn).1,AP _ (k3 j hj hn).2⟩⟩,k4⟩,λd hd Kk Kl=>?_⟩,λd cs ty _ _ h3 hg=>F2 d cs ty h3 hg⟩
 ·rcases hi j hj with hc|hc
  ·exact(EW j hc).1
  ·omega
 ·rw[<- h.fr d hd Kk Kl];refine hf.get d (by omega) λhc=>?_
  rcases hc with rfl|hc
  ·omega
  ·have:=(EW d hc).1;omega
theorem WS.made{bs:List aY}{bm:Nat}{i0:Option Nat}{H H':Hp}{S:List (E×Nat)}{ps:List Part}{m m':Mk}(h:WS bs bm i0 H S ps m)
  {i i':Option Nat} (k0:Kh bs.length i0 i) (hm:MK bs.length H bm m i) (Pn:MK bs.length H' bm m' i') (hn:Kh H.az.length i i')
  (hf:s5 H H' (λd=>d=bm\/i=some d)):WS bs bm i0 H' S ps m'/\Kp bs.length bm H H':=by
 obtain⟨co,io,a1,a2,a3⟩:=h.op;obtain⟨cd,id,b1,b2,b3⟩:=h.dn;obtain⟨cm,k1,k2,k3⟩:=hm;have hlen:=h.len;have bR:=h.lt;have EW:∀d,i=some d->∃v cs,H.get d=some (.ul v 19 cs 115):=λd hd=>by
  subst hd;obtain⟨v,_,g⟩:=k2;exact⟨v,_,g⟩
 have F2:∀d cs ty,d≠bm->H.get d=some (.cells cs ty)->H'.get d=some (.cells cs ty):=λd cs ty hd hg=>hf.some hg λhc=>by
  rcases hc with rfl|hc
  ·exact hd rfl
  ·obtain⟨v,cs',g⟩:=EW d hc;rw[hg] at g;cases g
 have Q7:∀d v sz cs e,e≠115->H.get d=some (.ul v sz cs e)->H'.get d=some (.ul v sz cs e):=λd v sz cs e he hg=>hf.some hg λhc=>by
  rcases hc with rfl|hc
  ·rw[k1] at hg;cases hg
  ·obtain⟨v',cs',g⟩:=EW d hc;rw[hg] at g;injection g with g;injection g with _ _ _ g;exact he g
 have EX:∀{sz e c i xs},e≠115->UL H sz e c i xs->UL H' sz e c i xs:=λ{sz e c i xs} he hu=>hu.frame λj hj=>by
  subst hj;obtain⟨v,_,g⟩:=hu;rw[g,Q7 _ _ _ _ _ he g]
 refine⟨⟨cN hlen hf.len,bR,⟨co,io,F2 _ _ _ (by omega) a1,EX (by decide) a2,a3⟩,⟨cd,id,F2 _ _ _ (by omega) b1,EX (by decide) b2,b3⟩,⟨i',Pn,?_⟩,λd hd Kk Kl=>?_⟩,λd cs ty h1 _ _ hg=>F2 d cs ty h1 hg⟩
 ·rcases hn with rfl|⟨rfl,j,rfl,hj⟩
  ·exact k0
  ·rcases k0 with rfl|⟨rfl,j',h1,_⟩
   ·exact .inr ⟨rfl,j,rfl,by omega⟩
   ·cases h1
 ·rw[<- h.fr d hd Kk Kl];refine hf.get d (by omega) λhc=>?_
  rcases hc with rfl|hc
  ·exact Kk rfl
  ·rcases k0 with rfl|⟨rfl,j',h1,h2⟩
   ·exact Kl hc
   ·rw[h1] at hc;cases hc;omega
theorem WS.push{bs:List aY}{bm:Nat}{i0:Option Nat}{H:Hp}{S:List (E×Nat)}{ps:List Part}{m:Mk}(h:WS bs bm i0 H S ps m){x:aY}:WS bs bm i0 (H.push x) S ps m/\Kp bs.length bm H (H.push x):=by
 have hf:s5 H (H.push x) (λ_=>False):=⟨by rw[jk];omega,λd hd _=>jG hd⟩
 obtain⟨co,io,a1,a2,a3⟩:=h.op;refine h.opened (λe he=>he) a1 a2 a3 (hf.some a1 id) (a2.frame λj hj=>?_) (λj hj=>.inl hj) (hf.mono λ_ _ h=>h.elim);subst hj;exact jG a2.lt
theorem WS.C2{bs:List aY}{bm:Nat}{i0:Option Nat}{H:Hp}{S:List (E×Nat)}{ps:List Part}{m:Mk}(h:WS bs bm i0 H S ps m){b:Nat}{cs cs':aD}{ty ty':aB}(hb:H.get b=some (.cells cs ty))(h0:bs.length<=b)(h2:b≠bs.length+2)(h3:b≠bs.length+3):WS bs bm i0 (H.set b (.cells cs' ty')) S ps m:=by
 obtain⟨co,io,a1,a2,a3⟩:=h.op;obtain⟨cd,id,b1,b2,b3⟩:=h.dn;obtain⟨im,⟨cm,k1,k2,k3⟩,k4⟩:=h.A1;have bR:=h.lt;have EX:∀{sz e c i xs},UL H sz e c i xs->UL (H.set b (.cells cs' ty')) sz e c i xs:=λ{sz e c i xs} hu=>hu.frame λj hj=>qC λe=>by
  subst hj e;obtain⟨v,_,g⟩:=hu;rw[hb] at g;cases g
 exact⟨by rw[wv];exact h.len,bR,⟨co,io,(qC (Ne.symm h2)).trans a1,EX a2,a3⟩,⟨cd,id,(qC (Ne.symm h3)).trans b1,EX b2,b3⟩,⟨im,⟨cm,(qC (by omega)).trans k1,EX k2,k3⟩,k4⟩,λd hd Kk Kl=>(qC (by omega)).trans (h.fr d hd Kk Kl)⟩
end
section
variable{gl:Gl}
noncomputable abbrev Km(gl:Gl)(n:Nat):Cx:=⟨prog,gl.g,zj prog gl n,fu⟩
variable{bs:List aY}{bm:Nat}{i0:Option Nat}{H:Hp}{S:List (E×Nat)}{ps:List Part}{m:Mk}
theorem zp5{k:Nat}(h:k<2 ^ 32):kx (k+1) 112=true:=dD (by omega) (by omega)
theorem zp6{k:Nat}(h:k<2 ^ 32):kx (k+1) 312=true:=dD (by omega) (by omega)
theorem WS.F3(hg:GW gl){n:Nat}(hn:1<=n)(h:WS bs bm i0 H S ps m)(f:E×Nat)(hr:S.length<2 ^ 32) :
  ∃H',(Km gl n).bB 88 [.ptr (bs.length+2) 0,.agg (sq f)] H=some (.val (.br []),H')/\WS bs bm i0 H' (f::S) ps m/\Kp bs.length bm H H':=by
 obtain⟨co,io,a1,a2,a3⟩:=h.op;obtain⟨H',c',j,h1,h2,h3,h4,h5,h6⟩:=zpY hg (n:=n - 1) a1 a2 (Mw a2 a1) (OC f) (YP f) (by rw[gk,List.length_reverse];exact zp5 hr)
 rw[show n - 1+1=n by omega] at h1
 have:=h.opened (S':=f::S) (UA hg.fA h1) a1 a2 a3 h2 (by simpa using h3) (λk hk=>by cases hk;exact h5) h6
 exact⟨H',zu func88 rfl h1,this.1,this.2⟩
theorem WS.YQ(hg:GW gl){n:Nat}(hn:1<=n){f:E×Nat}(h:WS bs bm i0 H (f::S) ps m)(hr:S.length<2 ^ 32) :
  ∃H',(Km gl n).bB 90 [.ptr (bs.length+2) 0] H=some (.val (.agg (sq f)),H')/\WS bs bm i0 H' S ps m/\Kp bs.length bm H H':=by
 obtain⟨co,io,a1,a2,a3⟩:=h.op;obtain⟨j,rfl⟩:∃j,io=some j:=by
  cases io with
  | none=>exact absurd a2.2 (by simp)
  | some j=>exact⟨j,rfl⟩
 have YR:UL H 11 157 co (some j) (S.reverse.map sq++[sq f]):=by simpa using a2
 obtain⟨H',c',h1,h2,h3,h6⟩:=zqN hg (n:=n - 1) a1 YR (λe=>Mw a2 a1 (by rw[e])) (OC f) (YP f) (zhG f) (λy hy=>by obtain⟨z,_,rfl⟩:=mg.1 hy;exact OC z) (by rw[gk,List.length_reverse];omega)
 rw[show n - 1+1=n by omega] at h1
 have:=h.opened (S':=S) (UA hg.fA h1) a1 a2 a3 h2 h3 (λk hk=>.inl hk) (h6.mono λd _ hd=>by rcases hd with h|h;exact .inl h;exact .inr (by rw[h]))
 exact⟨H',zu func90 rfl h1,this.1,this.2⟩
theorem WS.DB(hg:GW gl){n:Nat}(hn:1<=n)(h:WS bs bm i0 H S ps m)(p:Part)(hr:ps.length<2 ^ 32) :
  ∃H',(Km gl n).bB 91 [.ptr (bs.length+3) 0,.agg (zo p)] H=some (.val (.br []),H')/\WS bs bm i0 H' S (p::ps) m/\Kp bs.length bm H H':=by
 obtain⟨co,io,a1,a2,a3⟩:=h.dn;obtain⟨H',c',j,h1,h2,h3,h4,h5,h6⟩:=zpZ hg (n:=n - 1) a1 a2 (Mw a2 a1) qV wR (by rw[gk,List.length_reverse];exact zp6 hr)
 rw[show n - 1+1=n by omega] at h1
 have:=h.Q8 (ps':=p::ps) (UA hg.fA h1) a1 a2 a3 h2 (by simpa using h3) (λk hk=>by cases hk;exact h5) h6
 exact⟨H',zu func91 rfl h1,this.1,this.2⟩
theorem WS.I7(hg:GW gl){n:Nat}(hn:1<=n){p:Part}(h:WS bs bm i0 H S (p::ps) m)(hr:ps.length<2 ^ 32) :
  ∃H',(Km gl n).bB 93 [.ptr (bs.length+3) 0] H=some (.val (.agg (zo p)),H')/\WS bs bm i0 H' S ps m/\Kp bs.length bm H H':=by
 obtain⟨co,io,a1,a2,a3⟩:=h.dn;obtain⟨j,rfl⟩:∃j,io=some j:=by
  cases io with
  | none=>exact absurd a2.2 (by simp)
  | some j=>exact⟨j,rfl⟩
 have YR:UL H 39 117 co (some j) (ps.reverse.map zo++[zo p]):=by simpa using a2
 obtain⟨H',c',h1,h2,h3,h6⟩:=zqO hg (n:=n - 1) a1 YR (λe=>Mw a2 a1 (by rw[e])) qV wR yK (λy hy=>by obtain⟨z,_,rfl⟩:=mg.1 hy;exact qV) (by rw[gk,List.length_reverse];omega)
 rw[show n - 1+1=n by omega] at h1
 have:=h.Q8 (ps':=ps) (UA hg.fA h1) a1 a2 a3 h2 h3 (λk hk=>.inl hk) (h6.mono λd _ hd=>by rcases hd with h|h;exact .inl h;exact .inr (by rw[h]))
 exact⟨H',zu func93 rfl h1,this.1,this.2⟩
theorem WS.emp(hg:GW gl){n:Nat}(hn:1<=n)(h:WS bs bm i0 H S ps m):(Km gl n).bB 89 [.ptr (bs.length+2) 0] H=some (.val (.bool S.isEmpty),H):=by
 obtain⟨co,io,a1,a2,a3⟩:=h.op;obtain⟨b,e⟩:=H;have h1:=zkS hg (n:=n - 1) (es:=e) a1 a2;rw[show n - 1+1=n by omega] at h1
 have:(S.reverse.map sq).isEmpty=S.isEmpty:=by cases S<;>simp
 rw[this] at h1;exact zu func89 rfl h1
structure Mk.Ok(m:Mk):Prop where
 r:m.rules.length=m.sets.length
 n:m.next.length=m.sets.length
theorem WS.leaf(hg:GW gl){n:Nat}(hn:2<=n)(h:WS bs bm i0 H S ps m)(ej:m.Ok)(hs:m.sets.length<1216){op pl s0 s1 s2 s3 mn mx r:Int}{text:bM}{nl:Bool}{args:List E} :
  ∃H',(Km gl n).bB 92 [.ptr bm 0,enc (.mk op pl s0 s1 s2 s3 text mn mx nl args),.int .i64 r] H=some (.val (.agg (zo (jL op (s0,s1,s2,s3) r m).1)),H')/\WS bs bm i0 H' S ps (jL op (s0,s1,s2,s3) r m).2/\Kp bs.length bm H H':=by
 obtain⟨i,k1,k2⟩:=h.A1;obtain⟨H',i',h1,h2,h3,h4⟩:=zmr hg (n:=n - 2) (r:=r) (op:=op) (pl:=pl) (s0:=s0) (s1:=s1) (s2:=s2) (s3:=s3) (mn:=mn) (mx:=mx) (text:=text) (nl:=nl) (args:=args) k1 (by have:=h.len;omega) hs (by rw[ej.r];exact hs) (by rw[ej.n];exact hs)
 rw[show n - 2+2=n by omega] at h1
 have:=h.made k2 k1 h2 h3 h4;exact⟨H',zu func92 rfl h1,this.1,this.2⟩
theorem YS{bs:List aY}{es:aO}{i:Option Nat}{ns:List (Nat->Bool)}{bm:Nat}:s5 ⟨bs,es⟩ ⟨eg bs i ns,es⟩ (λd=>d=bm\/i=some d) :=
 ⟨by rw[yJ];exact dA _,λd _ hd=>Uv λe=>hd (.inr e)⟩
theorem MK.eg{bs:List aY}{es:aO}{n0 bm:Nat}{m:Mk}{i:Option Nat}(h:MK n0 ⟨bs,es⟩ bm m i){ns:List (Nat->Bool)}(hl:ns.length=m.next.length):MK n0 ⟨eg bs i ns,es⟩ bm { m with next:=ns } i:=by
 obtain⟨c,h1,h2,h3⟩:=h;exact⟨c,(Uv (Uw h2 h1)).trans h1,zjJ h2 hl,h3⟩
theorem YT{op:Int}{k:Nat}{a b:Part}{ns:List (Nat->Bool)}:(zP op k a b ns).2.length=ns.length:=by
 unfold zP;split
 ·rfl
 ·split
  ·rfl
  ·simp only[wx]
theorem zhH{mn mx:Int}{p:Part}{ns:List (Nat->Bool)}:(xS mn mx p ns).2.length=ns.length:=by
 unfold xS;simp only;split
 ·simp only[wx]
 ·rfl
theorem WS.Mx(hg:GW gl){n:Nat}(hn:1302<=n)(h:WS bs bm i0 H S ps m){op:Int}{k:Nat}{a b:Part}(hk:k<2 ^ 60)(dI:∀k∈jg a.last 19,k<m.next.length) :
  ∃H',(Km gl n).bB 94 [.ptr bm 0,.int .i64 op,.int .i64 k,.agg (zo a),.agg (zo b)] H=some (.val (.agg (zo (zP op k a b m.next).1)),H')/\WS bs bm i0 H' S ps { m with next:=(zP op k a b m.next).2 }/\Kp bs.length bm H H':=by
 obtain⟨i,k1,k2⟩:=h.A1;obtain⟨b',e'⟩:=H;obtain⟨c,g1,g2,g3⟩:=k1;have h1:=ziA hg (n:=n - 1) (by omega) (es:=e') (op:=op) (b:=b) hk g1 g2 dI
 rw[show n - 1+1=n by omega] at h1
 have:=h.made k2 ⟨c,g1,g2,g3⟩ (MK.eg (es:=e') ⟨c,g1,g2,g3⟩ (YT (op:=op) (k:=k) (a:=a) (b:=b))) (.inl rfl) YS;exact⟨_,zu func94 rfl h1,this.1,this.2⟩
theorem WS.F4(hg:GW gl){n:Nat}(hn:1302<=n)(h:WS bs bm i0 H S ps m){op pl s0 s1 s2 s3 mn mx:Int}{text:bM}{nl:Bool}{args:List E}{p:Part}(dI:∀k∈jg p.last 19,k<m.next.length) :
  ∃H',(Km gl n).bB 95 [.ptr bm 0,enc (.mk op pl s0 s1 s2 s3 text mn mx nl args),.agg (zo p)] H=some (.val (.agg (zo (xS mn mx p m.next).1)),H')/\WS bs bm i0 H' S ps { m with next:=(xS mn mx p m.next).2 }/\Kp bs.length bm H H':=by
 obtain⟨i,k1,k2⟩:=h.A1;obtain⟨b',e'⟩:=H;obtain⟨c,g1,g2,g3⟩:=k1;have h1:=zf8 hg (n:=n - 1) (by omega) (es:=e') (op:=op) (pl:=pl) (s0:=s0) (s1:=s1) (s2:=s2) (s3:=s3) (mn:=mn) (mx:=mx) (text:=text) (nl:=nl) (args:=args) g1 g2 dI
 rw[show n - 1+1=n by omega] at h1
 have:=h.made k2 ⟨c,g1,g2,g3⟩ (MK.eg (es:=e') ⟨c,g1,g2,g3⟩ (zhH (mn:=mn) (mx:=mx) (p:=p))) (.inl rfl) YS;exact⟨_,zu func95 rfl h1,this.1,this.2⟩
end
section
def p0:Part:=⟨false,cO,cO⟩
def xb(op mn mx:Int)(x:Part×Mk):Part×Mk:=if op=7 then ((xS mn mx x.1 x.2.next).1,{ x.2 with next:=(xS mn mx x.1 x.2.next).2 }) else x
mutual
def iQ(r:Int):E->Mk->Part×Mk
 | .mk op _ s0 s1 s2 s3 _ mn mx _ args,m=>match args with
  | []=>jL op (s0,s1,s2,s3) r m
  | a::tl=>xb op mn mx (s7 r op 0 p0 (a::tl) m)
def s7(r:Int)(op:Int):Nat->Part->List E->Mk->Part×Mk
 | _,a,[],m=>(a,m)
 | k,a,e::es,m=>s7 r op (k+1) (zP op k a (iQ r e m).1 (iQ r e m).2.next).1 es { (iQ r e m).2 with next:=(zP op k a (iQ r e m).1 (iQ r e m).2.next).2 }
end
def EY(r:Int):E×Nat->List Part->Mk->Option (List Part×Mk)
 | (.mk op _pl s0 s1 s2 s3 _tx _mn _mx _nl [],_d),ps,m=>some ((jL op (s0,s1,s2,s3) r m).1::ps,(jL op (s0,s1,s2,s3) r m).2)
 | (.mk op pl s0 s1 s2 s3 tx mn mx nl (a::tl),0),ps,m=>some ((iQ r (.mk op pl s0 s1 s2 s3 tx mn mx nl (a::tl)) m).1::ps,(iQ r (.mk op pl s0 s1 s2 s3 tx mn mx nl (a::tl)) m).2)
 | (.mk op _pl _s0 _s1 _s2 _s3 _tx mn mx _nl (a::tl),d+1),b::x::ps,m =>
  some ((xb op mn mx (s7 r op (d+1) (zP op d x b m.next).1 ((a::tl).drop (d+1)) { m with next:=(zP op d x b m.next).2 })).1::ps,(xb op mn mx (s7 r op (d+1) (zP op d x b m.next).1 ((a::tl).drop (d+1)) { m with next:=(zP op d x b m.next).2 })).2)
 | (.mk _ _ _ _ _ _ _ _ _ _ (_::_),_+1),_,_=>none
def den(r:Int):List (E×Nat)->List Part->Mk->Option (List Part×Mk)
 | [],ps,m=>some (ps,m)
 | f::S,ps,m=>match EY r f ps m with
  | some (ps',m')=>den r S ps' m'
  | none=>none
theorem UB{r:Int}{e:E}{ps:List Part}{m:Mk}:EY r (e,0) ps m=some ((iQ r e m).1::ps,(iQ r e m).2):=by
 obtain⟨op,pl,s0,s1,s2,s3,tx,mn,mx,nl,args⟩:=e;cases args with
 | nil=>simp only[EY,iQ]
 | cons a tl=>simp only[EY]
variable{r op pl s0 s1 s2 s3 mn mx:Int}{tx:bM}{nl:Bool}{args:List E}{S:List (E×Nat)}{ps:List Part}{m:Mk}{d:Nat}
theorem UC{a:E}{tl:List E}{b x:Part}:EY r (.mk op pl s0 s1 s2 s3 tx mn mx nl (a::tl),d+1) (b::x::ps) m=some ((xb op mn mx (s7 r op (d+1) (zP op d x b m.next).1 ((a::tl).drop (d+1)) { m with next:=(zP op d x b m.next).2 })).1::ps,(xb op mn mx (s7 r op (d+1) (zP op d x b m.next).1 ((a::tl).drop (d+1)) { m with next:=(zP op d x b m.next).2 })).2):=rfl
theorem vv{f:E×Nat}{y:List Part×Mk}(h:EY r f ps m=some y):den r (f::S) ps m=den r S y.1 y.2:=by simp only[den,h]
theorem zhI{a:E}{tl:List E}:iQ r (.mk op pl s0 s1 s2 s3 tx mn mx nl (a::tl)) m=xb op mn mx (s7 r op 0 p0 (a::tl) m):=by simp only[iQ]
theorem YU{e:E}{es:List E}{k:Nat}{a:Part}:s7 r op k a (e::es) m=s7 r op (k+1) (zP op k a (iQ r e m).1 (iQ r e m).2.next).1 es { (iQ r e m).2 with next:=(zP op k a (iQ r e m).1 (iQ r e m).2.next).2 }:=by simp only[s7]
theorem zjK{k:Nat}{a:Part}:s7 r op k a [] m=(a,m):=by simp only[s7]
theorem F5:den r ((.mk op pl s0 s1 s2 s3 tx mn mx nl [],d)::S) ps m=den r S ((jL op (s0,s1,s2,s3) r m).1::ps) (jL op (s0,s1,s2,s3) r m).2:=by
 cases d with
 | zero=>exact vv (y:=(_,_)) (by simp only[EY])
 | succ d=>exact vv (y:=(_,_)) (by simp only[EY])
theorem zmu{a:E}{tl:List E}:den r ((.mk op pl s0 s1 s2 s3 tx mn mx nl (a::tl),0)::S) ps m=den r ((a,0)::(.mk op pl s0 s1 s2 s3 tx mn mx nl (a::tl),1)::S) (p0::ps) m:=by
 rw[vv UB,vv UB,vv (UC (d:=0)),zhI,YU];rfl
theorem zmv{a:E}{tl:List E}{x b:Part}{c:E}(hc:(a::tl)[d+1]?=some c) :
  den r ((.mk op pl s0 s1 s2 s3 tx mn mx nl (a::tl),d+1)::S) (b::x::ps) m=den r ((c,0)::(.mk op pl s0 s1 s2 s3 tx mn mx nl (a::tl),d+2)::S) ((zP op d x b m.next).1::ps) { m with next:=(zP op d x b m.next).2 }:=by
 obtain⟨bR,iT⟩:=cZ.1 hc;have eY:(a::tl).drop (d+1)=c::(a::tl).drop (d+2):=by rw[GO bR,iT]
 rw[vv UC,vv UB,vv (UC (d:=d+1)),eY,YU]
theorem zoj{a:E}{tl:List E}{x b:Part}(hd:(a::tl).length<=d+1) :
  den r ((.mk op pl s0 s1 s2 s3 tx mn mx nl (a::tl),d+1)::S) (b::x::ps) m=den r S ((xb op mn mx ((zP op d x b m.next).1,{ m with next:=(zP op d x b m.next).2 })).1::ps) (xb op mn mx ((zP op d x b m.next).1,{ m with next:=(zP op d x b m.next).2 })).2:=by
 rw[vv UC,List.drop_eq_nil_of_le hd,zjK]
theorem YV{q:Int×Int×Int×Int}:m.sets.length<=(jL op q r m).2.sets.length:=by
 unfold jL;split<;>simp
theorem YW{x:Part×Mk}:(xb op mn mx x).2.sets=x.2.sets:=by
 unfold xb;split<;>rfl
mutual
theorem s8:∀(e:E)(m:Mk),m.sets.length<=(iQ r e m).2.sets.length
 | .mk op _ s0 s1 s2 s3 _ mn mx _ [],m=>by simp only[iQ];exact YV
 | .mk op _ s0 s1 s2 s3 _ mn mx _ (a::tl),m=>by
  simp only[iQ,YW];exact s9 (a::tl) op 0 p0 m
theorem s9:∀(es:List E)(op:Int)(k:Nat)(a:Part)(m:Mk),m.sets.length<=(s7 r op k a es m).2.sets.length
 | [],op,k,a,m=>by simp only[s7];exact dA _
 | e::es,op,k,a,m=>by
  simp only[s7];exact cN (s8 e m) (s9 es op (k+1) (zP op k a (iQ r e m).1 (iQ r e m).2.next).1 { (iQ r e m).2 with next:=(zP op k a (iQ r e m).1 (iQ r e m).2.next).2 })
end
theorem zmw{f:E×Nat}{ps':List Part}{m':Mk}(h:EY r f ps m=some (ps',m')):m.sets.length<=m'.sets.length:=by
 unfold EY at h;split at h<;>simp only[bq,cq,reduceCtorEq] at h
 ·rw[<- h.2];exact YV
 ·rw[<- h.2];exact s8 _ _
 ·rw[<- h.2,YW];refine cN (Nat.le_of_eq ?_) (s9 _ _ _ _ _);rfl
theorem BC:∀{S:List (E×Nat)}{ps:List Part}{m:Mk}{y:List Part×Mk},den r S ps m=some y->m.sets.length<=y.2.sets.length
 | [],_,_,_,h=>by simp only[den,bq] at h;rw[<- h];exact dA _
 | f::S,ps,m,y,h=>by
  simp only[den] at h;split at h
  next ps' m' he=>exact cN (zmw he) (BC h)
  ·cases h
def DC(n:Nat)(p:Part):Prop:=(∀x∈jg p.first 19,x<n)/\(∀x∈jg p.last 19,x<n)
theorem DC.mono{n n':Nat}{p:Part}(h:DC n p)(hn:n<=n'):DC n' p:=⟨λx hx=>uc (h.1 x hx) hn,λx hx=>uc (h.2 x hx) hn⟩
theorem zmx{n:Nat}{b:Bool}:DC n ⟨b,cO,cO⟩:=by
 constructor<;>(intro x hx;rw[ir] at hx;simp[cO] at hx)
theorem UD{n:Nat}{p q:Nat->Bool}(hp:∀x∈jg p 19,x<n)(hq:∀x∈jg q 19,x<n):∀x∈jg (jC p q) 19,x<n:=by
 intro x hx;rw[ir] at hx;obtain⟨h1,h2⟩:=hx;simp only[jC,p7] at h2;rcases h2 with h|h
 ·exact hp x (ir.2 ⟨h1,h⟩)
 ·exact hq x (ir.2 ⟨h1,h⟩)
theorem zp7{n k:Nat}(h:k<n):∀x∈jg (jP cO k) 19,x<n:=by
 intro x hx;rw[ir] at hx;have:=hx.2;simp[jP,cO] at this;omega
theorem zhJ{q:Int×Int×Int×Int}(h:m.Ok):(jL op q r m).2.Ok/\DC (jL op q r m).2.next.length (jL op q r m).1:=by
 unfold jL;split
 ·exact⟨h,zmx⟩
 ·refine⟨⟨by simp[h.r],by simp[h.n]⟩,?_⟩
  constructor<;>exact zp7 (by simp[h.n])
theorem ziB{n:Nat}{k:Nat}{a b:Part}{ns:List (Nat->Bool)}(ha:DC n a)(hb:DC n b):DC n (zP op k a b ns).1:=by
 unfold zP;split
 ·exact hb
 ·split
  ·exact⟨UD ha.1 hb.1,UD ha.2 hb.2⟩
  ·refine⟨?_,?_⟩
   ·simp only;split
    ·exact UD ha.1 hb.1
    ·exact ha.1
   ·simp only;split
    ·exact UD ha.2 hb.2
    ·exact hb.2
theorem zok{n:Nat}{p:Part}{ns:List (Nat->Bool)}(h:DC n p):DC n (xS mn mx p ns).1:=h
mutual
def wE:E->Nat
 | .mk _ _ _ _ _ _ _ _ _ _ args=>3+Er args
def Er:List E->Nat
 | []=>0
 | e::es=>wE e+2+Er es
end
def wF:E×Nat->Nat
 | (e,0)=>wE e
 | (.mk _ _ _ _ _ _ _ _ _ _ args,d+1)=>1+Er (args.drop (d+1))
def wS:List (E×Nat)->Nat
 | []=>0
 | f::S=>wF f+wS S
theorem UE(f:E×Nat):1<=wF f:=by
 obtain⟨⟨op,pl,s0,s1,s2,s3,tx,mn,mx,nl,args⟩,d⟩:=f;cases d<;>simp only[wF,wE]<;>omega
theorem zol{a:E}{tl:List E}:wS ((a,0)::(.mk op pl s0 s1 s2 s3 tx mn mx nl (a::tl),1)::S)+4=wS ((.mk op pl s0 s1 s2 s3 tx mn mx nl (a::tl),0)::S):=by
 simp only[wS,wF,wE,Er,uJ,mu];omega
theorem zom{c:E}(hc:args[d+1]?=some c):wS ((c,0)::(.mk op pl s0 s1 s2 s3 tx mn mx nl args,d+2)::S)+2=wS ((.mk op pl s0 s1 s2 s3 tx mn mx nl args,d+1)::S):=by
 obtain⟨bR,iT⟩:=cZ.1 hc;have eY:args.drop (d+1)=c::args.drop (d+2):=by rw[GO bR,iT]
 simp only[wS,wF];rw[eY,show d+1+1=d+2 from rfl];simp only[Er];omega
end
section
variable{gl:Gl}
theorem YX:qP prog 157=some (.agg [.int .i64 0,.int .i64 0,.int .u64 0,.int .u64 0,.int .u64 0,.int .u64 0,.str [],.int .i64 0,.int .i64 0,.aG,.int .i64 0]):=by kernel_rfl
theorem z86:qP prog 151=some (.agg [.aG]):=by kernel_rfl
theorem z89:qP prog 154=some (.agg [.aG]):=by kernel_rfl
theorem zqQ:(match prog.underlying 157 with|some (.struct fs)=>Tf prog fs|_=>none)=some [(0,10),(10,1)]:=by kernel_rfl
theorem zpn{x:aW}{env:aD}{e:E}(h:ak env x=some (.agg (aK e))):ky prog 157 #[(0,x)] env=some (.agg (sq (e,0))):=by
 have hp:=zqQ;unfold ky;rw[YX];cases hu:prog.underlying 157 with
 | none=>rw[hu] at hp;cases hp
 | some d =>
  rw[hu] at hp;cases d<;>simp only at hp<;>try (cases hp;done)
  simp only[hp];obtain⟨op,pl,s0,s1,s2,s3,text,mn,mx,nl,args⟩:=e;simp[dz,xN,h,nth,aK,V.cells,Vm.storeCells,sq]
theorem zp8{x y:aW}{env:aD}{e:E}{d:Nat}(h:ak env x=some (.agg (aK e)))(h':ak env y=some (.int .i64 (d:Int))):ky prog 157 #[(0,x),(1,y)] env=some (.agg (sq (e,d))):=by
 have hp:=zqQ;unfold ky;rw[YX];cases hu:prog.underlying 157 with
 | none=>rw[hu] at hp;cases hp
 | some d =>
  rw[hu] at hp;cases d<;>simp only at hp<;>try (cases hp;done)
  simp only[hp];obtain⟨op,pl,s0,s1,s2,s3,text,mn,mx,nl,args⟩:=e;simp[dz,xN,h,h',nth,aK,V.cells,Vm.storeCells,sq]
theorem zqR{env:aD}:ky prog 117 #[] env=some (.agg (zo p0)):=by kernel_rfl
theorem YY:qz prog 51=some false:=by kernel_rfl
theorem UF:prog.underlying 51=some (.slice 53):=by kernel_rfl
theorem nO:zB prog 157 0=some 0:=by kernel_rfl
theorem o5:zB prog 157 1=some 10:=by kernel_rfl
theorem C3:zB prog 53 6=some 9:=by kernel_rfl
theorem zhK{H:Hp}{nl:Bool}{l:List E}:qX prog H 51 (ye nl (fe l))=some (l.length:Int):=by
 rcases vF nl (fe l) with h|⟨h0,h⟩<;>rw[h]
 ·simp[qX,fE]
 ·have:l=[]:=by
   have:=congrArg List.length h0;rw[fE] at this;exact HO this
  subst this;simp[qX]
theorem UG{H:Hp}{b:Nat}{p q:Part}{env:aD}{lk:aO}{df:bP}(hg:H.get b=some (.cells (zo q) 117)):qr prog 117 H lk df (some (.agg (zo p),env)) (some (.ptr b 0))=some (.skip,⟨env,H.set b (.cells (zo p) 117),lk,df⟩):=by
 rw[zy (v:=.agg (zo p)) so hg rfl (by simp[V.laid,qV]) (by rw[qV];decide) (wj yq (by rw[qV];decide)),jR (by simp[V.top,yK])]
 simp only[V.laid,wR];rw[wQ (by rw[qV,qV])]
theorem YZ{H:Hp}{b:Nat}{p:Part}{g:Nat->Nat->b_}(hg:H.get b=some (.cells (zo p) 117)):zk prog H g 117 (.ptr b 0)=some (.agg (zo p)):=by
 rw[jc ux so hg (by rw[qV];decide),mu,r9 (by rw[qV];decide)]
def E.args:E->List E
 | .mk _ _ _ _ _ _ _ _ _ _ a=>a
structure EF(bs:List aY)(bm:Nat)(r:Int)(env:aD):Prop where
 len:env.length=86
 e0:nth env 0=some (.ptr bm 0)
 e2:nth env 2=some (.int .i64 r)
 e6:nth env 6=some (.ptr (bs.length+1) 0)
 e7:nth env 7=some (.ptr (bs.length+2) 0)
 e8:nth env 8=some (.ptr (bs.length+3) 0)
structure WI(bs:List aY)(bm:Nat)(i0:Option Nat)(r:Int)(P:Part)(M:Mk)(Wm:Nat)(H:Hp)(S:List (E×Nat))(ps:List Part)(m:Mk):Prop where
 ws:WS bs bm i0 H S ps m
 dn:den r S ps m=some ([P],M)
 OD:∀p∈ps,DC m.next.length p
 ok:m.Ok
 wf:∀f∈S,f.2<=f.1.args.length/\wE f.1<=2 ^ 31
 bd:S.length+ps.length+wS S<=Wm
 res:∃q,H.get (bs.length+1)=some (.cells (zo q) 117)
theorem zrq{H:Hp}{b:Nat}{f:E×Nat}{cs:aD}{ty:aB}{env:aD}{lk:aO}{df:bP}(hg:H.get b=some (.cells cs ty))(hl:cs.length=11)(hu:cs.all (λc=>!(locked c))=true):qr prog 157 H lk df (some (.agg (sq f),env)) (some (.ptr b 0))=some (.skip,⟨env,H.set b (.cells (sq f) ty),lk,df⟩):=by
 rw[zy (v:=.agg (sq f)) Aq hg rfl (by simp[V.laid,OC]) (by rw[hl];decide) (wj hu (by rw[hl];decide)),jR (by simp[V.top,zhG])]
 simp only[V.laid,YP];rw[wQ (by rw[hl,OC])]
theorem Ko{H:Hp}{b d:Nat}{op pl s0 s1 s2 s3 mn mx:Int}{tx:bM}{nl:Bool}{args:List E}{g:Nat->Nat->b_}(hg:H.get b=some (.cells (sq (.mk op pl s0 s1 s2 s3 tx mn mx nl args,d)) 157)) :
  zk prog H g 3 (.ptr b 0)=some (.int .i64 op)/\zk prog H g 51 (.ptr b 9)=some (ye nl (fe args))/\zk prog H g 3 (.ptr b 10)=some (.int .i64 (d:Int))/\zk prog H g 53 (.ptr b 0)=some (.agg (aK (.mk op pl s0 s1 s2 s3 tx mn mx nl args))) :=
 ⟨zt Ou hg rfl,zt YY hg rfl,zt Ou hg rfl,by rw[jc BB s6 hg (by rw[OC];decide)];rfl⟩
theorem Y0{nl:Bool}{args:List E}{D:Nat}{c:E}(h:args[D]?=some c):zp prog 51 (ye nl (fe args)) (D:Int)=some (.vp (aK c)):=by
 have cH:ye nl (fe args)=.sl 10 (fe args) .no:=by
  rcases vF nl (fe args) with h'|⟨h0,h'⟩
  ·exact h'
  ·have:=congrArg List.length h0;rw[fE] at this;rw[HO this] at h;simp at h
 have hn:nth (fe args) D=some (enc c):=by rw[zg,Bw,h];rfl
 have hD:¬((D:Int)<0):=by omega
 simp[cH,zp,s6,hD,hn,qB,V.cells]
theorem UH{H:Hp}{g:Nat->Nat->b_}{c:E}:zk prog H g 53 (.vp (aK c))=some (.agg (aK c)):=by
 have:(aK c).take 10=aK c:=r9 (by rw[z0];decide)
 simp[zk,qu,BB,s6,Oe,z0,this]
structure UI(bs:List aY)(bm:Nat)(r:Int)(L:Nat)(env:aD):Prop extends EF bs bm r env where
 e9:nth env 9=some (.ptr L 0)
theorem zjL{c:E}:∀{l:List E},c∈l->wE c+2<=Er l
 | a::l,h=>by
  simp only[Er];rcases dG.1 h with rfl|h
  ·omega
  ·have:=zjL h;omega
theorem As:∀{l:List E},l.length<=Er l
 | []=>dA _
 | a::l=>by have:=As (l:=l);simp only[Er,aX];omega
theorem Y1(e:E):wE e=3+Er e.args:=by cases e;simp only[wE,E.args]
theorem zoo{r op pl s0 s1 s2 s3 mn mx:Int}{tx:bM}{nl:Bool}{a:E}{tl:List E}{d:Nat}{S:List (E×Nat)}{ps:List Part}{m:Mk}{y:List Part×Mk}(h:den r ((.mk op pl s0 s1 s2 s3 tx mn mx nl (a::tl),d+1)::S) ps m=some y):∃b x ps',ps=b::x::ps':=by
 cases ps with
 | nil=>simp[den,EY] at h
 | cons b ps =>
  cases ps with
  | nil=>simp[den,EY] at h
  | cons x ps=>exact⟨b,x,ps,rfl⟩
def Mid(bs:List aY)(bm:Nat)(i0:Option Nat)(r:Int)(P:Part)(M:Mk)(Wm L:Nat)(e:E)(d:Nat)(S:List (E×Nat))(s:St):Prop :=
 ∃env H ps m q,s=⟨env,H,[],[]⟩/\UI bs bm r L env/\WS bs bm i0 H S ps m/\(∀p∈ps,DC m.next.length p)/\m.Ok/\H.get L=some (.cells (sq (e,d)) 157)/\H.get (bs.length+1)=some (.cells (zo q) 117) /\
  (∀c,e.args[d]?=some c->den r ((c,0)::(e,d+1)::S) ps m=some ([P],M)/\S.length+2+ps.length+wS ((c,0)::(e,d+1)::S)<=Wm/\wS ((c,0)::(e,d+1)::S)<wS ((e,d)::S)) /\
  (d=e.args.length->match e with|.mk op _ _ _ _ _ _ mn mx _ _=>∃p ps',ps=p::ps'/\den r S ((xb op mn mx (p,m)).1::ps') (xb op mn mx (p,m)).2=some ([P],M)/\S.length+ps.length+wS S<=Wm)
theorem zmy(hg:GW gl){n n0:Nat}{H:Hp}{bm:Nat}{m:Mk}{i:Option Nat}{e:E}{r:Int}{P:Part}{M:Mk}
  (hm:MK n0 H bm m i) (Be:n0<=H.az.length) (hP:iQ r e m=(P,M)) (ej:m.Ok) (hM:M.sets.length<=1200) (hn:wE e+2000<=n) (hw:wE e+2<=2 ^ 31) :
  ∃H' i',zj prog gl (n+1) 55 [.ptr bm 0,enc e,.int .i64 r] H=some (.ret (.agg (zo P)),H')/\MK n0 H' bm M i'/\Kh H.az.length i i'/\s5 H H' (λd=>d=bm\/i=some d)/\M.Ok/\DC M.next.length P:=by
 obtain⟨bs,es⟩:=H;have Dr:=hm.start
 suffices bL:(go ⟨prog,gl,zj prog gl n,fu⟩ n (Fx prog f55.results.toList λw H1=>w=.agg (zo P)/\∃i',MK bs.length H1 bm M i'/\Kh bs.length i i'/\s5 ⟨bs,[]⟩ H1 (λd=>d=bm\/i=some d)/\M.Ok/\DC M.next.length P) [.c (f55.body.getD .skip)] .normal ⟨[.ptr bm 0,enc e,.int .i64 r]++List.replicate 83 (.br []),⟨bs,[]⟩,[],[]⟩) by
  obtain⟨w,H1,h0,rfl,i',h1,h2,h3,h4,h5⟩:=zQ (gl:=gl) (f:=55) (bs:=bs) (es:=es) (args:=[.ptr bm 0,enc e,.int .i64 r]) (n:=n) (hg.hk _ _ (by decide)) (λH=>hg.fA _ _ _ _) func55 rfl (by rw[hg.uq];exact bL)
  exact⟨_,i',h0,hm.finish Be h2 h1,h2,zd1 h3,h4,h5⟩
 obtain⟨c,hc,hu,hed⟩:=Dr;have bR:bm<bs.length:=kJ hc;have oX:dz (.agg (aK e))=true:=rfl;simp only[f55,fS,zh,qB];refine zi ?_
 simp only[BA,aq,zc,zd,ze,bS,bT,z8 oX,Mq,zJ (show dz (V.agg (zo ⟨false,cO,cO⟩))=true from rfl),V.laid,V.cells,qk,List.replicate];refine zi ?_
 simp only[qx,aH,zh,qO,aM,aq,zc,aU,aX,List.length_nil,nY,Nat.reduceAdd,a_,bh,aZ,bS,bT,z86,zJ (show dz (V.agg [V.aG])=true from rfl),V.cells]
 refine zi ?_
 simp only[qx,aH,zh,qO,aM,aq,zc,aU,aX,List.length_nil,nY,Nat.reduceAdd,a_,bh,aZ,bS,bT,z89,zJ (show dz (V.agg [V.aG])=true from rfl),V.cells]
 generalize F6:Hp.mk (bs++[aY.cells (aK e) 53,.cells (zo ⟨false,cO,cO⟩) 117,.cells [.aG] 151,.cells [.aG] 154]) []=H0;have DD:WS bs bm i H0 [] [] m:=by
  subst F6;refine⟨by simp,bR,⟨.aG,none,gN (k:=2),⟨rfl,rfl⟩,by simp⟩,⟨.aG,none,gN (k:=3),⟨rfl,rfl⟩,by simp⟩,⟨i,⟨c,(gB bR).trans hc,hu.frame λj hj=>gB (by subst hj;exact hu.lt),λj hj hn=>?_⟩,.inl rfl⟩,λd hd _ _=>gB hd⟩
  subst hj;exact absurd hu.lt (by simpa using hn)
 have Bz:zk prog H0 gl.g 53 (.ptr bs.length 0)=some (.agg (aK e)):=by
  subst F6;rw[zpm BB s6 rfl (by simp[z0])]
  rw[mu,r9 (by rw[z0];decide)]
 have lQ:H0.get (bs.length+1)=some (.cells (zo p0) 117):=by subst F6;exact gN (k:=1)
 obtain⟨H1,nu,Hr,Eb⟩:=DD.F3 hg (show 1<=n by omega) (e,0) (by decide)
 refine zi ?_;simp only[BA,ak,aq,zd,ze,bS,bT,Bz];rw[zpn (e:=e) (by rfl)]
 simp only[BA,av,ak,aq,aA,zd,ze,bS,bT,nu];refine y9 (EF bs bm r) ⟨rfl,rfl,rfl,rfl,rfl,rfl⟩ λenv iZ=>?_
 have Aj:WI bs bm i r P M (wE e+2) H1 [(e,0)] [] m:=⟨Hr,by simp only[den,UB,hP],λp hp=>by simp at hp,ej,λf hf=>by simp at hf;subst hf;exact⟨ec _,by simp only;omega⟩,by simp[wS,wF];omega,⟨p0,Eb _ _ _ (by omega) (by omega) (by omega) lQ⟩⟩
 refine qj (λj s=>∃S ps m H env,wS S=j/\s=⟨env,H,[],[]⟩/\EF bs bm r env/\WI bs bm i r P M (wE e+2) H S ps m) (wS [(e,0)]) (by simp[wS,wF];omega) ⟨_,_,_,_,_,rfl,rfl,iZ,Aj⟩ ?_
 clear Aj DD Bz lQ nu Hr Eb F6 iZ env H0 H1;rintro j s ⟨S,ps,m1,H,env,rfl,rfl,he,hi⟩;simp only[zh];refine zi ?_;have Y2:=hi.ws.emp hg (show 1<=n by omega)
 have hlen:=he.len;simp only[BA,Nat.reduceEqDiff,av,ak,aq,aA,za,bD,Nat.reduceLT,bw,he.e7,hlen,Y2,iH];cases S with
 | nil =>
  refine .inr ⟨rfl,?_⟩;have hd:=hi.dn;simp only[den,bq,cq] at hd;obtain⟨rfl,rfl⟩:=hd;obtain⟨H2,sy,Q9,fA⟩:=hi.ws.I7 hg (show 1<=n by omega) (by decide)
  obtain⟨q,hq⟩:=hi.res;have My:=fA _ _ _ (by have:=hi.ws.lt;omega) (by omega) (by omega) hq
  simp only[qm,zN,zq,bI,zD,lK,aF,zh];refine zi ?_;simp only[BA,Nat.reduceEqDiff,av,ak,aq,aA,za,bD,Nat.reduceLT,bw,he.e8,he.e6,hlen,sy];rw[UG My];simp only[bu,aq,go_ret,zq,Fx]
  have I8:=Q9.C2 (cs':=zo P) (ty':=117) My (by omega) (by omega) (by omega)
  obtain⟨i',k1,k2⟩:=I8.A1;refine⟨trivial,[.agg (zo P)],?_,rfl,i',k1,k2,⟨by have:=I8.len;show bs.length<=_;omega,λd hd sA=>I8.fr d hd (λe=>sA (.inl e)) (λe=>sA (.inr e))⟩,hi.ok,hi.OD P (by simp)⟩
  simp only[zx,za,bD,Nat.reduceEqDiff,bw,he.e6];rw[YZ (wI My)];simp[aV]
 | cons f S =>
  refine .inl ⟨rfl,?_⟩;have OE:=hi.bd;have QN:S.length<2 ^ 32:=by simp only[aX] at OE;omega
  have Ii:ps.length<2 ^ 31:=by simp only[aX] at OE;omega
  obtain⟨H1,nu,Hr,Eb⟩:=hi.ws.YQ hg (show 1<=n by omega) QN
  refine zi ?_
  simp only[qx,aH,zh,zw,qO,zU,kf,Nat.reduceEqDiff,av,qp,ak,zL,qU,aM,aq,ql,qM,aA,bg,bp,aF,za,bD,Nat.reduceLT,aF,bw,he.e7,hlen,nu,YX,zJ (show dz (V.agg [.int .i64 0,.int .i64 0,.int .u64 0,.int .u64 0,.int .u64 0,.int .u64 0,.str [],.int .i64 0,.int .i64 0,.aG,.int .i64 0])=true from rfl),V.cells]
  rw[zrq we rfl rfl];obtain⟨L,hL⟩:∃L,L=H1.az.length:=⟨_,rfl⟩;obtain⟨z,hz⟩:∃z,z=aY.cells [.int .i64 0,.int .i64 0,.int .u64 0,.int .u64 0,.int .u64 0,.int .u64 0,.str [],.int .i64 0,.int .i64 0,.aG,.int .i64 0] 157:=⟨_,rfl⟩;rw[<- hz,<- hL];obtain⟨H2,F7⟩:∃H2,H2=(H1.push z).set L (.cells (sq f) 157):=⟨_,rfl⟩;rw[<- F7];have hLn:bs.length+4<=L:=by rw[hL];exact Hr.len
  have Y3:(H1.push z).get L=some z:=by rw[hL];exact we
  have OF:H2.get L=some (.cells (sq f) 157):=by rw[F7,wI Y3]
  have Q9:WS bs bm i H2 S ps m1:=by rw[F7];exact Hr.push.1.C2 (by rw[Y3,hz]) (by omega) (by omega) (by omega)
  obtain⟨q,hq⟩:=hi.res;have My:H2.get (bs.length+1)=some (.cells (zo q) 117):=by
   rw[F7,qC (by omega),jG (by omega)]
   exact Eb _ _ _ (by omega) (by omega) (by omega) hq
  clear F7 Y3 hz z Eb hq nu Hr;simp only[bu,aq]
  refine y9 (UI bs bm r L) ⟨⟨by simp[hlen],by simp[za,he.e0],by simp[za,he.e2],by simp[za,he.e6],by simp[za,he.e7],by simp[za,he.e8]⟩,by simp[za,hlen]⟩ λenv he=>?_
  have hlen:=he.len;obtain⟨⟨op,pl,s0,s1,s2,s3,tx,mn,mx,nl,args⟩,d⟩:=f;obtain⟨l1,l2,l3,l4⟩:=Ko (g:=gl.g) OF;refine zi ?_;simp only[BA,Nat.reduceEqDiff,ak,aj,aq,ah,za,bD,Nat.reduceLT,bw,he.e9,hlen,nO,C3,l2,zZ,zhK,wO];cases args with
  | nil =>
   refine .inl ⟨rfl,?_⟩;have Dz:=hi.dn;rw[F5] at Dz;have OG:=BC Dz;have iy:=zhJ (op:=op) (r:=r) (q:=(s0,s1,s2,s3)) hi.ok;have Y4:=YV (op:=op) (r:=r) (q:=(s0,s1,s2,s3)) (m:=m1);have F8:m1.next.length<=(jL op (s0,s1,s2,s3) r m1).2.next.length:=by rw[hi.ok.n,iy.1.n];exact Y4
   simp only at OG;obtain⟨H3,BZ,I8,C1⟩:=Q9.leaf hg (show 2<=n by omega) hi.ok (by omega) (op:=op) (pl:=pl) (s0:=s0) (s1:=s1) (s2:=s2) (s3:=s3) (mn:=mn) (mx:=mx) (r:=r) (text:=tx) (nl:=nl) (args:=[])
   obtain⟨H4,Q_,UJ,Mu⟩:=I8.DB hg (show 1<=n by omega) (jL op (s0,s1,s2,s3) r m1).1 (by omega)
   rw[qB] at BZ;simp only[qm,zN,zD,zh,lK,aF]
   refine zi ?_;simp only[BA,Nat.reduceEqDiff,av,ak,aq,ah,aA,za,bD,Nat.reduceLT,bw,he.e0,he.e2,he.e8,he.e9,hlen,nO,l4,BZ,Q_];simp only[qm,zN,zD,zq,aN,qD,lK,gV,gW,aF,fR,bw]
   refine⟨_,?_,S,_,_,H4,_,rfl,rfl,⟨by simp[hlen],by simp[za,he.e0],by simp[za,he.e2],by simp[za,he.e6],by simp[za,he.e7],by simp[za,he.e8]⟩,UJ,Dz,λp hp=>?_,iy.1,λf hf=>hi.wf f (dU _ hf),?_,⟨q,Mu _ _ _ (by have:=hi.ws.lt;omega) (by omega) (by omega) (C1 _ _ _ (by have:=hi.ws.lt;omega) (by omega) (by omega) My)⟩⟩
   ·simp only[wS];have:=UE (.mk op pl s0 s1 s2 s3 tx mn mx nl [],d);omega
   ·rcases dG.1 hp with rfl|hp
    ·exact iy.2
    ·exact(hi.OD p hp).mono F8
   ·simp only[wS,aX] at OE ⊢;have:=UE (.mk op pl s0 s1 s2 s3 tx mn mx nl [],d);omega
  | cons a tl =>
   refine .inr ⟨by simp;omega,?_⟩
   refine y9 (UI bs bm r L) ⟨⟨by simp[hlen],by simp[za,he.e0],by simp[za,he.e2],by simp[za,he.e6],by simp[za,he.e7],by simp[za,he.e8]⟩,by simp[za,he.e9]⟩ λenv he=>?_
   have hlen:=he.len;have anC:=hi.ws.lt;refine zi ?_;simp only[BA,Nat.reduceEqDiff,ak,aj,aq,ah,za,bD,Nat.reduceLT,bw,he.e9,hlen,o5,l3,wO];have sP:=hi.wf _ (eK ..);have Dz:=hi.dn;rcases d with _|d
   refine .inl ⟨rfl,?_⟩;rw[zmu] at Dz;obtain⟨H3,BZ,I8,C1⟩:=Q9.DB hg (show 1<=n by omega) p0 (by omega)
   have hf3:=C1 _ _ _ (by omega) (by omega) (by omega) OF
   have hq3:=C1 _ _ _ (by omega) (by omega) (by omega) My
   obtain⟨l1,l2,l3,l4⟩:=Ko (g:=gl.g) hf3;simp only[qm,zN,zD,lK,gR,aF,fR,bw]
   refine zi ?_;simp only[BA,Nat.reduceEqDiff,av,ak,aq,aA,za,bD,Nat.reduceLT,bw,he.e8,hlen,zqR,BZ];refine zi ?_
   simp only[BA,Nat.reduceEqDiff,ak,aj,aq,ah,za,bD,Nat.reduceLT,bw,he.e9,hlen,o5,l3,w6];refine .inr ⟨rfl,?_⟩
   refine mj (λs=>∃D,D<=(a::tl).length/\(∀k,k<wS ((.mk op pl s0 s1 s2 s3 tx mn mx nl (a::tl),D)::S)->k<wS ((.mk op pl s0 s1 s2 s3 tx mn mx nl (a::tl),0)::S))/\Mid bs bm i r P M (wE e+2) L (.mk op pl s0 s1 s2 s3 tx mn mx nl (a::tl)) D S s) ⟨0,ec _,λ_ h=>h,_,_,_,_,_,rfl,⟨⟨by simp[hlen],by simp[za,he.e0],by simp[za,he.e2],by simp[za,he.e6],by simp[za,he.e7],by simp[za,he.e8]⟩,by simp[za,he.e9]⟩,I8,λp hp=>?_,hi.ok,hf3,hq3,λc hc=>?_,λh=>by simp[E.args] at h⟩ ?_
   ·rcases dG.1 hp with rfl|hp
    ·exact zmx
    ·exact hi.OD p hp
   ·simp only[E.args,K2,bq] at hc;subst hc;refine⟨Dz,?_,?_⟩ <;>
    ·have:=zol (op:=op) (pl:=pl) (s0:=s0) (s1:=s1) (s2:=s2) (s3:=s3) (tx:=tx) (mn:=mn) (mx:=mx) (nl:=nl) (a:=a) (tl:=tl) (S:=S);simp only[aX,nY] at OE ⊢;omega
   rotate_left
   refine .inr ⟨by simp;omega,?_⟩
   obtain⟨b,x,ps,rfl⟩:=zoo Dz;have hpx:=hi.OD x (by simp)
   have hpb:=hi.OD b (by simp)
   have hla:(a::tl).length<=2 ^ 31:=by
    have h1:=sP.2;rw[Y1] at h1;have h2:=As (l:=a::tl);simp only[E.args] at h1;omega
   have hdd:d<2 ^ 40:=by have h1:=sP.1;simp only[E.args] at h1;omega
   simp only[aX] at Ii;obtain⟨H3,BZ,I8,C1⟩:=Q9.I7 hg (show 1<=n by omega) (by simp only[aX];omega)
   obtain⟨H4,Q_,UJ,Mu⟩:=I8.I7 hg (show 1<=n by omega) (by omega)
   have hf4:=Mu _ _ _ (by omega) (by omega) (by omega) (C1 _ _ _ (by omega) (by omega) (by omega) OF)
   have Y5:=Mu _ _ _ (by omega) (by omega) (by omega) (C1 _ _ _ (by omega) (by omega) (by omega) My)
   simp only[qm,zN,zD,zh,lK,gS,gT,aF,fR,bw]
   refine zi ?_;simp only[BA,Nat.reduceEqDiff,ak,aj,aq,ah,za,bD,Nat.reduceLT,bw,he.e9,hlen,o5,l3,w6];refine .inl ⟨by simp,?_⟩
   refine zi ?_;simp only[BA,Nat.reduceEqDiff,av,ak,aq,aA,za,bD,Nat.reduceLT,bw,he.e8,hlen,BZ,Q_,Mq,zJ (show dz (V.agg (zo ⟨false,cO,cO⟩))=true from rfl),V.cells,jk];obtain⟨Z,hZ⟩:∃Z,Z=aY.cells (zo ⟨false,cO,cO⟩) 117:=⟨_,rfl⟩;rw[<- hZ]
   obtain⟨L2,Ra⟩:∃L2,L2=H4.az.length:=⟨_,rfl⟩;have Cb:((H4.push Z).push Z).get L2=some Z:=by rw[jG (by rw[jk,Ra];omega),Ra];exact we
   have Oy:((H4.push Z).push Z).get (L2+1)=some Z:=by rw[Ra,<- jk (x:=Z)];exact we
   rw[<- Ra,UG (Cb.trans (by rw[hZ]))]
   simp only[bu,aq,qx];rw[zU];simp only[BA,Nat.reduceEqDiff,ak,za,bD,Nat.reduceLT,bw,hlen];rw[UG (((qC (show L2+1≠L2 by omega)).trans Oy).trans (by rw[hZ]))]
   simp only[bu,aq]
   obtain⟨H5,OH⟩:∃H5,H5=(((H4.push Z).push Z).set L2 (.cells (zo b) 117)).set (L2+1) (.cells (zo x) 117):=⟨_,rfl⟩;rw[<- OH];have anG:bs.length+4<=L2:=by rw[Ra];exact UJ.len
   have hb5:H5.get L2=some (.cells (zo b) 117):=by rw[OH,qC (by omega),wI Cb]
   have hx5:H5.get (L2+1)=some (.cells (zo x) 117):=by rw[OH,wI ((qC (by omega)).trans Oy)]
   have hk5:∀d y,H4.get d=some y->H5.get d=some y:=λd y hy=>by
    have hl:=kJ hy;rw[OH,qC (by omega),qC (by omega),jG (by rw[jk];omega),jG hl,hy]
   have Rb:WS bs bm i H5 S ps m1:=by
    rw[OH];exact((UJ.push.1.push.1).C2 (Cb.trans (by rw[hZ])) (by omega) (by omega) (by omega)).C2 (((qC (show L2+1≠L2 by omega)).trans Oy).trans (by rw[hZ])) (by omega) (by omega) (by omega)
   have OI:=hk5 _ _ hf4;have Rc:=hk5 _ _ Y5;refine y9 (λenv=>UI bs bm r L env/\nth env 10=some (.ptr L2 0)/\nth env 11=some (.ptr (L2+1) 0)) ⟨⟨⟨by simp[hlen],by simp[za,he.e0],by simp[za,he.e2],by simp[za,he.e6],by simp[za,he.e7],by simp[za,he.e8]⟩,by simp[za,he.e9]⟩,by simp[za,hlen],by simp[za,hlen]⟩ λenv AV=>?_
   obtain⟨he,Y6,Y7⟩:=AV;have hlen:=he.len;obtain⟨l1,l2,l3,l4⟩:=Ko (g:=gl.g) OI;obtain⟨H6,Mz,Rd,Kq⟩:=Rb.Mx hg (show 1302<=n by omega) (op:=op) (k:=d) (a:=x) (b:=b) (by omega) hpx.2
   obtain⟨H7,Kr,Re,MA⟩:=Rd.DB hg (show 1<=n by omega) (zP op d x b m1.next).1 (by omega)
   have lR:∀u w,qL prog .sub 3 u w (some (.int .i64 ((d+1:Nat):Int))) (some (.int .i64 1))=some (.int .i64 (d:Int)):=λu w=>XZ (a:=d+1) (b:=1) (by omega) (by omega)
   refine zi ?_;simp only[BA,Nat.reduceEqDiff,av,ak,aj,aq,ah,aA,za,bD,Nat.reduceLT,bw,he.e0,he.e9,he.e8,Y6,Y7,hlen,nO,CY,o5,l1,l3,lR,YZ hx5,YZ hb5,Mz,Kr]
   have UK:=MA _ _ _ (by omega) (by omega) (by omega) (Kq _ _ _ (by omega) (by omega) (by omega) OI)
   have Y8:=MA _ _ _ (by omega) (by omega) (by omega) (Kq _ _ _ (by omega) (by omega) (by omega) Rc)
   have AY:(zP op d x b m1.next).2.length=m1.next.length:=YT
   refine mj (λs=>∃D,D<=(a::tl).length/\(∀k,k<wS ((.mk op pl s0 s1 s2 s3 tx mn mx nl (a::tl),D)::S)->k<wS ((.mk op pl s0 s1 s2 s3 tx mn mx nl (a::tl),d+1)::S))/\Mid bs bm i r P M (wE e+2) L (.mk op pl s0 s1 s2 s3 tx mn mx nl (a::tl)) D S s) ⟨d+1,sP.1,λ_ h=>h,_,_,_,_,_,rfl,⟨⟨by simp[hlen],by simp[za,he.e0],by simp[za,he.e2],by simp[za,he.e6],by simp[za,he.e7],by simp[za,he.e8]⟩,by simp[za,he.e9]⟩,Re,λp hp=>?_,⟨hi.ok.r,by rw[AY];exact hi.ok.n⟩,UK,Y8,λc hc=>?_,λh=>?_⟩ ?_
   ·rw[AY];rcases dG.1 hp with rfl|hp
    ·exact ziB hpx hpb
    ·exact hi.OD p (by simp[hp])
   ·simp only[E.args] at hc;have MB:=zmv (r:=r) (op:=op) (pl:=pl) (s0:=s0) (s1:=s1) (s2:=s2) (s3:=s3) (tx:=tx) (mn:=mn) (mx:=mx) (nl:=nl) (S:=S) (ps:=ps) (m:=m1) (x:=x) (b:=b) hc;have DD:=zom (op:=op) (pl:=pl) (s0:=s0) (s1:=s1) (s2:=s2) (s3:=s3) (tx:=tx) (mn:=mn) (mx:=mx) (nl:=nl) (S:=S) hc;rw[show d+2=d+1+1 from rfl] at DD;refine⟨MB ▸ Dz,?_,?_⟩ <;>
    ·simp only[aX] at OE ⊢;omega
   ·have MB:=zoj (r:=r) (op:=op) (pl:=pl) (s0:=s0) (s1:=s1) (s2:=s2) (s3:=s3) (tx:=tx) (mn:=mn) (mx:=mx) (nl:=nl) (S:=S) (ps:=ps) (m:=m1) (x:=x) (b:=b) (a:=a) (tl:=tl) (d:=d) (by simp only[E.args] at h;omega)
    refine⟨_,_,rfl,MB ▸ Dz,?_⟩;simp only[aX,wS] at OE ⊢;omega
   all_goals
    rintro s ⟨D,hDl,hJ,env,H5,IF,m2,q2,rfl,he,Rb,I9,BD,OI,Rc,Y9,V1⟩;have hlen:=he.len;obtain⟨l1,l2,l3,l4⟩:=Ko (g:=gl.g) OI;have hDb:D<2 ^ 40:=by
     have h1:=sP.2;rw[Y1] at h1;have h2:=As (l:=a::tl);simp only[E.args] at h1;omega
    refine zi ?_;simp only[BA,Nat.reduceEqDiff,ak,aq,ah,za,bD,Nat.reduceLT,bw,he.e9,hlen,nO,o5,C3,l2,l3,zZ,zhK,wO];rcases eM D (a::tl).length with hD|hD
    ·refine .inr ⟨by simp;simp only[aX] at hD;omega,?_⟩
     obtain⟨c,Bm⟩:∃c,(a::tl)[D]?=some c:=⟨_,gj hD⟩;obtain⟨uR,Dt,hm3⟩:=Y9 c Bm;have rq:c∈a::tl:=nB Bm;have hwc:=zjL rq;have om:∀u w,qL prog .add 3 u w (some (.int .i64 (D:Int))) (some (.int .i64 1))=some (.int .i64 ((D+1:Nat):Int)):=λu w=>z6 (by omega)
     obtain⟨H6,Mz,Rd,Kq⟩:=Rb.F3 hg (show 1<=n by omega) (.mk op pl s0 s1 s2 s3 tx mn mx nl (a::tl),D+1) QN
     have MC:=Kq _ _ _ (by omega) (by omega) (by omega) OI
     have hq6:=Kq _ _ _ (by omega) (by omega) (by omega) Rc
     obtain⟨H7,Kr,Re,MA⟩:=Rd.F3 hg (show 1<=n by omega) (c,0) (by simp only[aX];omega)
     have Y8:=MA _ _ _ (by omega) (by omega) (by omega) hq6
     refine zi ?_;simp only[BA,Nat.reduceEqDiff,ak,aj,aq,ah,za,bD,Nat.reduceLT,bw,he.e9,hlen,nO,o5,l4,l3,om];rw[zp8 (e:=.mk op pl s0 s1 s2 s3 tx mn mx nl (a::tl)) (d:=D+1) (by simp[ak,za,hlen,aV]) (by simp[ak,za,hlen,aV])]
     simp only[BA,Nat.reduceEqDiff,av,ak,aq,aA,za,bD,Nat.reduceLT,bw,he.e7,hlen,Mz];obtain⟨m1',m2',m3',m4'⟩:=Ko (g:=gl.g) MC;refine zi ?_
     simp only[BA,Nat.reduceEqDiff,ak,aq,ah,aE,za,bD,Nat.reduceLT,bw,he.e9,hlen,nO,o5,C3,m2',m3',zZ,Y0 Bm,UH];rw[zpn (e:=c) (by simp[ak,za,hlen,aV])]
     simp only[BA,Nat.reduceEqDiff,av,ak,aq,aA,za,bD,Nat.reduceLT,bw,he.e7,hlen,Kr];simp only[qm,zD,zq,aN,qD,lK,aF]
     refine⟨_,hJ _ hm3,_,_,_,H7,_,rfl,rfl,⟨by simp[hlen],by simp[za,he.e0],by simp[za,he.e2],by simp[za,he.e6],by simp[za,he.e7],by simp[za,he.e8]⟩,Re,uR,I9,BD,λf hf=>?_,Dt,⟨_,Y8⟩⟩
     rcases dG.1 hf with rfl|hf
     ·refine⟨ec _,?_⟩;have h1:=sP.2;rw[Y1] at h1;simp only[E.args] at h1 ⊢;omega
     ·rcases dG.1 hf with rfl|hf
      ·exact⟨hD,sP.2⟩
      ·exact hi.wf f (dU _ hf)
    ·obtain rfl:D=(a::tl).length:=by omega
     refine .inl ⟨by simp,?_⟩
     obtain⟨p,ps3,rfl,I_,MD⟩:=V1 rfl;refine zi ?_;simp only[BA,Nat.reduceEqDiff,ak,aj,aq,ah,za,bD,Nat.reduceLT,bw,he.e9,hlen,nO,CY,l1,wO]
     by_cases h7:op=7
     ·refine .inl ⟨by simp[h7],?_⟩
      rw[xb,if_pos h7] at I_;have hpp:=I9 p (eK ..);have hp3:ps3.length<2 ^ 32:=by simp only[aX] at MD;omega
      obtain⟨H6,Mz,Rd,Kq⟩:=Rb.I7 hg (show 1<=n by omega) hp3
      obtain⟨H7,Kr,Re,MA⟩:=Rd.F4 hg (show 1302<=n by omega) (op:=op) (pl:=pl) (s0:=s0) (s1:=s1) (s2:=s2) (s3:=s3) (mn:=mn) (mx:=mx) (text:=tx) (nl:=nl) (args:=a::tl) hpp.2
      rw[qB] at Kr;obtain⟨H8,Y_,hw8,hk8⟩:=Re.DB hg (show 1<=n by omega) (xS mn mx p m2.next).1 hp3
      have MC:=Kq _ _ _ (by omega) (by omega) (by omega) OI
      have UK:=MA _ _ _ (by omega) (by omega) (by omega) MC
      have hf8:=hk8 _ _ _ (by omega) (by omega) (by omega) UK
      have hq8:=hk8 _ _ _ (by omega) (by omega) (by omega) (MA _ _ _ (by omega) (by omega) (by omega) (Kq _ _ _ (by omega) (by omega) (by omega) Rc))
      refine Ub [2] [(false,false),(false,false),(true,false),(false,true),(false,true),(false,true)] (tk:=[]) (by kernel_rfl) (by kernel_rfl) ?_
      simp only[BA,Nat.reduceEqDiff,av,ak,aq,ah,aA,au,za,bD,Nat.reduceLT,bw,sD,An,Uc,Ud,Ue,Uf,he.e0,he.e9,he.e8,hlen,nO,l4,Mz,Kr,Y_,BB,List.all_nil]
      refine⟨vC (p:=.ptr L 0) (by simp[ak,za,hlen,aV]) (Ko MC).2.2.2 rfl,vC (p:=.ptr L 0) (by simp[ak,za,hlen,aV]) (Ko UK).2.2.2 rfl,vC (p:=.ptr L 0) (by simp[ak,za,hlen,aV]) (Ko hf8).2.2.2 rfl,?_⟩
      simp only[qm,zN,zD,zq,aN,lK,gX,aF,fR,bw]
      have Rf:(xS mn mx p m2.next).2.length=m2.next.length:=zhH
      refine⟨_,hJ _ (show wS S<_ by simp only[wS];have:=UE (.mk op pl s0 s1 s2 s3 tx mn mx nl (a::tl),(a::tl).length);omega),S,_,_,H8,_,rfl,rfl,⟨by simp[hlen],by simp[za,he.e0],by simp[za,he.e2],by simp[za,he.e6],by simp[za,he.e7],by simp[za,he.e8]⟩,hw8,I_,λy hy=>?_,⟨BD.r,by rw[Rf];exact BD.n⟩,λf hf=>hi.wf f (dU _ hf),MD,⟨_,hq8⟩⟩
      rw[Rf];rcases dG.1 hy with rfl|hy
      ·exact zok hpp
      ·exact I9 y (dU _ hy)
     ·refine .inr ⟨by simp[h7],?_⟩
      simp only[qm,zN,zD,zq,aN,lK,gX,aF,fR,bw]
      rw[xb,if_neg h7] at I_;refine⟨_,hJ _ (show wS S<_ by simp only[wS];have:=UE (.mk op pl s0 s1 s2 s3 tx mn mx nl (a::tl),(a::tl).length);omega),S,_,_,H5,_,rfl,rfl,⟨by simp[hlen],by simp[za,he.e0],by simp[za,he.e2],by simp[za,he.e6],by simp[za,he.e7],by simp[za,he.e8]⟩,Rb,I_,I9,BD,λf hf=>hi.wf f (dU _ hf),MD,⟨_,Rc⟩⟩
end
section
variable{gl:Gl}
abbrev Cr:=E×Bool×E
def iR(c:Cr):aD:=aK c.1++[.bool c.2.1]++aK c.2.2
def Cf(c:Cr):V:=.agg (iR c)
def zX(nl:Bool)(l:List Cr):V:=if nl && l.isEmpty then .aG else .sl 21 (l.map Cf) .no
def ff(c:Cr):E:=if c.2.1 then .mk 5 0 0 0 0 0 [] 0 0 false [c.1,c.2.2] else c.1
def jS(n r:Nat)(e:E)(m:Mk):bM×Mk :=
 (jg (if (iQ r e m).1.null then jC (iQ r e m).1.first (jP cO (n+r)) else (iQ r e m).1.first) 19,
  {(iQ r e m).2 with next:=mL (jP cO (n+r)) (jg (iQ r e m).1.last 19) (iQ r e m).2.next })
theorem Za{n r:Nat}{e:E}{m:Mk}:(jS n r e m).2.sets=(iQ r e m).2.sets:=by simp only[jS]
def qt(n:Nat):Nat->List E->Mk->List bM×Mk
 | _,[],m=>([],m)
 | r,e::es,m=>((jS n r e m).1::(qt n (r+1) es (jS n r e m).2).1,(qt n (r+1) es (jS n r e m).2).2)
def m0:Mk:=⟨[],[],[]⟩
theorem zcY{n:Nat}:∀{r:Nat}{es:List E}{m:Mk},m.sets.length<=(qt n r es m).2.sets.length
 | _,[],_=>dA _
 | r,e::es,m=>by
  simp only[qt];refine cN ?_ (zcY (m:=(jS n r e m).2));rw[Za];exact s8 e m
def F9(k:Nat):V:=.int .i64 (k:Int)
def jH(l:bM):V:=aV (zl 1 3 (l.map F9))
theorem w7(c:Cr):(iR c).length=21:=by simp[iR,z0]
theorem yf(c:Cr):(iR c).map aV=iR c:=by simp[iR,qk,qQ]
theorem Zb(c:Cr):aI (iR c)=0:=gC (gC (vX _) rfl) (vX _)
theorem zjM(c:Cr):(iR c).all (λc=>!(locked c))=true:=by simp only[iR,List.all_append,YO];rfl
theorem qZ{nl:Bool}{l:List Cr}:aV (zX nl l)=zX nl l:=by unfold zX;split<;>rfl
theorem Zc:prog.underlying 24=some (.slice 55):=by kernel_rfl
theorem Ja:z4 prog 55=some 21:=by kernel_rfl
theorem Zd:qz prog 55=some true:=by kernel_rfl
theorem yu{H:Hp}{nl:Bool}{l:List Cr}:qX prog H 24 (zX nl l)=some (l.length:Int):=by
 unfold zX;split
 ·rename_i h;have:l=[]:=by simp at h;exact h.2
  subst this;simp[qX]
 ·simp[qX]
theorem Ze{nl:Bool}{l:List Cr}{k:Nat}{c:Cr}(h:l[k]?=some c):zp prog 24 (zX nl l) (k:Int)=some (.vp (iR c)):=by
 have cH:zX nl l=.sl 21 (l.map Cf) .no:=by
  unfold zX;rw[if_neg];intro h';have:l=[]:=by simp at h';exact h'.2
  rw[this] at h;simp at h
 have hn:nth (l.map Cf) k=some (Cf c):=by rw[zg,iX,h];rfl
 have hk:¬((k:Int)<0):=by omega
 simp[cH,zp,Ja,hk,hn,Cf,V.cells]
theorem zjN{H:Hp}{g:Nat->Nat->b_}{c:Cr}:zk prog H g 55 (.vp (iR c))=some (.agg (iR c)):=by
 have:(iR c).take 21=iR c:=r9 (by rw[w7];decide)
 simp[zk,qu,Zd,Ja,Oe,w7,this]
theorem xu{P:aQ}{n:Nat}{f:FuncId}{args:aD}{v:V}{H:Hp}(h:gl.hk f args=some v):zj P gl (n+1) f args H=some (.ret v,H):=by
 obtain⟨b,e⟩:=H;simp only[zj,h]
def zF:aD:=[.aG,.aG,.aG,.aG]
theorem Zf:qP prog 30=some (.agg zF):=by kernel_rfl
theorem zpo{env:aD}:ky prog 30 #[] env=some (.agg zF):=by kernel_rfl
theorem zqS{env:aD}:ky prog 113 #[] env=some (.agg [.aG,.aG,.aG]):=by kernel_rfl
theorem z47:qP prog 55=some (.agg (iR (.mk 0 0 0 0 0 0 [] 0 0 true [],false,.mk 0 0 0 0 0 0 [] 0 0 true []))):=by kernel_rfl
theorem Zg:qP prog 53=some (.agg (aK (.mk 0 0 0 0 0 0 [] 0 0 true []))):=by kernel_rfl
theorem z60:qP prog 115=some (.agg (pv 19 cO)):=by kernel_rfl
theorem F_:z4 prog 30=some 4:=by kernel_rfl
theorem ME:qz prog 30=some true:=by kernel_rfl
theorem Jb:qz prog 37=some false:=by kernel_rfl
theorem zkT(hg:GW gl){n:Nat}(hn:1<=n){nl:Bool}{l:List Cr}{k:Int}{ok:Bool}{e0 e1:V}(hm:gl.hk 54 [zX nl l]=some (.br [.int .i64 k,.bool ok]))(h0:gl.g 0 0=some e0)(h1:gl.g 1 0=some e1)(N1:e0.top=0)(Pw:e1.top=0)
  (sV:∃t v,e0=.dF t v) (nu:∃t v,e1=.dF t v) (iG:ok=false\/1000<k):zj prog gl (n+1) 14 [zX nl l] ⟨[],[]⟩=some (.ret (.br [.agg zF,if ok then e1 else e0]),⟨[],[]⟩):=by
 have dj:Cx.bB ⟨prog,gl.g,zj prog gl n,fu⟩ 54 [zX nl l] ⟨[.cells zF 30],[]⟩=some (.val (.br [.int .i64 k,.bool ok]),⟨[.cells zF 30],[]⟩):=by
  have:=xu (P:=prog) (n:=n - 1) (H:=⟨[.cells zF 30],[]⟩) hm;rw[show n - 1+1=n by omega] at this
  exact zu func54 rfl this
 suffices bL:(go ⟨prog,gl,zj prog gl n,fu⟩ n (Fx prog f14.results.toList λw H1=>w=.br [.agg zF,if ok then e1 else e0]/\H1=⟨[.cells zF 30],[]⟩) [.c (f14.body.getD .skip)] .normal ⟨[zX nl l]++List.replicate 109 (.br []),⟨[],[]⟩,[],[]⟩) by
  obtain⟨w,H1,h0,rfl,rfl⟩:=zQ (gl:=gl) (f:=14) (bs:=[]) (es:=[]) (args:=[zX nl l]) (n:=n) (hg.hk _ _ (by decide)) (λH=>hg.fA _ _ _ _) func14 rfl (by rw[hg.uq];exact bL)
  rw[h0];have:(V.br [.agg zF,if ok then e1 else e0]).top=0:=by
   cases ok<;>simp[V.top,aI,zF,N1,Pw]
  rw[this];rfl
 have hz:dz (V.agg zF)=true:=rfl;simp only[f14,fS,zh];refine zi ?_;simp only[BA,aj,aq,zc,bS,bT,Zf,zJ hz,V.cells,List.replicate];refine zi ?_
 simp only[BA,av,ak,aq,aA,zd,ze,bS,bT,qZ,dj,kY,dZ];refine zi ?_;simp only[BA,ak,aq,zd,ze,bS,bT,iH]
 have eZ:∀env,qr prog 30 ⟨[.cells zF 30],[]⟩ [] [] (some (.agg zF,env)) (some (.ptr 0 0))=some (.skip,⟨env,⟨[.cells zF 30],[]⟩,[],[]⟩):=λenv=>by
  rw[zy (cs:=zF) (ty:=30) F_ rfl rfl rfl (by decide) rfl]
  rfl
 have EO:∀g,zk prog ⟨[.cells zF 30],[]⟩ g 30 (.ptr 0 0)=some (.agg zF):=λg=>by
  rw[jc (cs:=zF) (ty:=30) ME F_ rfl (by decide)]
  rfl
 cases ok with
 | false =>
  refine .inl ⟨rfl,?_⟩;refine Ub [1] [(false,false),(true,false),(false,true),(false,false)] (tk:=[]) (by kernel_rfl) (by kernel_rfl) ?_
  have hl:∀H,zk prog H gl.g 37 (.eT 0 0)=some e0:=λH=>by simp[zk,Jb,h0]
  obtain⟨t,v,rfl⟩:=sV;simp only[BA,ak,aq,au,zd,ze,bS,bT,sD,An,Uc,XK,Ue,Uf,Jb,zpo,hl,zjr,zeZ,eZ];refine⟨λ_=>vC (p:=.eT 0 0) rfl (hl _) rfl,?_⟩;simp only[go_ret,zq,wh,Fx]
  refine⟨trivial,[.agg zF,.dF t v],?_,by simp[iY,aV],trivial⟩
  simp only[zx,zd,ze,EO];rfl
 | true =>
  have hk:1000<k:=by rcases iG with h|h;cases h;exact h
  refine .inr ⟨rfl,?_⟩;refine zi ?_;simp only[BA,ak,aj,aq,zd,ze,bS,bT,w6];refine .inl ⟨by simpa using hk,?_⟩
  refine Ub [1] [(false,false),(true,false),(false,true),(false,false)] (tk:=[]) (by kernel_rfl) (by kernel_rfl) ?_
  have hl:∀H,zk prog H gl.g 37 (.eT 1 0)=some e1:=λH=>by simp[zk,Jb,h1]
  obtain⟨t,v,rfl⟩:=nu;simp only[BA,ak,aq,au,zd,ze,bS,bT,sD,An,Uc,XK,Ue,Uf,Jb,zpo,hl,zjr,zeZ,eZ];refine⟨λ_=>vC (p:=.eT 1 0) rfl (hl _) rfl,?_⟩;simp only[go_ret,zq,wh,Fx]
  refine⟨trivial,[.agg zF,.dF t v],?_,by simp[iY,aV],trivial⟩
  simp only[zx,zd,ze,EO];rfl
end
section
open Go.Vm.Sx
variable{gl:Gl}
def Kt(e:E):Bool:=(cM e 1 0 0).1
def vw(e:E):Int:=bif (cM e 1 0 0).1 then (bif cJ 1001 (cM e 1 0 0).2.2 then 1001 else (cM e 1 0 0).2.2) else 0
def mM:E->Bool
 | .mk op pl s0 s1 s2 s3 text mn mx _ args=>(((((((op == 0) && (pl == 0)) && (s0 == 0 && (s1 == 0 && (s2 == 0 && s3 == 0)))) && n6 text []) && (mn == 0)) && (mx == 0)) && ((args.length:Int) == 0))
theorem zfb(nl:Bool)(l:List Cr):zX nl l=lv 21 nl (l.map Cf):=by cases l<;>cases nl<;>rfl
theorem zhM(nl:Bool)(l:List Cr):vL (zX nl l)=l.map Cf:=by rw[zfb];exact zqM ..
theorem zqa(c:Cr):(Cf c).top=0:=Zb c
theorem zfc(nl:Bool)(l:List Cr):(zX nl l).top=0:=by
 rw[zfb,Kd];exact wy zqa _
def MF(c:Cr):Prop:=Wf c.1/\Wf c.2.2
def C4(c:Cr):Bool:=Kt c.1 && (bif c.2.1 then Kt c.2.2 else mM c.2.2)
def Ga(p:Int)(c:Cr):Int:=bif cJ 1001 (IntKind.i64.wrap (IntKind.i64.wrap (p+vw c.1)+vw c.2.2)) then 1001 else IntKind.i64.wrap (IntKind.i64.wrap (p+vw c.1)+vw c.2.2)
def nt:Int->List Cr->Int×Bool
 | p,[]=>(p,true)
 | p,c::l=>bif C4 c then nt (Ga p c) l else (0,false)
def yP(l:List Cr):Int×Bool:=bif cJ 200 (l.length:Int) then (0,false) else nt 0 l
def fh:Int->List Cr->Int
 | n,[]=>n
 | n,c::l=>fh (IntKind.i64.wrap (IntKind.i64.wrap (n+ey c.1 0)+ey c.2.2 0)) l
end
section
open Go.Vm.Sx
variable{gl:Gl}
def nv(l:List Int):V:=lv 1 true (l.map (.int .i64))
def Hv(l:List (List Int)):V:=lv 1 true (l.map nv)
def UM(l:List (Int×Int×Int×Int)):V:=lv 4 true (l.map YC)
structure Fo where
 s:List (Int×Int×Int×Int)
 r:List Int
 f:List (List Int)
 n:List (List Int)
def Rg(F:Fo):aD:=[UM F.s,nv F.r,Hv F.f,Hv F.n]
def UN(F:Fo):V:=.agg (Rg F)
theorem zmz(l:List Int):(nv l).top=0:=by unfold nv;rw[Kd];exact wy (λ_=>rfl) _
theorem zop(l:List (List Int)):(Hv l).top=0:=by unfold Hv;rw[Kd];exact wy zmz _
theorem zoq(l:List (Int×Int×Int×Int)):(UM l).top=0:=by unfold UM;rw[Kd];exact wy (λ_=>rfl) _
end
section
open Go.Vm.Sx
mutual
def nodes:E->Nat
 | .mk _ _ _ _ _ _ _ _ _ _ args=>1+eR args
def eR:List E->Nat
 | []=>0
 | a::l=>nodes a+eR l
end
mutual
def lG:E->Nat
 | .mk op _ _ _ _ _ _ _ _ _ args=>(if op == 2 then 1 else 0)+iK args
def iK:List E->Nat
 | []=>0
 | a::l=>lG a+iK l
end
mutual
def Ak:E->Int->Bool
 | .mk op pl s0 s1 s2 s3 text mn mx nl args,d=>decide (d<=4096) && (lz (.mk op pl s0 s1 s2 s3 text mn mx nl args) && (fX (.mk op pl s0 s1 s2 s3 text mn mx nl args) && rW args (d+1)))
def rW:List E->Int->Bool
 | [],_=>true
 | a::l,d=>Ak a d && rW l d
end
mutual
theorem sE:∀e,lG e<=nodes e
 | .mk op _ _ _ _ _ _ _ _ _ args=>by
  have:=BE args;simp only[lG,nodes];split<;>omega
theorem BE:∀l,iK l<=eR l
 | []=>by simp[iK]
 | a::l=>by have:=sE a;have:=BE l;simp only[iK,eR];omega
end
def Bd(d:Int):Int:=1048576 * (5003 - d)
mutual
theorem sF:∀(e:E)(d:Int),Wf e->0<=d->d<=5001->1<=ey e d/\ey e d<=Bd d
 | .mk _ _ _ _ _ _ _ _ _ _ args,d,hw,h0,h1=>by
  simp only[ey];cases hd:cJ 5000 d with
  | true=>simp only[aF,Bd];omega
  | false =>
   have G6:d<=5000:=by
    rcases Int.lt_or_le 5000 d with h|h
    ·rw[Kb h] at hd;cases hd
    ·exact h
   simp only[fR,bw];rw[EU (x:=d+1) (by omega) (by omega)]
   have:=s_ args (d+1) 1 hw.2.2 (by omega) (by omega) (by omega) (by simp only[Bd];omega)
   refine⟨by omega,?_⟩
   have:=this.2;simp only[Bd] at this ⊢;omega
theorem s_:∀(l:List E)(d n:Int),IV l->0<=d->d<=5001->1<=n->n<=Bd (d - 1)->n<=lC d n l/\lC d n l<=Bd (d - 1)
 | [],d,n,_,h0,h1,hn,hb=>by simp only[lC];omega
 | a::l,d,n,hw,h0,h1,hn,hb=>by
  obtain⟨a1,a2⟩:=sF a d hw.1 h0 h1;simp only[lC];cases hc:cJ n 1048576 with
  | false=>simp only[fR,bw];omega
  | true =>
   have ei:=FJ.1 hc;simp only[aF];simp only[Bd] at a2 hb;rw[EU (by omega) (by omega)]
   have:=s_ l d (n+ey a d) hw.2 h0 h1 (by omega) (by simp only[Bd];omega)
   exact⟨by omega,this.2⟩
end
mutual
theorem o6:∀(e:E)(d:Int),Wf e->0<=d->d<=5001->ey e d<=20000->(nodes e:Int)<=ey e d
 | .mk _ _ _ _ _ _ _ _ _ _ args,d,hw,h0,h1,hs=>by
  simp only[ey] at hs ⊢;cases hd:cJ 5000 d with
  | true=>rw[hd] at hs;simp only[aF] at hs;omega
  | false =>
   rw[hd] at hs;have G6:d<=5000:=by
    rcases Int.lt_or_le 5000 d with h|h
    ·rw[Kb h] at hd;cases hd
    ·exact h
   simp only[fR,bw] at hs ⊢;rw[EU (x:=d+1) (by omega) (by omega)] at hs ⊢
   have g1:=rX args (d+1) 1 hw.2.2 (by omega) (by omega) (by omega) (by simp only[Bd];omega) hs
   simp only[nodes];omega
theorem rX:∀(l:List E)(d n:Int),IV l->0<=d->d<=5001->1<=n->n<=Bd (d - 1)->lC d n l<=20000->n+(eR l:Int)<=lC d n l
 | [],d,n,hw,h0,h1,hn,hb,hs=>by simp only[lC,eR] at hs ⊢;omega
 | a::l,d,n,hw,h0,h1,hn,hb,hs=>by
  obtain⟨a1,a2⟩:=sF a d hw.1 h0 h1;simp only[lC] at hs ⊢;cases hc:cJ n 1048576 with
  | false =>
   rw[hc] at hs;simp only[fR,bw] at hs;rw[Kb (by omega)] at hc;cases hc
  | true =>
   have ei:=FJ.1 hc;rw[hc] at hs;simp only[aF] at hs ⊢;simp only[Bd] at a2 hb;rw[EU (by omega) (by omega)] at hs ⊢
   have cY:n+ey a d<=Bd (d - 1):=by simp only[Bd];omega
   have:=(s_ l d (n+ey a d) hw.2 h0 h1 (by omega) cY).1
   have g1:=rX l d (n+ey a d) hw.2 h0 h1 (by omega) cY hs
   have f1:=o6 a d hw.1 h0 h1 (by omega)
   simp only[eR];omega
end
mutual
theorem o7:∀(e:E)(d n s:Int),0<=d->d<=4097->0<=n->n+(nodes e:Int)<=65536->0<=s->s+(nodes e:Int)<=65536->(cM e d n s).1=Ak e d/\(Ak e d=true->(cM e d n s).2.1=n+nodes e/\(cM e d n s).2.2=s+lG e)
 | .mk op pl s0 s1 s2 s3 text mn mx nl args,d,n,s,h0,h1,h2,h3,h4,h5=>by
  simp only[nodes] at h3 h5;simp only[cM,Ak];rw[EU (x:=n+1) (by omega) (by omega),X0 (x:=65536) (by omega),uM]
  cases hd:cJ 4096 d with
  | true =>
   have:=FJ.1 hd;simp only[aF];rw[decide_eq_false (by omega)]
   simp
  | false =>
   have G6:d<=4096:=by
    rcases Int.lt_or_le 4096 d with h|h
    ·rw[Kb h] at hd;cases hd
    ·exact h
   rw[decide_eq_true G6,tP];simp only[fR,bw];cases hl:lz (.mk op pl s0 s1 s2 s3 text mn mx nl args) with
   | false=>simp
   | true =>
   cases hk:fX (.mk op pl s0 s1 s2 s3 text mn mx nl args) with
   | false=>simp
   | true =>
   simp only[aF,tP];rw[EU (x:=d+1) (by omega) (by omega),EU (x:=s+1) (by omega) (by omega)]
   cases ho:op == 2 with
   | true =>
    simp only[aF];obtain⟨g1,g2⟩:=nP args (d+1) (n+1) (s+1) (by omega) (by omega) (by omega) (by omega) (by omega) (by omega)
    refine⟨g1,λhg=>?_⟩;obtain⟨g3,g4⟩:=g2 hg;rw[g3,g4];simp only[nodes,lG,ho,aF];omega
   | false =>
    simp only[fR,bw];obtain⟨g1,g2⟩:=nP args (d+1) (n+1) s (by omega) (by omega) (by omega) (by omega) (by omega) (by omega)
    refine⟨g1,λhg=>?_⟩;obtain⟨g3,g4⟩:=g2 hg;rw[g3,g4];simp only[nodes,lG,ho,fR,bw];omega
theorem nP:∀(l:List E)(d n s:Int),0<=d->d<=4097->0<=n->n+(eR l:Int)<=65536->0<=s->s+(eR l:Int)<=65536->(iF d l n s).1=rW l d/\(rW l d=true->(iF d l n s).2.1=n+eR l/\(iF d l n s).2.2=s+iK l)
 | [],d,n,s,_,_,_,_,_,_=>by simp[iF,rW,eR,iK]
 | a::l,d,n,s,h0,h1,h2,h3,h4,h5=>by
  simp only[eR] at h3 h5;obtain⟨g1,g2⟩:=o7 a d n s h0 h1 h2 (by omega) h4 (by omega)
  simp only[iF,rW];cases hg:Ak a d with
  | false =>
   rw[hg] at g1;simp[g1]
  | true =>
   rw[hg] at g1;obtain⟨g3,g4⟩:=g2 hg;have:=sE a;simp only[g1,aF,tP,g3,g4];obtain⟨f1,f2⟩:=nP l d (n+nodes a) (s+lG a) h0 h1 (by omega) (by omega) (by omega) (by omega)
   refine⟨f1,λhh=>?_⟩;obtain⟨f3,f4⟩:=f2 hh;rw[f3,f4];simp only[eR,iK];omega
end
mutual
def gd:E->Bool
 | .mk op pl s0 s1 s2 s3 text mn mx nl args=>lz (.mk op pl s0 s1 s2 s3 text mn mx nl args) && (fX (.mk op pl s0 s1 s2 s3 text mn mx nl args) && Ku args)
def Ku:List E->Bool
 | []=>true
 | a::l=>gd a && Ku l
end
mutual
theorem At:∀(e:E)(d:Int),d+nodes e<=4097->Ak e d=gd e
 | .mk op pl s0 s1 s2 s3 text mn mx nl args,d,h=>by
  simp only[nodes] at h;simp only[Ak,gd];rw[decide_eq_true (by omega),tP,BF args (d+1) (by omega)]
theorem BF:∀(l:List E)(d:Int),d+eR l<=4097->rW l d=Ku l
 | [],_,_=>rfl
 | a::l,d,h=>by
  simp only[eR] at h;simp only[rW,Ku];rw[At a d (by omega),BF l d (by omega)]
end
theorem zmA{e:E}(h:nodes e<=4000):Kt e=gd e:=by
 obtain⟨h1,_⟩:=o7 e 1 0 0 (by omega) (by omega) (by omega) (by omega) (by omega) (by omega)
 rw[Kt,h1,At e 1 (by omega)]
theorem UO{e:E}(h:nodes e<=4000):vw e=if gd e then (if 1001<(lG e:Int) then 1001 else (lG e:Int)) else 0:=by
 obtain⟨h1,h2⟩:=o7 e 1 0 0 (by omega) (by omega) (by omega) (by omega) (by omega) (by omega)
 have hg:=At e 1 (by omega)
 rw[vw,h1,hg];cases h3:gd e with
 | false=>rfl
 | true =>
  rw[(h2 (by rw[hg,h3])).2]
  simp only[mS,aF,Int.zero_add]
  by_cases h4:1001<(lG e:Int)
  ·rw[if_pos h4,Kb h4];rfl
  ·rw[if_neg h4,X0 (by omega)];rfl
theorem zmB{e:E}(h:mM e=true):gd e=false:=by
 obtain⟨op,pl,s0,s1,s2,s3,text,mn,mx,nl,args⟩:=e;simp only[mM,d_,beq_iff_eq] at h;obtain⟨⟨⟨⟨⟨⟨rfl,_⟩,_⟩,_⟩,_⟩,_⟩,_⟩:=h;simp[gd,fX]
theorem rY:∀(l:List Cr)(n:Int),(∀c∈l,MF c)->0<=n->n+11000000000 * (l.length:Int)<=9000000000000000000->fh n l<=800->n<=fh n l/\∀c∈l,nodes c.1<=800/\nodes c.2.2<=800
 | [],n,_,_,_,h=>by simp only[fh] at h ⊢;exact⟨by omega,λc hc=>by cases hc⟩
 | c::l,n,hw,h0,hb,h=>by
  obtain⟨w1,w2⟩:=hw c (eK ..);obtain⟨a1,a2⟩:=sF c.1 0 w1 (by omega) (by omega)
  obtain⟨b1,b2⟩:=sF c.2.2 0 w2 (by omega) (by omega)
  simp only[Bd] at a2 b2;simp only[aX] at hb;simp only[fh] at h ⊢;rw[EU (x:=n+ey c.1 0) (by omega) (by omega),EU (by omega) (by omega)] at h ⊢
  obtain⟨g1,g2⟩:=rY l (n+ey c.1 0+ey c.2.2 0) (λc hc=>hw c (dU _ hc)) (by omega) (by push_cast at hb ⊢;omega) h
  have f1:=o6 c.1 0 w1 (by omega) (by omega) (by omega)
  have f2:=o6 c.2.2 0 w2 (by omega) (by omega) (by omega)
  refine⟨by omega,λc' hc=>?_⟩
  rcases dG.1 hc with rfl|hc
  ·exact⟨by omega,by omega⟩
  ·exact g2 c' hc
end
section
open Go.Vm.Sx
def Es(ns:List (Nat->Bool))(x:Nat):Nat->Bool:=ns.getD x cO
theorem zor{ns:List (Nat->Bool)}{k x:Nat}{p:Nat->Bool}(hx:x<ns.length):Es (ns.set k p) x=if k=x then p else Es ns x:=by
 unfold Es;rw[K1,K1,tL]
 by_cases h:k=x
 ·subst h;simp[hx]
 ·simp[h]
theorem Zh{q:Nat->Bool}{x:Nat}:∀{ks:bM}{ns:List (Nat->Bool)},x<ns.length->∀y,Es (mL q ks ns) x y=(Es ns x y || (decide (x∈ks) && q y))
 | [],ns,_,y=>by simp[mL]
 | k::ks,ns,hx,y=>by
  rw[mL,Zh (by rw[bD];exact hx),zor hx]
  by_cases h:k=x
  ·subst h;simp only[aF,jC,dG,true_or,decide_true,tP];show(Es ns k y || q y || (decide (k∈ks) && q y))=(Es ns k y || q y)
   cases Es ns k y<;>cases q y<;>simp
  ·have:decide (x∈k::ks)=decide (x∈ks):=by simp[Ne.symm h]
   rw[if_neg h,this]
def Kv(ns:List (Nat->Bool))(x:Nat):Prop:=∃y,y<1216/\Es ns x y=true
structure lV(ns ns':List (Nat->Bool)):Prop where
 len:ns.length<=ns'.length
 row:∀x,x<ns.length->∀y,Es ns x y=true->Es ns' x y=true
theorem lV.refl{ns:List (Nat->Bool)}:lV ns ns:=⟨dA _,λ_ _ _ h=>h⟩
theorem lV.trans{a b c:List (Nat->Bool)}(h:lV a b)(k:lV b c):lV a c:=⟨cN h.len k.len,λx hx y hy=>k.row x (uc hx h.len) y (h.row x hx y hy)⟩
theorem lV.BG{a b:List (Nat->Bool)}(h:lV a b){x:Nat}(hx:x<a.length)(hr:Kv a x):Kv b x:=by
 obtain⟨y,h1,h2⟩:=hr;exact⟨y,h1,h.row x hx y h2⟩
theorem lH{q:Nat->Bool}{ks:bM}{ns:List (Nat->Bool)}:lV ns (mL q ks ns):=⟨by rw[wx];exact dA _,λx hx y hy=>by rw[Zh hx,hy];rfl⟩
theorem zmC{ns:List (Nat->Bool)}{p:Nat->Bool}:lV ns (ns++[p]):=⟨by simp,λx hx y hy=>by
 unfold Es at hy ⊢;rw[K1] at hy ⊢
 rw[gb hx];exact hy⟩
structure Inv(n0:Nat)(P:Part)(ns:List (Nat->Bool)):Prop where
 nn:P.null=true\/∃y,y<1216/\P.first y=true
 lv:∀x,n0<=x->x<ns.length->P.last x=true\/Kv ns x
theorem zhO{q:Nat->Bool}{p:Nat->Bool}{ns:List (Nat->Bool)}{x:Nat}(hx:x<ns.length)(LY:x<1216)(hp:p x=true)(hq:∃y,y<1216/\q y=true):Kv (mL q (jg p 19) ns) x:=by
 obtain⟨y,h1,h2⟩:=hq;refine⟨y,h1,?_⟩;rw[Zh hx,h2];have:x∈jg p 19:=ir.2 ⟨by omega,hp⟩
 simp[this]
theorem zhP{op:Int}{k:Nat}{a b:Part}{ns:List (Nat->Bool)}:lV ns (zP op k a b ns).2:=by
 unfold zP;split
 ·exact lV.refl
 ·split
  ·exact lV.refl
  ·simp only;exact lH
theorem ziC{op:Int}{k:Nat}{n0:Nat}{a b:Part}{Rh ns:List (Nat->Bool)}(hk:0<k)(ha:Inv n0 a Rh)(hb:Inv Rh.length b ns)(hg:lV Rh ns)(hl:ns.length<=1200):Inv n0 (zP op k a b ns).1 (zP op k a b ns).2:=by
 unfold zP;rw[if_neg (by omega)]
 split
 ·refine⟨?_,λx h0 hx=>?_⟩
  ·rcases ha.nn with h|⟨y,h1,h2⟩
   ·left;simp[h]
   ·right;exact⟨y,h1,by simp[jC,h2]⟩
  ·by_cases Dp:x<Rh.length
   ·rcases ha.lv x h0 Dp with h|h
    ·left;simp[jC,h]
    ·right;exact hg.BG Dp h
   ·rcases hb.lv x (by omega) hx with h|h
    ·left;simp[jC,h]
    ·right;exact h
 ·refine⟨?_,λx h0 hx=>?_⟩
  ·simp only;rcases ha.nn with h|⟨y,h1,h2⟩
   ·rcases hb.nn with h'|⟨y,h1,h2⟩
    ·left;simp[h,h']
    ·right;exact⟨y,h1,by simp[h,jC,h2]⟩
   ·right
    refine⟨y,h1,?_⟩;split
    ·simp[jC,h2]
    ·exact h2
  ·simp only[wx] at hx ⊢
   by_cases Dp:x<Rh.length
   ·rcases ha.lv x h0 Dp with h|h
    ·rcases hb.nn with h'|h'
     ·left;simp[h',jC,h]
     ·right;exact zhO hx (by omega) h h'
    ·right;exact lH.BG hx (hg.BG Dp h)
   ·rcases hb.lv x (by omega) hx with h|h
    ·left
     split
     ·simp[jC,h]
     ·exact h
    ·right;exact lH.BG hx h
variable{r:Int}
theorem zmD{op:Int}{q:Int×Int×Int×Int}{m:Mk}(ej:m.Ok)(aC:op=1\/op=2)(hl:m.sets.length<=1200):Inv m.next.length (jL op q r m).1 (jL op q r m).2.next/\lV m.next (jL op q r m).2.next/\(jL op q r m).2.sets.length=m.sets.length+(if op == 2 then 1 else 0)/\(jL op q r m).2.Ok:=by
 refine⟨?_,?_,?_,(zhJ ej).1⟩
 ·unfold jL;split
  ·exact⟨.inl rfl,λx h0 hx=>by simp only at hx;omega⟩
  ·refine⟨.inr ⟨m.sets.length,by omega,by simp[jP,cO]⟩,λx h0 hx=>.inl ?_⟩
   simp only[aU,JI] at hx;have:x=m.sets.length:=by rw[<- ej.n];omega
   simp[jP,cO,this]
 ·unfold jL;split
  ·exact lV.refl
  ·exact zmC
 ·unfold jL;rcases aC with rfl|rfl
  ·simp
  ·simp
theorem zmE{op mn mx:Int}{n0:Nat}{x:Part×Mk}(h:Inv n0 x.1 x.2.next)(ej:x.2.Ok):Inv n0 (xb op mn mx x).1 (xb op mn mx x).2.next/\lV x.2.next (xb op mn mx x).2.next/\(xb op mn mx x).2.Ok:=by
 unfold xb;split
 ·unfold xS;simp only;split
  ·refine⟨⟨?_,λy h0 hy=>?_⟩,lH,⟨ej.r,by simp only[wx];exact ej.n⟩⟩
   ·rcases h.nn with h1|h1
    ·left;simp[h1]
    ·right;exact h1
   ·rw[wx] at hy;rcases h.lv y h0 hy with h1|h1
    ·left;exact h1
    ·right;exact lH.BG hy h1
  ·refine⟨⟨?_,h.lv⟩,lV.refl,⟨ej.r,ej.n⟩⟩;rcases h.nn with h1|h1
   ·left;simp[h1]
   ·right;exact h1
 ·exact⟨h,lV.refl,ej⟩
mutual
theorem DE:∀(e:E)(m:Mk),gd e=true->m.Ok->m.sets.length+lG e<=1200->Inv m.next.length (iQ r e m).1 (iQ r e m).2.next/\lV m.next (iQ r e m).2.next/\(iQ r e m).2.sets.length=m.sets.length+lG e/\(iQ r e m).2.Ok
 | .mk op pl s0 s1 s2 s3 tx mn mx nl [],m,hg,ej,hl=>by
  have aC:op=1\/op=2:=by
   simp only[gd,fX,d_] at hg
   by_cases h1:op=1
   ·exact .inl h1
   ·by_cases h2:op=2
    ·exact .inr h2
    ·have:=hg.2.1;simp[h1,h2] at this;exfalso;revert this;simp[cJ]
  obtain⟨g1,g2,g3,g4⟩:=zmD (op:=op) (q:=(s0,s1,s2,s3)) (r:=r) ej aC (by omega)
  simp only[iQ];refine⟨g1,g2,?_,g4⟩;rw[g3];simp only[lG,iK];rfl
 | .mk op pl s0 s1 s2 s3 tx mn mx nl (a::tl),m,hg,ej,hl=>by
  have aC:(op == 2)=false:=by
   simp only[gd,fX,d_] at hg;cases h2:op == 2 with
   | false=>rfl
   | true =>
    have:=hg.2.1;have e2:=beq_iff_eq.1 h2;subst e2;simp at this;omega
  have hgF:Ku (a::tl)=true:=by
   simp only[gd,d_] at hg;exact hg.2.2
  have oN:lG (.mk op pl s0 s1 s2 s3 tx mn mx nl (a::tl))=iK (a::tl):=by simp only[lG,aC,fR,bw,nY]
  rw[oN] at hl ⊢;obtain⟨g1,g2,g3,g4⟩:=DF (a::tl) op 0 p0 m m.next.length hgF ej (.inl ⟨rfl,rfl,by simp⟩) hl
  rw[zhI];obtain⟨f1,f2,f3⟩:=zmE (op:=op) (mn:=mn) (mx:=mx) g1 g4;exact⟨f1,g2.trans f2,by rw[YW];exact g3,f3⟩
theorem DF:∀(es:List E)(op:Int)(k:Nat)(a:Part)(m:Mk)(n0:Nat),Ku es=true->m.Ok->((k=0/\m.next.length=n0/\es≠[])\/(0<k/\Inv n0 a m.next))->m.sets.length+iK es<=1200 ->
  Inv n0 (s7 r op k a es m).1 (s7 r op k a es m).2.next/\lV m.next (s7 r op k a es m).2.next/\(s7 r op k a es m).2.sets.length=m.sets.length+iK es/\(s7 r op k a es m).2.Ok
 | [],op,k,a,m,n0,hg,ej,hi,hl=>by
  rw[zjK];rcases hi with⟨_,_,h⟩|⟨_,h⟩
  ·exact absurd rfl h
  ·exact⟨h,lV.refl,by simp[iK],ej⟩
 | e::es,op,k,a,m,n0,hg,ej,hi,hl=>by
  simp only[Ku,d_] at hg;simp only[iK] at hl;obtain⟨g1,g2,g3,g4⟩:=DE e m hg.1 ej (by omega)
  rw[YU];obtain⟨x,hx⟩:∃x,x=iQ r e m:=⟨_,rfl⟩;rw[<- hx] at g1 g2 g3 g4 ⊢;have AY:(zP op k a x.1 x.2.next).2.length=x.2.next.length:=YT
  have BD:Mk.Ok { x.2 with next:=(zP op k a x.1 x.2.next).2 }:=⟨g4.r,by simp only[AY];exact g4.n⟩
  have hinv:Inv n0 (zP op k a x.1 x.2.next).1 (zP op k a x.1 x.2.next).2:=by
   rcases hi with⟨rfl,h,_⟩|⟨hk,h⟩
   ·subst h;simpa[zP] using g1
   ·exact ziC hk h g1 g2 (by rw[g4.n];omega)
  obtain⟨f1,f2,f3,f4⟩:=DF es op (k+1) (zP op k a x.1 x.2.next).1 { x.2 with next:=(zP op k a x.1 x.2.next).2 } n0 hg.2 BD (.inr ⟨by omega,hinv⟩) (by simp only;omega)
  refine⟨f1,(g2.trans zhP).trans f2,?_,f4⟩;rw[f3];simp only[iK];omega
end
def mN:List E->Nat
 | []=>0
 | e::es=>lG e+mN es
theorem Zi{n:Nat}:∀(es:List E)(r:Nat)(m:Mk),(∀e∈es,gd e=true)->m.Ok->m.sets.length+mN es<=1200->n+r+es.length<=1216->(∀x,x<m.next.length->Kv m.next x) ->
  (qt n r es m).2.sets.length=m.sets.length+mN es/\(∀x,x<(qt n r es m).2.next.length->Kv (qt n r es m).2.next x)/\(qt n r es m).2.Ok
 | [],r,m,hg,ej,hl,hn,hr=>⟨by simp[qt,mN],hr,ej⟩
 | e::es,r,m,hg,ej,hl,hn,hr=>by
  simp only[mN] at hl;simp only[aX] at hn;obtain⟨g1,g2,g3,g4⟩:=DE (r:=r) e m (hg e (eK ..)) ej (by omega)
  have BD:(jS n r e m).2.Ok:=by
   simp only[jS];exact⟨g4.r,by simp only[wx];exact g4.n⟩
  have hs:(jS n r e m).2.sets.length=m.sets.length+lG e:=by rw[Za];exact g3
  have Gb:∀x,x<(jS n r e m).2.next.length->Kv (jS n r e m).2.next x:=λx hx=>by
   simp only[jS,wx] at hx ⊢;have Bj:∃y,y<1216/\jP cO (n+r) y=true:=⟨n+r,by omega,by simp[jP]⟩
   have LY:x<1216:=by rw[g4.n,g3] at hx;omega
   by_cases G5:x<m.next.length
   ·exact lH.BG hx (g2.BG G5 (hr x G5))
   ·rcases g1.lv x (by omega) hx with h|h
    ·exact zhO hx LY h Bj
    ·exact lH.BG hx h
  obtain⟨f1,f2,f3⟩:=Zi (n:=n) es (r+1) (jS n r e m).2 (λe he=>hg e (dU _ he)) BD (by rw[hs];omega) (by omega) Gb
  simp only[qt];exact⟨by rw[f1,hs,mN];omega,f2,f3⟩
theorem zjO{ns:List (Nat->Bool)}(h:∀x,x<ns.length->Kv ns x):∀p∈ns,jg p 19≠[]:=by
 intro p hp e;obtain⟨x,hx,rfl⟩:=List.getElem_of_mem hp;obtain⟨y,h1,h2⟩:=h x hx
 have:y∈jg ns[x] 19:=ir.2 ⟨by omega,by
  unfold Es at h2;rw[K1,gj hx] at h2
  exact h2⟩
 rw[e] at this;cases this
end
end Go.Proofs.YthohlnmcjkjeiaaGreatDoor
