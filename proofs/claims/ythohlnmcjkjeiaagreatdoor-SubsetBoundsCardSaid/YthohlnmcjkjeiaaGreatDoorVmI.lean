/- Seat 8: expressions as data. Conditions: none but those named. -/
import Derived.Test.YthohlnmcjkjeiaaGreatDoorVmF
namespace Go.Proofs.YthohlnmcjkjeiaaGreatDoor
open Go Go.Vm
open Go.Proofs.Tryz
set_option maxRecDepth 100000
section
inductive E where
 |mk (op pl s0 s1 s2 s3:Int) (text:bO) (mn mx:Int) (nl:Bool) (args:List E)
def yT(nl:Bool)(l:aG):V:=if nl && l.isEmpty then .aH else .sl 10 l .no
mutual
def enc:E->V
 | .mk op pl s0 s1 s2 s3 text mn mx nl args=>.agg [.int .i64 op,.int .i64 pl,.int .u64 s0,.int .u64 s1,.int .u64 s2,.int .u64 s3,.str text,.int .i64 mn,.int .i64 mx,yT nl (fO args)]
def fO:List E->aG
 | []=>[]
 | e::es=>enc e::fO es
end
theorem f_:∀(l:List E),(fO l).length=l.length
 | []=>rfl
 | e::l=>by simp[fO,f_ l]
theorem A8:∀(l:List E)(i:Nat),(fO l)[i]?=(l[i]?).map enc
 | [],i=>by simp[fO]
 | e::l,0=>by simp[fO]
 | e::l,i+1=>by simp[fO,A8 l i]
theorem vI(nl:Bool)(l:aG):yT nl l=.sl 10 l .no\/(l=[]/\yT nl l=.aH):=by
 unfold yT;split
 next h=>rw[eF] at h;exact .inr ⟨by simpa using h.2,rfl⟩
 ·exact .inl rfl
theorem z9{nl:Bool}{l:aG}:bg (yT nl l)=yT nl l:=by
 rcases vI nl l with h|⟨_,h⟩<;>rw[h]<;>rfl
theorem Nw(a:E):bg (enc a)=enc a:=by cases a;rfl
theorem zlV{nl:Bool}{l:aG}:(yT nl l).top=aL l:=by
 rcases vI nl l with h|⟨hl,h⟩<;>rw[h]
 ·rfl
 ·rw[hl];rfl
mutual
theorem u6:∀(e:E),(enc e).top=0
 | .mk op pl s0 s1 s2 s3 text mn mx nl args=>by
  simp only[enc,V.top,aL,zlV,uB args];rfl
theorem uB:∀(l:List E),aL (fO l)=0
 | []=>rfl
 | e::l=>by simp[fO,aL,u6 e,uB l]
end
theorem Nx{x:Int}(h1:-9223372036854775808<=x)(h2:x<=9223372036854775807):IntKind.i64.wrap x=x:=by
 simp only[IntKind.wrap,IntKind.bits,IntKind.signed];simp;omega
theorem zpV{i:Nat}(h:i<9223372036854775807):IntKind.i64.wrap ((i:Int)+1)=((i+1:Nat):Int):=by
 rw[Nx (by omega) (by omega)];omega
mutual
def Wf:E->Prop
 | .mk _ _ _ _ _ _ text _ _ _ args=>text.length<=maxLen/\args.length<=maxLen/\Lu args
def Lu:List E->Prop
 | []=>True
 | e::l=>Wf e/\Lu l
end
theorem Lu.mem{a:E}:∀{l:List E},Lu l->a∈l->Wf a
 | e::l,h,ha=>by
  rcases dM.1 ha with rfl|ha
  ·exact h.1
  ·exact Lu.mem h.2 ha
theorem uC:maxLen<=9223372036854775807:=by decide
mutual
def hg:E->Nat
 | .mk _ _ _ _ _ _ _ _ _ _ args=>TA args+args.length+2
def TA:List E->Nat
 | []=>0
 | e::l=>max (hg e) (TA l)
end
theorem W6{a:E}:∀{l:List E},a∈l->hg a<=TA l
 | e::l,h=>by
  simp only[TA];rcases dM.1 h with rfl|h
  ·exact Ds _ _
  ·exact cZ (W6 h) (G5 _ _)
end
section
open Go.Vm.Sx
variable{gl:Gl}
def lB:E->Bool
 | .mk op pl s0 s1 s2 s3 text mn mx _ _=>((pl == 0 && ot text []) && (op == 2 || (s0 == 0 && (s1 == 0 && (s2 == 0 && s3 == 0))))) && (op == 7 || (mn == 0 && mx == 0))
def fU:E->Bool
 | .mk op _ _ _ _ _ _ mn mx _ args =>
  if op == 1 then (args.length:Int) == 0 else if op == 2 then (args.length:Int) == 0 else if op == 5 then dV 1 (args.length:Int) else if op == 6 then dV 1 (args.length:Int) else
  if op == 7 then (args.length:Int) == 1 && ((mn == 0 && mx == -1 || mn == 1 && mx == -1) || mn == 0 && mx == 1) else false
mutual
def cY:E->Int->Int->Int->Bool×Int×Int
 | .mk op pl s0 s1 s2 s3 text mn mx nl args,d,n,s =>
  if (dV 65536 (IntKind.i64.wrap (n+1)) || dV 4096 d) then (false,IntKind.i64.wrap (n+1),s) else
  if lB (.mk op pl s0 s1 s2 s3 text mn mx nl args) then
   if fU (.mk op pl s0 s1 s2 s3 text mn mx nl args) then iI (IntKind.i64.wrap (d+1)) args (IntKind.i64.wrap (n+1)) (if op == 2 then IntKind.i64.wrap (s+1) else s)
   else (false,IntKind.i64.wrap (n+1),s)
  else (false,IntKind.i64.wrap (n+1),s)
def iI:Int->List E->Int->Int->Bool×Int×Int
 | _,[],n,s=>(true,n,s)
 | d,a::l,n,s=>if (cY a d n s).1 then iI d l (cY a d n s).2.1 (cY a d n s).2.2 else cY a d n s
end
end
section
variable{gl:Gl}
theorem W7:prog.underlying 224=some (.array 64 5):=by kernel_rfl
theorem sz5:z4 prog 5=some 1:=by kernel_rfl
theorem W8:qG prog 5=some false:=by kernel_rfl
theorem u3:prog.underlying 3=some (.int .i64):=by kernel_rfl
theorem u5:prog.underlying 5=some (.int .u8):=by kernel_rfl
theorem zlX(hg:GW gl){n:Nat}{H:Hp}{k m:Nat}(hw:2 ^ (k+1) * m+2 ^ k<2 ^ 64):zj prog gl (n+1) 96 [.int .u64 ((2 ^ (k+1) * m+2 ^ k:Nat):Int)] H=some (.ret (.int .i64 (k:Nat)),H):=by
 obtain⟨bs,es⟩:=H;have hk:k<64:=Pt hw;obtain⟨w,w',hwd,BD,W9,hand⟩:=znI (P:=prog) hw;obtain⟨x,ix,hmul,W_,GF,Xa⟩:=znH (P:=prog) hk;rw[<- hwd];clear hwd hw;have iG:zX bs.length es 0 ⟨bs,[]⟩=⟨bs,es⟩:=by
  have:=zY (bs:=bs) (ls:=[]) (es:=es) (t:=0) (dP _)
  rwa [nk] at this
 suffices bR:(go ⟨prog,gl,zj prog gl n,eg⟩ n (Fx prog f96.results.toList λw H1=>w=.int .i64 (k:Nat)/\H1=⟨bs,[]⟩) [.c (f96.body.getD .skip)] .normal ⟨[.int .u64 (w:Nat)]++List.replicate 13 (.bx []),⟨bs,[]⟩,[],[]⟩) by
  obtain⟨w,H1,h0,rfl,rfl⟩:=zO (gl:=gl) (f:=96) (bs:=bs) (es:=es) (args:=[.int .u64 (w:Nat)]) (n:=n) (hg.hk _ _ (by decide)) (λH=>hg.fq _ _ _ _) func96 rfl (by rw[hg.uq];exact bR)
  rw[h0];exact congrArg (λx=>some (Out.ret _,x)) iG
 simp only[f96,gm,zi];refine zh ?_;simp only[qt,aK,zi,z6,qI,aj,aW,z8,aN,aq,bX,bY,List.replicate,br,bt]
 refine zh ?_;simp only[qt,aK,zi,qT,zJ,zW,ak,aj,zd,ze,zq,aN,aq,bX,bY,zS,qR,wJ,qK]
 refine .inr ⟨by simp;omega,?_⟩
 simp only[bH,zi]
 refine zh ?_;have HZ:zt prog 224 (.eV 4 0) ((ix:Nat):Int)=some (.eV 4 ix):=by
  simp only[zt,W7,sz5];simp only[uP];rw[if_pos (by omega)]
  simp
 have gy:zk prog ⟨bs,[]⟩ gl.g 5 (.eV 4 ix)=some (.int .u8 (k:Nat)):=by
  simp only[zk,W8,Option.bind_eq_bind,aV,gh,bD];rw[hg.tab _ GF,Xa]
 have iW:vz prog 5 3 (.int .u8 (k:Nat))=some (.int .i64 (k:Nat)):=by
  simp only[vz,u5,u3,Option.bind_eq_bind,aV];rw[kU (by omega) (by omega)]
 simp only[qt,aK,zJ,zW,kO,zU,qr,vZ (a:=5) (b:=3) (hm:=rfl),show eg (w8 5)=false from rfl,z6,zL,ak,aj,zd,ze,zq,aN,aq,bX,bY,zS,zlA,aV,aW,W9,hand,hmul,W_,aF,HZ,gy,iW,qo,z8,go_ret,zp,Fx]
 refine⟨trivial,[.int .i64 (k:Nat)],?_,rfl,trivial⟩;simp only[zy,zd,ze]
end
section
variable{gl:Gl}
theorem DS:mY prog 27 3 1 8:=⟨by kernel_rfl,by kernel_rfl,by kernel_rfl,by decide,by kernel_rfl,by kernel_rfl,by kernel_rfl⟩
theorem zg4{p:Nat->Bool}:∀i,aL (xp p i)=0
 | 0=>rfl
 | i+1=>by
  have h:∀(xs ys:aG),aL xs=0->aL ys=0->aL (xs++ys)=0:=by
   intro xs ys h1 h2
   induction xs with
   | nil=>exact h2
   | cons x xs ih =>
    simp only[aL,br,Nat.max_eq_zero_iff] at h1 ⊢;exact⟨h1.1,ih h1.2⟩
  refine h _ _ (zg4 i) ?_;unfold Tq
  induction wh (kN p i) with
  | nil=>rfl
  | cons x xs ih=>simp only[bk,aL,V.top,ih];rfl
theorem zcD{p:Nat->Bool}(i:Nat):(bg (zm 1 3 (xp p i))).top=0:=by
 have h:=zg4 (p:=p) i;cases hL:xp p i with
 | nil=>rfl
 | cons x xs=>rw[hL] at h;simpa[zm,bg,V.top] using h
theorem zg5(hg:GW gl){n:Nat}(hn:70<=n){H:Hp}{b off:Nat}{pre post:aG}{p:Nat->Bool}{ty:aD}(hb:H.get b=some (.cells (pre++pv 19 p++post) ty))(ho:pre.length=off) :
  zj prog gl (n+1) 59 [.ptr b off] H=some (.ret (bg (zm 1 3 (xp p 19))),H):=by
 obtain⟨bs,es⟩:=H;have sn:Hp.get ⟨bs,[]⟩ b=some (.cells (pre++pv 19 p++post) ty):=hb;have iG:zX bs.length es 0 ⟨bs,[]⟩=⟨bs,es⟩:=by
  have:=zY (bs:=bs) (ls:=[]) (es:=es) (t:=0) (dP _)
  rwa [nk] at this
 generalize hL:xp p 19=L
 suffices bR:(go ⟨prog,gl,zj prog gl n,eg⟩ n (Fx prog f59.results.toList λw H1=>w=bg (zm 1 3 L)/\H1=⟨bs,[]⟩) [.c (f59.body.getD .skip)] .normal ⟨[.ptr b off]++List.replicate 28 (.bx []),⟨bs,[]⟩,[],[]⟩) by
  obtain⟨w,H1,h0,h1,h2⟩:=zO (gl:=gl) (f:=59) (bs:=bs) (es:=es) (args:=[.ptr b off]) (n:=n) (hg.hk _ _ (by decide)) (λH=>hg.fq _ _ _ _) func59 rfl (by rw[hg.uq];exact bR)
  rw[h0,h1,h2];have:(bg (zm 1 3 L)).top=0:=by
   rw[<- hL];exact zcD 19
  rw[this];exact congrArg (λx=>some (Out.ret _,x)) iG
 simp only[f59,gm,zi];refine zh ?_;simp only[qt,aK,zi,z6,qI,aj,aW,z8,aN,aq,bX,bY,List.replicate,br,bt]
 refine zh ?_;simp only[qt,aK,zi,z6,qI,aj,aW,z8,aN,aq,bX,bY]
 refine zh ?_;simp only[qt,aK,zx,zJ,ak,aj,zd,zq,aN,aq,bX,bY,qj]
 refine qx (λm s=>∃i env,m+i=19/\s=⟨env,⟨bs,[]⟩,[],[]⟩/\env.length=29/\nth env 3=some (zm 1 3 (xp p i))/\nth env 6=some (.ptr b off)/\nth env 7=some (.int .i64 (i:Nat))) 19 (by omega) ⟨0,_,rfl,rfl,rfl,rfl,rfl,rfl⟩ ?_
 rintro m s ⟨i,env,A9,rfl,hlen,h3,h6,h7⟩;simp only[zi];refine zh ?_;simp only[qt,aK,zi,qT,zW,ak,aj,h7,zq,aN,aq,za,hlen,Nat.reduceLT,aI,zS,qR,qV,qK]
 by_cases hi:i<19
 ·refine .inl ⟨by simp;omega,?_⟩
  simp only[bH,zi,zx]
  refine jo (tk:=[]) (by kernel_rfl) (by kernel_rfl) ?_
  have dy:nth (pre++pv 19 p++post) (off+i)=some (.int .u64 (kN p i:Nat)):=by
   rw[zg,<- ho,xE jH hi,yK hi]
  have gy:zk prog ⟨bs,[]⟩ gl.g 48 (.ptr b (off+i))=some (.int .u64 (kN p i:Nat)):=zr m_ sn dy;simp only[jY,bu,zx,au,m_,lJ,zJ,zG,zU,qr,z6,zL,ak,h6,h7,zq,aN,aq,za,bI,hlen,Nat.reduceEqDiff,Nat.reduceLT,aI,bD,qj,zS,qo,z8,aW,aV,aa,aF,Tz hi,gy]
  refine qx (λm s=>∃w acc env,(wh w).length=m/\w<2 ^ 64/\acc++((wh w).map λj=>.int .i64 ((64 * i+j:Nat):Int))=xp p (i+1)/\s=⟨env,⟨bs,[]⟩,[],[]⟩/\env.length=29/\nth env 3=some (zm 1 3 acc)/\nth env 4=some (.int .i64 (i:Nat))/\nth env 5=some (.int .u64 (w:Nat))/\nth env 6=some (.ptr b off)/\nth env 7=some (.int .i64 (i:Nat))) (wh (kN p i)).length (by have:=WQ (w:=kN p i);omega) ⟨kN p i,xp p i,_,rfl,wd,rfl,rfl,?_,?_,?_,?_,?_,?_⟩ ?_
  ·simp[hlen]
  ·simp[za,h3]
  ·simp[za,hlen]
  ·simp[za,hlen]
  ·simp[za,h6]
  ·simp[za,h7]
  clear h3 h6 h7 hlen;rintro m s ⟨w,acc,env,hm,hw,u7,rfl,hlen,h3,h4,h5,h6,h7⟩;simp only[zi];refine zh ?_;simp only[qt,aK,qT,zJ,zW,ak,aj,h5,zq,aN,aq,za,bI,hlen,Nat.reduceEqDiff,Nat.reduceLT,aI,bD,zS,qR,Pk,qK]
  by_cases BD:w=0
  ·subst BD;rw[sM,bw,nk] at u7;subst u7;refine .inr ⟨by decide,?_⟩
   simp only[qk,zN,zp,bN,zD,iV,aI,qE];refine zh ?_;simp only[qt,aK,zJ,zW,ak,aj,h7,zq,aN,aq,za,bI,hlen,Nat.reduceEqDiff,Nat.reduceLT,aI,bD,zS,qn (show i<2 ^ 60 by omega),zp,aO]
   refine⟨18 - i,by omega,i+1,_,by omega,rfl,?_,?_,?_,?_⟩
   ·simp[hlen]
   ·simp[za,h3]
   ·simp[za,h6]
   ·simp[za,hlen]
  ·refine .inl ⟨by simp;omega,?_⟩
   obtain⟨k,mm,Cm⟩:=A4 w BD;have Gm:=λ(H:Hp)=>zlX hg (n:=n - 1) (H:=H) (k:=k) (m:=mm) (by rw[<- Cm];exact hw)
   rw[<- Cm,show n - 1+1=n by omega] at Gm
   simp only[bH,zi,zx]
   refine wK (tk:=[19]) (by kernel_rfl) ?_
   have dz:Cx.bK ⟨prog,gl.g,zj prog gl n,eg⟩ 96 [.int .u64 (w:Nat)] ⟨bs,[]⟩=some (.val (.int .i64 (k:Nat)),⟨bs,[]⟩):=zu func96 rfl (Gm _);have hk:k<64:=Pt (by rw[<- Cm];exact hw)
   have PD:acc.length+1<=64 * (i+1):=by
    have h1:=congrArg List.length u7;have h2:=xq (p:=p) (i+1);have h3:(wh w).length≠0:=by
     rw[Cm,To (by rw[<- Cm];exact hw)];simp
    simp only[aZ,iK] at h1;omega
   have gj:=jM DS (H:=⟨bs,[]⟩) (xs:=acc) (ys:=[V.int .i64 ((64 * i+k:Nat):Int)]) (o:=.no) (by simp) (j9 (by simp;omega) (by simp;omega))
   have Jx:=DS.BH (v:=.int .i64 ((64 * i+k:Nat):Int)) rfl rfl;have hmul:∀(u v:a_),q0 prog .mul 3 u v (some (.int .i64 64)) (some (.int .i64 (i:Nat)))=some (.int .i64 ((64 * i:Nat):Int)):=λu v=>WW (a:=64) (by omega)
   have Lv:nth (((env.set 13 (V.int .u64 (w:Nat))).set 14 (V.bool ((w:Int) != 0)))) 3=some (zm 1 3 acc):=by simp[za,h3]
   simp only[qt,jD,jx,v6 Lv,zW,kf,av,ql,ne_eq,ug,jS,ky (cx:=⟨prog,gl.g,zj prog gl n,eg⟩) (show rC prog eg 27=false by kernel_rfl),ak,aj,h4,h5,zq,z8,aN,aq,za,bI,hlen,Nat.reduceEqDiff,Nat.reduceLT,aI,bD,zS,wb,qP,bk,bw,aC,dz,hmul,xu (show 64 * i+k<2 ^ 60 by omega),Jx]
   rw[v6 (n:=1) (e:=3) (xs:=acc) (by simp[za,hlen])]
   simp only[BG,aV,gj,aN,aq,qt,aK,qE,z6]
   rw[v6 (n:=1) (e:=3) (xs:=acc++[V.int .i64 ((64 * i+k:Nat):Int)]) (by simp[za,hlen])]
   simp only[z8,aN,aq]
   refine zh ?_;have GG:w - 1<2 ^ 64:=by omega
   simp only[qt,aK,zJ,zW,z6,zL,ak,aj,h5,zq,z8,aN,aq,za,bI,hlen,Nat.reduceEqDiff,Nat.reduceLT,aI,bD,zS,qo,zeM BD hw,Tp hw GG,zp,aO]
   have lM:wh w=k::wh (w &&& (w - 1)):=by
    rw[Cm];exact To (by rw[<- Cm];exact hw)
   refine⟨(wh (w &&& (w - 1))).length,by rw[<- hm,lM];simp,w &&& (w - 1),acc++[V.int .i64 ((64 * i+k:Nat):Int)],_,rfl,Kl Nat.and_le_left hw,?_,rfl,?_,?_,?_,?_,?_,?_⟩
   ·rw[<- u7,lM];simp
   ·simp[hlen]
   ·simp[za,hlen]
   ·simp[za,h4]
   ·simp[za,hlen]
   ·simp[za,h6]
   ·simp[za,h7]
 ·obtain rfl:i=19:=by omega
  refine .inr ⟨by decide,?_⟩
  rw[hL] at h3;simp only[qk,zN,zp,bN,zD,iV,aI,zi];refine zh ?_;have rF:bg (bg (zm 1 3 L))=bg (zm 1 3 L):=by cases L<;>rfl
  have mq:∀e:aG,nth e 28=some (bg (zm 1 3 L))->take e (.tmp 28)=some (bg (zm 1 3 L),e):=λe he=>by
   rw[zL,he];cases L<;>rfl
  simp only[qt,aK,zJ,z6,ak,h3,zq,aN,aq,za,hlen,Nat.reduceEqDiff,Nat.reduceLT,aI,bD]
  rw[mq _ (by simp[za,hlen])]
  simp only[z8,aN,aq,go_ret,zp,Fx]
  refine⟨trivial,[bg (zm 1 3 L)],?_,rfl,trivial⟩;simp[zy,za,hlen]
end
section
variable{gl:Gl}
theorem Xb(hg:GW gl){n:Nat}(hn:20<=n){bs:List bq}{es:aP}{b off b' off':Nat}{pre post pre' post':aG}{p q:Nat->Bool}{ty ty':aD}(hb:nth bs b=some (.cells (pre++pv 19 p++post) ty))(ho:pre.length=off)(dw:nth bs b'=some (.cells (pre'++pv 19 q++post') ty'))(Xc:pre'.length=off')(cK:b'≠b) :
  zj prog gl (n+1) 58 [.ptr b off,.ptr b' off'] ⟨bs,es⟩=some (.ret (.bx []),⟨bs.set b (.cells (pre++pv 19 (jG p q)++post) ty),es⟩):=by
 have iG:zX bs.length es 0 ⟨bs.set b (.cells (pre++pv 19 (jG p q)++post) ty),[]⟩=⟨bs.set b (.cells (pre++pv 19 (jG p q)++post) ty),es⟩:=by
  have:=zY (bs:=bs.set b (.cells (pre++pv 19 (jG p q)++post) ty)) (ls:=[]) (es:=es) (t:=0) (dP _)
  rwa [nk,bI] at this
 suffices bR:(go ⟨prog,gl,zj prog gl n,eg⟩ n (Fx prog f58.results.toList λw H1=>w=.bx []/\H1=⟨bs.set b (.cells (pre++pv 19 (jG p q)++post) ty),[]⟩) [.c (f58.body.getD .skip)] .normal ⟨[.ptr b off,.ptr b' off']++List.replicate 20 (.bx []),⟨bs,[]⟩,[],[]⟩) by
  obtain⟨w,H1,h0,rfl,rfl⟩:=zO (gl:=gl) (f:=58) (bs:=bs) (es:=es) (args:=[.ptr b off,.ptr b' off']) (n:=n) (hg.hk _ _ (by decide)) (λH=>hg.fq _ _ _ _) func58 rfl (by rw[hg.uq];exact bR)
  rw[h0,show(V.bx []).top=0 from rfl,iG]
 simp only[f58,gm,zi];refine zh ?_;simp only[qt,aK,zx,zJ,ak,aj,zq,aN,aq,bX,bY,List.replicate,br,bt]
 let Hi:Nat->Hp:=λi=>⟨bs.set b (.cells (pre++pv 19 (xc p q i)++post) ty),[]⟩
 refine qx (λm s=>∃i env,m+i=19/\s=⟨env,Hi i,[],[]⟩/\env.length=22/\nth env 0=some (.ptr b off)/\nth env 1=some (.ptr b' off')/\nth env 5=some (.int .i64 (i:Nat))) 19 (by omega) ?_ ?_
 ·have DT:Hi 0=⟨bs,[]⟩:=by
   simp only[Hi,zg0];rw[show bs.set b (.cells (pre++pv 19 p++post) ty)=bs from jZ hb]
  refine⟨0,_,rfl,by rw[DT],?_,?_,?_,?_⟩<;>rfl
 rintro m s ⟨i,env,A9,rfl,hlen,h0,h1,h5⟩;simp only[zi];refine zh ?_;simp only[qt,aK,zi,qT,zW,ak,aj,h5,zq,aN,aq,za,hlen,Nat.reduceLT,aI,zS,qR,qV,qK]
 have E9:∀r:aG,nth (bs.set b (.cells r ty)) b=some (.cells r ty):=λr=>by
  have bW:b<bs.length:=by rw[zg] at hb;exact(dA.1 hb).1
  rw[zg,tc,if_pos rfl,if_pos bW]
 by_cases hi:i<19
 ·refine .inl ⟨by simp;omega,?_⟩
  simp only[bH,zi,zx]
  refine zh ?_;simp only[qt,aK,zJ,z6,zL,ak,h5,zq,aN,aq,za,bI,hlen,Nat.reduceEqDiff,Nat.reduceLT,aI,bD,zS,qo,z8]
  refine jo (tk:=[]) (by kernel_rfl) (by kernel_rfl) ?_
  have E_:(Hi i).get b=some (.cells (pre++pv 19 (xc p q i)++post) ty):=E9 _;have Lw:(Hi i).get b'=some (.cells (pre'++pv 19 q++post') ty'):=by
   show nth (bs.set b _) b'=_;rw[zg,tc,if_neg (Ne.symm cK),<- zg,dw]
  have dy:nth (pre++pv 19 (xc p q i)++post) (off+i)=some (.int .u64 (kN p i:Nat)):=by
   rw[zg,<- ho,xE jH hi,yK hi,zgY]
  have Cn:nth (pre'++pv 19 q++post') (off'+i)=some (.int .u64 (kN q i:Nat)):=by
   rw[zg,<- Xc,xE jH hi,yK hi]
  have gy:zk prog (Hi i) gl.g 48 (.ptr b (off+i))=some (.int .u64 (kN p i:Nat)):=zr m_ E_ dy;have Fa:zk prog (Hi i) gl.g 48 (.ptr b' (off'+i))=some (.int .u64 (kN q i:Nat)):=zr m_ Lw Cn;have oV:wr [] b (off+i) 1 ((pre++pv 19 (xc p q i)++post).drop (off+i))=true:=yx λk h=>by
   obtain rfl:k=0:=by omega
   exact⟨_,by rw[om,<- zg,dy],rfl⟩
  simp only[jY,bu,au,m_,lJ,zJ,zG,zU,qr,zW,zV,zL,ak,h0,h1,zq,aN,aq,za,bI,hlen,Nat.reduceEqDiff,Nat.reduceLT,aI,bD,qj,zS,qo,aW,aV,aa,aF,Tz hi,gy,Fa,WL wd wd]
  rw[zA DQ E_ rfl rfl (by simp[jH,<- ho];omega) oV]
  simp only[bB,qE,aq,V.laid,Vm.storeCells]
  rw[jV (by simp[V.top])]
  have hH:(Hi i).set b (.cells ((pre++pv 19 (xc p q i)++post).set (off+i) (.int .u64 ((kN p i ||| kN q i:Nat):Int))) ty)=Hi (i+1):=by
   rw[<- ho,WM jH hi,zgZ];simp only[Hi,Hp.set,List.set_set]
  rw[hH];refine zh ?_;simp only[qt,aK,zW,zJ,ak,aj,h5,zq,aN,aq,za,bI,hlen,Nat.reduceEqDiff,Nat.reduceLT,aI,bD,zS,qn (show i<2 ^ 60 by omega),zp,aO]
  refine⟨18 - i,by omega,i+1,_,by omega,rfl,?_,?_,?_,?_⟩<;>simp[za,hlen,h0,h1]
 ·obtain rfl:i=19:=by omega
  refine .inr ⟨by decide,?_⟩
  simp only[qk,zN,zp,bN,zD,iV,aI,Fx];refine⟨trivial,[],rfl,rfl,?_⟩;simp only[Hi,zjf]
theorem zg6{b v off i:Nat}(h:i<19):zt prog 115 (.gk b v off) i=some (.gk b v (off+i)):=by
 simp only[zt,u60,DQ];simp;omega
theorem zlY(hg:GW gl){n:Nat}(hn:20<=n){bs:List bq}{es:aP}{b off b' off':Nat}{pre post pre' post':aG}{p q:Nat->Bool}{v:Nat}{ty':aD}(hb:nth bs b=some (.ul v 19 (pre++pv 19 p++post) 115))(ho:pre.length=off)(dw:nth bs b'=some (.cells (pre'++pv 19 q++post') ty'))(Xc:pre'.length=off')(cK:b'≠b) :
  zj prog gl (n+1) 58 [.gk b v off,.ptr b' off'] ⟨bs,es⟩=some (.ret (.bx []),⟨bs.set b (.ul v 19 (pre++pv 19 (jG p q)++post) 115),es⟩):=by
 have iG:zX bs.length es 0 ⟨bs.set b (.ul v 19 (pre++pv 19 (jG p q)++post) 115),[]⟩=⟨bs.set b (.ul v 19 (pre++pv 19 (jG p q)++post) 115),es⟩:=by
  have:=zY (bs:=bs.set b (.ul v 19 (pre++pv 19 (jG p q)++post) 115)) (ls:=[]) (es:=es) (t:=0) (dP _)
  rwa [nk,bI] at this
 suffices bR:(go ⟨prog,gl,zj prog gl n,eg⟩ n (Fx prog f58.results.toList λw H1=>w=.bx []/\H1=⟨bs.set b (.ul v 19 (pre++pv 19 (jG p q)++post) 115),[]⟩) [.c (f58.body.getD .skip)] .normal ⟨[.gk b v off,.ptr b' off']++List.replicate 20 (.bx []),⟨bs,[]⟩,[],[]⟩) by
  obtain⟨w,H1,h0,rfl,rfl⟩:=zO (gl:=gl) (f:=58) (bs:=bs) (es:=es) (args:=[.gk b v off,.ptr b' off']) (n:=n) (hg.hk _ _ (by decide)) (λH=>hg.fq _ _ _ _) func58 rfl (by rw[hg.uq];exact bR)
  rw[h0,show(V.bx []).top=0 from rfl,iG]
 simp only[f58,gm,zi];refine zh ?_;simp only[qt,aK,zx,zJ,ak,aj,zq,aN,aq,bX,bY,List.replicate,br,bt]
 let Hi:Nat->Hp:=λi=>⟨bs.set b (.ul v 19 (pre++pv 19 (xc p q i)++post) 115),[]⟩
 refine qx (λm s=>∃i env,m+i=19/\s=⟨env,Hi i,[],[]⟩/\env.length=22/\nth env 0=some (.gk b v off)/\nth env 1=some (.ptr b' off')/\nth env 5=some (.int .i64 (i:Nat))) 19 (by omega) ?_ ?_
 ·have DT:Hi 0=⟨bs,[]⟩:=by
   simp only[Hi,zg0];rw[show bs.set b (.ul v 19 (pre++pv 19 p++post) 115)=bs from jZ hb]
  refine⟨0,_,rfl,by rw[DT],?_,?_,?_,?_⟩<;>rfl
 rintro m s ⟨i,env,A9,rfl,hlen,h0,h1,h5⟩;simp only[zi];refine zh ?_;simp only[qt,aK,zi,qT,zW,ak,aj,h5,zq,aN,aq,za,hlen,Nat.reduceLT,aI,zS,qR,qV,qK]
 have E9:∀r:aG,nth (bs.set b (.ul v 19 r 115)) b=some (.ul v 19 r 115):=λr=>by
  have bW:b<bs.length:=by rw[zg] at hb;exact(dA.1 hb).1
  rw[zg,tc,if_pos rfl,if_pos bW]
 by_cases hi:i<19
 ·refine .inl ⟨by simp;omega,?_⟩
  simp only[bH,zi,zx]
  refine zh ?_;simp only[qt,aK,zJ,z6,zL,ak,h5,zq,aN,aq,za,bI,hlen,Nat.reduceEqDiff,Nat.reduceLT,aI,bD,zS,qo,z8]
  refine jo (tk:=[]) (by kernel_rfl) (by kernel_rfl) ?_
  have E_:(Hi i).get b=some (.ul v 19 (pre++pv 19 (xc p q i)++post) 115):=E9 _;have Lw:(Hi i).get b'=some (.cells (pre'++pv 19 q++post') ty'):=by
   show nth (bs.set b _) b'=_;rw[zg,tc,if_neg (Ne.symm cK),<- zg,dw]
  have dy:nth (pre++pv 19 (xc p q i)++post) (off+i)=some (.int .u64 (kN p i:Nat)):=by
   rw[zg,<- ho,xE jH hi,yK hi,zgY]
  have Cn:nth (pre'++pv 19 q++post') (off'+i)=some (.int .u64 (kN q i:Nat)):=by
   rw[zg,<- Xc,xE jH hi,yK hi]
  have gy:zk prog (Hi i) gl.g 48 (.gk b v (off+i))=some (.int .u64 (kN p i:Nat)):=zeO m_ E_ dy;have Fa:zk prog (Hi i) gl.g 48 (.ptr b' (off'+i))=some (.int .u64 (kN q i:Nat)):=zr m_ Lw Cn
  simp only[jY,bu,au,m_,lJ,zJ,zG,zU,qr,zW,zV,zL,ak,h0,h1,zq,aN,aq,za,bI,hlen,Nat.reduceEqDiff,Nat.reduceLT,aI,bD,qj,jU,zS,qo,aW,aV,aa,aF,Tz hi,zg6 hi,gy,Fa,WL wd wd]
  rw[zkt DQ E_ rfl rfl rfl (by simp[jH,<- ho];omega)]
  simp only[bB,qE,aq,V.cells,Vm.storeCells]
  rw[jV (by simp[V.top])]
  have hH:(Hi i).set b (.ul v 19 ((pre++pv 19 (xc p q i)++post).set (off+i) (.int .u64 ((kN p i ||| kN q i:Nat):Int))) 115)=Hi (i+1):=by
   rw[<- ho,WM jH hi,zgZ];simp only[Hi,Hp.set,List.set_set]
  rw[hH];refine zh ?_;simp only[qt,aK,zW,zJ,ak,aj,h5,zq,aN,aq,za,bI,hlen,Nat.reduceEqDiff,Nat.reduceLT,aI,bD,zS,qn (show i<2 ^ 60 by omega),zp,aO]
  refine⟨18 - i,by omega,i+1,_,by omega,rfl,?_,?_,?_,?_⟩<;>simp[za,hlen,h0,h1]
 ·obtain rfl:i=19:=by omega
  refine .inr ⟨by decide,?_⟩
  simp only[qk,zN,zp,bN,zD,iV,aI,Fx];refine⟨trivial,[],rfl,rfl,?_⟩;simp only[Hi,zjf]
end
section
variable{gl:Gl}
theorem Jy:mY prog 149 157 11 112:=⟨by kernel_rfl,by kernel_rfl,by kernel_rfl,by decide,by kernel_rfl,by kernel_rfl,by kernel_rfl⟩
theorem Co:zH prog 151 0=some 0:=by kernel_rfl
theorem Cp:qG prog 149=some false:=by kernel_rfl
theorem A_:qG prog 157=some true:=by kernel_rfl
theorem u_:z4 prog 157=some 11:=by kernel_rfl
theorem zph(hg:GW gl){n:Nat}{H:Hp}{b:Nat}{c:V}{ty:aD}{i:Option Nat}{xs:List aG}{x:aG}(hb:H.get b=some (.cells [c] ty))(hu:UL H 11 157 c i xs)(Xd:i≠some b)(hx:x.length=11)(Ef:x.map bg=x)(fJ:ku (xs.length+1) 112=true) :
  ∃H' c' j,zj prog gl (n+1) 88 [.ptr b 0,.agg x] H=some (.ret (.bx []),H')/\H'.get b=some (.cells [c'] ty)/\UL H' 11 157 c' (some j) (xs++[x])/\j≠b/\(i=some j\/H.az.length<=j)/\sO H H' (λd=>d=b\/i=some d):=by
 obtain⟨bs,es⟩:=H;have bW:b<bs.length:=kK hb;have sn:Hp.get ⟨bs,[]⟩ b=some (.cells [c] ty):=hb;have Eo:UL ⟨bs,[]⟩ 11 157 c i xs:=hu;have Ny:c.top<=bs.length/\(c=.aH\/∃j v l,c=.dF j v l):=by
  cases i with
  | none=>obtain⟨rfl,_⟩:=hu;exact⟨dP _,.inl rfl⟩
  | some j=>obtain⟨v,rfl,hj⟩:=hu;exact⟨kK hj,.inr ⟨_,_,_,rfl⟩⟩
 suffices bR:(go ⟨prog,gl,zj prog gl n,eg⟩ n (Fx prog [] λv H1=>v=.bx []/\∃c' j,(∀d,d<bs.length->d≠b->i≠some d->H1.get d=Hp.get ⟨bs,es⟩ d)/\H1.get b=some (.cells [c'] ty)/\UL H1 11 157 c' (some j) (xs++[x])/\j≠b/\(i=some j\/bs.length<=j/\(b,j+1)∈H1.bJ)/\bs.length<=H1.az.length) [.c (f88.body.getD .skip)] .normal ⟨[.ptr b 0,.agg x]++List.replicate 12 (.bx []),⟨bs,[]⟩,[],[]⟩) by
  obtain⟨v,H1,h0,rfl,c',j,h2,h3,h4,h5,h6,h7⟩:=zO (gl:=gl) (f:=88) (bs:=bs) (es:=es) (args:=[.ptr b 0,.agg x]) (n:=n) (hg.hk _ _ (by decide)) (λH=>hg.fq _ _ _ _) func88 rfl (by rw[hg.uq];exact bR)
  have hj:(zX bs.length es 0 H1).get j=H1.get j:=by
   rcases h6 with rfl|⟨h6,h8⟩
   ·exact jh (hu.lt)
   ·exact xG h8 bW (by omega) _
  exact⟨_,c',j,h0,(jh bW).trans h3,h4.frame λk hk=>by cases hk;exact hj,h5,h6.imp id And.left,v5 h7,λd hd hn=>(jh hd).trans (h2 d hd (λe=>hn (.inl e)) (λe=>hn (.inr e)))⟩
 have o7:dD (.agg x)=true:=rfl;have gy:zk prog (Hp.push ⟨bs,[]⟩ (.cells x 157)) gl.g 157 (.ptr bs.length 0)=some (.agg x):=by
  rw[jp A_ u_ Tr (by simp[hx])]
  simp[<- hx]
 have lQ:=Jy.BH (v:=.agg x) rfl hx;have KF:UL (Hp.push ⟨bs,[]⟩ (.cells x 157)) 11 157 c i xs:=Eo.frame λj hj=>by
  subst hj;obtain⟨v,_,h⟩:=Eo;rw[h];exact zM h
 have gj:=Jy.app (env:=[.ptr b 0,.agg x,.bx [],.ptr bs.length 0,.ptr b 0,.ptr b 0,.ptr b 0,.ptr b (0+0),c,.agg x,.sl 11 [.agg x] (.yes 157),.bx [],.bx [],.bx []]) (H:=Hp.push ⟨bs,[]⟩ (.cells x 157)) (lk:=[]) (df:=[]) (ys:=[.agg x]) (o:=.no) (by simp) KF fJ
 simp only[f88,gm,zi];refine zh ?_;simp only[qt,aK,wz,zL,qZ,zd,ze,qg o7,aN,aq,bX,bY,List.replicate,br,bt,V.laid,Ef]
 refine jo (tk:=[8]) (by kernel_rfl) (by kernel_rfl) ?_
 simp only[jY,au,lJ,Cp,jD,jv,ne_eq,Nat.reduceEqDiff,ug,zG,zB,ak,zd,ze,zq,aN,aq,bX,bY,qj,aV,aa,Co,zT,ah]
 rw[WU (c:=c) Cp (zM sn) rfl Ny.2]
 simp only[aN,aq,bX,bY,jY,au,lJ,A_,jE,ne_eq,Nat.reduceEqDiff,ug,ak,zd,ze,qj,List.all_nil,aV,
  gy,aW,zq,je,wb,jS,lQ,Ww (cx:=⟨prog,gl.g,zj prog gl n,eg⟩) (show rC prog eg 149=true by kernel_rfl)]
 cases i with
 | none =>
  obtain⟨rfl,rfl⟩:=hu;simp only[dr];rw[gj];simp only[aN,aq,bX,bY,jY,bu,au,lJ,zG,zB,zV,zL,ak,zd,ze,zq,qj,aV,aa,Co,zT,ah,qJ,om]
  rw[zA (cs:=[.aH]) (ty:=ty) Jy.st (zM (zM sn)) rfl rfl (by simp) (by simp[wr,locked])]
  simp only[bB,aq,zp,Fx,Vm.storeCells,V.laid,jn,bX]
  refine⟨trivial,[],rfl,rfl,.dF (bs.length+1) 0 1,bs.length+1,?_,?_,?_,by omega,.inr ⟨by omega,?_⟩,?_⟩
  ·intro d hd DN _;rw[bZ,jC,wT,wT];cases hg:Hp.get ⟨bs,[]⟩ d with
   | none=>exact absurd hg (by simp[Hp.get,zg,hd])
   | some y=>simp only[if_neg DN];exact hg.symm
  ·rw[bZ,jC,zM (zM sn)];simp
  ·refine⟨0,rfl,?_⟩;rw[bZ,jC];have:Hp.get (Hp.push (Hp.push ⟨bs,[]⟩ (.cells x 157)) (.ul 0 11 (cg [.agg x]) 157)) (bs.length+1)=some (.ul 0 11 (cg [.agg x]) 157):=by
    rw[wT,zlD (by simp[Hp.push])];simp[Hp.push]
   rw[this];have cK:bs.length+1≠b:=by omega
   simp[cK,cg,V.cells]
  ·exact zgW (v:=.dF (bs.length+1) 0 1) (by simp[V.top];omega)
  ·rw[xn,wl,jn,jn];show bs.length<=bs.length+1+1;omega
 | some j =>
  obtain⟨v,rfl,hj⟩:=Eo;have tQ:j≠b:=λe=>Xd (by rw[e])
  have Av:j<bs.length:=kK hj;simp only[jf] at gj ⊢;rw[gj];simp only[aN,aq,bX,bY,jY,bu,au,lJ,zG,zB,zV,zL,ak,zd,ze,zq,qj,aV,aa,Co,zT,ah,qJ,om]
  have mX:∀y,(((Hp.push ⟨bs,[]⟩ (.cells x 157)).set j y).bU j (.bx [.agg x])).get b=some (.cells [.dF j v xs.length] ty):=λy=>by
   rw[bZ,jC,zM sn];simp[Ne.symm tQ]
  rw[zA (cs:=[.dF j v xs.length]) (ty:=ty) Jy.st (mX _) rfl rfl (by simp) (by simp[wr,locked])]
  simp only[bB,aq,zp,Fx,Vm.storeCells,V.laid,bX]
  refine⟨trivial,[],rfl,rfl,.dF j (v+1) (xs.length+1),j,?_,?_,?_,tQ,.inl rfl,?_⟩
  ·intro d hd DN Xe;have Lx:d≠j:=λe=>Xe (by rw[e])
   rw[bZ,jC,bZ,jC,wT];cases hg:Hp.get ⟨bs,[]⟩ d with
   | none=>exact absurd hg (by simp[Hp.get,zg,hd])
   | some y=>simp only[if_neg DN,if_neg Lx];exact hg.symm
  ·rw[bZ,jC,mX];simp
  ·refine⟨v+1,by simp,?_⟩
   rw[bZ,jC,bZ,jC,zM hj];simp[tQ,cg,V.cells]
  ·simp[xn,wl,jn]
theorem Ly:mY prog 152 117 39 312:=⟨by kernel_rfl,by kernel_rfl,by kernel_rfl,by decide,by kernel_rfl,by kernel_rfl,by kernel_rfl⟩
theorem DU:zH prog 154 0=some 0:=by kernel_rfl
theorem DW:qG prog 152=some false:=by kernel_rfl
theorem tR:qG prog 117=some true:=by kernel_rfl
theorem rW:z4 prog 117=some 39:=by kernel_rfl
theorem zpi(hg:GW gl){n:Nat}{H:Hp}{b:Nat}{c:V}{ty:aD}{i:Option Nat}{xs:List aG}{x:aG}(hb:H.get b=some (.cells [c] ty))(hu:UL H 39 117 c i xs)(Xd:i≠some b)(hx:x.length=39)(Ef:x.map bg=x)(fJ:ku (xs.length+1) 312=true) :
  ∃H' c' j,zj prog gl (n+1) 91 [.ptr b 0,.agg x] H=some (.ret (.bx []),H')/\H'.get b=some (.cells [c'] ty)/\UL H' 39 117 c' (some j) (xs++[x])/\j≠b/\(i=some j\/H.az.length<=j)/\sO H H' (λd=>d=b\/i=some d):=by
 obtain⟨bs,es⟩:=H;have bW:b<bs.length:=kK hb;have sn:Hp.get ⟨bs,[]⟩ b=some (.cells [c] ty):=hb;have Eo:UL ⟨bs,[]⟩ 39 117 c i xs:=hu;have Ny:c.top<=bs.length/\(c=.aH\/∃j v l,c=.dF j v l):=by
  cases i with
  | none=>obtain⟨rfl,_⟩:=hu;exact⟨dP _,.inl rfl⟩
  | some j=>obtain⟨v,rfl,hj⟩:=hu;exact⟨kK hj,.inr ⟨_,_,_,rfl⟩⟩
 suffices bR:(go ⟨prog,gl,zj prog gl n,eg⟩ n (Fx prog [] λv H1=>v=.bx []/\∃c' j,(∀d,d<bs.length->d≠b->i≠some d->H1.get d=Hp.get ⟨bs,es⟩ d)/\H1.get b=some (.cells [c'] ty)/\UL H1 39 117 c' (some j) (xs++[x])/\j≠b/\(i=some j\/bs.length<=j/\(b,j+1)∈H1.bJ)/\bs.length<=H1.az.length) [.c (f91.body.getD .skip)] .normal ⟨[.ptr b 0,.agg x]++List.replicate 12 (.bx []),⟨bs,[]⟩,[],[]⟩) by
  obtain⟨v,H1,h0,rfl,c',j,h2,h3,h4,h5,h6,h7⟩:=zO (gl:=gl) (f:=91) (bs:=bs) (es:=es) (args:=[.ptr b 0,.agg x]) (n:=n) (hg.hk _ _ (by decide)) (λH=>hg.fq _ _ _ _) func91 rfl (by rw[hg.uq];exact bR)
  have hj:(zX bs.length es 0 H1).get j=H1.get j:=by
   rcases h6 with rfl|⟨h6,h8⟩
   ·exact jh (hu.lt)
   ·exact xG h8 bW (by omega) _
  exact⟨_,c',j,h0,(jh bW).trans h3,h4.frame λk hk=>by cases hk;exact hj,h5,h6.imp id And.left,v5 h7,λd hd hn=>(jh hd).trans (h2 d hd (λe=>hn (.inl e)) (λe=>hn (.inr e)))⟩
 have o7:dD (.agg x)=true:=rfl;have gy:zk prog (Hp.push ⟨bs,[]⟩ (.cells x 117)) gl.g 117 (.ptr bs.length 0)=some (.agg x):=by
  rw[jp tR rW Tr (by simp[hx])]
  simp[<- hx]
 have lQ:=Ly.BH (v:=.agg x) rfl hx;have KF:UL (Hp.push ⟨bs,[]⟩ (.cells x 117)) 39 117 c i xs:=Eo.frame λj hj=>by
  subst hj;obtain⟨v,_,h⟩:=Eo;rw[h];exact zM h
 have gj:=Ly.app (env:=[.ptr b 0,.agg x,.bx [],.ptr bs.length 0,.ptr b 0,.ptr b 0,.ptr b 0,.ptr b (0+0),c,.agg x,.sl 39 [.agg x] (.yes 117),.bx [],.bx [],.bx []]) (H:=Hp.push ⟨bs,[]⟩ (.cells x 117)) (lk:=[]) (df:=[]) (ys:=[.agg x]) (o:=.no) (by simp) KF fJ
 simp only[f91,gm,zi];refine zh ?_;simp only[qt,aK,wz,zL,qZ,zd,ze,qg o7,aN,aq,bX,bY,List.replicate,br,bt,V.laid,Ef]
 refine jo (tk:=[8]) (by kernel_rfl) (by kernel_rfl) ?_
 simp only[jY,au,lJ,DW,jD,jv,ne_eq,Nat.reduceEqDiff,ug,zG,zB,ak,zd,ze,zq,aN,aq,bX,bY,qj,aV,aa,DU,zT,ah]
 rw[WU (c:=c) DW (zM sn) rfl Ny.2]
 simp only[aN,aq,bX,bY,jY,au,lJ,tR,jE,ne_eq,Nat.reduceEqDiff,ug,ak,zd,ze,qj,List.all_nil,aV,
  gy,aW,zq,je,wb,jS,lQ,Ww (cx:=⟨prog,gl.g,zj prog gl n,eg⟩) (show rC prog eg 152=true by kernel_rfl)]
 cases i with
 | none =>
  obtain⟨rfl,rfl⟩:=hu;simp only[dr];rw[gj];simp only[aN,aq,bX,bY,jY,bu,au,lJ,zG,zB,zV,zL,ak,zd,ze,zq,qj,aV,aa,DU,zT,ah,qJ,om]
  rw[zA (cs:=[.aH]) (ty:=ty) Ly.st (zM (zM sn)) rfl rfl (by simp) (by simp[wr,locked])]
  simp only[bB,aq,zp,Fx,Vm.storeCells,V.laid,jn,bX]
  refine⟨trivial,[],rfl,rfl,.dF (bs.length+1) 0 1,bs.length+1,?_,?_,?_,by omega,.inr ⟨by omega,?_⟩,?_⟩
  ·intro d hd DN _;rw[bZ,jC,wT,wT];cases hg:Hp.get ⟨bs,[]⟩ d with
   | none=>exact absurd hg (by simp[Hp.get,zg,hd])
   | some y=>simp only[if_neg DN];exact hg.symm
  ·rw[bZ,jC,zM (zM sn)];simp
  ·refine⟨0,rfl,?_⟩;rw[bZ,jC];have:Hp.get (Hp.push (Hp.push ⟨bs,[]⟩ (.cells x 117)) (.ul 0 39 (cg [.agg x]) 117)) (bs.length+1)=some (.ul 0 39 (cg [.agg x]) 117):=by
    rw[wT,zlD (by simp[Hp.push])];simp[Hp.push]
   rw[this];have cK:bs.length+1≠b:=by omega
   simp[cK,cg,V.cells]
  ·exact zgW (v:=.dF (bs.length+1) 0 1) (by simp[V.top];omega)
  ·rw[xn,wl,jn,jn];show bs.length<=bs.length+1+1;omega
 | some j =>
  obtain⟨v,rfl,hj⟩:=Eo;have tQ:j≠b:=λe=>Xd (by rw[e])
  have Av:j<bs.length:=kK hj;simp only[jf] at gj ⊢;rw[gj];simp only[aN,aq,bX,bY,jY,bu,au,lJ,zG,zB,zV,zL,ak,zd,ze,zq,qj,aV,aa,DU,zT,ah,qJ,om]
  have mX:∀y,(((Hp.push ⟨bs,[]⟩ (.cells x 117)).set j y).bU j (.bx [.agg x])).get b=some (.cells [.dF j v xs.length] ty):=λy=>by
   rw[bZ,jC,zM sn];simp[Ne.symm tQ]
  rw[zA (cs:=[.dF j v xs.length]) (ty:=ty) Ly.st (mX _) rfl rfl (by simp) (by simp[wr,locked])]
  simp only[bB,aq,zp,Fx,Vm.storeCells,V.laid,bX]
  refine⟨trivial,[],rfl,rfl,.dF j (v+1) (xs.length+1),j,?_,?_,?_,tQ,.inl rfl,?_⟩
  ·intro d hd DN Xe;have Lx:d≠j:=λe=>Xe (by rw[e])
   rw[bZ,jC,bZ,jC,wT];cases hg:Hp.get ⟨bs,[]⟩ d with
   | none=>exact absurd hg (by simp[Hp.get,zg,hd])
   | some y=>simp only[if_neg DN,if_neg Lx];exact hg.symm
  ·rw[bZ,jC,mX];simp
  ·refine⟨v+1,by simp,?_⟩
   rw[bZ,jC,bZ,jC,zM hj];simp[tQ,cg,V.cells]
  ·simp[xn,wl,jn]
end
section
variable{gl:Gl}
theorem H_:prog.underlying 149=some (.slice 157):=Jy.u
theorem zpW(hg:GW gl){n:Nat}{H:Hp}{b j:Nat}{c:V}{ty:aD}{xs:List aG}{x:aG}(hb:H.get b=some (.cells [c] ty))(hu:UL H 11 157 c (some j) (xs++[x]))(tQ:j≠b)(hx:x.length=11)(Ef:x.map bg=x)(Dz:aL x=0)(pE:∀y∈xs,y.length=11)(hlen:xs.length<140737488355328) :
  ∃H' c',zj prog gl (n+1) 90 [.ptr b 0] H=some (.ret (.agg x),H')/\H'.get b=some (.cells [c'] ty)/\UL H' 11 157 c' (some j) xs/\sO H H' (λd=>d=b\/d=j):=by
 obtain⟨bs,es⟩:=H;have bW:b<bs.length:=kK hb;obtain⟨v,rfl,hj⟩:=hu;have Av:j<bs.length:=kK hj;have sn:Hp.get ⟨bs,[]⟩ b=some (.cells [.dF j v (xs++[x]).length] ty):=hb;have Xf:Hp.get ⟨bs,[]⟩ j=some (.ul v 11 (xs++[x]).flatten 157):=hj;obtain⟨z,GA,Ek,Cq,PF⟩:=Jy.zero;have nZ:(xs++[x]).flatten.length=xs.length * 11+11:=by
  rw[vr (n:=11) (by intro y hy;rcases tu.1 hy with h|h;exact pE y h;simp at h;rw[h,hx])]
  simp[Nat.succ_mul]
 suffices bR:(go ⟨prog,gl,zj prog gl n,eg⟩ n (Fx prog f90.results.toList λw H1=>w=.agg x/\∃c',(∀d,d<bs.length->d≠b->d≠j->H1.get d=Hp.get ⟨bs,es⟩ d)/\H1.get b=some (.cells [c'] ty)/\UL H1 11 157 c' (some j) xs/\bs.length<=H1.az.length) [.c (f90.body.getD .skip)] .normal ⟨[.ptr b 0]++List.replicate 30 (.bx []),⟨bs,[]⟩,[],[]⟩) by
  obtain⟨w,H1,h0,rfl,c',h2,h3,h4,h7⟩:=zO (gl:=gl) (f:=90) (bs:=bs) (es:=es) (args:=[.ptr b 0]) (n:=n) (hg.hk _ _ (by decide)) (λH=>hg.fq _ _ _ _) func90 rfl (by rw[hg.uq];exact bR)
  exact⟨_,c',h0,(jh bW).trans h3,h4.frame λk hk=>by cases hk;exact jh Av,v5 h7,λd hd hn=>(jh hd).trans (h2 d hd (λe=>hn (.inl e)) (λe=>hn (.inr e)))⟩
 simp only[f90,gm,zi];refine zh ?_;simp only[qt,aK,zi,qQ,GA,zR Ek,aN,aq,bX,bY,List.replicate,br,bt]
 refine jo (tk:=[]) (by kernel_rfl) (by kernel_rfl) ?_
 have Lz:(Hp.push ⟨bs,[]⟩ (.cells z.cells 157)).get b=some (.cells [.dF j v (xs++[x]).length] ty):=zM sn;have LA:(Hp.push ⟨bs,[]⟩ (.cells z.cells 157)).get j=some (.ul v 11 (xs++[x]).flatten 157):=zM Xf;have lP:∀u w,q0 prog .sub 3 u w (some (.int .i64 ((xs++[x]).length:Int))) (some (.int .i64 1))=some (.int .i64 (xs.length:Int)):=λu w=>by
  rw[kC,kU (by simp only[aZ,I1];omega) (by simp only[aZ,I1];omega)];simp
 have LC:zk prog (Hp.push ⟨bs,[]⟩ (.cells z.cells 157)) gl.g 157 (.gk j v (xs.length * 11))=some (.agg x):=by
  rw[zgX A_ u_ LA (by rw[nZ];omega)]
  rw[List.flatten_append,List.drop_append_of_le_length (by rw[vr pE];omega),List.drop_eq_nil_of_le (by rw[vr pE];omega)]
  simp[<- hx]
 have Ba:zk prog (Hp.push ⟨bs,[]⟩ (.cells z.cells 157)) gl.g 149 (.ptr b 0)=some (.dF j v (xs++[x]).length):=zr Cp Lz rfl;have HZ:zt prog 149 (.dF j v (xs++[x]).length) (xs.length:Int)=some (.gk j v (xs.length * 11)):=by
  rw[Ts H_ u_ (by simp only[aZ,I1];omega),uP]
 simp only[jY,bu,au,lJ,A_,Cp,zJ,qr,zG,zB,kx,zW,zU,qQ,GA,zR Ek,zV,zL,ak,aj,zd,ze,zq,aN,aq,bX,bY,qj,jf,zS,je,jU,qZ,aW,aV,aa,Co,zT,ah,om,
  Ba,xr H_,lP,aF,HZ,LC]
 obtain⟨HA,Ia⟩:∃HA,HA=Hp.push ⟨bs,[]⟩ (.cells z.cells 157):=⟨_,rfl⟩;rw[<- Ia] at Lz LA Ba ⊢;have LD:HA.az.length=bs.length+1:=by rw[Ia,jn]
 have Xg:HA.get bs.length=some (.cells z.cells 157):=by rw[Ia];exact Tr
 have Xh:∀d,d<bs.length->HA.get d=Hp.get ⟨bs,es⟩ d:=λd hd=>by rw[Ia,jI hd];rfl
 rw[zA (v:=.agg x) u_ (we (H:=HA)) rfl (by simp[V.laid,hx]) (by rw[Cq];omega) (wi PF (by rw[Cq];omega))]
 simp only[bB,aq,zi,V.laid,Ef,wM (show z.cells.length=x.length by rw[Cq,hx])]
 rw[jV (v:=.agg x) (by simp[V.top,Dz])]
 obtain⟨HB,tq⟩:∃HB,HB=Hp.set (HA.push (.cells z.cells 157)) HA.az.length (.cells x 157):=⟨_,rfl⟩;rw[<- tq,LD];have dW:HB.get b=some (.cells [.dF j v (xs++[x]).length] ty):=by rw[tq,qD (by omega),jI (by omega),Lz]
 have PG:HB.get j=some (.ul v 11 (xs++[x]).flatten 157):=by rw[tq,qD (by omega),jI (by omega),LA]
 have Xi:HB.get bs.length=some (.cells z.cells 157):=by rw[tq,qD (by omega),jI (by omega),Xg]
 have Xj:HB.get (bs.length+1)=some (.cells x 157):=by rw[tq,<- LD,wA we]
 have Xk:∀d,d<bs.length->HB.get d=Hp.get ⟨bs,es⟩ d:=λd hd=>by rw[tq,qD (by omega),jI (by omega),Xh d hd]
 have Xl:HB.az.length=bs.length+2:=by rw[tq,wl,jn,LD]
 refine jo (tk:=[]) (by kernel_rfl) (by kernel_rfl) ?_
 have LF:zk prog HB gl.g 149 (.ptr b 0)=some (.dF j v (xs++[x]).length):=zr Cp dW rfl
 simp only[jY,au,lJ,Cp,zJ,qr,zG,zB,kx,zW,zeJ,zds (cx:=⟨prog,gl.g,zj prog gl n,eg⟩) (show rC prog eg 149=true by kernel_rfl),ak,de,aj,zd,ze,zq,aN,aq,bX,bY,qj,jf,zS,aW,aV,aa,Co,zT,ah,om,
  LF,xr H_,lP]
 have LG:∀env,Ns prog 149 env HB [] [] (some (.dF j v (xs++[x]).length)) (some none) (some (some (.int .i64 (xs.length:Int))))=some (.val (.dF j (v+1) xs.length),⟨env,(HB.set j (.ul (v+1) 11 xs.flatten 157)).bU j .fQ,[],[]⟩):=λenv=>by
  have hle:xs.length<=(xs++[x]).length:=by simp
  simp only[Ns,H_,PG,u_,uP,hle,and_true,Int.natCast_nonneg,aI];rw[List.flatten_append,<- vr pE,List.take_left]
 rw[LG];simp only[jY,bu,zi,au,lJ,zG,zB,zV,zL,ak,zd,ze,zq,aN,aq,bX,bY,qj,qJ,aV,aa,Co,zT,ah,om]
 rw[zA (cs:=[.dF j v (xs++[x]).length]) (ty:=ty) Jy.st (by rw[kg (Ne.symm tQ),dW]) rfl rfl (by simp) (by simp[wr,locked])]
 obtain⟨HC,Cs⟩:∃HC,HC=Hp.bU (Hp.set ((HB.set j (.ul (v+1) 11 xs.flatten 157)).bU j .fQ) b (.cells (Vm.storeCells [.dF j v (xs++[x]).length] 0 (V.laid (.dF j (v+1) xs.length))) ty)) b (.dF j (v+1) xs.length):=⟨_,rfl⟩;rw[<- Cs];have Xm:HC.get b=some (.cells [.dF j (v+1) xs.length] ty):=by rw[Cs,gC (by rw[kg (Ne.symm tQ),dW])];rfl
 have Xn:HC.get j=some (.ul (v+1) 11 xs.flatten 157):=by rw[Cs,kg tQ,gC PG]
 have PI:HC.get bs.length=some (.cells z.cells 157):=by rw[Cs,kg (by omega),kg (by omega),Xi]
 have Xo:HC.get (bs.length+1)=some (.cells x 157):=by rw[Cs,kg (by omega),kg (by omega),Xj]
 have Xp:∀d,d<bs.length->d≠b->d≠j->HC.get d=Hp.get ⟨bs,es⟩ d:=λd hd h1 h2=>by rw[Cs,kg h1,kg h2,Xk d hd]
 have Xq:HC.az.length=bs.length+2:=by rw[Cs,Tt,Tt,Xl]
 simp only[bB,aq]
 refine zh ?_;have Fb:zk prog HC gl.g 157 (.ptr (bs.length+1) 0)=some (.agg x):=by
  rw[jp A_ u_ Xo (by simp[hx])];simp[<- hx]
 simp only[qt,aK,qr,zV,zL,ak,zd,ze,zq,aN,aq,bX,bY,qj,je,qZ,aW,aV,Fb]
 rw[zA (v:=.agg x) u_ PI rfl (by simp[V.laid,hx]) (by rw[Cq];omega) (wi PF (by rw[Cq];omega))]
 simp only[bB,aq,go_ret,zp,Fx,V.laid,Ef,wM (show z.cells.length=x.length by rw[Cq,hx])]
 rw[jV (v:=.agg x) (by simp[V.top,Dz])]
 obtain⟨HD,DX⟩:∃HD,HD=Hp.set HC bs.length (.cells x 157):=⟨_,rfl⟩;rw[<- DX];have Xr:HD.get bs.length=some (.cells x 157):=by rw[DX,wA PI]
 refine⟨trivial,[.agg x],?_,rfl,.dF j (v+1) xs.length,λd hd h1 h2=>by rw[DX,qD (by omega),Xp d hd h1 h2],by rw[DX,qD (by omega),Xm],⟨v+1,rfl,by rw[DX,qD (by omega),Xn]⟩,by rw[DX,wl,Xq];omega⟩
 simp only[zy,zd,ze];rw[jp A_ u_ Xr (by simp[hx])]
 simp[bg,<- hx]
theorem Ib:prog.underlying 152=some (.slice 117):=Ly.u
theorem zpX(hg:GW gl){n:Nat}{H:Hp}{b j:Nat}{c:V}{ty:aD}{xs:List aG}{x:aG}(hb:H.get b=some (.cells [c] ty))(hu:UL H 39 117 c (some j) (xs++[x]))(tQ:j≠b)(hx:x.length=39)(Ef:x.map bg=x)(Dz:aL x=0)(pE:∀y∈xs,y.length=39)(hlen:xs.length<140737488355328) :
  ∃H' c',zj prog gl (n+1) 93 [.ptr b 0] H=some (.ret (.agg x),H')/\H'.get b=some (.cells [c'] ty)/\UL H' 39 117 c' (some j) xs/\sO H H' (λd=>d=b\/d=j):=by
 obtain⟨bs,es⟩:=H;have bW:b<bs.length:=kK hb;obtain⟨v,rfl,hj⟩:=hu;have Av:j<bs.length:=kK hj;have sn:Hp.get ⟨bs,[]⟩ b=some (.cells [.dF j v (xs++[x]).length] ty):=hb;have Xf:Hp.get ⟨bs,[]⟩ j=some (.ul v 39 (xs++[x]).flatten 117):=hj;obtain⟨z,GA,Ek,Cq,PF⟩:=Ly.zero;have nZ:(xs++[x]).flatten.length=xs.length * 39+39:=by
  rw[vr (n:=39) (by intro y hy;rcases tu.1 hy with h|h;exact pE y h;simp at h;rw[h,hx])]
  simp[Nat.succ_mul]
 suffices bR:(go ⟨prog,gl,zj prog gl n,eg⟩ n (Fx prog f93.results.toList λw H1=>w=.agg x/\∃c',(∀d,d<bs.length->d≠b->d≠j->H1.get d=Hp.get ⟨bs,es⟩ d)/\H1.get b=some (.cells [c'] ty)/\UL H1 39 117 c' (some j) xs/\bs.length<=H1.az.length) [.c (f93.body.getD .skip)] .normal ⟨[.ptr b 0]++List.replicate 30 (.bx []),⟨bs,[]⟩,[],[]⟩) by
  obtain⟨w,H1,h0,rfl,c',h2,h3,h4,h7⟩:=zO (gl:=gl) (f:=93) (bs:=bs) (es:=es) (args:=[.ptr b 0]) (n:=n) (hg.hk _ _ (by decide)) (λH=>hg.fq _ _ _ _) func93 rfl (by rw[hg.uq];exact bR)
  exact⟨_,c',h0,(jh bW).trans h3,h4.frame λk hk=>by cases hk;exact jh Av,v5 h7,λd hd hn=>(jh hd).trans (h2 d hd (λe=>hn (.inl e)) (λe=>hn (.inr e)))⟩
 simp only[f93,gm,zi];refine zh ?_;simp only[qt,aK,zi,qQ,GA,zR Ek,aN,aq,bX,bY,List.replicate,br,bt]
 refine jo (tk:=[]) (by kernel_rfl) (by kernel_rfl) ?_
 have Lz:(Hp.push ⟨bs,[]⟩ (.cells z.cells 117)).get b=some (.cells [.dF j v (xs++[x]).length] ty):=zM sn;have LA:(Hp.push ⟨bs,[]⟩ (.cells z.cells 117)).get j=some (.ul v 39 (xs++[x]).flatten 117):=zM Xf;have lP:∀u w,q0 prog .sub 3 u w (some (.int .i64 ((xs++[x]).length:Int))) (some (.int .i64 1))=some (.int .i64 (xs.length:Int)):=λu w=>by
  rw[kC,kU (by simp only[aZ,I1];omega) (by simp only[aZ,I1];omega)];simp
 have LC:zk prog (Hp.push ⟨bs,[]⟩ (.cells z.cells 117)) gl.g 117 (.gk j v (xs.length * 39))=some (.agg x):=by
  rw[zgX tR rW LA (by rw[nZ];omega)]
  rw[List.flatten_append,List.drop_append_of_le_length (by rw[vr pE];omega),List.drop_eq_nil_of_le (by rw[vr pE];omega)]
  simp[<- hx]
 have Ba:zk prog (Hp.push ⟨bs,[]⟩ (.cells z.cells 117)) gl.g 152 (.ptr b 0)=some (.dF j v (xs++[x]).length):=zr DW Lz rfl;have HZ:zt prog 152 (.dF j v (xs++[x]).length) (xs.length:Int)=some (.gk j v (xs.length * 39)):=by
  rw[Ts Ib rW (by simp only[aZ,I1];omega),uP]
 simp only[jY,bu,au,lJ,tR,DW,zJ,qr,zG,zB,kx,zW,zU,qQ,GA,zR Ek,zV,zL,ak,aj,zd,ze,zq,aN,aq,bX,bY,qj,jf,zS,je,jU,qZ,aW,aV,aa,DU,zT,ah,om,
  Ba,xr Ib,lP,aF,HZ,LC]
 obtain⟨HA,Ia⟩:∃HA,HA=Hp.push ⟨bs,[]⟩ (.cells z.cells 117):=⟨_,rfl⟩;rw[<- Ia] at Lz LA Ba ⊢;have LD:HA.az.length=bs.length+1:=by rw[Ia,jn]
 have Xg:HA.get bs.length=some (.cells z.cells 117):=by rw[Ia];exact Tr
 have Xh:∀d,d<bs.length->HA.get d=Hp.get ⟨bs,es⟩ d:=λd hd=>by rw[Ia,jI hd];rfl
 rw[zA (v:=.agg x) rW (we (H:=HA)) rfl (by simp[V.laid,hx]) (by rw[Cq];omega) (wi PF (by rw[Cq];omega))]
 simp only[bB,aq,zi,V.laid,Ef,wM (show z.cells.length=x.length by rw[Cq,hx])]
 rw[jV (v:=.agg x) (by simp[V.top,Dz])]
 obtain⟨HB,tq⟩:∃HB,HB=Hp.set (HA.push (.cells z.cells 117)) HA.az.length (.cells x 117):=⟨_,rfl⟩;rw[<- tq,LD];have dW:HB.get b=some (.cells [.dF j v (xs++[x]).length] ty):=by rw[tq,qD (by omega),jI (by omega),Lz]
 have PG:HB.get j=some (.ul v 39 (xs++[x]).flatten 117):=by rw[tq,qD (by omega),jI (by omega),LA]
 have Xi:HB.get bs.length=some (.cells z.cells 117):=by rw[tq,qD (by omega),jI (by omega),Xg]
 have Xj:HB.get (bs.length+1)=some (.cells x 117):=by rw[tq,<- LD,wA we]
 have Xk:∀d,d<bs.length->HB.get d=Hp.get ⟨bs,es⟩ d:=λd hd=>by rw[tq,qD (by omega),jI (by omega),Xh d hd]
 have Xl:HB.az.length=bs.length+2:=by rw[tq,wl,jn,LD]
 refine jo (tk:=[]) (by kernel_rfl) (by kernel_rfl) ?_
 have LF:zk prog HB gl.g 152 (.ptr b 0)=some (.dF j v (xs++[x]).length):=zr DW dW rfl
 simp only[jY,au,lJ,DW,zJ,qr,zG,zB,kx,zW,zeJ,zds (cx:=⟨prog,gl.g,zj prog gl n,eg⟩) (show rC prog eg 152=true by kernel_rfl),ak,de,aj,zd,ze,zq,aN,aq,bX,bY,qj,jf,zS,aW,aV,aa,DU,zT,ah,om,
  LF,xr Ib,lP]
 have LG:∀env,Ns prog 152 env HB [] [] (some (.dF j v (xs++[x]).length)) (some none) (some (some (.int .i64 (xs.length:Int))))=some (.val (.dF j (v+1) xs.length),⟨env,(HB.set j (.ul (v+1) 39 xs.flatten 117)).bU j .fQ,[],[]⟩):=λenv=>by
  have hle:xs.length<=(xs++[x]).length:=by simp
  simp only[Ns,Ib,PG,rW,uP,hle,and_true,Int.natCast_nonneg,aI];rw[List.flatten_append,<- vr pE,List.take_left]
 rw[LG];simp only[jY,bu,zi,au,lJ,zG,zB,zV,zL,ak,zd,ze,zq,aN,aq,bX,bY,qj,qJ,aV,aa,DU,zT,ah,om]
 rw[zA (cs:=[.dF j v (xs++[x]).length]) (ty:=ty) Ly.st (by rw[kg (Ne.symm tQ),dW]) rfl rfl (by simp) (by simp[wr,locked])]
 obtain⟨HC,Cs⟩:∃HC,HC=Hp.bU (Hp.set ((HB.set j (.ul (v+1) 39 xs.flatten 117)).bU j .fQ) b (.cells (Vm.storeCells [.dF j v (xs++[x]).length] 0 (V.laid (.dF j (v+1) xs.length))) ty)) b (.dF j (v+1) xs.length):=⟨_,rfl⟩;rw[<- Cs];have Xm:HC.get b=some (.cells [.dF j (v+1) xs.length] ty):=by rw[Cs,gC (by rw[kg (Ne.symm tQ),dW])];rfl
 have Xn:HC.get j=some (.ul (v+1) 39 xs.flatten 117):=by rw[Cs,kg tQ,gC PG]
 have PI:HC.get bs.length=some (.cells z.cells 117):=by rw[Cs,kg (by omega),kg (by omega),Xi]
 have Xo:HC.get (bs.length+1)=some (.cells x 117):=by rw[Cs,kg (by omega),kg (by omega),Xj]
 have Xp:∀d,d<bs.length->d≠b->d≠j->HC.get d=Hp.get ⟨bs,es⟩ d:=λd hd h1 h2=>by rw[Cs,kg h1,kg h2,Xk d hd]
 have Xq:HC.az.length=bs.length+2:=by rw[Cs,Tt,Tt,Xl]
 simp only[bB,aq]
 refine zh ?_;have Fb:zk prog HC gl.g 117 (.ptr (bs.length+1) 0)=some (.agg x):=by
  rw[jp tR rW Xo (by simp[hx])];simp[<- hx]
 simp only[qt,aK,qr,zV,zL,ak,zd,ze,zq,aN,aq,bX,bY,qj,je,qZ,aW,aV,Fb]
 rw[zA (v:=.agg x) rW PI rfl (by simp[V.laid,hx]) (by rw[Cq];omega) (wi PF (by rw[Cq];omega))]
 simp only[bB,aq,go_ret,zp,Fx,V.laid,Ef,wM (show z.cells.length=x.length by rw[Cq,hx])]
 rw[jV (v:=.agg x) (by simp[V.top,Dz])]
 obtain⟨HD,DX⟩:∃HD,HD=Hp.set HC bs.length (.cells x 117):=⟨_,rfl⟩;rw[<- DX];have Xr:HD.get bs.length=some (.cells x 117):=by rw[DX,wA PI]
 refine⟨trivial,[.agg x],?_,rfl,.dF j (v+1) xs.length,λd hd h1 h2=>by rw[DX,qD (by omega),Xp d hd h1 h2],by rw[DX,qD (by omega),Xm],⟨v+1,rfl,by rw[DX,qD (by omega),Xn]⟩,by rw[DX,wl,Xq];omega⟩
 simp only[zy,zd,ze];rw[jp tR rW Xr (by simp[hx])]
 simp[bg,<- hx]
end
section
variable{gl:Gl}
theorem zg7{q:Nat->Bool}{k:Nat}:∀{ks:bO}{ns:List (Nat->Bool)},mL q (ks++[k]) ns=(mL q ks ns).set k (jG ((mL q ks ns).getD k λ_=>false) q)
 | [],_=>rfl
 | _::ks,_=>by simp only[br,mL];exact zg7
def ef(bs:List bq)(i:Option Nat)(ns:List (Nat->Bool)):List bq :=
 match i with
 | none=>bs
 | some j=>match nth bs j with
  | some (.ul v sz _ e)=>bs.set j (.ul v sz (ns.map (pv 19)).flatten e)
  | _=>bs
theorem Xs{bs:List bq}{j v sz e:Nat}{cs:aG}{ns:List (Nat->Bool)}(h:nth bs j=some (.ul v sz cs e)):ef bs (some j) ns=bs.set j (.ul v sz (ns.map (pv 19)).flatten e):=by simp only[ef,h]
theorem yL{bs:List bq}{i:Option Nat}{ns:List (Nat->Bool)}:(ef bs i ns).length=bs.length:=by
 unfold ef;split
 ·rfl
 ·split
  ·simp
  ·rfl
theorem TB{bs:List bq}{i:Option Nat}{ns:List (Nat->Bool)}{d:Nat}(h:i≠some d):nth (ef bs i ns) d=nth bs d:=by
 unfold ef;split
 ·rfl
 ·rename_i j;split
  ·rw[zg,r8 (by intro e;exact h (by rw[e])),zg]
  ·rfl
theorem TC{bs:List bq}{es:aP}{sz:Nat}{e:aD}{c:V}{i:Option Nat}{xs:List aG}(h:UL ⟨bs,es⟩ sz e c i xs){d:Nat}{cs:aG}{ty:aD}(hd:nth bs d=some (.cells cs ty)):i≠some d:=by
 intro e;subst e;obtain⟨v,_,h2⟩:=h;simp only[Hp.get] at h2;rw[hd] at h2;cases h2
theorem zjp{bs:List bq}{es fs:aP}{e:aD}{c:V}{i:Option Nat}{ns ns':List (Nat->Bool)}(h:UL ⟨bs,es⟩ 19 e c i (ns.map (pv 19)))(hl:ns'.length=ns.length):UL ⟨ef bs i ns',fs⟩ 19 e c i (ns'.map (pv 19)):=by
 cases i with
 | none =>
  obtain⟨h1,h2⟩:=h;have:ns=[]:=by simpa using h2
  subst this;exact⟨h1,by simp[G0 hl]⟩
 | some j =>
  obtain⟨v,h1,h2⟩:=h;have Gf:nth bs j=some (.ul v 19 (ns.map (pv 19)).flatten e):=h2;refine⟨v,by rw[h1];simp[hl],?_⟩
  have bW:j<bs.length:=by rw[zg] at Gf;exact(dA.1 Gf).1
  rw[Xs Gf];simp[Hp.get,zg,bW]
theorem TD{bs:List bq}{es:aP}{e:aD}{c:V}{i:Option Nat}{ns:List (Nat->Bool)}(h:UL ⟨bs,es⟩ 19 e c i (ns.map (pv 19))):ef bs i ns=bs:=by
 cases i with
 | none=>rfl
 | some j =>
  obtain⟨v,h1,h2⟩:=h;have Gf:nth bs j=some (.ul v 19 (ns.map (pv 19)).flatten e):=h2;rw[Xs Gf];exact jZ Gf
theorem zib{bs:List bq}{i:Option Nat}{ns ns':List (Nat->Bool)}:ef (ef bs i ns) i ns'=ef bs i ns':=by
 cases i with
 | none=>rfl
 | some j =>
  simp only[ef];cases h:nth bs j with
  | none=>simp[h]
  | some b =>
   have bW:j<bs.length:=by rw[zg] at h;exact(dA.1 h).1
   cases b<;>simp[h,zg,bW]
theorem rq:zH prog 113 2=some 2:=by kernel_rfl
theorem Fc:qG prog 111=some false:=by kernel_rfl
theorem GH:mY prog 111 115 19 152:=⟨by kernel_rfl,by kernel_rfl,by kernel_rfl,by decide,by kernel_rfl,by kernel_rfl,by kernel_rfl⟩
theorem Nz:qG prog 3=some false:=by kernel_rfl
theorem Xt(hg:GW gl){n:Nat}(hn:1300<=n){bs:List bq}{es:aP}{bm bl ol bf ob:Nat}{a0 a1 c:V}{i:Option Nat}{ns:List (Nat->Bool)}{p q:Nat->Bool}{pre post pre' post':aG}{ty ty' NA:aD}
  (hm:nth bs bm=some (.cells [a0,a1,c] NA)) (hu:UL ⟨bs,es⟩ 19 115 c i (ns.map (pv 19)))
  (hl:nth bs bl=some (.cells (pre++pv 19 p++post) ty)) (DF:pre.length=ol) (hf:nth bs bf=some (.cells (pre'++pv 19 q++post') ty')) (hof:pre'.length=ob)
  (dI:∀k∈jl p 19,k<ns.length) :
  zj prog gl (n+1) 57 [.ptr bm 0,.ptr bl ol,.ptr bf ob] ⟨bs,es⟩=some (.ret (.bx []),⟨ef bs i (mL q (jl p 19) ns),es⟩):=by
 generalize hL:jl p 19=L at *;have iG:zX bs.length es 0 ⟨ef bs i (mL q L ns),[]⟩=⟨ef bs i (mL q L ns),es⟩:=by
  have:=zY (bs:=ef bs i (mL q L ns)) (ls:=[]) (es:=es) (t:=0) (dP _)
  rwa [nk,yL] at this
 suffices bR:(go ⟨prog,gl,zj prog gl n,eg⟩ n (Fx prog f57.results.toList λw H1=>w=.bx []/\H1=⟨ef bs i (mL q L ns),[]⟩) [.c (f57.body.getD .skip)] .normal ⟨[.ptr bm 0,.ptr bl ol,.ptr bf ob]++List.replicate 21 (.bx []),⟨bs,[]⟩,[],[]⟩) by
  obtain⟨w,H1,h0,rfl,rfl⟩:=zO (gl:=gl) (f:=57) (bs:=bs) (es:=es) (args:=[.ptr bm 0,.ptr bl ol,.ptr bf ob]) (n:=n) (hg.hk _ _ (by decide)) (λH=>hg.fq _ _ _ _) func57 rfl (by rw[hg.uq];exact bR)
  rw[h0,show(V.bx []).top=0 from rfl,iG]
 have hLl:L.length<=1216:=by
  have:=xq (p:=p) 19;rw[xF,iK,hL] at this;omega
 have PJ:Cx.bK ⟨prog,gl.g,zj prog gl n,eg⟩ 59 [.ptr bl ol] ⟨bs,[]⟩=some (.val (bg (zm 1 3 (L.map λk=>V.int .i64 ((k:Nat):Int)))),⟨bs,[]⟩):=by
  have h:=zg5 hg (n:=n - 1) (by omega) (H:=⟨bs,[]⟩) (b:=bl) (off:=ol) (pre:=pre) (post:=post) (p:=p) hl DF
  rw[xF,hL,show n - 1+1=n by omega] at h
  exact zu func59 rfl h
 simp only[f57,gm,zi];refine zh ?_;simp only[qt,aK,zJ,kf,av,ak,ql,aj,zd,ze,zq,aN,aq,bX,bY,List.replicate,br,bt,qj,qP,aC,PJ,bk,bw,kx,aV,qU,Tu DS.u,aW,iK]
 simp only[zx];refine qx (λm s=>∃k env,m+k=L.length/\s=⟨env,⟨ef bs i (mL q (L.take k) ns),[]⟩,[],[]⟩/\env.length=24/\nth env 0=some (.ptr bm 0)/\nth env 2=some (.ptr bf ob)/\nth env 9=some (bg (zm 1 3 (L.map λk=>V.int .i64 ((k:Nat):Int))))/\nth env 10=some (.int .i64 (L.length:Nat))/\nth env 11=some (.int .i64 (k:Nat))) L.length (by omega) ?_ ?_
 ·have DT:ef bs i (mL q (L.take 0) ns)=bs:=TD hu;refine⟨0,_,rfl,by rw[DT],?_,?_,?_,?_,?_,?_⟩<;>rfl
 rintro m s ⟨k,env,C4,rfl,hlen,h0,h2,h9,Ck,Xu⟩;simp only[zi];refine zh ?_;simp only[qt,aK,zi,qT,zW,ak,Ck,Xu,zq,aN,aq,za,hlen,Nat.reduceLT,aI,zS,qR,qV,qK]
 by_cases hk:k<L.length
 ·refine .inl ⟨by simp;omega,?_⟩
  simp only[bH,zi,zx]
  have hx:nth (L.map λk=>V.int .i64 ((k:Nat):Int)) k=some (.int .i64 ((L[k]:Nat):Int)):=by rw[zg];simp[hk]
  have gI:∀w:V,nth env 9=some w->bg w=w->bg (bg w)=w:=λw _ h=>by rw[h,h]
  refine zh ?_;have HZ:=zku DS.u (show z4 prog 3=some 1 by kernel_rfl) hx
  simp only[qt,aK,zU,qr,z6,zL,ak,h9,Xu,zq,z8,aN,aq,za,bI,hlen,Nat.reduceEqDiff,Nat.reduceLT,aI,bD,zS,aV,aF,qU,HZ,V.cells,wR,zlL Nz,aW,qo]
  refine zh ?_;have hkL:L[k]<ns.length:=dI _ (List.getElem_mem hk);obtain⟨j,rfl⟩:∃j,i=some j:=by
   cases i with
   | none =>
    have:ns=[]:=by simpa using hu.2
    subst this;simp at hkL
   | some j=>exact⟨j,rfl⟩
  have V5:=TC hu hm;have hjf:=TC hu hf;have nD:=zjp (fs:=[]) (ns':=mL q (L.take k) ns) hu wm;obtain⟨v,rfl,hj⟩:=nD;obtain⟨An,Jx⟩:∃An,An=ef bs (some j) (mL q (L.take k) ns):=⟨_,rfl⟩;have Ov:Hp.get ⟨An,[]⟩ bm=some (.cells [a0,a1,.dF j v (List.map (pv 19) (mL q (L.take k) ns)).length] NA):=by rw[Jx];exact(TB V5).trans hm
  have EU:nth An bf=some (.cells (pre'++pv 19 q++post') ty'):=by rw[Jx];exact(TB hjf).trans hf
  obtain⟨pr,po,g1,g2,g3⟩:=zgV (ns:=mL q (L.take k) ns) (k:=L[k]) (by rw[wm];exact hkL)
  rw[<- Jx] at hj ⊢;have sC:nth An j=some (.ul v 19 (pr++pv 19 ((mL q (L.take k) ns).getD L[k] λ_=>false)++po) 115):=by rw[<- g2];exact hj
  have gy:zk prog ⟨An,[]⟩ gl.g 111 (.ptr bm (0+2))=some (.dF j v (List.map (pv 19) (mL q (L.take k) ns)).length):=zr Fc Ov rfl;have Xv:zt prog 111 (.dF j v (List.map (pv 19) (mL q (L.take k) ns)).length) ((L[k]:Nat):Int)=some (.gk j v (L[k] * 19)):=by
   rw[Ts GH.u GH.s (by rw[iK,wm];omega),uP]
  have PK:=zlY hg (n:=n - 1) (by omega) (es:=[]) sC g1 EU hof (λe=>hjf (by rw[e]))
  rw[show n - 1+1=n by omega,<- g3] at PK
  have dz:Cx.bK ⟨prog,gl.g,zj prog gl n,eg⟩ 58 [.gk j v (L[k] * 19),.ptr bf ob] ⟨An,[]⟩=_:=zu func58 rfl PK;simp only[qt,aK,zJ,zG,zB,qr,zU,kf,av,ql,ak,h0,h2,zq,aN,aq,za,bI,hlen,Nat.reduceEqDiff,Nat.reduceLT,aI,bD,qj,zS,jf,jU,aV,aW,aa,rq,zT,ah,aF,gy,Xv,qP,aC,dz,bk,bw,qE]
  have hH:An.set j (.ul v 19 (((mL q (L.take k) ns).set L[k] (jG ((mL q (L.take k) ns).getD L[k] λ_=>false) q)).map (pv 19)).flatten 115)=ef bs (some j) (mL q (L.take (k+1)) ns):=by
   rw[<- zib (ns:=mL q (L.take k) ns),<- Jx,Xs sC,List.take_succ_eq_append_getElem hk,zg7]
  rw[hH];refine zh ?_;simp only[qt,aK,zW,zJ,ak,aj,Xu,zq,aN,aq,za,bI,hlen,Nat.reduceEqDiff,Nat.reduceLT,aI,bD,zS,qn (show k<2 ^ 60 by omega),zp,aO]
  refine⟨L.length - (k+1),by omega,k+1,_,by omega,rfl,?_,?_,?_,?_,?_,?_⟩<;>simp[za,hlen,h0,h2,h9,Ck]
 ·obtain rfl:k=L.length:=by omega
  refine .inr ⟨by simp,?_⟩
  simp only[qk,zN,zp,bN,zD,iV,aI,Fx];refine⟨trivial,[],rfl,rfl,?_⟩;rw[Gc]
end
section
variable{gl:Gl}
section
variable{B ls:List bq}{d k:Nat}{x:bq}
theorem gB(h:d<B.length):nth (B++ls) d=nth B d:=by rw[zg,zg,gF h]
theorem gN:nth (B++ls) (B.length+k)=nth ls k:=by rw[zg,zg,fM (by omega)];simp
theorem NC:nth (B++ls) B.length=nth ls 0:=gN (k:=0)
theorem sN:(B++ls).set (B.length+k) x=B++ls.set k x:=by rw[uN _ _ (by omega)];simp
theorem sN0:(B++ls).set B.length x=B++ls.set 0 x:=sN (k:=0)
theorem sB(h:d<B.length):(B++ls).set d x=B.set d x++ls:=F_ _ _ h
end
section
variable{P:aY}{t n:aD}{B ls:List bq}{k off:Nat}{cs:aG}{ty:aD}{v:V}{env:aG}{lk:aP}{df:bS}{es:aP}{g:Nat->Nat->cj}
theorem Jz(hs:z4 P t=some n)(hg:nth ls k=some (.cells cs ty))(h1:dD v=true)(h2:v.laid.length=n)(h3:off+n<=cs.length)(h4:cs.all (λc=>!(locked c))=true)(ht:v.top=0) :
  qp P t ⟨B++ls,es⟩ lk df (some (v,env)) (some (.ptr (B.length+k) off))=some (.skip,⟨env,⟨B++ls.set k (.cells (Vm.storeCells cs off v.laid) ty),es⟩,lk,df⟩):=by
 rw[zA hs (show Hp.get ⟨B++ls,es⟩ _=_ from gN.trans hg) h1 h2 h3 (wi h4 h3),jV (by rw[ht];omega)]
 simp only[Hp.set,sN]
theorem zlZ(hs:z4 P t=some n)(hg:nth ls 0=some (.cells cs ty))(h1:dD v=true)(h2:v.laid.length=n)(h3:off+n<=cs.length)(h4:cs.all (λc=>!(locked c))=true)(ht:v.top=0) :
  qp P t ⟨B++ls,es⟩ lk df (some (v,env)) (some (.ptr B.length off))=some (.skip,⟨env,⟨B++ls.set 0 (.cells (Vm.storeCells cs off v.laid) ty),es⟩,lk,df⟩):=Jz (k:=0) hs hg h1 h2 h3 h4 ht
theorem Xw(ha:qG P t=some false)(hg:nth ls k=some (.cells cs ty))(hn:nth cs off=some v):zk P ⟨B++ls,es⟩ g t (.ptr (B.length+k) off)=some v:=zr ha (gN.trans hg) hn
theorem Xx(ha:qG P t=some false)(hg:nth ls 0=some (.cells cs ty))(hn:nth cs off=some v):zk P ⟨B++ls,es⟩ g t (.ptr B.length off)=some v:=zr ha (NC.trans hg) hn
theorem Xy(ha:qG P t=some true)(hs:z4 P t=some n)(hg:nth ls k=some (.cells cs ty))(hl:off+n<=cs.length):zk P ⟨B++ls,es⟩ g t (.ptr (B.length+k) off)=some (.agg ((cs.drop off).take n)):=jp ha hs (gN.trans hg) hl
theorem zoH(ha:qG P t=some true)(hs:z4 P t=some n)(hg:nth ls 0=some (.cells cs ty))(hl:off+n<=cs.length):zk P ⟨B++ls,es⟩ g t (.ptr B.length off)=some (.agg ((cs.drop off).take n)):=jp ha hs (NC.trans hg) hl
end
section
variable{P:aY}{t n:aD}{B ls:List bq}{k off bm:Nat}{cs:aG}{ty e:aD}{xs ys:aG}{env:aG}{lk:aP}{df:bS}{es:aP}
theorem zg8(ha:qG P t=some false)(bW:bm<B.length)(hb:nth B bm=some (.cells cs ty))(hn:nth cs off=some (zm n e xs)) :
  v4 P t env ⟨B++ls,es⟩ [] df (some (.ptr bm off))=some (.val (zm n e xs),⟨env,⟨B.set bm (.cells (cs.set off (oO n xs)) ty)++ls,es⟩,kD bm off xs,df⟩):=by
 rw[Tw ha (show Hp.get ⟨B++ls,es⟩ bm=_ from(gB bW).trans hb) hn];simp only[Hp.set,sB bW]
theorem zeQ(hs:z4 P t=some 1)(bW:bm<B.length)(ho:off<cs.length)(ht:(zm n e ys).top=0) :
  qp P t ⟨B.set bm (.cells (cs.set off (oO n xs)) ty)++ls,es⟩ (kD bm off xs) df (some (zm n e ys,env)) (some (.ptr bm off))=some (.skip,⟨env,⟨B.set bm (.cells (cs.set off (zm n e ys)) ty)++ls,es⟩,kD bm off xs,df⟩):=by
 have iM:bm<(B.set bm (.cells (cs.set off (oO n xs)) ty)).length:=by rw[bI];exact bW
 rw[zA hs (show Hp.get ⟨_++ls,es⟩ bm=some (.cells (cs.set off (oO n xs)) ty) from(gB iM).trans (by simp[zg,bW])) Pw (by rw[vt];rfl) (by rw[bI];omega) (Pv ho),jV (by rw[ht];omega)]
 simp only[Hp.set,sB iM,List.set_set,vt,Vm.storeCells]
end
def c_:Nat->Bool:=λ_=>false
structure Part where
 null:Bool
 first:Nat->Bool
 last:Nat->Bool
def zo(p:Part):aG:=.bool p.null::(pv 19 p.first++pv 19 p.last)
theorem q8{p:Part}:(zo p).length=39:=by simp[zo,jH]
theorem zl1{m:Nat}{p:Nat->Bool}:(pv m p).map bg=pv m p:=by
 simp only[pv,List.map_map];rfl
theorem wO{p:Part}:(zo p).map bg=zo p:=by simp[zo,zl1,qR]
theorem gE:∀{xs ys:aG},aL xs=0->aL ys=0->aL (xs++ys)=0
 | [],_,_,h=>h
 | x::xs,ys,h1,h2=>by
  simp only[aL,br,Nat.max_eq_zero_iff] at h1 ⊢;exact⟨h1.1,gE h1.2 h2⟩
theorem TE{m:Nat}{p:Nat->Bool}:aL (pv m p)=0:=by
 unfold pv
 induction List.range m with
 | nil=>rfl
 | cons x xs ih=>simp only[bk,aL,V.top,ih];rfl
theorem yM{p:Part}:aL (zo p)=0:=by
 simp only[zo,aL,V.top,gE TE TE];rfl
theorem LH:qL prog 117=some (.agg (zo ⟨false,c_,c_⟩)):=by kernel_rfl
theorem zpY{env:aG}:kw prog 115 #[] env=some (.agg (pv 19 c_)):=by kernel_rfl
theorem zpl{m:Nat}{p:Nat->Bool}:(pv m p).all (λc=>!(locked c))=true:=by
 simp[pv,locked]
theorem yy{p:Part}:(zo p).all (λc=>!(locked c))=true:=by
 simp only[zo,List.all_cons,List.all_append,zpl];rfl
theorem znV{x:V}{cs:aG}{k:Nat}:Vm.storeCells cs k [x]=cs.set k x:=rfl
theorem Ep{B ls:List bq}{k:Nat}{p:Part}{es:aP}{g:Nat->Nat->cj}(hg:nth ls k=some (.cells (zo p) 117)):zk prog ⟨B++ls,es⟩ g 117 (.ptr (B.length+k) 0)=some (.agg (zo p)):=by
 rw[Xy tR rW hg (by rw[q8];decide)]
 rw[ny,<- q8 (p:=p),Gc]
theorem PL{B ls:List bq}{k:Nat}{p q:Part}{env:aG}{lk:aP}{df:bS}{es:aP}(hg:nth ls k=some (.cells (zo q) 117)):qp prog 117 ⟨B++ls,es⟩ lk df (some (.agg (zo p),env)) (some (.ptr (B.length+k) 0))=some (.skip,⟨env,⟨B++ls.set k (.cells (zo p) 117),es⟩,lk,df⟩):=by
 rw[Jz (k:=k) (v:=.agg (zo p)) rW hg rfl (by simp[V.laid,q8]) (by rw[q8];decide) yy (by simp[V.top,yM])]
 simp only[V.laid,wO];rw[wM (by rw[q8,q8])]
structure Mk where
 sets:List (Int×Int×Int×Int)
 rules:List Int
 next:List (Nat->Bool)
def Fe(s0 s1 s2 s3:Int):V:=.agg [.int .u64 s0,.int .u64 s1,.int .u64 s2,.int .u64 s3]
def Xz(q:Int×Int×Int×Int):V:=Fe q.1 q.2.1 q.2.2.1 q.2.2.2
def Mk.lC(m:Mk):aG:=m.sets.map Xz
def Mk.fW(m:Mk):aG:=m.rules.map (.int .i64)
theorem wo{α:Type}{h:α->V}(hh:∀a,(h a).top=0):∀(l:List α),aL (l.map h)=0
 | []=>rfl
 | a::l=>by simp[aL,hh a,wo hh l]
theorem PM{n:Nat}{e:aD}{xs:aG}(h:aL xs=0):(zm n e xs).top=0:=by
 cases xs with
 | nil=>rfl
 | cons x xs=>simpa[zm,V.top] using h
def MK(n0:Nat)(H:Hp)(bm:Nat)(m:Mk)(i:Option Nat):Prop :=
 ∃c,H.get bm=some (.cells [zm 4 50 m.lC,zm 1 3 m.fW,c] 113)/\UL H 19 115 c i (m.next.map (pv 19))/\∀j,i=some j->n0<=j->bm<j/\(bm,j+1)∈H.bJ
def JA(n0:Nat)(i i':Option Nat):Prop:=i'=i\/i=none/\∃j,i'=some j/\n0<=j
theorem MK.start{bs:List bq}{es:aP}{n0 bm:Nat}{m:Mk}{i:Option Nat}(h:MK n0 ⟨bs,es⟩ bm m i):MK bs.length ⟨bs,[]⟩ bm m i:=by
 obtain⟨c,h1,h2,_⟩:=h;refine⟨c,h1,h2,λj hj hn=>?_⟩;subst hj;exact absurd h2.lt (by simpa using hn)
theorem MK.finish{bs:List bq}{es:aP}{n0 bm t:Nat}{m m':Mk}{i i':Option Nat}{H:Hp}(h:MK n0 ⟨bs,es⟩ bm m i)(_hn:n0<=bs.length)(dY:JA bs.length i i')(h1:MK bs.length H bm m' i'):MK n0 (zX bs.length es t H) bm m' i':=by
 obtain⟨c,g1,g2,g3⟩:=h;obtain⟨c',k1,k2,k3⟩:=h1;have bW:bm<bs.length:=kK g1;refine⟨c',(jh bW).trans k1,k2.frame λj hj=>?_,λj hj hn=>?_⟩
 ·by_cases PK:j<bs.length
  ·exact jh PK
  ·exact xG (k3 j hj (by omega)).2 bW (by omega) _
 ·by_cases PK:j<bs.length
  ·have:i=some j:=by
    rcases dY with rfl|⟨_,j',h1,h2⟩
    ·exact hj
    ·rw[hj] at h1;cases h1;omega
   have:=g3 j this hn;refine⟨this.1,?_⟩;unfold zX;obtain⟨b,e⟩:=H;simp only;split<;>exact CQ _ this.2
  ·have:=k3 j hj (by omega)
   refine⟨this.1,?_⟩;unfold zX;obtain⟨b,e⟩:=H;simp only;split
   ·refine Bu _ (List.mem_filter.2 ⟨this.2,?_⟩);exact G1 (show bm+1<=bs.length by omega)
   ·exact Bu _ this.2
theorem zdF{bs:List bq}{es:aP}{t:Nat}{H:Hp}{S:Nat->Prop}(h:sO ⟨bs,[]⟩ H S):sO ⟨bs,es⟩ (zX bs.length es t H) S :=
 ⟨v5 h.len,λd hd hn=>(jh hd).trans (h.get d hd hn)⟩
theorem Ic:∀{pre xs ys:aG},ys.length=xs.length->Vm.storeCells (pre++ys) pre.length xs=pre++xs:=by
 intro pre xs ys h;apply EI;intro i;rw[WV]
 by_cases h1:i<pre.length
 ·rw[if_neg (by omega),gF h1,gF h1]
 ·by_cases h2:i<pre.length+xs.length
  ·rw[if_pos ⟨by omega,h2,by rw[aZ];omega⟩,fM (by omega)]
  ·rw[if_neg (by omega),uf (by rw[aZ];omega),uf (by rw[aZ];omega)]
theorem zl2{p:Part}{l:Nat->Bool}:Vm.storeCells (zo p) 20 (pv 19 l)=zo ⟨p.null,p.first,l⟩:=by
 have h:=Ic (pre:=.bool p.null::pv 19 p.first) (xs:=pv 19 l) (ys:=pv 19 p.last) (by rw[jH,jH])
 rw[show(V.bool p.null::pv 19 p.first).length=20 by simp[jH]] at h
 exact h
theorem zpn{m:Nat}{p:Nat->Bool}:(V.agg (pv m p)).top=0:=by simp[V.top,TE]
theorem zkw{p:Part}:((zo p).drop 20).take 19=pv 19 p.last:=by
 have h:(zo p).drop 20=pv 19 p.last:=by
  have:=List.drop_left (l₁:=V.bool p.null::pv 19 p.first) (l₂:=pv 19 p.last)
  rwa [show(V.bool p.null::pv 19 p.first).length=20 by simp[jH]] at this
 rw[h];exact su (by rw[jH];decide)
end
section
variable{gl:Gl}
def jP(op:Int)(set:Int×Int×Int×Int)(r:Int)(m:Mk):Part×Mk :=
 if op=1 then (⟨true,c_,c_⟩,m) else (⟨false,jT c_ m.sets.length,jT c_ m.sets.length⟩,⟨m.sets++[set],m.rules++[r],m.next++[c_]⟩)
theorem tU:z4 prog 53=some 10:=by kernel_rfl
theorem Ct:qG prog 53=some true:=by kernel_rfl
theorem Cu:zH prog 53 0=some 0:=by kernel_rfl
theorem LI:zH prog 53 2=some 2:=by kernel_rfl
theorem iq:zH prog 117 0=some 0:=by kernel_rfl
theorem o8:zH prog 117 1=some 1:=by kernel_rfl
theorem o_:zH prog 117 2=some 20:=by kernel_rfl
theorem v_:zH prog 113 0=some 0:=by kernel_rfl
theorem Ff:zH prog 113 1=some 1:=by kernel_rfl
theorem ND:qG prog 4=some false:=by kernel_rfl
theorem XA:z4 prog 4=some 1:=by kernel_rfl
theorem PN:z4 prog 27=some 1:=by kernel_rfl
theorem Ie:qG prog 27=some false:=by kernel_rfl
theorem Fg:qG prog 26=some false:=by kernel_rfl
theorem PO:z4 prog 26=some 1:=by kernel_rfl
theorem PR:qG prog 50=some true:=by kernel_rfl
theorem XB:z4 prog 50=some 4:=by kernel_rfl
theorem XC:mY prog 26 50 4 32:=⟨by kernel_rfl,by kernel_rfl,by kernel_rfl,by decide,by kernel_rfl,by kernel_rfl,by kernel_rfl⟩
theorem zl3(hg:GW gl){n n0:Nat}{H:Hp}{bm:Nat}{m:Mk}{i:Option Nat}{op pl s0 s1 s2 s3 mn mx r:Int}{text:bO}{nl:Bool}{args:List E}
  (hm:MK n0 H bm m i) (AM:n0<=H.az.length) (hs:m.sets.length<1216) (hr:m.rules.length<1216) (hx:m.next.length<1216) :
  ∃H' i',zj prog gl (n+2) 92 [.ptr bm 0,enc (.mk op pl s0 s1 s2 s3 text mn mx nl args),.int .i64 r] H=some (.ret (.agg (zo (jP op (s0,s1,s2,s3) r m).1)),H')/\MK n0 H' bm (jP op (s0,s1,s2,s3) r m).2 i'/\JA H.az.length i i'/\sO H H' (λd=>d=bm\/i=some d):=by
 obtain⟨bs,es⟩:=H;have C3:=hm.start
 suffices bR:(go ⟨prog,gl,zj prog gl (n+1),eg⟩ (n+1) (Fx prog f92.results.toList λw H1=>w=.agg (zo (jP op (s0,s1,s2,s3) r m).1)/\∃i',MK bs.length H1 bm (jP op (s0,s1,s2,s3) r m).2 i'/\JA bs.length i i'/\sO ⟨bs,[]⟩ H1 (λd=>d=bm\/i=some d)) [.c (f92.body.getD .skip)] .normal ⟨[.ptr bm 0,enc (.mk op pl s0 s1 s2 s3 text mn mx nl args),.int .i64 r]++List.replicate 56 (.bx []),⟨bs,[]⟩,[],[]⟩) by
  obtain⟨w,H1,h0,rfl,i',h1,h2,h3⟩:=zO (gl:=gl) (f:=92) (bs:=bs) (es:=es) (args:=[.ptr bm 0,enc (.mk op pl s0 s1 s2 s3 text mn mx nl args),.int .i64 r]) (n:=n+1) (hg.hk _ _ (by decide)) (λH=>hg.fq _ _ _ _) func92 rfl (by rw[hg.uq];exact bR)
  exact⟨_,i',h0,hm.finish AM h2 h1,h2,zdF h3⟩
 obtain⟨c,hc,hu,hed⟩:=C3;have bW:bm<bs.length:=kK hc;obtain⟨S,hS⟩:∃S,S=m.lC:=⟨_,rfl⟩;obtain⟨R,hR⟩:∃R,R=m.fW:=⟨_,rfl⟩;have PS:S.length=m.sets.length:=by rw[hS,Mk.lC,iK]
 have hRl:R.length=m.rules.length:=by rw[hR,Mk.fW,iK]
 have hSt:aL S=0:=by rw[hS];exact wo (λ_=>rfl) _
 have hRt:aL R=0:=by rw[hR];exact wo (λ_=>rfl) _
 rw[<- hS,<- hR] at hc;have o7:dD (enc (.mk op pl s0 s1 s2 s3 text mn mx nl args))=true:=rfl;simp only[f92,gm,zi];refine zh ?_;simp only[enc] at o7 ⊢
 simp only[BA,aq,zc,zd,ze,bX,bY,qg o7,LH,zR (show dD (V.agg (zo ⟨false,c_,c_⟩))=true from rfl),V.laid,V.cells,z9,List.replicate];refine zh ?_
 simp only[BA,aq,zc,Nat.reduceAdd,bX,bY,LH,zR (show dD (V.agg (zo ⟨false,c_,c_⟩))=true from rfl),V.cells]
 generalize hX:bq.cells [V.int IntKind.i64 op,V.int IntKind.i64 pl,V.int IntKind.u64 s0,V.int IntKind.u64 s1,V.int IntKind.u64 s2,V.int IntKind.u64 s3,V.str text,V.int IntKind.i64 mn,V.int IntKind.i64 mx,yT nl (fO args)] 53=X;refine zh ?_;have tG:∀x y,zk prog ⟨bs++[X,x,y],[]⟩ gl.g 3 (.ptr bs.length 0)=some (.int .i64 op):=λx y=>zr Nz (by subst hX;exact NC) rfl
 simp only[BA,ak,aj,aq,ah,zd,ze,bX,bY,Cu,iq,tG,wJ];rw[Jz (k:=2) (cs:=zo ⟨false,c_,c_⟩) (ty:=117) XA rfl rfl rfl (by rw[q8];decide) yy rfl]
 simp only[bB,aq,V.laid,znV,bY,bX]
 rw[show(zo ⟨false,c_,c_⟩).set 0 (.bool (op == 1))=zo ⟨op == 1,c_,c_⟩ from rfl];refine zh ?_;have Gq:∀x y b p q,zk prog ⟨bs++[x,y,bq.cells (zo ⟨b,p,q⟩) 117],[]⟩ gl.g 4 (.ptr (bs.length+2) 0)=some (.bool b):=λx y b p q=>Xw (k:=2) ND rfl rfl
 simp only[BA,ak,aq,ah,zd,ze,bX,bY,iq,Gq,i_];have hLP:∀x y p es,zk prog ⟨bs++[x,y,.cells (zo p) 117],es⟩ gl.g 117 (.ptr (bs.length+2) 0)=some (.agg (zo p)):=λx y p es=>Ep (k:=2) rfl
 by_cases aE:op=1
 ·subst aE;refine .inr ⟨by decide,?_⟩
  refine zh ?_;simp only[BA,ak,aq,zd,ze,bX,bY,hLP];rw[PL (k:=1) (q:=⟨false,c_,c_⟩) rfl];simp only[bB,aq,go_ret,zp,Fx,bY,bX]
  refine⟨trivial,[.agg (zo ⟨true,c_,c_⟩)],?_,rfl,i,?_,.inl rfl,?_⟩
  ·simp only[zy,zd,ze];rw[Ep (k:=1) (p:=⟨1 == 1,c_,c_⟩) rfl];simp[bg]
  ·refine⟨c,(gB bW).trans (by have h:=hc;rw[hS,hR] at h;exact h),hu.frame λj hj=>gB (by subst hj;exact hu.lt),λj hj hn=>?_⟩
   subst hj;exact absurd hu.lt (by simpa using hn)
  ·exact⟨by simp,λd hd _=>gB hd⟩
 ·refine .inl ⟨by simp[aE],?_⟩
  have Gg:(op == 1)=false:=by simp[aE]
  simp only[Gg];refine zh ?_;have hl3:∀ls es,zk prog ⟨bs++ls,es⟩ gl.g 26 (.ptr bm 0)=some (zm 4 50 S):=λls es=>zr Fg (show Hp.get ⟨bs++ls,es⟩ bm=_ from(gB bW).trans hc) rfl;simp only[BA,ak,aq,aa,ah,zd,ze,bX,bY,v_,hl3,Tu XC.u,PS]
  refine zh ?_;have oC:∀(ls:List bq)(k off:Nat)(pre post:aG)(p:Nat->Bool),nth ls k=some (.cells (pre++pv 19 p++post) 117)->pre.length=off->Cx.bK ⟨prog,gl.g,zj prog gl (n+1),eg⟩ 56 [.ptr (bs.length+k) off,.int .i64 (m.sets.length:Int)] ⟨bs++ls,[]⟩=some (.val (.bx []),⟨bs++ls.set k (.cells (pre++pv 19 (jT p m.sets.length)++post) 117),[]⟩):=λls k off pre post p h1 h2=>by
   have:=zjl hg (n:=n) (bs:=bs++ls) (es:=[]) (b:=bs.length+k) (gN.trans h1) h2 hs;rw[sN] at this;exact zu func56 rfl this
  have hA:=λx y=>oC [x,y,.cells (zo ⟨false,c_,c_⟩) 117] 2 1 [.bool false] (pv 19 c_) c_ rfl rfl;have hB:=λx y=>oC [x,y,.cells (zo ⟨false,jT c_ m.sets.length,c_⟩) 117] 2 20 (.bool false::pv 19 (jT c_ m.sets.length)) [] c_ (by simp[zo,nth]) (by simp[jH])
  simp only[BA,av,ak,aq,ah,aC,zd,ze,bX,bY,o8,hA];rw[show bq.cells (V.bool false::(pv 19 (jT c_ m.sets.length)++pv 19 c_)) 117=.cells (zo ⟨false,jT c_ m.sets.length,c_⟩) 117 from rfl];refine zh ?_
  simp only[BA,av,ak,aq,ah,aC,zd,ze,bX,bY,o_,hB,nk];rw[show bq.cells (V.bool false::(pv 19 (jT c_ m.sets.length)++pv 19 (jT c_ m.sets.length))) 117=.cells (zo ⟨false,jT c_ m.sets.length,jT c_ m.sets.length⟩) 117 from rfl]
  generalize hY:bq.cells (zo ⟨false,c_,c_⟩) 117=Y;generalize hZ:bq.cells (zo ⟨false,jT c_ m.sets.length,jT c_ m.sets.length⟩) 117=Z;refine jo (tk:=[31]) (by kernel_rfl) (by kernel_rfl) ?_
  have hbm:bs.length≠bm:=by omega
  have hl4:∀B ls es,zk prog ⟨B++X::ls,es⟩ gl.g 50 (.ptr B.length 2)=some (Fe s0 s1 s2 s3):=λB ls es=>by
   rw[zoH (cs:=[V.int IntKind.i64 op,V.int IntKind.i64 pl,V.int IntKind.u64 s0,V.int IntKind.u64 s1,V.int IntKind.u64 s2,V.int IntKind.u64 s3,V.str text,V.int IntKind.i64 mn,V.int IntKind.i64 mx,yT nl (fO args)]) (ty:=53) PR XB (by rw[hX];rfl) (by simp)]
   rfl
  have XD:∀(b:bq) ls es,zk prog ⟨bs.set bm b++X::ls,es⟩ gl.g 50 (.ptr bs.length 2)=some (Fe s0 s1 s2 s3):=λb ls es=>by
   have:=hl4 (bs.set bm b) ls es
   rwa [bI] at this
  have mZ:∀env,v4 prog 26 env ⟨bs++[X,Y,Z],[]⟩ [] [] (some (.ptr bm 0))=some (.val (zm 4 50 S),⟨env,⟨bs.set bm (.cells [oO 4 S,zm 1 3 R,c] 113)++[X,Y,Z],[]⟩,kD bm 0 S,[]⟩):=λenv=>zg8 (off:=0) Fg bW hc rfl;have lQ:=XC.BH (v:=Fe s0 s1 s2 s3) rfl rfl
  have fJ:∀{k b:Nat},k<1216->b<=152->ku (k+1) b=true:=λ{k b} h h'=>j9 (by have:=Nat.mul_le_mul (show k+1<=1216 by omega) h';omega) (by omega)
  have gj:∀H,kb prog H 26 (zm 4 50 S) (.sl 4 [Fe s0 s1 s2 s3] .no)=some (zm 4 50 (S++[Fe s0 s1 s2 s3])):=λH=>jM XC (by simp) (by rw[PS];exact fJ hs (by decide))
  simp only[BA,Nat.reduceEqDiff,ak,aq,aa,ah,au,zd,ze,bX,bY,v_,LI,Fg,PR,mZ,XD,znJ hbm,show bg (Fe s0 s1 s2 s3)=Fe s0 s1 s2 s3 from rfl,lQ,BG,gj,v_,ky (cx:=⟨prog,gl.g,zj prog gl (n+1),eg⟩) (show rC prog eg 26=false by kernel_rfl)]
  have fe:∀env,qp prog 26 ⟨bs.set bm (.cells [oO 4 S,zm 1 3 R,c] 113)++[X,Y,Z],[]⟩ (kD bm 0 S) [] (some (zm 4 50 (S++[Fe s0 s1 s2 s3]),env)) (some (.ptr bm 0))=some (.skip,⟨env,⟨bs.set bm (.cells [zm 4 50 (S++[Fe s0 s1 s2 s3]),zm 1 3 R,c] 113)++[X,Y,Z],[]⟩,kD bm 0 S,[]⟩):=λenv =>
   zeQ (off:=0) (cs:=[zm 4 50 S,zm 1 3 R,c]) PO bW (by simp) (PM (gE hSt rfl))
  rw[fe];simp only[bB,aq]
  refine wK (tk:=[42]) (by kernel_rfl) ?_
  generalize hS':S++[Fe s0 s1 s2 s3]=S';obtain⟨B,Aw⟩:∃B,B=bs.set bm (.cells [zm 4 50 S',zm 1 3 R,c] 113):=⟨_,rfl⟩;have PT:B.length=bs.length:=by rw[Aw,bI]
  rw[<- Aw];have Ig:bm<B.length:=by omega
  have dW:nth B bm=some (.cells [zm 4 50 S',zm 1 3 R,c] 113):=by rw[Aw];simp[zg,bW]
  have PU:=DS.BH (v:=.int .i64 r) rfl rfl;have PV:∀H,kb prog H 27 (zm 1 3 R) (.sl 1 [.int .i64 r] .no)=some (zm 1 3 (R++[.int .i64 r])):=λH=>jM DS (by simp) (by rw[hRl];exact fJ hr (by decide))
  have Fh:∀env,v4 prog 27 env ⟨B++[X,Y,Z],[]⟩ [] [] (some (.ptr bm 1))=some (.val (zm 1 3 R),⟨env,⟨B.set bm (.cells [zm 4 50 S',oO 1 R,c] 113)++[X,Y,Z],[]⟩,kD bm 1 R,[]⟩):=λenv=>zg8 (off:=1) Ie Ig dW rfl
  have Cv:∀env,qp prog 27 ⟨B.set bm (.cells [zm 4 50 S',oO 1 R,c] 113)++[X,Y,Z],[]⟩ (kD bm 1 R) [] (some (zm 1 3 (R++[.int .i64 r]),env)) (some (.ptr bm 1))=some (.skip,⟨env,⟨B.set bm (.cells [zm 4 50 S',zm 1 3 (R++[.int .i64 r]),c] 113)++[X,Y,Z],[]⟩,kD bm 1 R,[]⟩):=λenv =>
   zeQ (off:=1) (cs:=[zm 4 50 S',zm 1 3 R,c]) PN Ig (by simp) (PM (gE hRt rfl))
  simp only[BA,Nat.reduceEqDiff,ak,aq,aa,ah,zd,ze,bX,bY,Ff,Fh,PU,BG,PV,Cv,ky (cx:=⟨prog,gl.g,zj prog gl (n+1),eg⟩) (show rC prog eg 27=false by kernel_rfl)]
  generalize tV:R++[V.int .i64 r]=R';have hBB:B.set bm (.cells [zm 4 50 S',zm 1 3 R',c] 113)=bs.set bm (.cells [zm 4 50 S',zm 1 3 R',c] 113):=by rw[Aw,List.set_set]
  rw[hBB];refine wK (tk:=[52]) (by kernel_rfl) ?_
  obtain⟨cm,sH⟩:∃cm,cm=[zm 4 50 S',zm 1 3 R',c]:=⟨_,rfl⟩;rw[<- sH];obtain⟨B2,GI⟩:∃B2,B2=bs.set bm (.cells cm 113):=⟨_,rfl⟩;have Ih:B2.length=bs.length:=by rw[GI,bI]
  have LJ:nth B2 bm=some (.cells cm 113):=by rw[GI];simp[zg,bW]
  have Ii:∀d,d≠bm->nth B2 d=nth bs d:=λd hd=>by rw[GI,zg,zg,r8 (Ne.symm hd)]
  rw[<- GI,<- Ih];have Ij:bm<B2.length:=by omega
  have B9:c=.aH\/∃j v l,c=.dF j v l:=by
   cases i with
   | none=>exact .inl hu.1
   | some j=>obtain⟨v,h,_⟩:=hu;exact .inr ⟨_,_,_,h⟩
  have XE:Hp.get ⟨B2++[X,Y,Z],[]⟩ bm=some (.cells cm 113):=(gB Ij).trans LJ;have PW:∀env,v4 prog 111 env ⟨B2++[X,Y,Z],[]⟩ [] [] (some (.ptr bm 2))=some (.val c,⟨env,⟨B2++[X,Y,Z],[]⟩,[],[]⟩):=λenv=>WU Fc XE (by rw[sH];rfl) B9
  have PX:=GH.BH (v:=.agg (pv 19 c_)) rfl jH;have rF:bg c=c:=by rcases B9 with rfl|⟨j,v,l,rfl⟩<;>rfl
  have hu3:UL ⟨B2++[X,Y,Z],[]⟩ 19 115 c i (m.next.map (pv 19)):=hu.frame λj hj=>by
   subst hj;have Av:=hu.lt;have tQ:j≠bm:=λe=>TC hu hc (by rw[e])
   exact(gB (by rw[Ih];exact Av)).trans (Ii j tQ)
  have PY:=λenv=>GH.app (env:=env) (lk:=[]) (df:=[]) (ys:=[.agg (pv 19 c_)]) (o:=.no) (by simp) hu3 (by rw[iK];exact fJ hx (by decide))
  have hLD:∀ls es p,nth ls 2=some (.cells (zo p) 117)->zk prog ⟨B2++ls,es⟩ gl.g 117 (.ptr (B2.length+2) 0)=some (.agg (zo p)):=λls es p h=>Ep h
  simp only[BA,Nat.reduceEqDiff,ak,aq,aa,ah,zc,Nat.reduceAdd,zd,ze,bX,bY,rq,PW,zpY,PX,rF,Ww (cx:=⟨prog,gl.g,zj prog gl (n+1),eg⟩) (show rC prog eg 111=true by kernel_rfl),PY]
  have oV:∀lk,wr lk bm 2 1 (cm.drop 2)=true:=λlk=>by
   rw[sH];rcases B9 with rfl|⟨j,v,l,rfl⟩<;>simp[wr,locked]
  have PZ:∀x,Vm.storeCells cm 2 [x]=[zm 4 50 S',zm 1 3 R',x]:=λx=>by rw[sH];rfl
  have gI:2+1<=cm.length:=by rw[sH];simp
  have XF:∀l b v,∃ru,Hp.bU ⟨l,[]⟩ b v=⟨l,ru⟩:=λl b v=>by unfold Hp.bU;split<;>exact⟨_,rfl⟩
  have hSR:∀x,[zm 4 50 S',zm 1 3 R',x]=[zm 4 50 (jP op (s0,s1,s2,s3) r m).2.lC,zm 1 3 (jP op (s0,s1,s2,s3) r m).2.fW,x]:=λx=>by
   rw[jP,if_neg aE,<- hS',<- tV,hS,hR];simp only[Mk.lC,Mk.fW,List.map_append,bk,bw,Xz]
  have hP:(jP op (s0,s1,s2,s3) r m).1=⟨false,jT c_ m.sets.length,jT c_ m.sets.length⟩:=by rw[jP,if_neg aE]
  have hN:(jP op (s0,s1,s2,s3) r m).2.next=m.next++[c_]:=by rw[jP,if_neg aE]
  cases i with
  | none =>
   obtain⟨rfl,GJ⟩:=hu;have P0:m.next=[]:=by simpa using GJ
   have Fi:∀env U,qp prog 111 ⟨B2++[X,Y,Z,U],[]⟩ [] [] (some (.dF (B2.length+3) 0 1,env)) (some (.ptr bm 2))=some (.skip,⟨env,⟨B2.set bm (.cells [zm 4 50 S',zm 1 3 R',.dF (B2.length+3) 0 1] 113)++[X,Y,Z,U],[(bm,B2.length+4)]⟩,[],[]⟩):=λenv U=>by
    rw[zA (cs:=cm) (ty:=113) GH.st (show Hp.get ⟨B2++[X,Y,Z,U],[]⟩ bm=some (.cells cm 113) from(gB Ij).trans LJ) rfl rfl gI (oV _)];simp only[V.laid,PZ,Hp.set,sB Ij,Hp.bU,V.top];rw[if_neg (by omega)]
   simp only[BA,ak,aq,aa,ah,zd,ze,bX,bY,rq,Fi];obtain⟨B3,C8⟩:∃B3,B3=B2.set bm (.cells [zm 4 50 S',zm 1 3 R',.dF (B2.length+3) 0 1] 113):=⟨_,rfl⟩;have Cw:B3.length=B2.length:=by rw[C8,bI]
   have NF:nth B3 bm=some (.cells [zm 4 50 S',zm 1 3 R',.dF (B2.length+3) 0 1] 113):=by rw[C8];simp[zg,Ij]
   have Cy:∀d,d≠bm->nth B3 d=nth bs d:=λd hd=>by rw[C8,zg,r8 (Ne.symm hd),<- zg,Ii d hd]
   rw[<- C8,<- Cw];rw[<- Cw] at NF;refine zh ?_;have LL:∀U es,zk prog ⟨B3++[X,Y,Z,U],es⟩ gl.g 117 (.ptr (B3.length+2) 0)=some (.agg (zo ⟨false,jT c_ m.sets.length,jT c_ m.sets.length⟩)):=λU es=>Ep (k:=2) (by rw[<- hZ];rfl)
   simp only[BA,ak,aq,zd,ze,bX,bY,LL];rw[PL (k:=1) (q:=⟨false,c_,c_⟩) (by rw[<- hY];rfl)]
   simp only[bB,aq,go_ret,zp,Fx,bY,bX]
   refine⟨trivial,[.agg (zo ⟨false,jT c_ m.sets.length,jT c_ m.sets.length⟩)],?_,by rw[hP];rfl,some (B3.length+3),⟨_,(gB (by omega)).trans (NF.trans (by rw[hSR])),⟨0,by rw[hN,P0];rfl,(gN (k:=3)).trans (by rw[hN,P0];rfl)⟩,λj hj hn=>?_⟩,.inr ⟨rfl,_,rfl,by omega⟩,?_⟩
   ·simp only[zy,zd,ze];rw[Ep (k:=1) (p:=⟨false,jT c_ m.sets.length,jT c_ m.sets.length⟩) rfl];simp[bg]
   ·cases hj;exact⟨by omega,by rw[Cw];simp⟩
   ·exact⟨by simp only[aZ];omega,λd hd si=>(gB (by rw[Cw,Ih];exact hd)).trans (Cy d λe=>si (.inl e))⟩
  | some j =>
   obtain⟨v,rfl,hj⟩:=hu;have Av:j<bs.length:=kK hj;have tQ:j≠bm:=by
    intro e;subst e;rw[hc] at hj;cases hj
   have XG:nth B2 j=some (.ul v 19 (m.next.map (pv 19)).flatten 115):=(Ii j tQ).trans hj
   dsimp only
   rw[jV (by simp[V.top,aL,TE])]
   simp only[Hp.set,sB (show j<B2.length by omega),aN,aq]
   obtain⟨B3,C8⟩:∃B3,B3=B2.set j (.ul (v+1) 19 ((m.next.map (pv 19)).flatten++cg [V.agg (pv 19 c_)]) 115):=⟨_,rfl⟩
   have Cw:B3.length=B2.length:=by rw[C8,bI]
   have hb3:nth B3 bm=some (.cells cm 113):=by rw[C8,zg,r8 tQ,<- zg,LJ]
   have hj3:nth B3 j=some (.ul (v+1) 19 ((m.next.map (pv 19)).flatten++cg [V.agg (pv 19 c_)]) 115):=by rw[C8,zg,BO (by omega)]
   have Cy:∀d,d≠bm->d≠j->nth B3 d=nth bs d:=λd hd Ap=>by rw[C8,zg,r8 (Ne.symm Ap),<- zg,Ii d hd]
   rw[<- C8,<- Cw];have P3:bm<B3.length:=by omega
   obtain⟨u,nD⟩:∃u,u=V.dF j (v+1) ((m.next.map (pv 19)).length+1):=⟨_,rfl⟩
   obtain⟨ru,Am⟩:=XF (B3.set bm (.cells [zm 4 50 S',zm 1 3 R',u] 113)++[X,Y,Z]) bm u;have Fi:∀env,qp prog 111 ⟨B3++[X,Y,Z],[]⟩ [] [] (some (u,env)) (some (.ptr bm 2))=some (.skip,⟨env,⟨B3.set bm (.cells [zm 4 50 S',zm 1 3 R',u] 113)++[X,Y,Z],ru⟩,[],[]⟩):=λenv=>by
    rw[zA (cs:=cm) (ty:=113) GH.st (show Hp.get ⟨B3++[X,Y,Z],[]⟩ bm=some (.cells cm 113) from(gB P3).trans hb3) (by rw[nD];rfl) (by rw[nD];rfl) gI (oV _)]
    rw[show u.laid=[u] by rw[nD];rfl]
    simp only[PZ,Hp.set,sB P3];rw[Am]
   have mq:∀env t,jd env t (some u)=some (u,env):=λ_ _=>by rw[nD];rfl
   rw[<- nD];simp only[BA,ak,aq,aa,ah,zd,ze,bX,bY,rq,mq,Fi];obtain⟨B4,JB⟩:∃B4,B4=B3.set bm (.cells [zm 4 50 S',zm 1 3 R',u] 113):=⟨_,rfl⟩;have P4:B4.length=B3.length:=by rw[JB,bI]
   have hg4:nth B4 bm=some (.cells [zm 4 50 S',zm 1 3 R',u] 113):=by rw[JB,zg,BO (by omega)]
   have LM:∀d,d≠bm->nth B4 d=nth B3 d:=λd hd=>by rw[JB,zg,r8 (Ne.symm hd),<- zg]
   rw[<- JB,<- P4];refine zh ?_;have LL:∀es,zk prog ⟨B4++[X,Y,Z],es⟩ gl.g 117 (.ptr (B4.length+2) 0)=some (.agg (zo ⟨false,jT c_ m.sets.length,jT c_ m.sets.length⟩)):=λes=>Ep (k:=2) (by rw[<- hZ];rfl)
   simp only[BA,ak,aq,zd,ze,bX,bY,LL];rw[PL (k:=1) (q:=⟨false,c_,c_⟩) (by rw[<- hY];rfl)]
   simp only[bB,aq,go_ret,zp,Fx,bY,bX]
   refine⟨trivial,[.agg (zo ⟨false,jT c_ m.sets.length,jT c_ m.sets.length⟩)],?_,by rw[hP];rfl,some j,⟨u,(gB (by omega)).trans (hg4.trans (by rw[hSR])),⟨v+1,by rw[nD,hN];simp,(gB (by omega)).trans ((LM j tQ).trans (hj3.trans (by rw[hN];simp[cg,V.cells])))⟩,λk hk hn=>?_⟩,.inl rfl,?_⟩
   ·simp only[zy,zd,ze];rw[Ep (k:=1) (p:=⟨false,jT c_ m.sets.length,jT c_ m.sets.length⟩) rfl];simp[bg]
   ·cases hk;omega
   ·exact⟨by simp only[aZ];omega,λd hd si=>(gB (by rw[P4,Cw,Ih];exact hd)).trans ((LM d λe=>si (.inl e)).trans (Cy d (λe=>si (.inl e)) (λe=>si (.inr (by rw[e])))))⟩
end
section
variable{gl:Gl}
def zQ(op:Int)(k:Nat)(a b:Part)(ns:List (Nat->Bool)):Part×List (Nat->Bool) :=
 if k=0 then (b,ns)
 else if op=6 then (⟨a.null || b.null,jG a.first b.first,jG a.last b.last⟩,ns)
 else (⟨a.null && b.null,if a.null then jG a.first b.first else a.first,if b.null then jG a.last b.last else b.last⟩,mL b.first (jl a.last 19) ns)
theorem zha{bs ls:List bq}{i:Option Nat}{ns:List (Nat->Bool)}(h:∀j,i=some j->j<bs.length):ef (bs++ls) i ns=ef bs i ns++ls:=by
 cases i with
 | none=>rfl
 | some j =>
  have hj:=h j rfl;simp only[ef,gB hj];cases nth bs j with
  | none=>rfl
  | some x=>cases x<;>simp[sB hj]
theorem XH:qG prog 115=some true:=by kernel_rfl
theorem P5:z4 prog 115=some 19:=by kernel_rfl
theorem NG(p:Part):zo p=[.bool p.null]++pv 19 p.first++pv 19 p.last:=rfl
theorem P6(p:Part):zo p=(.bool p.null::pv 19 p.first)++pv 19 p.last++[]:=by simp[zo]
theorem zl4(hg:GW gl){n:Nat}(hn:21<=n){B:List bq}{z:bq}{a b:Part}:Cx.bK ⟨prog,gl.g,zj prog gl n,eg⟩ 58 [.ptr B.length 1,.ptr (B.length+1) 1] ⟨B++[.cells (zo a) 117,.cells (zo b) 117,z],[]⟩=some (.val (.bx []),⟨B++[.cells (zo ⟨a.null,jG a.first b.first,a.last⟩) 117,.cells (zo b) 117,z],[]⟩):=by
 have h:=Xb hg (n:=n - 1) (by omega) (bs:=B++[.cells (zo a) 117,.cells (zo b) 117,z]) (es:=[]) (b:=B.length) (b':=B.length+1) (NC.trans (by rw[NG a];rfl)) rfl ((gN (k:=1)).trans (by rw[NG b];rfl)) rfl (by omega)
 rw[show n - 1+1=n by omega,sN0] at h
 exact zu func58 rfl h
theorem zl5(hg:GW gl){n:Nat}(hn:21<=n){B:List bq}{z:bq}{a b:Part}:Cx.bK ⟨prog,gl.g,zj prog gl n,eg⟩ 58 [.ptr B.length 20,.ptr (B.length+1) 20] ⟨B++[.cells (zo a) 117,.cells (zo b) 117,z],[]⟩=some (.val (.bx []),⟨B++[.cells (zo ⟨a.null,a.first,jG a.last b.last⟩) 117,.cells (zo b) 117,z],[]⟩):=by
 have h:=Xb hg (n:=n - 1) (by omega) (bs:=B++[.cells (zo a) 117,.cells (zo b) 117,z]) (es:=[]) (b:=B.length) (b':=B.length+1) (NC.trans (by rw[P6 a];rfl)) (off:=20) (by simp[jH]) ((gN (k:=1)).trans (by rw[P6 b];rfl)) (off':=20) (by simp[jH]) (by omega)
 rw[show n - 1+1=n by omega,sN0] at h
 simp only[nk] at h;exact zu func58 rfl h
theorem zic(hg:GW gl){n:Nat}(hn:1301<=n){bs:List bq}{es:aP}{bm:Nat}{a0 a1 c:V}{i:Option Nat}{ns:List (Nat->Bool)}{op:Int}{k:Nat}{a b:Part}{NA:aD}(hk:k<2 ^ 60)
  (hm:nth bs bm=some (.cells [a0,a1,c] NA)) (hu:UL ⟨bs,es⟩ 19 115 c i (ns.map (pv 19))) (dI:∀k∈jl a.last 19,k<ns.length) :
  zj prog gl (n+1) 94 [.ptr bm 0,.int .i64 op,.int .i64 k,.agg (zo a),.agg (zo b)] ⟨bs,es⟩=some (.ret (.agg (zo (zQ op k a b ns).1)),⟨ef bs i (zQ op k a b ns).2,es⟩):=by
 have bW:bm<bs.length:=kK (H:=⟨bs,es⟩) hm
 suffices bR:(go ⟨prog,gl,zj prog gl n,eg⟩ n (Fx prog f94.results.toList λw H1=>w=.agg (zo (zQ op k a b ns).1)/\∃ls,H1=⟨ef bs i (zQ op k a b ns).2++ls,[]⟩) [.c (f94.body.getD .skip)] .normal ⟨[.ptr bm 0,.int .i64 op,.int .i64 k,.agg (zo a),.agg (zo b)]++List.replicate 52 (.bx []),⟨bs,[]⟩,[],[]⟩) by
  obtain⟨w,H1,h0,rfl,ls,rfl⟩:=zO (gl:=gl) (f:=94) (bs:=bs) (es:=es) (args:=[.ptr bm 0,.int .i64 op,.int .i64 k,.agg (zo a),.agg (zo b)]) (n:=n) (hg.hk _ _ (by decide)) (λH=>hg.fq _ _ _ _) func94 rfl (by rw[hg.uq];exact bR)
  rw[h0];have:=zY (bs:=ef bs i (zQ op k a b ns).2) (ls:=ls) (es:=es) (t:=(V.agg (zo (zQ op k a b ns).1)).top) (by simp[V.top,yM])
  rw[yL] at this;rw[this]
 have o7:∀p:Part,dD (V.agg (zo p))=true:=λ_=>rfl;simp only[f94,gm,zi];refine zh ?_;simp only[BA,aq,zc,Nat.reduceAdd,zd,ze,bX,bY,qg (o7 a),qg (o7 b),LH,zR (o7 ⟨false,c_,c_⟩),V.laid,V.cells,wO,List.replicate];refine zh ?_
 simp only[BA,ak,aj,aq,zd,ze,bX,bY,wJ];have hL0:∀(B ls:List bq)(p:Part) es,zk prog ⟨B++.cells (zo p) 117::ls,es⟩ gl.g 117 (.ptr B.length 0)=some (.agg (zo p)):=λB ls p es=>Ep (k:=0) rfl
 have LL:∀(B ls:List bq) x (p:Part) es,zk prog ⟨B++x::.cells (zo p) 117::ls,es⟩ gl.g 117 (.ptr (B.length+1) 0)=some (.agg (zo p)):=λB ls x p es=>Ep (k:=1) rfl;have XI:∀(B ls:List bq)(p:Part) es,zk prog ⟨B++.cells (zo p) 117::ls,es⟩ gl.g 4 (.ptr B.length 0)=some (.bool p.null):=λB ls p es=>Xx ND rfl rfl
 have NH:∀(B ls:List bq) x (p:Part) es,zk prog ⟨B++x::.cells (zo p) 117::ls,es⟩ gl.g 4 (.ptr (B.length+1) 0)=some (.bool p.null):=λB ls x p es=>Xw (k:=1) ND rfl rfl
 have P7:∀(B:List bq) x y (p q:Part) es env,qp prog 117 ⟨B++[x,y,.cells (zo q) 117],es⟩ [] [] (some (.agg (zo p),env)) (some (.ptr (B.length+2) 0))=some (.skip,⟨env,⟨B++[x,y,.cells (zo p) 117],es⟩,[],[]⟩):=λB x y p q es env=>PL (k:=2) rfl
 have P8:∀(B ls:List bq)(p:Part) es env v,qp prog 4 ⟨B++.cells (zo p) 117::ls,es⟩ [] [] (some (.bool v,env)) (some (.ptr B.length 0))=some (.skip,⟨env,⟨B++.cells (zo ⟨v,p.first,p.last⟩) 117::ls,es⟩,[],[]⟩):=λB ls p es env v=>by
  rw[zlZ (cs:=zo p) (ty:=117) XA rfl rfl rfl (by rw[q8];decide) yy rfl]
  rfl
 have lO:∀(B:List bq) x y (p:Part) es (env:aG),nth env 10=some (.ptr (B.length+2) 0)->zy prog ⟨B++[x,y,.cells (zo p) 117],es⟩ env [.cell 10 117]=some [.agg (zo p)]:=λB x y p es env he=>by
  simp only[zy,he];rw[Ep (k:=2) rfl];simp[bg]
 by_cases Fj:k=0
 ·subst Fj;refine .inl ⟨rfl,?_⟩;refine zh ?_;simp only[BA,ak,aq,zd,ze,bX,bY,LL,P7,go_ret]
  simp only[zp,wg,wj,Fx,show zQ op 0 a b ns=(b,ns) from if_pos rfl,TD hu]
  exact⟨trivial,[.agg (zo b)],lO _ _ _ _ _ _ rfl,rfl,_,rfl⟩
 ·refine .inr ⟨by simpa using Fj,?_⟩
  refine zh ?_;simp only[BA,ak,aj,aq,zd,ze,bX,bY,wJ];obtain⟨an,af,al⟩:=a;obtain⟨bn,bf,bl⟩:=b
  by_cases h6:op=6
  ·subst h6;refine .inl ⟨rfl,?_⟩;refine zh ?_;simp only[BA,ak,aq,ah,zd,ze,bX,bY,iq,XI];have hJ:zQ 6 k ⟨an,af,al⟩ ⟨bn,bf,bl⟩ ns=(⟨an || bn,jG af bf,jG al bl⟩,ns):=by rw[zQ,if_neg Fj,if_pos rfl]
   rcases an with _|_
   all_goals
    simp only[j4,qd,zd,ze,aW,jr,cH,cI,wB,wC];simp only[BA,ak,aj,aq,ah,zd,ze,bX,bY,iq];simp only[j4,qd,zd,ze,aW,jr,cH,cI,wB,wC]
    try simp only[BA,ak,aj,aq,ah,zd,ze,bX,bY,iq,NH,P8]
    refine zh ?_;simp only[BA,av,ak,aq,ah,aC,zd,ze,bX,bY,o8,zl4 hg (show 21<=n by omega)]
    refine zh ?_;simp only[BA,av,ak,aq,ah,aC,zd,ze,bX,bY,o_,zl5 hg (show 21<=n by omega)]
    refine zh ?_;simp only[BA,ak,aq,zd,ze,bX,bY,hL0,P7];simp only[go_ret,zp,wg,wj,Fx,hJ,TD hu]
    exact⟨trivial,_,lO _ _ _ _ _ _ rfl,rfl,_,rfl⟩
  ·refine .inr ⟨by simpa using h6,?_⟩
   have hJ:zQ op k ⟨an,af,al⟩ ⟨bn,bf,bl⟩ ns=(⟨an && bn,if an then jG af bf else af,if bn then jG al bl else bl⟩,mL bf (jl al 19) ns):=by rw[zQ,if_neg Fj,if_neg h6]
   have Fk:∀j,i=some j->j<bs.length:=λj hj=>by subst hj;exact hu.lt
   have Ik:Cx.bK ⟨prog,gl.g,zj prog gl n,eg⟩ 57 [.ptr bm 0,.ptr bs.length 20,.ptr (bs.length+1) 1] ⟨bs++[bq.cells (zo ⟨an,af,al⟩) 117,.cells (zo ⟨bn,bf,bl⟩) 117,.cells (zo ⟨false,c_,c_⟩) 117],[]⟩=some (.val (.bx []),⟨ef bs i (mL bf (jl al 19) ns)++[bq.cells (zo ⟨an,af,al⟩) 117,.cells (zo ⟨bn,bf,bl⟩) 117,.cells (zo ⟨false,c_,c_⟩) 117],[]⟩):=by
    have h:=Xt hg (n:=n - 1) (by omega) (bs:=bs++[bq.cells (zo ⟨an,af,al⟩) 117,.cells (zo ⟨bn,bf,bl⟩) 117,.cells (zo ⟨false,c_,c_⟩) 117]) (es:=[]) (bm:=bm) (bl:=bs.length) (bf:=bs.length+1) (ns:=ns) (i:=i) ((gB bW).trans hm) (hu.frame λj hj=>gB (Fk j hj)) (NC.trans (by rw[P6 ⟨an,af,al⟩];rfl)) (ol:=20) (by simp[jH]) ((gN (k:=1)).trans (by rw[NG ⟨bn,bf,bl⟩];rfl)) (ob:=1) rfl dI
    rw[show n - 1+1=n by omega,zha Fk] at h
    exact zu func57 rfl h
   refine zh ?_;simp only[BA,av,ak,aq,ah,aC,zd,ze,bX,bY,o8,o_,Ik];obtain⟨B,hB⟩:∃B,B=ef bs i (mL bf (jl al 19) ns):=⟨_,rfl⟩;have PT:B.length=bs.length:=by rw[hB,yL]
   rw[<- hB,<- PT];refine zh ?_;simp only[BA,ak,aq,ah,zd,ze,bX,bY,iq,XI];have h60:∀(B ls:List bq) x (p:Part) es,zk prog ⟨B++x::.cells (zo p) 117::ls,es⟩ gl.g 115 (.ptr (B.length+1) 20)=some (.agg (pv 19 p.last)):=λB ls x p es=>by
    rw[Xy (k:=1) XH P5 rfl (by rw[q8];decide),zkw]
   have XJ:∀(B ls:List bq)(p:Part) l es env,qp prog 115 ⟨B++.cells (zo p) 117::ls,es⟩ [] [] (some (.agg (pv 19 l),env)) (some (.ptr B.length 20))=some (.skip,⟨env,⟨B++.cells (zo ⟨p.null,p.first,l⟩) 117::ls,es⟩,[],[]⟩):=λB ls p l es env=>by
    rw[zlZ (cs:=zo p) (ty:=117) P5 rfl rfl (by simp[V.laid,jH]) (by rw[q8];decide) yy zpn]
    simp only[V.laid,zl1,zl2,bX]
   cases an
   all_goals
    first
     |refine .inl ⟨rfl,?_⟩
      refine zh ?_;simp only[BA,av,ak,aq,ah,aC,zd,ze,bX,bY,o8,zl4 hg (show 21<=n by omega)]
     |refine .inr ⟨rfl,?_⟩
    refine zh ?_;simp only[BA,ak,aq,ah,zd,ze,bX,bY,iq,NH]
   all_goals cases bn
   all_goals
    first
     |refine .inl ⟨rfl,?_⟩
      refine zh ?_;simp only[BA,av,ak,aq,ah,aC,zd,ze,bX,bY,o_,zl5 hg (show 21<=n by omega)]
     |refine .inr ⟨rfl,?_⟩
      refine zh ?_;simp only[BA,ak,aq,ah,zd,ze,bX,bY,o_,h60,XJ]
    refine zh ?_;simp only[BA,ak,aq,ah,zd,ze,bX,bY,iq,XI];simp only[j4,qd,zd,ze,aW,jr,cE,cG,wB,wC]
    simp only[BA,ak,aj,aq,ah,zd,ze,bX,bY,iq];simp only[j4,qd,zd,ze,aW,jr,cE,cG,wB,wC]
    try simp only[BA,ak,aj,aq,ah,zd,ze,bX,bY,iq,NH,P8]
    refine zh ?_;simp only[BA,ak,aq,zd,ze,bX,bY,hL0,P7];simp only[go_ret,zp,Fx,hJ,<- hB]
    exact⟨trivial,_,lO _ _ _ _ _ _ rfl,rfl,_,rfl⟩
end
section
variable{gl:Gl}
def xP(mn mx:Int)(p:Part)(ns:List (Nat->Bool)):Part×List (Nat->Bool) :=
 (⟨p.null || mn == 0,p.first,p.last⟩,if mx<0 then mL p.first (jl p.last 19) ns else ns)
theorem Fl:zH prog 53 4=some 7:=by kernel_rfl
theorem LN:zH prog 53 5=some 8:=by kernel_rfl
theorem zfI(hg:GW gl){n:Nat}(hn:1301<=n){bs:List bq}{es:aP}{bm:Nat}{a0 a1 c:V}{i:Option Nat}{ns:List (Nat->Bool)}{op pl s0 s1 s2 s3 mn mx:Int}{text:bO}{nl:Bool}{args:List E}{p:Part}{NA:aD}
  (hm:nth bs bm=some (.cells [a0,a1,c] NA)) (hu:UL ⟨bs,es⟩ 19 115 c i (ns.map (pv 19))) (dI:∀k∈jl p.last 19,k<ns.length) :
  zj prog gl (n+1) 95 [.ptr bm 0,enc (.mk op pl s0 s1 s2 s3 text mn mx nl args),.agg (zo p)] ⟨bs,es⟩=some (.ret (.agg (zo (xP mn mx p ns).1)),⟨ef bs i (xP mn mx p ns).2,es⟩):=by
 have bW:bm<bs.length:=kK (H:=⟨bs,es⟩) hm
 suffices bR:(go ⟨prog,gl,zj prog gl n,eg⟩ n (Fx prog f95.results.toList λw H1=>w=.agg (zo (xP mn mx p ns).1)/\∃ls,H1=⟨ef bs i (xP mn mx p ns).2++ls,[]⟩) [.c (f95.body.getD .skip)] .normal ⟨[.ptr bm 0,enc (.mk op pl s0 s1 s2 s3 text mn mx nl args),.agg (zo p)]++List.replicate 20 (.bx []),⟨bs,[]⟩,[],[]⟩) by
  obtain⟨w,H1,h0,rfl,ls,rfl⟩:=zO (gl:=gl) (f:=95) (bs:=bs) (es:=es) (args:=[.ptr bm 0,enc (.mk op pl s0 s1 s2 s3 text mn mx nl args),.agg (zo p)]) (n:=n) (hg.hk _ _ (by decide)) (λH=>hg.fq _ _ _ _) func95 rfl (by rw[hg.uq];exact bR)
  rw[h0];have:=zY (bs:=ef bs i (xP mn mx p ns).2) (ls:=ls) (es:=es) (t:=(V.agg (zo (xP mn mx p ns).1)).top) (by simp[V.top,yM])
  rw[yL] at this;rw[this]
 have o7:∀p:Part,dD (V.agg (zo p))=true:=λ_=>rfl;have JC:dD (enc (.mk op pl s0 s1 s2 s3 text mn mx nl args))=true:=rfl;simp only[f95,gm,zi];refine zh ?_;simp only[enc] at JC ⊢
 simp only[BA,aq,zc,Nat.reduceAdd,zd,ze,bX,bY,qg JC,qg (o7 p),LH,zR (o7 ⟨false,c_,c_⟩),V.laid,V.cells,wO,z9,List.replicate]
 generalize hX:bq.cells [V.int IntKind.i64 op,V.int IntKind.i64 pl,V.int IntKind.u64 s0,V.int IntKind.u64 s1,V.int IntKind.u64 s2,V.int IntKind.u64 s3,V.str text,V.int IntKind.i64 mn,V.int IntKind.i64 mx,yT nl (fO args)] 53=X;have hmx:∀(B ls:List bq) es,zk prog ⟨B++X::ls,es⟩ gl.g 3 (.ptr B.length 8)=some (.int .i64 mx):=λB ls es=>Xx Nz (by rw[<- hX];rfl) rfl
 have NI:∀(B ls:List bq) es,zk prog ⟨B++X::ls,es⟩ gl.g 3 (.ptr B.length 7)=some (.int .i64 mn):=λB ls es=>Xx Nz (by rw[<- hX];rfl) rfl
 have LL:∀(B ls:List bq) x (p:Part) es,zk prog ⟨B++x::.cells (zo p) 117::ls,es⟩ gl.g 117 (.ptr (B.length+1) 0)=some (.agg (zo p)):=λB ls x p es=>Ep (k:=1) rfl;have NH:∀(B ls:List bq) x (p:Part) es,zk prog ⟨B++x::.cells (zo p) 117::ls,es⟩ gl.g 4 (.ptr (B.length+1) 0)=some (.bool p.null):=λB ls x p es=>Xw (k:=1) ND rfl rfl
 have P7:∀(B:List bq) x y (p q:Part) es env,qp prog 117 ⟨B++[x,y,.cells (zo q) 117],es⟩ [] [] (some (.agg (zo p),env)) (some (.ptr (B.length+2) 0))=some (.skip,⟨env,⟨B++[x,y,.cells (zo p) 117],es⟩,[],[]⟩):=λB x y p q es env=>PL (k:=2) rfl
 have XK:∀(B ls:List bq) x (p:Part) es env v,qp prog 4 ⟨B++x::.cells (zo p) 117::ls,es⟩ [] [] (some (.bool v,env)) (some (.ptr (B.length+1) 0))=some (.skip,⟨env,⟨B++x::.cells (zo ⟨v,p.first,p.last⟩) 117::ls,es⟩,[],[]⟩):=λB ls x p es env v=>by
  rw[Jz (k:=1) (cs:=zo p) (ty:=117) XA rfl rfl rfl (by rw[q8];decide) yy rfl]
  rfl
 have lO:∀(B:List bq) x y (p:Part) es (env:aG),nth env 6=some (.ptr (B.length+2) 0)->zy prog ⟨B++[x,y,.cells (zo p) 117],es⟩ env [.cell 6 117]=some [.agg (zo p)]:=λB x y p es env he=>by
  simp only[zy,he];rw[Ep (k:=2) rfl];simp[bg]
 refine zh ?_;simp only[BA,ak,aj,aq,ah,zd,ze,bX,bY,LN,hmx,qV];have Fk:∀j,i=some j->j<bs.length:=λj hj=>by subst hj;exact hu.lt
 obtain⟨pn,pf,pl⟩:=p;have Ik:Cx.bK ⟨prog,gl.g,zj prog gl n,eg⟩ 57 [.ptr bm 0,.ptr (bs.length+1) 20,.ptr (bs.length+1) 1] ⟨bs++[X,.cells (zo ⟨pn,pf,pl⟩) 117,.cells (zo ⟨false,c_,c_⟩) 117],[]⟩=some (.val (.bx []),⟨ef bs i (mL pf (jl pl 19) ns)++[X,.cells (zo ⟨pn,pf,pl⟩) 117,.cells (zo ⟨false,c_,c_⟩) 117],[]⟩):=by
  have h:=Xt hg (n:=n - 1) (by omega) (bs:=bs++[X,.cells (zo ⟨pn,pf,pl⟩) 117,.cells (zo ⟨false,c_,c_⟩) 117]) (es:=[]) (bm:=bm) (bl:=bs.length+1) (bf:=bs.length+1) (ns:=ns) (i:=i) ((gB bW).trans hm) (hu.frame λj hj=>gB (Fk j hj)) ((gN (k:=1)).trans (by rw[P6 ⟨pn,pf,pl⟩];rfl)) (ol:=20) (by simp[jH]) ((gN (k:=1)).trans (by rw[NG ⟨pn,pf,pl⟩];rfl)) (ob:=1) rfl dI
  rw[show n - 1+1=n by omega,zha Fk] at h
  exact zu func57 rfl h
 obtain⟨ns',rI⟩:∃ns',ns'=(xP mn mx ⟨pn,pf,pl⟩ ns).2:=⟨_,rfl⟩;rw[<- rI];obtain⟨B,hB⟩:∃B,B=ef bs i ns':=⟨_,rfl⟩;have PT:B.length=bs.length:=by rw[hB,yL]
 have hP:(xP mn mx ⟨pn,pf,pl⟩ ns).1=⟨pn || mn == 0,pf,pl⟩:=rfl
 rcases Classical.em (mx<0) with h|h
 all_goals
  first
   |refine .inl ⟨by simpa using h,?_⟩
    refine zh ?_;have:ns'=mL pf (jl pl 19) ns:=by rw[rI];exact if_pos h
    rw[<- this] at Ik;simp only[BA,av,ak,aq,ah,aC,zd,ze,bX,bY,o8,o_,Ik,<- hB];rw[<- PT]
   |refine .inr ⟨by simpa using h,?_⟩
    have:ns'=ns:=by rw[rI];exact if_neg h
    have hBb:B=bs:=by rw[hB,this];exact TD hu
    rw[<- hB,<- hBb]
  refine zh ?_;simp only[BA,ak,aq,ah,zd,ze,bX,bY,iq,NH];cases pn
 all_goals
  simp only[j4,qd,zd,ze,aW,jr,cH,cI,wB,wC]
  try simp only[BA,ak,aj,aq,ah,zd,ze,bX,bY,Fl]
  try simp only[j4,qd,zd,ze,aW,jr,cH,cI,wB,wC]
  try simp only[BA,ak,aq,zd,ze,bX,bY,NI]
  try simp only[j4,qd,zd,ze,aW,jr,cI,wB]
  try simp only[BA,ak,aj,aq,ah,zd,ze,bX,bY,wJ,iq,XK]
  refine zh ?_;simp only[BA,ak,aq,zd,ze,bX,bY,LL,P7];simp only[go_ret,zp,Fx,hP]
  exact⟨trivial,_,lO _ _ _ _ _ _ rfl,rfl,_,rfl⟩
theorem u84:prog.underlying 149=some (.slice 157):=Jy.u
theorem zkx(hg:GW gl){n:Nat}{bs:List bq}{es:aP}{b:Nat}{c:V}{ty:aD}{i:Option Nat}{xs:List aG}(hb:nth bs b=some (.cells [c] ty))(hu:UL ⟨bs,es⟩ 11 157 c i xs) :
  zj prog gl (n+1) 89 [.ptr b 0] ⟨bs,es⟩=some (.ret (.bool xs.isEmpty),⟨bs,es⟩):=by
 suffices bR:(go ⟨prog,gl,zj prog gl n,eg⟩ n (Fx prog f89.results.toList λw H1=>w=.bool xs.isEmpty/\H1=⟨bs,[]⟩) [.c (f89.body.getD .skip)] .normal ⟨[.ptr b 0]++List.replicate 8 (.bx []),⟨bs,[]⟩,[],[]⟩) by
  obtain⟨w,H1,h0,rfl,rfl⟩:=zO (gl:=gl) (f:=89) (bs:=bs) (es:=es) (args:=[.ptr b 0]) (n:=n) (hg.hk _ _ (by decide)) (λH=>hg.fq _ _ _ _) func89 rfl (by rw[hg.uq];exact bR)
  rw[h0];have:=zY (bs:=bs) (ls:=[]) (es:=es) (t:=(V.bool xs.isEmpty).top) (dP _);rw[nk] at this;rw[this]
 have gy:zk prog ⟨bs,[]⟩ gl.g 149 (.ptr b 0)=some c:=zr Cp hb rfl;have gI:bg c=c/\qW prog ⟨bs,[]⟩ 149 c=some (xs.length:Int):=by
  cases i with
  | none=>obtain⟨rfl,rfl⟩:=hu;exact⟨rfl,zeN u84⟩
  | some j=>obtain⟨v,rfl,_⟩:=hu;exact⟨rfl,xr u84⟩
 have he:((xs.length:Int) == 0)=xs.isEmpty:=by cases xs<;>simp;omega
 simp only[f89,gm,zi];refine zh ?_;simp only[BA,aj,aq,bX,bY,List.replicate];refine zh ?_
 simp only[BA,ak,aj,aq,aa,ah,zd,ze,bX,bY,Co,gy,gI.1,gI.2,wJ,he];simp only[go_ret,zp,Fx]
 exact⟨trivial,[.bool xs.isEmpty],rfl,rfl,trivial⟩
end
section
variable{gl:Gl}
theorem TF{P:aY}(fq:∀n f args H,gl.fq n f args H=none){n:Nat}{f:FuncId}{args:aG}{H H':Hp}{o:Out}(h:zj P gl n f args H=some (o,H')):∀e∈H.bJ,e∈H'.bJ:=by
 intro e he;obtain⟨bs,es⟩:=H;have iG:∀(t:Nat)(H1:Hp),e∈(zX bs.length es t H1).bJ:=λt H1=>by
  unfold zX;split<;>exact CQ _ he
 cases n with
 | zero=>simp[zj] at h
 | succ n =>
  simp only[zj,qw,eH,fq] at h;split at h
  ·simp only[bz,cq] at h;obtain⟨_,rfl⟩:=h;exact he
  ·split at h<;>try (cases h;done)
   split at h<;>try (cases h;done)
   split at h<;>try (cases h;done)
   split at h<;>try (cases h;done)
   split at h<;>try (cases h;done)
   ·simp only[kX,bz,cq] at h;rw[<- h.2];exact iG _ _
   ·split at h<;>try (cases h;done)
    simp only[ql,kX,bz,cq] at h;rw[<- h.2];exact iG _ _
def aR:E->aG
 | .mk op pl s0 s1 s2 s3 text mn mx nl args=>[.int .i64 op,.int .i64 pl,.int .u64 s0,.int .u64 s1,.int .u64 s2,.int .u64 s3,.str text,.int .i64 mn,.int .i64 mx,yT nl (fO args)]
theorem q9(e:E):enc e=.agg (aR e):=by cases e;rfl
theorem z7(e:E):(aR e).length=10:=by cases e;rfl
theorem ja(e:E):(aR e).map bg=aR e:=by cases e;simp[aR,z9,zS,kP]
theorem v7(e:E):aL (aR e)=0:=by have:=u6 e;rwa [q9] at this
theorem XL(e:E):(aR e).all (λc=>!(locked c))=true:=by
 obtain⟨op,pl,s0,s1,s2,s3,text,mn,mx,nl,args⟩:=e;rcases vI nl (fO args) with h|⟨_,h⟩<;>simp[aR,h,locked]
def rX(f:E×Nat):aG:=aR f.1++[.int .i64 (f.2:Int)]
theorem NJ(f:E×Nat):(rX f).length=11:=by simp[rX,z7]
theorem XM(f:E×Nat):(rX f).map bg=rX f:=by simp[rX,ja,zS]
theorem zhb(f:E×Nat):aL (rX f)=0:=gE (v7 _) rfl
def Kp(N bm:Nat)(H H':Hp):Prop:=∀d cs ty,d≠bm->d≠N+2->d≠N+3->H.get d=some (.cells cs ty)->H'.get d=some (.cells cs ty)
theorem Kp.refl{N bm:Nat}{H:Hp}:Kp N bm H H:=λ_ _ _ _ _ _ h=>h
structure WS(bs:List bq)(bm:Nat)(i0:Option Nat)(H:Hp)(S:List (E×Nat))(ps:List Part)(m:Mk):Prop where
 len:bs.length+4<=H.az.length
 lt:bm<bs.length
 op:∃c i,H.get (bs.length+2)=some (.cells [c] 151)/\UL H 11 157 c i (S.reverse.map rX)/\∀j,i=some j->bs.length<=j
 dn:∃c i,H.get (bs.length+3)=some (.cells [c] 154)/\UL H 39 117 c i (ps.reverse.map zo)/\∀j,i=some j->bs.length<=j
 Ay:∃i,MK bs.length H bm m i/\JA bs.length i0 i
 fr:∀d,d<bs.length->d≠bm->i0≠some d->H.get d=nth bs d
theorem LO{H:Hp}{sz:Nat}{e:aD}{c:V}{i:Option Nat}{xs:List aG}(h:UL H sz e c i xs){d:Nat}{cs:aG}{ty:aD}(hd:H.get d=some (.cells cs ty)):i≠some d:=by
 intro e;subst e;obtain⟨v,_,h2⟩:=h;rw[hd] at h2;cases h2
theorem WS.opened{bs:List bq}{bm:Nat}{i0:Option Nat}{H H':Hp}{S S':List (E×Nat)}{ps:List Part}{m:Mk}(h:WS bs bm i0 H S ps m)
  (Am:∀e∈H.bJ,e∈H'.bJ) {co c':V} {io i':Option Nat} (a1:H.get (bs.length+2)=some (.cells [co] 151)) (a2:UL H 11 157 co io (S.reverse.map rX)) (a3:∀j,io=some j->bs.length<=j)
  (h1:H'.get (bs.length+2)=some (.cells [c'] 151)) (h2:UL H' 11 157 c' i' (S'.reverse.map rX))
  (hi:∀j,i'=some j->io=some j\/H.az.length<=j) (hf:sO H H' (λd=>d=bs.length+2\/io=some d)):WS bs bm i0 H' S' ps m/\Kp bs.length bm H H':=by
 obtain⟨cd,id,b1,b2,b3⟩:=h.dn;obtain⟨im,⟨cm,k1,k2,k3⟩,k4⟩:=h.Ay;have hlen:=h.len;have Er:∀d,io=some d->bs.length<=d/\∃v cs,H.get d=some (.ul v 11 cs 157):=λd hd=>by
  subst hd;obtain⟨v,_,g⟩:=a2;exact⟨a3 d rfl,v,_,g⟩
 have Fm:∀d cs ty,d≠bs.length+2->H.get d=some (.cells cs ty)->H'.get d=some (.cells cs ty):=λd cs ty hd hg=>hf.some hg λhc=>by
  rcases hc with rfl|hc
  ·exact hd rfl
  ·obtain⟨_,v,cs',g⟩:=Er d hc;rw[hg] at g;cases g
 have P9:∀d v sz cs e,e≠157->H.get d=some (.ul v sz cs e)->H'.get d=some (.ul v sz cs e):=λd v sz cs e he hg=>hf.some hg λhc=>by
  rcases hc with rfl|hc
  ·rw[a1] at hg;cases hg
  ·obtain⟨_,v',cs',g⟩:=Er d hc;rw[hg] at g;injection g with g;injection g with _ _ _ g;exact he g
 have Es:∀{sz e c i xs},e≠157->UL H sz e c i xs->UL H' sz e c i xs:=λ{sz e c i xs} he hu=>hu.frame λj hj=>by
  subst hj;obtain⟨v,_,g⟩:=hu;rw[g,P9 _ _ _ _ _ he g]
 refine⟨⟨cZ hlen hf.len,h.lt,⟨c',i',h1,h2,λj hj=>?_⟩,⟨cd,id,Fm _ _ _ (by omega) b1,Es (by decide) b2,b3⟩,⟨im,⟨cm,Fm _ _ _ (by have:=h.lt;omega) k1,Es (by decide) k2,λj hj hn=>⟨(k3 j hj hn).1,Am _ (k3 j hj hn).2⟩⟩,k4⟩,λd hd Et JD=>?_⟩,λd cs ty _ h2 _ hg=>Fm d cs ty h2 hg⟩
 ·rcases hi j hj with hc|hc
  ·exact(Er j hc).1
  ·omega
 ·rw[<- h.fr d hd Et JD];refine hf.get d (by omega) λhc=>?_
  rcases hc with rfl|hc
  ·omega
  ·have:=(Er d hc).1;omega
theorem WS.P_{bs:List bq}{bm:Nat}{i0:Option Nat}{H H':Hp}{S:List (E×Nat)}{ps ps':List Part}{m:Mk}(h:WS bs bm i0 H S ps m)
  (Am:∀e∈H.bJ,e∈H'.bJ) {co c':V} {io i':Option Nat} (a1:H.get (bs.length+3)=some (.cells [co] 154)) (a2:UL H 39 117 co io (ps.reverse.map zo)) (a3:∀j,io=some j->bs.length<=j)
  (h1:H'.get (bs.length+3)=some (.cells [c'] 154)) (h2:UL H' 39 117 c' i' (ps'.reverse.map zo))
  (hi:∀j,i'=some j->io=some j\/H.az.length<=j) (hf:sO H H' (λd=>d=bs.length+3\/io=some d)):WS bs bm i0 H' S ps' m/\Kp bs.length bm H H':=by
 obtain⟨cd,id,b1,b2,b3⟩:=h.op;obtain⟨im,⟨cm,k1,k2,k3⟩,k4⟩:=h.Ay;have hlen:=h.len;have Er:∀d,io=some d->bs.length<=d/\∃v cs,H.get d=some (.ul v 39 cs 117):=λd hd=>by
  subst hd;obtain⟨v,_,g⟩:=a2;exact⟨a3 d rfl,v,_,g⟩
 have Fm:∀d cs ty,d≠bs.length+3->H.get d=some (.cells cs ty)->H'.get d=some (.cells cs ty):=λd cs ty hd hg=>hf.some hg λhc=>by
  rcases hc with rfl|hc
  ·exact hd rfl
  ·obtain⟨_,v,cs',g⟩:=Er d hc;rw[hg] at g;cases g
 have P9:∀d v sz cs e,e≠117->H.get d=some (.ul v sz cs e)->H'.get d=some (.ul v sz cs e):=λd v sz cs e he hg=>hf.some hg λhc=>by
  rcases hc with rfl|hc
  ·rw[a1] at hg;cases hg
  ·obtain⟨_,v',cs',g⟩:=Er d hc;rw[hg] at g;injection g with g;injection g with _ _ _ g;exact he g
 have Es:∀{sz e c i xs},e≠117->UL H sz e c i xs->UL H' sz e c i xs:=λ{sz e c i xs} he hu=>hu.frame λj hj=>by
  subst hj;obtain⟨v,_,g⟩:=hu;rw[g,P9 _ _ _ _ _ he g]
 refine⟨⟨cZ hlen hf.len,h.lt,⟨cd,id,Fm _ _ _ (by omega) b1,Es (by decide) b2,b3⟩,⟨c',i',h1,h2,λj hj=>?_⟩,⟨im,⟨cm,Fm _ _ _ (by have:=h.lt;omega) k1,Es (by decide) k2,λj hj hn=>⟨(k3 j hj hn).1,Am _ (k3 j hj hn).2⟩⟩,k4⟩,λd hd Et JD=>?_⟩,λd cs ty _ _ h3 hg=>Fm d cs ty h3 hg⟩
 ·rcases hi j hj with hc|hc
  ·exact(Er j hc).1
  ·omega
 ·rw[<- h.fr d hd Et JD];refine hf.get d (by omega) λhc=>?_
  rcases hc with rfl|hc
  ·omega
  ·have:=(Er d hc).1;omega
theorem WS.made{bs:List bq}{bm:Nat}{i0:Option Nat}{H H':Hp}{S:List (E×Nat)}{ps:List Part}{m m':Mk}(h:WS bs bm i0 H S ps m)
  {i i':Option Nat} (k0:JA bs.length i0 i) (hm:MK bs.length H bm m i) (Ov:MK bs.length H' bm m' i') (hn:JA H.az.length i i')
  (hf:sO H H' (λd=>d=bm\/i=some d)):WS bs bm i0 H' S ps m'/\Kp bs.length bm H H':=by
 obtain⟨co,io,a1,a2,a3⟩:=h.op;obtain⟨cd,id,b1,b2,b3⟩:=h.dn;obtain⟨cm,k1,k2,k3⟩:=hm;have hlen:=h.len;have bW:=h.lt;have Er:∀d,i=some d->∃v cs,H.get d=some (.ul v 19 cs 115):=λd hd=>by
  subst hd;obtain⟨v,_,g⟩:=k2;exact⟨v,_,g⟩
 have Fm:∀d cs ty,d≠bm->H.get d=some (.cells cs ty)->H'.get d=some (.cells cs ty):=λd cs ty hd hg=>hf.some hg λhc=>by
  rcases hc with rfl|hc
  ·exact hd rfl
  ·obtain⟨v,cs',g⟩:=Er d hc;rw[hg] at g;cases g
 have P9:∀d v sz cs e,e≠115->H.get d=some (.ul v sz cs e)->H'.get d=some (.ul v sz cs e):=λd v sz cs e he hg=>hf.some hg λhc=>by
  rcases hc with rfl|hc
  ·rw[k1] at hg;cases hg
  ·obtain⟨v',cs',g⟩:=Er d hc;rw[hg] at g;injection g with g;injection g with _ _ _ g;exact he g
 have Es:∀{sz e c i xs},e≠115->UL H sz e c i xs->UL H' sz e c i xs:=λ{sz e c i xs} he hu=>hu.frame λj hj=>by
  subst hj;obtain⟨v,_,g⟩:=hu;rw[g,P9 _ _ _ _ _ he g]
 refine⟨⟨cZ hlen hf.len,bW,⟨co,io,Fm _ _ _ (by omega) a1,Es (by decide) a2,a3⟩,⟨cd,id,Fm _ _ _ (by omega) b1,Es (by decide) b2,b3⟩,⟨i',Ov,?_⟩,λd hd Et JD=>?_⟩,λd cs ty h1 _ _ hg=>Fm d cs ty h1 hg⟩
 ·rcases hn with rfl|⟨rfl,j,rfl,hj⟩
  ·exact k0
  ·rcases k0 with rfl|⟨rfl,j',h1,_⟩
   ·exact .inr ⟨rfl,j,rfl,by omega⟩
   ·cases h1
 ·rw[<- h.fr d hd Et JD];refine hf.get d (by omega) λhc=>?_
  rcases hc with rfl|hc
  ·exact Et rfl
  ·rcases k0 with rfl|⟨rfl,j',h1,h2⟩
   ·exact JD hc
   ·rw[h1] at hc;cases hc;omega
theorem WS.push{bs:List bq}{bm:Nat}{i0:Option Nat}{H:Hp}{S:List (E×Nat)}{ps:List Part}{m:Mk}(h:WS bs bm i0 H S ps m){x:bq}:WS bs bm i0 (H.push x) S ps m/\Kp bs.length bm H (H.push x):=by
 have hf:sO H (H.push x) (λ_=>False):=⟨by rw[jn];omega,λd hd _=>jI hd⟩
 obtain⟨co,io,a1,a2,a3⟩:=h.op;refine h.opened (λe he=>he) a1 a2 a3 (hf.some a1 id) (a2.frame λj hj=>?_) (λj hj=>.inl hj) (hf.mono λ_ _ h=>h.elim);subst hj;exact jI a2.lt
theorem WS.Cz{bs:List bq}{bm:Nat}{i0:Option Nat}{H:Hp}{S:List (E×Nat)}{ps:List Part}{m:Mk}(h:WS bs bm i0 H S ps m){b:Nat}{cs cs':aG}{ty ty':aD}(hb:H.get b=some (.cells cs ty))(h0:bs.length<=b)(h2:b≠bs.length+2)(h3:b≠bs.length+3):WS bs bm i0 (H.set b (.cells cs' ty')) S ps m:=by
 obtain⟨co,io,a1,a2,a3⟩:=h.op;obtain⟨cd,id,b1,b2,b3⟩:=h.dn;obtain⟨im,⟨cm,k1,k2,k3⟩,k4⟩:=h.Ay;have bW:=h.lt;have Es:∀{sz e c i xs},UL H sz e c i xs->UL (H.set b (.cells cs' ty')) sz e c i xs:=λ{sz e c i xs} hu=>hu.frame λj hj=>qD λe=>by
  subst hj e;obtain⟨v,_,g⟩:=hu;rw[hb] at g;cases g
 exact⟨by rw[wl];exact h.len,bW,⟨co,io,(qD (Ne.symm h2)).trans a1,Es a2,a3⟩,⟨cd,id,(qD (Ne.symm h3)).trans b1,Es b2,b3⟩,⟨im,⟨cm,(qD (by omega)).trans k1,Es k2,k3⟩,k4⟩,λd hd Et JD=>(qD (by omega)).trans (h.fr d hd Et JD)⟩
end
section
variable{gl:Gl}
noncomputable abbrev JE(gl:Gl)(n:Nat):Cx:=⟨prog,gl.g,zj prog gl n,eg⟩
variable{bs:List bq}{bm:Nat}{i0:Option Nat}{H:Hp}{S:List (E×Nat)}{ps:List Part}{m:Mk}
theorem zpo{k:Nat}(h:k<2 ^ 32):ku (k+1) 112=true:=j9 (by omega) (by omega)
theorem zpp{k:Nat}(h:k<2 ^ 32):ku (k+1) 312=true:=j9 (by omega) (by omega)
theorem WS.Fp(hg:GW gl){n:Nat}(hn:1<=n)(h:WS bs bm i0 H S ps m)(f:E×Nat)(hr:S.length<2 ^ 32) :
  ∃H',(JE gl n).bK 88 [.ptr (bs.length+2) 0,.agg (rX f)] H=some (.val (.bx []),H')/\WS bs bm i0 H' (f::S) ps m/\Kp bs.length bm H H':=by
 obtain⟨co,io,a1,a2,a3⟩:=h.op;obtain⟨H',c',j,h1,h2,h3,h4,h5,h6⟩:=zph hg (n:=n - 1) a1 a2 (LO a2 a1) (NJ f) (XM f) (by rw[iK,List.length_reverse];exact zpo hr)
 rw[show n - 1+1=n by omega] at h1
 have:=h.opened (S':=f::S) (TF hg.fq h1) a1 a2 a3 h2 (by simpa using h3) (λk hk=>by cases hk;exact h5) h6
 exact⟨H',zu func88 rfl h1,this.1,this.2⟩
theorem WS.XN(hg:GW gl){n:Nat}(hn:1<=n){f:E×Nat}(h:WS bs bm i0 H (f::S) ps m)(hr:S.length<2 ^ 32) :
  ∃H',(JE gl n).bK 90 [.ptr (bs.length+2) 0] H=some (.val (.agg (rX f)),H')/\WS bs bm i0 H' S ps m/\Kp bs.length bm H H':=by
 obtain⟨co,io,a1,a2,a3⟩:=h.op;obtain⟨j,rfl⟩:∃j,io=some j:=by
  cases io with
  | none=>exact absurd a2.2 (by simp)
  | some j=>exact⟨j,rfl⟩
 have XO:UL H 11 157 co (some j) (S.reverse.map rX++[rX f]):=by simpa using a2
 obtain⟨H',c',h1,h2,h3,h6⟩:=zpW hg (n:=n - 1) a1 XO (λe=>LO a2 a1 (by rw[e])) (NJ f) (XM f) (zhb f) (λy hy=>by obtain⟨z,_,rfl⟩:=mU.1 hy;exact NJ z) (by rw[iK,List.length_reverse];omega)
 rw[show n - 1+1=n by omega] at h1
 have:=h.opened (S':=S) (TF hg.fq h1) a1 a2 a3 h2 h3 (λk hk=>.inl hk) (h6.mono λd _ hd=>by rcases hd with h|h;exact .inl h;exact .inr (by rw[h]))
 exact⟨H',zu func90 rfl h1,this.1,this.2⟩
theorem WS.C'(hg:GW gl){n:Nat}(hn:1<=n)(h:WS bs bm i0 H S ps m)(p:Part)(hr:ps.length<2 ^ 32) :
  ∃H',(JE gl n).bK 91 [.ptr (bs.length+3) 0,.agg (zo p)] H=some (.val (.bx []),H')/\WS bs bm i0 H' S (p::ps) m/\Kp bs.length bm H H':=by
 obtain⟨co,io,a1,a2,a3⟩:=h.dn;obtain⟨H',c',j,h1,h2,h3,h4,h5,h6⟩:=zpi hg (n:=n - 1) a1 a2 (LO a2 a1) q8 wO (by rw[iK,List.length_reverse];exact zpp hr)
 rw[show n - 1+1=n by omega] at h1
 have:=h.P_ (ps':=p::ps) (TF hg.fq h1) a1 a2 a3 h2 (by simpa using h3) (λk hk=>by cases hk;exact h5) h6
 exact⟨H',zu func91 rfl h1,this.1,this.2⟩
theorem WS.Il(hg:GW gl){n:Nat}(hn:1<=n){p:Part}(h:WS bs bm i0 H S (p::ps) m)(hr:ps.length<2 ^ 32) :
  ∃H',(JE gl n).bK 93 [.ptr (bs.length+3) 0] H=some (.val (.agg (zo p)),H')/\WS bs bm i0 H' S ps m/\Kp bs.length bm H H':=by
 obtain⟨co,io,a1,a2,a3⟩:=h.dn;obtain⟨j,rfl⟩:∃j,io=some j:=by
  cases io with
  | none=>exact absurd a2.2 (by simp)
  | some j=>exact⟨j,rfl⟩
 have XO:UL H 39 117 co (some j) (ps.reverse.map zo++[zo p]):=by simpa using a2
 obtain⟨H',c',h1,h2,h3,h6⟩:=zpX hg (n:=n - 1) a1 XO (λe=>LO a2 a1 (by rw[e])) q8 wO yM (λy hy=>by obtain⟨z,_,rfl⟩:=mU.1 hy;exact q8) (by rw[iK,List.length_reverse];omega)
 rw[show n - 1+1=n by omega] at h1
 have:=h.P_ (ps':=ps) (TF hg.fq h1) a1 a2 a3 h2 h3 (λk hk=>.inl hk) (h6.mono λd _ hd=>by rcases hd with h|h;exact .inl h;exact .inr (by rw[h]))
 exact⟨H',zu func93 rfl h1,this.1,this.2⟩
theorem WS.emp(hg:GW gl){n:Nat}(hn:1<=n)(h:WS bs bm i0 H S ps m):(JE gl n).bK 89 [.ptr (bs.length+2) 0] H=some (.val (.bool S.isEmpty),H):=by
 obtain⟨co,io,a1,a2,a3⟩:=h.op;obtain⟨b,e⟩:=H;have h1:=zkx hg (n:=n - 1) (es:=e) a1 a2;rw[show n - 1+1=n by omega] at h1
 have:(S.reverse.map rX).isEmpty=S.isEmpty:=by cases S<;>simp
 rw[this] at h1;exact zu func89 rfl h1
structure Mk.Ok(m:Mk):Prop where
 r:m.rules.length=m.sets.length
 n:m.next.length=m.sets.length
theorem WS.leaf(hg:GW gl){n:Nat}(hn:2<=n)(h:WS bs bm i0 H S ps m)(ek:m.Ok)(hs:m.sets.length<1216){op pl s0 s1 s2 s3 mn mx r:Int}{text:bO}{nl:Bool}{args:List E} :
  ∃H',(JE gl n).bK 92 [.ptr bm 0,enc (.mk op pl s0 s1 s2 s3 text mn mx nl args),.int .i64 r] H=some (.val (.agg (zo (jP op (s0,s1,s2,s3) r m).1)),H')/\WS bs bm i0 H' S ps (jP op (s0,s1,s2,s3) r m).2/\Kp bs.length bm H H':=by
 obtain⟨i,k1,k2⟩:=h.Ay;obtain⟨H',i',h1,h2,h3,h4⟩:=zl3 hg (n:=n - 2) (r:=r) (op:=op) (pl:=pl) (s0:=s0) (s1:=s1) (s2:=s2) (s3:=s3) (mn:=mn) (mx:=mx) (text:=text) (nl:=nl) (args:=args) k1 (by have:=h.len;omega) hs (by rw[ek.r];exact hs) (by rw[ek.n];exact hs)
 rw[show n - 2+2=n by omega] at h1
 have:=h.made k2 k1 h2 h3 h4;exact⟨H',zu func92 rfl h1,this.1,this.2⟩
theorem XP{bs:List bq}{es:aP}{i:Option Nat}{ns:List (Nat->Bool)}{bm:Nat}:sO ⟨bs,es⟩ ⟨ef bs i ns,es⟩ (λd=>d=bm\/i=some d) :=
 ⟨by rw[yL];exact dB _,λd _ hd=>TB λe=>hd (.inr e)⟩
theorem MK.ef{bs:List bq}{es:aP}{n0 bm:Nat}{m:Mk}{i:Option Nat}(h:MK n0 ⟨bs,es⟩ bm m i){ns:List (Nat->Bool)}(hl:ns.length=m.next.length):MK n0 ⟨ef bs i ns,es⟩ bm { m with next:=ns } i:=by
 obtain⟨c,h1,h2,h3⟩:=h;exact⟨c,(TB (TC h2 h1)).trans h1,zjp h2 hl,h3⟩
theorem XQ{op:Int}{k:Nat}{a b:Part}{ns:List (Nat->Bool)}:(zQ op k a b ns).2.length=ns.length:=by
 unfold zQ;split
 ·rfl
 ·split
  ·rfl
  ·simp only[wm]
theorem zhc{mn mx:Int}{p:Part}{ns:List (Nat->Bool)}:(xP mn mx p ns).2.length=ns.length:=by
 unfold xP;simp only;split
 ·simp only[wm]
 ·rfl
theorem WS.LP(hg:GW gl){n:Nat}(hn:1302<=n)(h:WS bs bm i0 H S ps m){op:Int}{k:Nat}{a b:Part}(hk:k<2 ^ 60)(dI:∀k∈jl a.last 19,k<m.next.length) :
  ∃H',(JE gl n).bK 94 [.ptr bm 0,.int .i64 op,.int .i64 k,.agg (zo a),.agg (zo b)] H=some (.val (.agg (zo (zQ op k a b m.next).1)),H')/\WS bs bm i0 H' S ps { m with next:=(zQ op k a b m.next).2 }/\Kp bs.length bm H H':=by
 obtain⟨i,k1,k2⟩:=h.Ay;obtain⟨b',e'⟩:=H;obtain⟨c,g1,g2,g3⟩:=k1;have h1:=zic hg (n:=n - 1) (by omega) (es:=e') (op:=op) (b:=b) hk g1 g2 dI
 rw[show n - 1+1=n by omega] at h1
 have:=h.made k2 ⟨c,g1,g2,g3⟩ (MK.ef (es:=e') ⟨c,g1,g2,g3⟩ (XQ (op:=op) (k:=k) (a:=a) (b:=b))) (.inl rfl) XP;exact⟨_,zu func94 rfl h1,this.1,this.2⟩
theorem WS.Fq(hg:GW gl){n:Nat}(hn:1302<=n)(h:WS bs bm i0 H S ps m){op pl s0 s1 s2 s3 mn mx:Int}{text:bO}{nl:Bool}{args:List E}{p:Part}(dI:∀k∈jl p.last 19,k<m.next.length) :
  ∃H',(JE gl n).bK 95 [.ptr bm 0,enc (.mk op pl s0 s1 s2 s3 text mn mx nl args),.agg (zo p)] H=some (.val (.agg (zo (xP mn mx p m.next).1)),H')/\WS bs bm i0 H' S ps { m with next:=(xP mn mx p m.next).2 }/\Kp bs.length bm H H':=by
 obtain⟨i,k1,k2⟩:=h.Ay;obtain⟨b',e'⟩:=H;obtain⟨c,g1,g2,g3⟩:=k1;have h1:=zfI hg (n:=n - 1) (by omega) (es:=e') (op:=op) (pl:=pl) (s0:=s0) (s1:=s1) (s2:=s2) (s3:=s3) (mn:=mn) (mx:=mx) (text:=text) (nl:=nl) (args:=args) g1 g2 dI
 rw[show n - 1+1=n by omega] at h1
 have:=h.made k2 ⟨c,g1,g2,g3⟩ (MK.ef (es:=e') ⟨c,g1,g2,g3⟩ (zhc (mn:=mn) (mx:=mx) (p:=p))) (.inl rfl) XP;exact⟨_,zu func95 rfl h1,this.1,this.2⟩
end
section
def p0:Part:=⟨false,c_,c_⟩
def xd(op mn mx:Int)(x:Part×Mk):Part×Mk:=if op=7 then ((xP mn mx x.1 x.2.next).1,{ x.2 with next:=(xP mn mx x.1 x.2.next).2 }) else x
mutual
def iT(r:Int):E->Mk->Part×Mk
 | .mk op _ s0 s1 s2 s3 _ mn mx _ args,m=>match args with
  | []=>jP op (s0,s1,s2,s3) r m
  | a::tl=>xd op mn mx (sP r op 0 p0 (a::tl) m)
def sP(r:Int)(op:Int):Nat->Part->List E->Mk->Part×Mk
 | _,a,[],m=>(a,m)
 | k,a,e::es,m=>sP r op (k+1) (zQ op k a (iT r e m).1 (iT r e m).2.next).1 es { (iT r e m).2 with next:=(zQ op k a (iT r e m).1 (iT r e m).2.next).2 }
end
def Eu(r:Int):E×Nat->List Part->Mk->Option (List Part×Mk)
 | (.mk op _pl s0 s1 s2 s3 _tx _mn _mx _nl [],_d),ps,m=>some ((jP op (s0,s1,s2,s3) r m).1::ps,(jP op (s0,s1,s2,s3) r m).2)
 | (.mk op pl s0 s1 s2 s3 tx mn mx nl (a::tl),0),ps,m=>some ((iT r (.mk op pl s0 s1 s2 s3 tx mn mx nl (a::tl)) m).1::ps,(iT r (.mk op pl s0 s1 s2 s3 tx mn mx nl (a::tl)) m).2)
 | (.mk op _pl _s0 _s1 _s2 _s3 _tx mn mx _nl (a::tl),d+1),b::x::ps,m =>
  some ((xd op mn mx (sP r op (d+1) (zQ op d x b m.next).1 ((a::tl).drop (d+1)) { m with next:=(zQ op d x b m.next).2 })).1::ps,(xd op mn mx (sP r op (d+1) (zQ op d x b m.next).1 ((a::tl).drop (d+1)) { m with next:=(zQ op d x b m.next).2 })).2)
 | (.mk _ _ _ _ _ _ _ _ _ _ (_::_),_+1),_,_=>none
def den(r:Int):List (E×Nat)->List Part->Mk->Option (List Part×Mk)
 | [],ps,m=>some (ps,m)
 | f::S,ps,m=>match Eu r f ps m with
  | some (ps',m')=>den r S ps' m'
  | none=>none
theorem TG{r:Int}{e:E}{ps:List Part}{m:Mk}:Eu r (e,0) ps m=some ((iT r e m).1::ps,(iT r e m).2):=by
 obtain⟨op,pl,s0,s1,s2,s3,tx,mn,mx,nl,args⟩:=e;cases args with
 | nil=>simp only[Eu,iT]
 | cons a tl=>simp only[Eu]
variable{r op pl s0 s1 s2 s3 mn mx:Int}{tx:bO}{nl:Bool}{args:List E}{S:List (E×Nat)}{ps:List Part}{m:Mk}{d:Nat}
theorem TH{a:E}{tl:List E}{b x:Part}:Eu r (.mk op pl s0 s1 s2 s3 tx mn mx nl (a::tl),d+1) (b::x::ps) m=some ((xd op mn mx (sP r op (d+1) (zQ op d x b m.next).1 ((a::tl).drop (d+1)) { m with next:=(zQ op d x b m.next).2 })).1::ps,(xd op mn mx (sP r op (d+1) (zQ op d x b m.next).1 ((a::tl).drop (d+1)) { m with next:=(zQ op d x b m.next).2 })).2):=rfl
theorem vu{f:E×Nat}{y:List Part×Mk}(h:Eu r f ps m=some y):den r (f::S) ps m=den r S y.1 y.2:=by simp only[den,h]
theorem zhd{a:E}{tl:List E}:iT r (.mk op pl s0 s1 s2 s3 tx mn mx nl (a::tl)) m=xd op mn mx (sP r op 0 p0 (a::tl) m):=by simp only[iT]
theorem XR{e:E}{es:List E}{k:Nat}{a:Part}:sP r op k a (e::es) m=sP r op (k+1) (zQ op k a (iT r e m).1 (iT r e m).2.next).1 es { (iT r e m).2 with next:=(zQ op k a (iT r e m).1 (iT r e m).2.next).2 }:=by simp only[sP]
theorem zjq{k:Nat}{a:Part}:sP r op k a [] m=(a,m):=by simp only[sP]
theorem Fs:den r ((.mk op pl s0 s1 s2 s3 tx mn mx nl [],d)::S) ps m=den r S ((jP op (s0,s1,s2,s3) r m).1::ps) (jP op (s0,s1,s2,s3) r m).2:=by
 cases d with
 | zero=>exact vu (y:=(_,_)) (by simp only[Eu])
 | succ d=>exact vu (y:=(_,_)) (by simp only[Eu])
theorem zl6{a:E}{tl:List E}:den r ((.mk op pl s0 s1 s2 s3 tx mn mx nl (a::tl),0)::S) ps m=den r ((a,0)::(.mk op pl s0 s1 s2 s3 tx mn mx nl (a::tl),1)::S) (p0::ps) m:=by
 rw[vu TG,vu TG,vu (TH (d:=0)),zhd,XR];rfl
theorem zl7{a:E}{tl:List E}{x b:Part}{c:E}(hc:(a::tl)[d+1]?=some c) :
  den r ((.mk op pl s0 s1 s2 s3 tx mn mx nl (a::tl),d+1)::S) (b::x::ps) m=den r ((c,0)::(.mk op pl s0 s1 s2 s3 tx mn mx nl (a::tl),d+2)::S) ((zQ op d x b m.next).1::ps) { m with next:=(zQ op d x b m.next).2 }:=by
 obtain⟨bW,iW⟩:=dA.1 hc;have fm:(a::tl).drop (d+1)=c::(a::tl).drop (d+2):=by rw[F8 bW,iW]
 rw[vu TH,vu TG,vu (TH (d:=d+1)),fm,XR]
theorem znW{a:E}{tl:List E}{x b:Part}(hd:(a::tl).length<=d+1) :
  den r ((.mk op pl s0 s1 s2 s3 tx mn mx nl (a::tl),d+1)::S) (b::x::ps) m=den r S ((xd op mn mx ((zQ op d x b m.next).1,{ m with next:=(zQ op d x b m.next).2 })).1::ps) (xd op mn mx ((zQ op d x b m.next).1,{ m with next:=(zQ op d x b m.next).2 })).2:=by
 rw[vu TH,List.drop_eq_nil_of_le hd,zjq]
theorem XS{q:Int×Int×Int×Int}:m.sets.length<=(jP op q r m).2.sets.length:=by
 unfold jP;split<;>simp
theorem XT{x:Part×Mk}:(xd op mn mx x).2.sets=x.2.sets:=by
 unfold xd;split<;>rfl
mutual
theorem sQ:∀(e:E)(m:Mk),m.sets.length<=(iT r e m).2.sets.length
 | .mk op _ s0 s1 s2 s3 _ mn mx _ [],m=>by simp only[iT];exact XS
 | .mk op _ s0 s1 s2 s3 _ mn mx _ (a::tl),m=>by
  simp only[iT,XT];exact sR (a::tl) op 0 p0 m
theorem sR:∀(es:List E)(op:Int)(k:Nat)(a:Part)(m:Mk),m.sets.length<=(sP r op k a es m).2.sets.length
 | [],op,k,a,m=>by simp only[sP];exact dB _
 | e::es,op,k,a,m=>by
  simp only[sP];exact cZ (sQ e m) (sR es op (k+1) (zQ op k a (iT r e m).1 (iT r e m).2.next).1 { (iT r e m).2 with next:=(zQ op k a (iT r e m).1 (iT r e m).2.next).2 })
end
theorem zl8{f:E×Nat}{ps':List Part}{m':Mk}(h:Eu r f ps m=some (ps',m')):m.sets.length<=m'.sets.length:=by
 unfold Eu at h;split at h<;>simp only[bz,cq,reduceCtorEq] at h
 ·rw[<- h.2];exact XS
 ·rw[<- h.2];exact sQ _ _
 ·rw[<- h.2,XT];refine cZ (Nat.le_of_eq ?_) (sR _ _ _ _ _);rfl
theorem Bb:∀{S:List (E×Nat)}{ps:List Part}{m:Mk}{y:List Part×Mk},den r S ps m=some y->m.sets.length<=y.2.sets.length
 | [],_,_,_,h=>by simp only[den,bz] at h;rw[<- h];exact dB _
 | f::S,ps,m,y,h=>by
  simp only[den] at h;split at h
  next ps' m' he=>exact cZ (zl8 he) (Bb h)
  ·cases h
def Da(n:Nat)(p:Part):Prop:=(∀x∈jl p.first 19,x<n)/\(∀x∈jl p.last 19,x<n)
theorem Da.mono{n n':Nat}{p:Part}(h:Da n p)(hn:n<=n'):Da n' p:=⟨λx hx=>uO (h.1 x hx) hn,λx hx=>uO (h.2 x hx) hn⟩
theorem zl9{n:Nat}{b:Bool}:Da n ⟨b,c_,c_⟩:=by
 constructor<;>(intro x hx;rw[iz] at hx;simp[c_] at hx)
theorem TI{n:Nat}{p q:Nat->Bool}(hp:∀x∈jl p 19,x<n)(hq:∀x∈jl q 19,x<n):∀x∈jl (jG p q) 19,x<n:=by
 intro x hx;rw[iz] at hx;obtain⟨h1,h2⟩:=hx;simp only[jG,tf] at h2;rcases h2 with h|h
 ·exact hp x (iz.2 ⟨h1,h⟩)
 ·exact hq x (iz.2 ⟨h1,h⟩)
theorem zpq{n k:Nat}(h:k<n):∀x∈jl (jT c_ k) 19,x<n:=by
 intro x hx;rw[iz] at hx;have:=hx.2;simp[jT,c_] at this;omega
theorem zhe{q:Int×Int×Int×Int}(h:m.Ok):(jP op q r m).2.Ok/\Da (jP op q r m).2.next.length (jP op q r m).1:=by
 unfold jP;split
 ·exact⟨h,zl9⟩
 ·refine⟨⟨by simp[h.r],by simp[h.n]⟩,?_⟩
  constructor<;>exact zpq (by simp[h.n])
theorem zid{n:Nat}{k:Nat}{a b:Part}{ns:List (Nat->Bool)}(ha:Da n a)(hb:Da n b):Da n (zQ op k a b ns).1:=by
 unfold zQ;split
 ·exact hb
 ·split
  ·exact⟨TI ha.1 hb.1,TI ha.2 hb.2⟩
  ·refine⟨?_,?_⟩
   ·simp only;split
    ·exact TI ha.1 hb.1
    ·exact ha.1
   ·simp only;split
    ·exact TI ha.2 hb.2
    ·exact hb.2
theorem znX{n:Nat}{p:Part}{ns:List (Nat->Bool)}(h:Da n p):Da n (xP mn mx p ns).1:=h
mutual
def wE:E->Nat
 | .mk _ _ _ _ _ _ _ _ _ _ args=>3+DY args
def DY:List E->Nat
 | []=>0
 | e::es=>wE e+2+DY es
end
def wF:E×Nat->Nat
 | (e,0)=>wE e
 | (.mk _ _ _ _ _ _ _ _ _ _ args,d+1)=>1+DY (args.drop (d+1))
def wS:List (E×Nat)->Nat
 | []=>0
 | f::S=>wF f+wS S
theorem TJ(f:E×Nat):1<=wF f:=by
 obtain⟨⟨op,pl,s0,s1,s2,s3,tx,mn,mx,nl,args⟩,d⟩:=f;cases d<;>simp only[wF,wE]<;>omega
theorem znY{a:E}{tl:List E}:wS ((a,0)::(.mk op pl s0 s1 s2 s3 tx mn mx nl (a::tl),1)::S)+4=wS ((.mk op pl s0 s1 s2 s3 tx mn mx nl (a::tl),0)::S):=by
 simp only[wS,wF,wE,DY,Aj,ny];omega
theorem znZ{c:E}(hc:args[d+1]?=some c):wS ((c,0)::(.mk op pl s0 s1 s2 s3 tx mn mx nl args,d+2)::S)+2=wS ((.mk op pl s0 s1 s2 s3 tx mn mx nl args,d+1)::S):=by
 obtain⟨bW,iW⟩:=dA.1 hc;have fm:args.drop (d+1)=c::args.drop (d+2):=by rw[F8 bW,iW]
 simp only[wS,wF];rw[fm,show d+1+1=d+2 from rfl];simp only[DY];omega
end
section
variable{gl:Gl}
theorem XU:qL prog 157=some (.agg [.int .i64 0,.int .i64 0,.int .u64 0,.int .u64 0,.int .u64 0,.int .u64 0,.str [],.int .i64 0,.int .i64 0,.aH,.int .i64 0]):=by kernel_rfl
theorem z86:qL prog 151=some (.agg [.aH]):=by kernel_rfl
theorem z89:qL prog 154=some (.agg [.aH]):=by kernel_rfl
theorem zpZ:(match prog.underlying 157 with|some (.struct fs)=>Sf prog fs|_=>none)=some [(0,10),(10,1)]:=by kernel_rfl
theorem zoI{x:a_}{env:aG}{e:E}(h:ak env x=some (.agg (aR e))):kw prog 157 #[(0,x)] env=some (.agg (rX (e,0))):=by
 have hp:=zpZ;unfold kw;rw[XU];cases hu:prog.underlying 157 with
 | none=>rw[hu] at hp;cases hp
 | some d =>
  rw[hu] at hp;cases d<;>simp only at hp<;>try (cases hp;done)
  simp only[hp];obtain⟨op,pl,s0,s1,s2,s3,text,mn,mx,nl,args⟩:=e;simp[dD,xM,h,nth,aR,V.cells,Vm.storeCells,rX]
theorem zpr{x y:a_}{env:aG}{e:E}{d:Nat}(h:ak env x=some (.agg (aR e)))(h':ak env y=some (.int .i64 (d:Int))):kw prog 157 #[(0,x),(1,y)] env=some (.agg (rX (e,d))):=by
 have hp:=zpZ;unfold kw;rw[XU];cases hu:prog.underlying 157 with
 | none=>rw[hu] at hp;cases hp
 | some d =>
  rw[hu] at hp;cases d<;>simp only at hp<;>try (cases hp;done)
  simp only[hp];obtain⟨op,pl,s0,s1,s2,s3,text,mn,mx,nl,args⟩:=e;simp[dD,xM,h,h',nth,aR,V.cells,Vm.storeCells,rX]
theorem zp0{env:aG}:kw prog 117 #[] env=some (.agg (zo p0)):=by kernel_rfl
theorem XV:qG prog 51=some false:=by kernel_rfl
theorem TK:prog.underlying 51=some (.slice 53):=by kernel_rfl
theorem nR:zH prog 157 0=some 0:=by kernel_rfl
theorem pe:zH prog 157 1=some 10:=by kernel_rfl
theorem CA:zH prog 53 6=some 9:=by kernel_rfl
theorem zhf{H:Hp}{nl:Bool}{l:List E}:qW prog H 51 (yT nl (fO l))=some (l.length:Int):=by
 rcases vI nl (fO l) with h|⟨h0,h⟩<;>rw[h]
 ·simp[qW,f_]
 ·have:l=[]:=by
   have:=congrArg List.length h0;rw[f_] at this;exact G0 this
  subst this;simp[qW]
theorem TL{H:Hp}{b:Nat}{p q:Part}{env:aG}{lk:aP}{df:bS}(hg:H.get b=some (.cells (zo q) 117)):qp prog 117 H lk df (some (.agg (zo p),env)) (some (.ptr b 0))=some (.skip,⟨env,H.set b (.cells (zo p) 117),lk,df⟩):=by
 rw[zA (v:=.agg (zo p)) rW hg rfl (by simp[V.laid,q8]) (by rw[q8];decide) (wi yy (by rw[q8];decide)),jV (by simp[V.top,yM])]
 simp only[V.laid,wO];rw[wM (by rw[q8,q8])]
theorem XW{H:Hp}{b:Nat}{p:Part}{g:Nat->Nat->cj}(hg:H.get b=some (.cells (zo p) 117)):zk prog H g 117 (.ptr b 0)=some (.agg (zo p)):=by
 rw[jp tR rW hg (by rw[q8];decide),ny,su (by rw[q8];decide)]
def E.args:E->List E
 | .mk _ _ _ _ _ _ _ _ _ _ a=>a
structure EF(bs:List bq)(bm:Nat)(r:Int)(env:aG):Prop where
 len:env.length=86
 e0:nth env 0=some (.ptr bm 0)
 e2:nth env 2=some (.int .i64 r)
 e6:nth env 6=some (.ptr (bs.length+1) 0)
 e7:nth env 7=some (.ptr (bs.length+2) 0)
 e8:nth env 8=some (.ptr (bs.length+3) 0)
structure WI(bs:List bq)(bm:Nat)(i0:Option Nat)(r:Int)(P:Part)(M:Mk)(Wm:Nat)(H:Hp)(S:List (E×Nat))(ps:List Part)(m:Mk):Prop where
 ws:WS bs bm i0 H S ps m
 dn:den r S ps m=some ([P],M)
 NK:∀p∈ps,Da m.next.length p
 ok:m.Ok
 wf:∀f∈S,f.2<=f.1.args.length/\wE f.1<=2 ^ 31
 bd:S.length+ps.length+wS S<=Wm
 res:∃q,H.get (bs.length+1)=some (.cells (zo q) 117)
theorem zqy{H:Hp}{b:Nat}{f:E×Nat}{cs:aG}{ty:aD}{env:aG}{lk:aP}{df:bS}(hg:H.get b=some (.cells cs ty))(hl:cs.length=11)(hu:cs.all (λc=>!(locked c))=true):qp prog 157 H lk df (some (.agg (rX f),env)) (some (.ptr b 0))=some (.skip,⟨env,H.set b (.cells (rX f) ty),lk,df⟩):=by
 rw[zA (v:=.agg (rX f)) u_ hg rfl (by simp[V.laid,NJ]) (by rw[hl];decide) (wi hu (by rw[hl];decide)),jV (by simp[V.top,zhb])]
 simp only[V.laid,XM];rw[wM (by rw[hl,NJ])]
theorem JF{H:Hp}{b d:Nat}{op pl s0 s1 s2 s3 mn mx:Int}{tx:bO}{nl:Bool}{args:List E}{g:Nat->Nat->cj}(hg:H.get b=some (.cells (rX (.mk op pl s0 s1 s2 s3 tx mn mx nl args,d)) 157)) :
  zk prog H g 3 (.ptr b 0)=some (.int .i64 op)/\zk prog H g 51 (.ptr b 9)=some (yT nl (fO args))/\zk prog H g 3 (.ptr b 10)=some (.int .i64 (d:Int))/\zk prog H g 53 (.ptr b 0)=some (.agg (aR (.mk op pl s0 s1 s2 s3 tx mn mx nl args))) :=
 ⟨zr Nz hg rfl,zr XV hg rfl,zr Nz hg rfl,by rw[jp Ct tU hg (by rw[NJ];decide)];rfl⟩
theorem zjr{nl:Bool}{args:List E}{D:Nat}{c:E}(h:args[D]?=some c):zt prog 51 (yT nl (fO args)) (D:Int)=some (.vp (aR c)):=by
 have cK:yT nl (fO args)=.sl 10 (fO args) .no:=by
  rcases vI nl (fO args) with h'|⟨h0,h'⟩
  ·exact h'
  ·have:=congrArg List.length h0;rw[f_] at this;rw[G0 this] at h;simp at h
 have hn:nth (fO args) D=some (enc c):=by rw[zg,A8,h];rfl
 have hD:¬((D:Int)<0):=by omega
 simp[cK,zt,tU,hD,hn,q9,V.cells]
theorem zma{H:Hp}{g:Nat->Nat->cj}{c:E}:zk prog H g 53 (.vp (aR c))=some (.agg (aR c)):=by
 have:(aR c).take 10=aR c:=su (by rw[z7];decide)
 simp[zk,qy,Ct,tU,S6,z7,this]
structure TM(bs:List bq)(bm:Nat)(r:Int)(L:Nat)(env:aG):Prop extends EF bs bm r env where
 e9:nth env 9=some (.ptr L 0)
theorem zjs{c:E}:∀{l:List E},c∈l->wE c+2<=DY l
 | a::l,h=>by
  simp only[DY];rcases dM.1 h with rfl|h
  ·omega
  ·have:=zjs h;omega
theorem w_:∀{l:List E},l.length<=DY l
 | []=>dB _
 | a::l=>by have:=w_ (l:=l);simp only[DY,bh];omega
theorem XX(e:E):wE e=3+DY e.args:=by cases e;simp only[wE,E.args]
theorem zn1{r op pl s0 s1 s2 s3 mn mx:Int}{tx:bO}{nl:Bool}{a:E}{tl:List E}{d:Nat}{S:List (E×Nat)}{ps:List Part}{m:Mk}{y:List Part×Mk}(h:den r ((.mk op pl s0 s1 s2 s3 tx mn mx nl (a::tl),d+1)::S) ps m=some y):∃b x ps',ps=b::x::ps':=by
 cases ps with
 | nil=>simp[den,Eu] at h
 | cons b ps =>
  cases ps with
  | nil=>simp[den,Eu] at h
  | cons x ps=>exact⟨b,x,ps,rfl⟩
def Mid(bs:List bq)(bm:Nat)(i0:Option Nat)(r:Int)(P:Part)(M:Mk)(Wm L:Nat)(e:E)(d:Nat)(S:List (E×Nat))(s:St):Prop :=
 ∃env H ps m q,s=⟨env,H,[],[]⟩/\TM bs bm r L env/\WS bs bm i0 H S ps m/\(∀p∈ps,Da m.next.length p)/\m.Ok/\H.get L=some (.cells (rX (e,d)) 157)/\H.get (bs.length+1)=some (.cells (zo q) 117) /\
  (∀c,e.args[d]?=some c->den r ((c,0)::(e,d+1)::S) ps m=some ([P],M)/\S.length+2+ps.length+wS ((c,0)::(e,d+1)::S)<=Wm/\wS ((c,0)::(e,d+1)::S)<wS ((e,d)::S)) /\
  (d=e.args.length->match e with|.mk op _ _ _ _ _ _ mn mx _ _=>∃p ps',ps=p::ps'/\den r S ((xd op mn mx (p,m)).1::ps') (xd op mn mx (p,m)).2=some ([P],M)/\S.length+ps.length+wS S<=Wm)
theorem zmb(hg:GW gl){n n0:Nat}{H:Hp}{bm:Nat}{m:Mk}{i:Option Nat}{e:E}{r:Int}{P:Part}{M:Mk}
  (hm:MK n0 H bm m i) (AM:n0<=H.az.length) (hP:iT r e m=(P,M)) (ek:m.Ok) (hM:M.sets.length<=1200) (hn:wE e+2000<=n) (hw:wE e+2<=2 ^ 31) :
  ∃H' i',zj prog gl (n+1) 55 [.ptr bm 0,enc e,.int .i64 r] H=some (.ret (.agg (zo P)),H')/\MK n0 H' bm M i'/\JA H.az.length i i'/\sO H H' (λd=>d=bm\/i=some d)/\M.Ok/\Da M.next.length P:=by
 obtain⟨bs,es⟩:=H;have C3:=hm.start
 suffices bR:(go ⟨prog,gl,zj prog gl n,eg⟩ n (Fx prog f55.results.toList λw H1=>w=.agg (zo P)/\∃i',MK bs.length H1 bm M i'/\JA bs.length i i'/\sO ⟨bs,[]⟩ H1 (λd=>d=bm\/i=some d)/\M.Ok/\Da M.next.length P) [.c (f55.body.getD .skip)] .normal ⟨[.ptr bm 0,enc e,.int .i64 r]++List.replicate 83 (.bx []),⟨bs,[]⟩,[],[]⟩) by
  obtain⟨w,H1,h0,rfl,i',h1,h2,h3,h4,h5⟩:=zO (gl:=gl) (f:=55) (bs:=bs) (es:=es) (args:=[.ptr bm 0,enc e,.int .i64 r]) (n:=n) (hg.hk _ _ (by decide)) (λH=>hg.fq _ _ _ _) func55 rfl (by rw[hg.uq];exact bR)
  exact⟨_,i',h0,hm.finish AM h2 h1,h2,zdF h3,h4,h5⟩
 obtain⟨c,hc,hu,hed⟩:=C3;have bW:bm<bs.length:=kK hc;have o7:dD (.agg (aR e))=true:=rfl;simp only[f55,gm,zi,q9];refine zh ?_
 simp only[BA,aq,zc,zd,ze,bX,bY,qg o7,LH,zR (show dD (V.agg (zo ⟨false,c_,c_⟩))=true from rfl),V.laid,V.cells,ja,List.replicate];refine zh ?_
 simp only[qt,aK,zi,qQ,aN,aq,zc,aZ,bh,List.length_nil,oh,Nat.reduceAdd,bp,br,bt,bX,bY,z86,zR (show dD (V.agg [V.aH])=true from rfl),V.cells]
 refine zh ?_
 simp only[qt,aK,zi,qQ,aN,aq,zc,aZ,bh,List.length_nil,oh,Nat.reduceAdd,bp,br,bt,bX,bY,z89,zR (show dD (V.agg [V.aH])=true from rfl),V.cells]
 generalize Ft:Hp.mk (bs++[bq.cells (aR e) 53,.cells (zo ⟨false,c_,c_⟩) 117,.cells [.aH] 151,.cells [.aH] 154]) []=H0;have Db:WS bs bm i H0 [] [] m:=by
  subst Ft;refine⟨by simp,bW,⟨.aH,none,gN (k:=2),⟨rfl,rfl⟩,by simp⟩,⟨.aH,none,gN (k:=3),⟨rfl,rfl⟩,by simp⟩,⟨i,⟨c,(gB bW).trans hc,hu.frame λj hj=>gB (by subst hj;exact hu.lt),λj hj hn=>?_⟩,.inl rfl⟩,λd hd _ _=>gB hd⟩
  subst hj;exact absurd hu.lt (by simpa using hn)
 have Ba:zk prog H0 gl.g 53 (.ptr bs.length 0)=some (.agg (aR e)):=by
  subst Ft;rw[zoH Ct tU rfl (by simp[z7])]
  rw[ny,su (by rw[z7];decide)]
 have lO:H0.get (bs.length+1)=some (.cells (zo p0) 117):=by subst Ft;exact gN (k:=1)
 obtain⟨H1,nB,GG,DD⟩:=Db.Fp hg (show 1<=n by omega) (e,0) (by decide)
 refine zh ?_;simp only[BA,ak,aq,zd,ze,bX,bY,Ba];rw[zoI (e:=e) (by rfl)]
 simp only[BA,av,ak,aq,aC,zd,ze,bX,bY,nB];refine xb (EF bs bm r) ⟨rfl,rfl,rfl,rfl,rfl,rfl⟩ λenv k_=>?_
 have uX:WI bs bm i r P M (wE e+2) H1 [(e,0)] [] m:=⟨GG,by simp only[den,TG,hP],λp hp=>by simp at hp,ek,λf hf=>by simp at hf;subst hf;exact⟨dP _,by simp only;omega⟩,by simp[wS,wF];omega,⟨p0,DD _ _ _ (by omega) (by omega) (by omega) lO⟩⟩
 refine qx (λj s=>∃S ps m H env,wS S=j/\s=⟨env,H,[],[]⟩/\EF bs bm r env/\WI bs bm i r P M (wE e+2) H S ps m) (wS [(e,0)]) (by simp[wS,wF];omega) ⟨_,_,_,_,_,rfl,rfl,k_,uX⟩ ?_
 clear uX Db Ba lO nB GG DD Ft k_ env H0 H1;rintro j s ⟨S,ps,m1,H,env,rfl,rfl,he,hi⟩;simp only[zi];refine zh ?_;have XY:=hi.ws.emp hg (show 1<=n by omega)
 have hlen:=he.len;simp only[BA,Nat.reduceEqDiff,av,ak,aq,aC,za,bI,Nat.reduceLT,bD,he.e7,hlen,XY,i_];cases S with
 | nil =>
  refine .inr ⟨rfl,?_⟩;have hd:=hi.dn;simp only[den,bz,cq] at hd;obtain⟨rfl,rfl⟩:=hd;obtain⟨H2,sg,Qa,fq⟩:=hi.ws.Il hg (show 1<=n by omega) (by decide)
  obtain⟨q,hq⟩:=hi.res;have LQ:=fq _ _ _ (by have:=hi.ws.lt;omega) (by omega) (by omega) hq
  simp only[qk,zN,zp,bN,zD,iV,aI,zi];refine zh ?_;simp only[BA,Nat.reduceEqDiff,av,ak,aq,aC,za,bI,Nat.reduceLT,bD,he.e8,he.e6,hlen,sg];rw[TL LQ];simp only[bB,aq,go_ret,zp,Fx]
  have Im:=Qa.Cz (cs':=zo P) (ty':=117) LQ (by omega) (by omega) (by omega)
  obtain⟨i',k1,k2⟩:=Im.Ay;refine⟨trivial,[.agg (zo P)],?_,rfl,i',k1,k2,⟨by have:=Im.len;show bs.length<=_;omega,λd hd si=>Im.fr d hd (λe=>si (.inl e)) (λe=>si (.inr e))⟩,hi.ok,hi.NK P (by simp)⟩
  simp only[zy,za,bI,Nat.reduceEqDiff,bD,he.e6];rw[XW (wA LQ)];simp[bg]
 | cons f S =>
  refine .inl ⟨rfl,?_⟩;have NL:=hi.bd;have PS:S.length<2 ^ 32:=by simp only[bh] at NL;omega
  have KK:ps.length<2 ^ 31:=by simp only[bh] at NL;omega
  obtain⟨H1,nB,GG,DD⟩:=hi.ws.XN hg (show 1<=n by omega) PS
  refine zh ?_
  simp only[qt,aK,zi,zx,qQ,zV,kf,Nat.reduceEqDiff,av,ql,ak,zL,qZ,aN,aq,qj,qP,aC,bk,bw,aI,za,bI,Nat.reduceLT,aI,bD,he.e7,hlen,nB,XU,zR (show dD (V.agg [.int .i64 0,.int .i64 0,.int .u64 0,.int .u64 0,.int .u64 0,.int .u64 0,.str [],.int .i64 0,.int .i64 0,.aH,.int .i64 0])=true from rfl),V.cells]
  rw[zqy we rfl rfl];obtain⟨L,hL⟩:∃L,L=H1.az.length:=⟨_,rfl⟩;obtain⟨z,hz⟩:∃z,z=bq.cells [.int .i64 0,.int .i64 0,.int .u64 0,.int .u64 0,.int .u64 0,.int .u64 0,.str [],.int .i64 0,.int .i64 0,.aH,.int .i64 0] 157:=⟨_,rfl⟩;rw[<- hz,<- hL];obtain⟨H2,Fu⟩:∃H2,H2=(H1.push z).set L (.cells (rX f) 157):=⟨_,rfl⟩;rw[<- Fu];have hLn:bs.length+4<=L:=by rw[hL];exact GG.len
  have XZ:(H1.push z).get L=some z:=by rw[hL];exact we
  have NM:H2.get L=some (.cells (rX f) 157):=by rw[Fu,wA XZ]
  have Qa:WS bs bm i H2 S ps m1:=by rw[Fu];exact GG.push.1.Cz (by rw[XZ,hz]) (by omega) (by omega) (by omega)
  obtain⟨q,hq⟩:=hi.res;have LQ:H2.get (bs.length+1)=some (.cells (zo q) 117):=by
   rw[Fu,qD (by omega),jI (by omega)]
   exact DD _ _ _ (by omega) (by omega) (by omega) hq
  clear Fu XZ hz z DD hq nB GG;simp only[bB,aq]
  refine xb (TM bs bm r L) ⟨⟨by simp[hlen],by simp[za,he.e0],by simp[za,he.e2],by simp[za,he.e6],by simp[za,he.e7],by simp[za,he.e8]⟩,by simp[za,hlen]⟩ λenv he=>?_
  have hlen:=he.len;obtain⟨⟨op,pl,s0,s1,s2,s3,tx,mn,mx,nl,args⟩,d⟩:=f;obtain⟨l1,l2,l3,l4⟩:=JF (g:=gl.g) NM;refine zh ?_;simp only[BA,Nat.reduceEqDiff,ak,aj,aq,ah,za,bI,Nat.reduceLT,bD,he.e9,hlen,nR,CA,l2,z9,zhf,wJ];cases args with
  | nil =>
   refine .inl ⟨rfl,?_⟩;have C_:=hi.dn;rw[Fs] at C_;have NN:=Bb C_;have iB:=zhe (op:=op) (r:=r) (q:=(s0,s1,s2,s3)) hi.ok;have X0:=XS (op:=op) (r:=r) (q:=(s0,s1,s2,s3)) (m:=m1);have Fv:m1.next.length<=(jP op (s0,s1,s2,s3) r m1).2.next.length:=by rw[hi.ok.n,iB.1.n];exact X0
   simp only at NN;obtain⟨H3,By,Im,Cy⟩:=Qa.leaf hg (show 2<=n by omega) hi.ok (by omega) (op:=op) (pl:=pl) (s0:=s0) (s1:=s1) (s2:=s2) (s3:=s3) (mn:=mn) (mx:=mx) (r:=r) (text:=tx) (nl:=nl) (args:=[])
   obtain⟨H4,Qb,TN,LM⟩:=Im.C' hg (show 1<=n by omega) (jP op (s0,s1,s2,s3) r m1).1 (by omega)
   rw[q9] at By;simp only[qk,zN,zD,zi,iV,aI]
   refine zh ?_;simp only[BA,Nat.reduceEqDiff,av,ak,aq,ah,aC,za,bI,Nat.reduceLT,bD,he.e0,he.e2,he.e8,he.e9,hlen,nR,l4,By,Qb];simp only[qk,zN,zD,zp,aO,qE,iV,gX,gZ,aI,gh,bD]
   refine⟨_,?_,S,_,_,H4,_,rfl,rfl,⟨by simp[hlen],by simp[za,he.e0],by simp[za,he.e2],by simp[za,he.e6],by simp[za,he.e7],by simp[za,he.e8]⟩,TN,C_,λp hp=>?_,iB.1,λf hf=>hi.wf f (eo _ hf),?_,⟨q,LM _ _ _ (by have:=hi.ws.lt;omega) (by omega) (by omega) (Cy _ _ _ (by have:=hi.ws.lt;omega) (by omega) (by omega) LQ)⟩⟩
   ·simp only[wS];have:=TJ (.mk op pl s0 s1 s2 s3 tx mn mx nl [],d);omega
   ·rcases dM.1 hp with rfl|hp
    ·exact iB.2
    ·exact(hi.NK p hp).mono Fv
   ·simp only[wS,bh] at NL ⊢;have:=TJ (.mk op pl s0 s1 s2 s3 tx mn mx nl [],d);omega
  | cons a tl =>
   refine .inr ⟨by simp;omega,?_⟩
   refine xb (TM bs bm r L) ⟨⟨by simp[hlen],by simp[za,he.e0],by simp[za,he.e2],by simp[za,he.e6],by simp[za,he.e7],by simp[za,he.e8]⟩,by simp[za,he.e9]⟩ λenv he=>?_
   have hlen:=he.len;have amK:=hi.ws.lt;refine zh ?_;simp only[BA,Nat.reduceEqDiff,ak,aj,aq,ah,za,bI,Nat.reduceLT,bD,he.e9,hlen,pe,l3,wJ];have sD:=hi.wf _ (fy ..);have C_:=hi.dn;rcases d with _|d
   refine .inl ⟨rfl,?_⟩;rw[zl6] at C_;obtain⟨H3,By,Im,Cy⟩:=Qa.C' hg (show 1<=n by omega) p0 (by omega)
   have hf3:=Cy _ _ _ (by omega) (by omega) (by omega) NM
   have hq3:=Cy _ _ _ (by omega) (by omega) (by omega) LQ
   obtain⟨l1,l2,l3,l4⟩:=JF (g:=gl.g) hf3;simp only[qk,zN,zD,iV,gT,aI,gh,bD]
   refine zh ?_;simp only[BA,Nat.reduceEqDiff,av,ak,aq,aC,za,bI,Nat.reduceLT,bD,he.e8,hlen,zp0,By];refine zh ?_
   simp only[BA,Nat.reduceEqDiff,ak,aj,aq,ah,za,bI,Nat.reduceLT,bD,he.e9,hlen,pe,l3,wW];refine .inr ⟨rfl,?_⟩
   refine mj (λs=>∃D,D<=(a::tl).length/\(∀k,k<wS ((.mk op pl s0 s1 s2 s3 tx mn mx nl (a::tl),D)::S)->k<wS ((.mk op pl s0 s1 s2 s3 tx mn mx nl (a::tl),0)::S))/\Mid bs bm i r P M (wE e+2) L (.mk op pl s0 s1 s2 s3 tx mn mx nl (a::tl)) D S s) ⟨0,dP _,λ_ h=>h,_,_,_,_,_,rfl,⟨⟨by simp[hlen],by simp[za,he.e0],by simp[za,he.e2],by simp[za,he.e6],by simp[za,he.e7],by simp[za,he.e8]⟩,by simp[za,he.e9]⟩,Im,λp hp=>?_,hi.ok,hf3,hq3,λc hc=>?_,λh=>by simp[E.args] at h⟩ ?_
   ·rcases dM.1 hp with rfl|hp
    ·exact zl9
    ·exact hi.NK p hp
   ·simp only[E.args,List.getElem?_cons_zero,bz] at hc;subst hc;refine⟨C_,?_,?_⟩ <;>
    ·have:=znY (op:=op) (pl:=pl) (s0:=s0) (s1:=s1) (s2:=s2) (s3:=s3) (tx:=tx) (mn:=mn) (mx:=mx) (nl:=nl) (a:=a) (tl:=tl) (S:=S);simp only[bh,oh] at NL ⊢;omega
   rotate_left
   refine .inr ⟨by simp;omega,?_⟩
   obtain⟨b,x,ps,rfl⟩:=zn1 C_;have hpx:=hi.NK x (by simp)
   have hpb:=hi.NK b (by simp)
   have hla:(a::tl).length<=2 ^ 31:=by
    have h1:=sD.2;rw[XX] at h1;have h2:=w_ (l:=a::tl);simp only[E.args] at h1;omega
   have hdd:d<2 ^ 40:=by have h1:=sD.1;simp only[E.args] at h1;omega
   simp only[bh] at KK;obtain⟨H3,By,Im,Cy⟩:=Qa.Il hg (show 1<=n by omega) (by simp only[bh];omega)
   obtain⟨H4,Qb,TN,LM⟩:=Im.Il hg (show 1<=n by omega) (by omega)
   have hf4:=LM _ _ _ (by omega) (by omega) (by omega) (Cy _ _ _ (by omega) (by omega) (by omega) NM)
   have X3:=LM _ _ _ (by omega) (by omega) (by omega) (Cy _ _ _ (by omega) (by omega) (by omega) LQ)
   simp only[qk,zN,zD,zi,iV,gU,gV,aI,gh,bD]
   refine zh ?_;simp only[BA,Nat.reduceEqDiff,ak,aj,aq,ah,za,bI,Nat.reduceLT,bD,he.e9,hlen,pe,l3,wW];refine .inl ⟨by simp,?_⟩
   refine zh ?_;simp only[BA,Nat.reduceEqDiff,av,ak,aq,aC,za,bI,Nat.reduceLT,bD,he.e8,hlen,By,Qb,LH,zR (show dD (V.agg (zo ⟨false,c_,c_⟩))=true from rfl),V.cells,jn];obtain⟨Z,hZ⟩:∃Z,Z=bq.cells (zo ⟨false,c_,c_⟩) 117:=⟨_,rfl⟩;rw[<- hZ]
   obtain⟨L2,Qc⟩:∃L2,L2=H4.az.length:=⟨_,rfl⟩;have BF:((H4.push Z).push Z).get L2=some Z:=by rw[jI (by rw[jn,Qc];omega),Qc];exact we
   have NF:((H4.push Z).push Z).get (L2+1)=some Z:=by rw[Qc,<- jn (x:=Z)];exact we
   rw[<- Qc,TL (BF.trans (by rw[hZ]))]
   simp only[bB,aq,qt];rw[zV];simp only[BA,Nat.reduceEqDiff,ak,za,bI,Nat.reduceLT,bD,hlen];rw[TL (((qD (show L2+1≠L2 by omega)).trans NF).trans (by rw[hZ]))]
   simp only[bB,aq]
   obtain⟨H5,NO⟩:∃H5,H5=(((H4.push Z).push Z).set L2 (.cells (zo b) 117)).set (L2+1) (.cells (zo x) 117):=⟨_,rfl⟩;rw[<- NO];have amO:bs.length+4<=L2:=by rw[Qc];exact TN.len
   have hb5:H5.get L2=some (.cells (zo b) 117):=by rw[NO,qD (by omega),wA BF]
   have hx5:H5.get (L2+1)=some (.cells (zo x) 117):=by rw[NO,wA ((qD (by omega)).trans NF)]
   have hk5:∀d y,H4.get d=some y->H5.get d=some y:=λd y hy=>by
    have hl:=kK hy;rw[NO,qD (by omega),qD (by omega),jI (by rw[jn];omega),jI hl,hy]
   have Qd:WS bs bm i H5 S ps m1:=by
    rw[NO];exact((TN.push.1.push.1).Cz (BF.trans (by rw[hZ])) (by omega) (by omega) (by omega)).Cz (((qD (show L2+1≠L2 by omega)).trans NF).trans (by rw[hZ])) (by omega) (by omega) (by omega)
   have NP:=hk5 _ _ hf4;have Qe:=hk5 _ _ X3;refine xb (λenv=>TM bs bm r L env/\nth env 10=some (.ptr L2 0)/\nth env 11=some (.ptr (L2+1) 0)) ⟨⟨⟨by simp[hlen],by simp[za,he.e0],by simp[za,he.e2],by simp[za,he.e6],by simp[za,he.e7],by simp[za,he.e8]⟩,by simp[za,he.e9]⟩,by simp[za,hlen],by simp[za,hlen]⟩ λenv At=>?_
   obtain⟨he,X5,X6⟩:=At;have hlen:=he.len;obtain⟨l1,l2,l3,l4⟩:=JF (g:=gl.g) NP;obtain⟨H6,LR,Qf,JG⟩:=Qd.LP hg (show 1302<=n by omega) (op:=op) (k:=d) (a:=x) (b:=b) (by omega) hpx.2
   obtain⟨H7,JH,Qg,LS⟩:=Qf.C' hg (show 1<=n by omega) (zQ op d x b m1.next).1 (by omega)
   have lP:∀u w,q0 prog .sub 3 u w (some (.int .i64 ((d+1:Nat):Int))) (some (.int .i64 1))=some (.int .i64 (d:Int)):=λu w=>WX (a:=d+1) (b:=1) (by omega) (by omega)
   refine zh ?_;simp only[BA,Nat.reduceEqDiff,av,ak,aj,aq,ah,aC,za,bI,Nat.reduceLT,bD,he.e0,he.e9,he.e8,X5,X6,hlen,nR,Cu,pe,l1,l3,lP,XW hx5,XW hb5,LR,JH]
   have TO:=LS _ _ _ (by omega) (by omega) (by omega) (JG _ _ _ (by omega) (by omega) (by omega) NP)
   have X7:=LS _ _ _ (by omega) (by omega) (by omega) (JG _ _ _ (by omega) (by omega) (by omega) Qe)
   have Av:(zQ op d x b m1.next).2.length=m1.next.length:=XQ
   refine mj (λs=>∃D,D<=(a::tl).length/\(∀k,k<wS ((.mk op pl s0 s1 s2 s3 tx mn mx nl (a::tl),D)::S)->k<wS ((.mk op pl s0 s1 s2 s3 tx mn mx nl (a::tl),d+1)::S))/\Mid bs bm i r P M (wE e+2) L (.mk op pl s0 s1 s2 s3 tx mn mx nl (a::tl)) D S s) ⟨d+1,sD.1,λ_ h=>h,_,_,_,_,_,rfl,⟨⟨by simp[hlen],by simp[za,he.e0],by simp[za,he.e2],by simp[za,he.e6],by simp[za,he.e7],by simp[za,he.e8]⟩,by simp[za,he.e9]⟩,Qg,λp hp=>?_,⟨hi.ok.r,by rw[Av];exact hi.ok.n⟩,TO,X7,λc hc=>?_,λh=>?_⟩ ?_
   ·rw[Av];rcases dM.1 hp with rfl|hp
    ·exact zid hpx hpb
    ·exact hi.NK p (by simp[hp])
   ·simp only[E.args] at hc;have LU:=zl7 (r:=r) (op:=op) (pl:=pl) (s0:=s0) (s1:=s1) (s2:=s2) (s3:=s3) (tx:=tx) (mn:=mn) (mx:=mx) (nl:=nl) (S:=S) (ps:=ps) (m:=m1) (x:=x) (b:=b) hc;have Db:=znZ (op:=op) (pl:=pl) (s0:=s0) (s1:=s1) (s2:=s2) (s3:=s3) (tx:=tx) (mn:=mn) (mx:=mx) (nl:=nl) (S:=S) hc;rw[show d+2=d+1+1 from rfl] at Db;refine⟨LU ▸ C_,?_,?_⟩ <;>
    ·simp only[bh] at NL ⊢;omega
   ·have LU:=znW (r:=r) (op:=op) (pl:=pl) (s0:=s0) (s1:=s1) (s2:=s2) (s3:=s3) (tx:=tx) (mn:=mn) (mx:=mx) (nl:=nl) (S:=S) (ps:=ps) (m:=m1) (x:=x) (b:=b) (a:=a) (tl:=tl) (d:=d) (by simp only[E.args] at h;omega)
    refine⟨_,_,rfl,LU ▸ C_,?_⟩;simp only[bh,wS] at NL ⊢;omega
   all_goals
    rintro s ⟨D,hDl,hJ,env,H5,HO,m2,q2,rfl,he,Qd,Io,Bc,NP,Qe,X8,Vc⟩;have hlen:=he.len;obtain⟨l1,l2,l3,l4⟩:=JF (g:=gl.g) NP;have hDb:D<2 ^ 40:=by
     have h1:=sD.2;rw[XX] at h1;have h2:=w_ (l:=a::tl);simp only[E.args] at h1;omega
    refine zh ?_;simp only[BA,Nat.reduceEqDiff,ak,aq,ah,za,bI,Nat.reduceLT,bD,he.e9,hlen,nR,pe,CA,l2,l3,z9,zhf,wJ];rcases eY D (a::tl).length with hD|hD
    ·refine .inr ⟨by simp;simp only[bh] at hD;omega,?_⟩
     obtain⟨c,AV⟩:∃c,(a::tl)[D]?=some c:=⟨_,gG hD⟩;obtain⟨uu,C5,hm3⟩:=X8 c AV;have sH:c∈a::tl:=pG AV;have hwc:=zjs sH;have oC:∀u w,q0 prog .add 3 u w (some (.int .i64 (D:Int))) (some (.int .i64 1))=some (.int .i64 ((D+1:Nat):Int)):=λu w=>qn (by omega)
     obtain⟨H6,LR,Qf,JG⟩:=Qd.Fp hg (show 1<=n by omega) (.mk op pl s0 s1 s2 s3 tx mn mx nl (a::tl),D+1) PS
     have LV:=JG _ _ _ (by omega) (by omega) (by omega) NP
     have hq6:=JG _ _ _ (by omega) (by omega) (by omega) Qe
     obtain⟨H7,JH,Qg,LS⟩:=Qf.Fp hg (show 1<=n by omega) (c,0) (by simp only[bh];omega)
     have X7:=LS _ _ _ (by omega) (by omega) (by omega) hq6
     refine zh ?_;simp only[BA,Nat.reduceEqDiff,ak,aj,aq,ah,za,bI,Nat.reduceLT,bD,he.e9,hlen,nR,pe,l4,l3,oC];rw[zpr (e:=.mk op pl s0 s1 s2 s3 tx mn mx nl (a::tl)) (d:=D+1) (by simp[ak,za,hlen,bg]) (by simp[ak,za,hlen,bg])]
     simp only[BA,Nat.reduceEqDiff,av,ak,aq,aC,za,bI,Nat.reduceLT,bD,he.e7,hlen,LR];obtain⟨m1',m2',m3',m4'⟩:=JF (g:=gl.g) LV;refine zh ?_
     simp only[BA,Nat.reduceEqDiff,ak,aq,ah,aF,za,bI,Nat.reduceLT,bD,he.e9,hlen,nR,pe,CA,m2',m3',z9,zjr AV,zma];rw[zoI (e:=c) (by simp[ak,za,hlen,bg])]
     simp only[BA,Nat.reduceEqDiff,av,ak,aq,aC,za,bI,Nat.reduceLT,bD,he.e7,hlen,JH];simp only[qk,zD,zp,aO,qE,iV,aI]
     refine⟨_,hJ _ hm3,_,_,_,H7,_,rfl,rfl,⟨by simp[hlen],by simp[za,he.e0],by simp[za,he.e2],by simp[za,he.e6],by simp[za,he.e7],by simp[za,he.e8]⟩,Qg,uu,Io,Bc,λf hf=>?_,C5,⟨_,X7⟩⟩
     rcases dM.1 hf with rfl|hf
     ·refine⟨dP _,?_⟩;have h1:=sD.2;rw[XX] at h1;simp only[E.args] at h1 ⊢;omega
     ·rcases dM.1 hf with rfl|hf
      ·exact⟨hD,sD.2⟩
      ·exact hi.wf f (eo _ hf)
    ·obtain rfl:D=(a::tl).length:=by omega
     refine .inl ⟨by simp,?_⟩
     obtain⟨p,ps3,rfl,Ip,LW⟩:=Vc rfl;refine zh ?_;simp only[BA,Nat.reduceEqDiff,ak,aj,aq,ah,za,bI,Nat.reduceLT,bD,he.e9,hlen,nR,Cu,l1,wJ]
     by_cases h7:op=7
     ·refine .inl ⟨by simp[h7],?_⟩
      rw[xd,if_pos h7] at Ip;have hpp:=Io p (fy ..);have hp3:ps3.length<2 ^ 32:=by simp only[bh] at LW;omega
      obtain⟨H6,LR,Qf,JG⟩:=Qd.Il hg (show 1<=n by omega) hp3
      obtain⟨H7,JH,Qg,LS⟩:=Qf.Fq hg (show 1302<=n by omega) (op:=op) (pl:=pl) (s0:=s0) (s1:=s1) (s2:=s2) (s3:=s3) (mn:=mn) (mx:=mx) (text:=tx) (nl:=nl) (args:=a::tl) hpp.2
      rw[q9] at JH;obtain⟨H8,X9,hw8,hk8⟩:=Qg.C' hg (show 1<=n by omega) (xP mn mx p m2.next).1 hp3
      have LV:=JG _ _ _ (by omega) (by omega) (by omega) NP
      have TO:=LS _ _ _ (by omega) (by omega) (by omega) LV
      have hf8:=hk8 _ _ _ (by omega) (by omega) (by omega) TO
      have hq8:=hk8 _ _ _ (by omega) (by omega) (by omega) (LS _ _ _ (by omega) (by omega) (by omega) (JG _ _ _ (by omega) (by omega) (by omega) Qe))
      refine Te [2] [(false,false),(false,false),(true,false),(false,true),(false,true),(false,true)] (tk:=[]) (by kernel_rfl) (by kernel_rfl) ?_
      simp only[BA,Nat.reduceEqDiff,av,ak,aq,ah,aC,au,za,bI,Nat.reduceLT,bD,sk,u0,Tf,Tg,Th,Ti,he.e0,he.e9,he.e8,hlen,nR,l4,LR,JH,X9,Ct,List.all_nil]
      refine⟨vG (p:=.ptr L 0) (by simp[ak,za,hlen,bg]) (JF LV).2.2.2 rfl,vG (p:=.ptr L 0) (by simp[ak,za,hlen,bg]) (JF TO).2.2.2 rfl,vG (p:=.ptr L 0) (by simp[ak,za,hlen,bg]) (JF hf8).2.2.2 rfl,?_⟩
      simp only[qk,zN,zD,zp,aO,iV,g_,aI,gh,bD]
      have X_:(xP mn mx p m2.next).2.length=m2.next.length:=zhc
      refine⟨_,hJ _ (show wS S<_ by simp only[wS];have:=TJ (.mk op pl s0 s1 s2 s3 tx mn mx nl (a::tl),(a::tl).length);omega),S,_,_,H8,_,rfl,rfl,⟨by simp[hlen],by simp[za,he.e0],by simp[za,he.e2],by simp[za,he.e6],by simp[za,he.e7],by simp[za,he.e8]⟩,hw8,Ip,λy hy=>?_,⟨Bc.r,by rw[X_];exact Bc.n⟩,λf hf=>hi.wf f (eo _ hf),LW,⟨_,hq8⟩⟩
      rw[X_];rcases dM.1 hy with rfl|hy
      ·exact znX hpp
      ·exact Io y (eo _ hy)
     ·refine .inr ⟨by simp[h7],?_⟩
      simp only[qk,zN,zD,zp,aO,iV,g_,aI,gh,bD]
      rw[xd,if_neg h7] at Ip;refine⟨_,hJ _ (show wS S<_ by simp only[wS];have:=TJ (.mk op pl s0 s1 s2 s3 tx mn mx nl (a::tl),(a::tl).length);omega),S,_,_,H5,_,rfl,rfl,⟨by simp[hlen],by simp[za,he.e0],by simp[za,he.e2],by simp[za,he.e6],by simp[za,he.e7],by simp[za,he.e8]⟩,Qd,Ip,Io,Bc,λf hf=>hi.wf f (eo _ hf),LW,⟨_,Qe⟩⟩
end
section
variable{gl:Gl}
abbrev Cr:=E×Bool×E
def mT(c:Cr):aG:=aR c.1++[.bool c.2.1]++aR c.2.2
def DZ(c:Cr):V:=.agg (mT c)
def jb(nl:Bool)(l:List Cr):V:=if nl && l.isEmpty then .aH else .sl 21 (l.map DZ) .no
def fh(c:Cr):E:=if c.2.1 then .mk 5 0 0 0 0 0 [] 0 0 false [c.1,c.2.2] else c.1
def jW(n r:Nat)(e:E)(m:Mk):bO×Mk :=
 (jl (if (iT r e m).1.null then jG (iT r e m).1.first (jT c_ (n+r)) else (iT r e m).1.first) 19,
  {(iT r e m).2 with next:=mL (jT c_ (n+r)) (jl (iT r e m).1.last 19) (iT r e m).2.next })
theorem Ya{n r:Nat}{e:E}{m:Mk}:(jW n r e m).2.sets=(iT r e m).2.sets:=by simp only[jW]
def qq(n:Nat):Nat->List E->Mk->List bO×Mk
 | _,[],m=>([],m)
 | r,e::es,m=>((jW n r e m).1::(qq n (r+1) es (jW n r e m).2).1,(qq n (r+1) es (jW n r e m).2).2)
def m0:Mk:=⟨[],[],[]⟩
theorem zcF{n:Nat}:∀{r:Nat}{es:List E}{m:Mk},m.sets.length<=(qq n r es m).2.sets.length
 | _,[],_=>dB _
 | r,e::es,m=>by
  simp only[qq];refine cZ ?_ (zcF (m:=(jW n r e m).2));rw[Ya];exact sQ e m
def Fw(k:Nat):V:=.int .i64 (k:Int)
def jJ(l:bO):V:=bg (zm 1 3 (l.map Fw))
theorem vv(c:Cr):(mT c).length=21:=by simp[mT,z7]
theorem TP(c:Cr):(mT c).map bg=mT c:=by simp[mT,ja,qR]
theorem Yb(c:Cr):aL (mT c)=0:=gE (gE (v7 _) rfl) (v7 _)
theorem zjt(c:Cr):(mT c).all (λc=>!(locked c))=true:=by simp only[mT,List.all_append,XL];rfl
theorem vf{nl:Bool}{l:List Cr}:bg (jb nl l)=jb nl l:=by unfold jb;split<;>rfl
theorem Yc:prog.underlying 24=some (.slice 55):=by kernel_rfl
theorem Iq:z4 prog 55=some 21:=by kernel_rfl
theorem Yd:qG prog 55=some true:=by kernel_rfl
theorem TQ{H:Hp}{nl:Bool}{l:List Cr}:qW prog H 24 (jb nl l)=some (l.length:Int):=by
 unfold jb;split
 ·rename_i h;have:l=[]:=by simp at h;exact h.2
  subst this;simp[qW]
 ·simp[qW]
theorem zeR{nl:Bool}{l:List Cr}{k:Nat}{c:Cr}(h:l[k]?=some c):zt prog 24 (jb nl l) (k:Int)=some (.vp (mT c)):=by
 have cK:jb nl l=.sl 21 (l.map DZ) .no:=by
  unfold jb;rw[if_neg];intro h';have:l=[]:=by simp at h';exact h'.2
  rw[this] at h;simp at h
 have hn:nth (l.map DZ) k=some (DZ c):=by rw[zg,mu,h];rfl
 have hk:¬((k:Int)<0):=by omega
 simp[cK,zt,Iq,hk,hn,DZ,V.cells]
theorem zju{H:Hp}{g:Nat->Nat->cj}{c:Cr}:zk prog H g 55 (.vp (mT c))=some (.agg (mT c)):=by
 have:(mT c).take 21=mT c:=su (by rw[vv];decide)
 simp[zk,qy,Yd,Iq,S6,vv,this]
theorem yN{P:aY}{n:Nat}{f:FuncId}{args:aG}{v:V}{H:Hp}(h:gl.hk f args=some v):zj P gl (n+1) f args H=some (.ret v,H):=by
 obtain⟨b,e⟩:=H;simp only[zj,h]
def zF:aG:=[.aH,.aH,.aH,.aH]
theorem Ye:qL prog 30=some (.agg zF):=by kernel_rfl
theorem zoJ{env:aG}:kw prog 30 #[] env=some (.agg zF):=by kernel_rfl
theorem zp1{env:aG}:kw prog 113 #[] env=some (.agg [.aH,.aH,.aH]):=by kernel_rfl
theorem z47:qL prog 55=some (.agg (mT (.mk 0 0 0 0 0 0 [] 0 0 true [],false,.mk 0 0 0 0 0 0 [] 0 0 true []))):=by kernel_rfl
theorem Yf:qL prog 53=some (.agg (aR (.mk 0 0 0 0 0 0 [] 0 0 true []))):=by kernel_rfl
theorem z60:qL prog 115=some (.agg (pv 19 c_)):=by kernel_rfl
theorem Fy:z4 prog 30=some 4:=by kernel_rfl
theorem LX:qG prog 30=some true:=by kernel_rfl
theorem Ir:qG prog 37=some false:=by kernel_rfl
theorem zky(hg:GW gl){n:Nat}(hn:1<=n){nl:Bool}{l:List Cr}{k:Int}{ok:Bool}{e0 e1:V}(hm:gl.hk 54 [jb nl l]=some (.bx [.int .i64 k,.bool ok]))(h0:gl.g 0 0=some e0)(h1:gl.g 1 0=some e1)(Nc:e0.top=0)(OD:e1.top=0)
  (sJ:∃t v,e0=.dX t v) (nB:∃t v,e1=.dX t v) (lR:ok=false\/1000<k):zj prog gl (n+1) 14 [jb nl l] ⟨[],[]⟩=some (.ret (.bx [.agg zF,if ok then e1 else e0]),⟨[],[]⟩):=by
 have dz:Cx.bK ⟨prog,gl.g,zj prog gl n,eg⟩ 54 [jb nl l] ⟨[.cells zF 30],[]⟩=some (.val (.bx [.int .i64 k,.bool ok]),⟨[.cells zF 30],[]⟩):=by
  have:=yN (P:=prog) (n:=n - 1) (H:=⟨[.cells zF 30],[]⟩) hm;rw[show n - 1+1=n by omega] at this
  exact zu func54 rfl this
 suffices bR:(go ⟨prog,gl,zj prog gl n,eg⟩ n (Fx prog f14.results.toList λw H1=>w=.bx [.agg zF,if ok then e1 else e0]/\H1=⟨[.cells zF 30],[]⟩) [.c (f14.body.getD .skip)] .normal ⟨[jb nl l]++List.replicate 109 (.bx []),⟨[],[]⟩,[],[]⟩) by
  obtain⟨w,H1,h0,rfl,rfl⟩:=zO (gl:=gl) (f:=14) (bs:=[]) (es:=[]) (args:=[jb nl l]) (n:=n) (hg.hk _ _ (by decide)) (λH=>hg.fq _ _ _ _) func14 rfl (by rw[hg.uq];exact bR)
  rw[h0];have:(V.bx [.agg zF,if ok then e1 else e0]).top=0:=by
   cases ok<;>simp[V.top,aL,zF,Nc,OD]
  rw[this];rfl
 have hz:dD (V.agg zF)=true:=rfl;simp only[f14,gm,zi];refine zh ?_;simp only[BA,aj,aq,zc,bX,bY,Ye,zR hz,V.cells,List.replicate];refine zh ?_
 simp only[BA,av,ak,aq,aC,zd,ze,bX,bY,vf,dz,kZ,eT];refine zh ?_;simp only[BA,ak,aq,zd,ze,bX,bY,i_]
 have fe:∀env,qp prog 30 ⟨[.cells zF 30],[]⟩ [] [] (some (.agg zF,env)) (some (.ptr 0 0))=some (.skip,⟨env,⟨[.cells zF 30],[]⟩,[],[]⟩):=λenv=>by
  rw[zA (cs:=zF) (ty:=30) Fy rfl rfl rfl (by decide) rfl]
  rfl
 have Ei:∀g,zk prog ⟨[.cells zF 30],[]⟩ g 30 (.ptr 0 0)=some (.agg zF):=λg=>by
  rw[jp (cs:=zF) (ty:=30) LX Fy rfl (by decide)]
  rfl
 cases ok with
 | false =>
  refine .inl ⟨rfl,?_⟩;refine Te [1] [(false,false),(true,false),(false,true),(false,false)] (tk:=[]) (by kernel_rfl) (by kernel_rfl) ?_
  have hl:∀H,zk prog H gl.g 37 (.eV 0 0)=some e0:=λH=>by simp[zk,Ir,h0]
  obtain⟨t,v,rfl⟩:=sJ;simp only[BA,ak,aq,au,zd,ze,bX,bY,sk,u0,Tf,WC,Th,Ti,Ir,zoJ,hl,zi7,zeF,fe];refine⟨λ_=>vG (p:=.eV 0 0) rfl (hl _) rfl,?_⟩;simp only[go_ret,zp,wg,Fx]
  refine⟨trivial,[.agg zF,.dX t v],?_,by simp[j_,bg],trivial⟩
  simp only[zy,zd,ze,Ei];rfl
 | true =>
  have hk:1000<k:=by rcases lR with h|h;cases h;exact h
  refine .inr ⟨rfl,?_⟩;refine zh ?_;simp only[BA,ak,aj,aq,zd,ze,bX,bY,wW];refine .inl ⟨by simpa using hk,?_⟩
  refine Te [1] [(false,false),(true,false),(false,true),(false,false)] (tk:=[]) (by kernel_rfl) (by kernel_rfl) ?_
  have hl:∀H,zk prog H gl.g 37 (.eV 1 0)=some e1:=λH=>by simp[zk,Ir,h1]
  obtain⟨t,v,rfl⟩:=nB;simp only[BA,ak,aq,au,zd,ze,bX,bY,sk,u0,Tf,WC,Th,Ti,Ir,zoJ,hl,zi7,zeF,fe];refine⟨λ_=>vG (p:=.eV 1 0) rfl (hl _) rfl,?_⟩;simp only[go_ret,zp,wg,Fx]
  refine⟨trivial,[.agg zF,.dX t v],?_,by simp[j_,bg],trivial⟩
  simp only[zy,zd,ze,Ei];rfl
end
section
open Go.Vm.Sx
variable{gl:Gl}
def JI(e:E):Bool:=(cY e 1 0 0).1
def vw(e:E):Int:=bif (cY e 1 0 0).1 then (bif dV 1001 (cY e 1 0 0).2.2 then 1001 else (cY e 1 0 0).2.2) else 0
def mM:E->Bool
 | .mk op pl s0 s1 s2 s3 text mn mx _ args=>(((((((op == 0) && (pl == 0)) && (s0 == 0 && (s1 == 0 && (s2 == 0 && s3 == 0)))) && ot text []) && (mn == 0)) && (mx == 0)) && ((args.length:Int) == 0))
theorem zeS(nl:Bool)(l:List Cr):jb nl l=lv 21 nl (l.map DZ):=by cases l<;>cases nl<;>rfl
theorem zhh(nl:Bool)(l:List Cr):vL (jb nl l)=l.map DZ:=by rw[zeS];exact zpU ..
theorem zpt(c:Cr):(DZ c).top=0:=Yb c
theorem zeT(nl:Bool)(l:List Cr):(jb nl l).top=0:=by
 rw[zeS,Jv];exact wo zpt _
def WfC(c:Cr):Prop:=Wf c.1/\Wf c.2.2
def CB(c:Cr):Bool:=JI c.1 && (bif c.2.1 then JI c.2.2 else mM c.2.2)
def Fz(p:Int)(c:Cr):Int:=bif dV 1001 (IntKind.i64.wrap (IntKind.i64.wrap (p+vw c.1)+vw c.2.2)) then 1001 else IntKind.i64.wrap (IntKind.i64.wrap (p+vw c.1)+vw c.2.2)
def nu:Int->List Cr->Int×Bool
 | p,[]=>(p,true)
 | p,c::l=>bif CB c then nu (Fz p c) l else (0,false)
def xe(l:List Cr):Int×Bool:=bif dV 200 (l.length:Int) then (0,false) else nu 0 l
end
section
open Go.Vm.Sx
variable{gl:Gl}
def nv(l:List Int):V:=lv 1 true (l.map (.int .i64))
def GL(l:List (List Int)):V:=lv 1 true (l.map nv)
def TR(l:List (Int×Int×Int×Int)):V:=lv 4 true (l.map Xz)
structure Fo where
 s:List (Int×Int×Int×Int)
 r:List Int
 f:List (List Int)
 n:List (List Int)
def Qh(F:Fo):aG:=[TR F.s,nv F.r,GL F.f,GL F.n]
def TS(F:Fo):V:=.agg (Qh F)
theorem zmc(l:List Int):(nv l).top=0:=by unfold nv;rw[Jv];exact wo (λ_=>rfl) _
theorem zn2(l:List (List Int)):(GL l).top=0:=by unfold GL;rw[Jv];exact wo zmc _
theorem zn3(l:List (Int×Int×Int×Int)):(TR l).top=0:=by unfold TR;rw[Jv];exact wo (λ_=>rfl) _
end
section
open Go.Vm.Sx
mutual
def nodes:E->Nat
 | .mk _ _ _ _ _ _ _ _ _ _ args=>1+fP args
def fP:List E->Nat
 | []=>0
 | a::l=>nodes a+fP l
end
mutual
def lE:E->Nat
 | .mk op _ _ _ _ _ _ _ _ _ args=>(if op == 2 then 1 else 0)+iO args
def iO:List E->Nat
 | []=>0
 | a::l=>lE a+iO l
end
mutual
def uY:E->Int->Bool
 | .mk op pl s0 s1 s2 s3 text mn mx nl args,d=>decide (d<=4096) && (lB (.mk op pl s0 s1 s2 s3 text mn mx nl args) && (fU (.mk op pl s0 s1 s2 s3 text mn mx nl args) && rR args (d+1)))
def rR:List E->Int->Bool
 | [],_=>true
 | a::l,d=>uY a d && rR l d
end
mutual
theorem so:∀e,lE e<=nodes e
 | .mk op _ _ _ _ _ _ _ _ _ args=>by
  have:=Bd args;simp only[lE,nodes];split<;>omega
theorem Bd:∀l,iO l<=fP l
 | []=>by simp[iO]
 | a::l=>by have:=so a;have:=Bd l;simp only[iO,fP];omega
end
mutual
theorem pg:∀(e:E)(d n s:Int),0<=d->d<=4097->0<=n->n+(nodes e:Int)<=65536->0<=s->s+(nodes e:Int)<=65536->(cY e d n s).1=uY e d/\(uY e d=true->(cY e d n s).2.1=n+nodes e/\(cY e d n s).2.2=s+lE e)
 | .mk op pl s0 s1 s2 s3 text mn mx nl args,d,n,s,h0,h1,h2,h3,h4,h5=>by
  simp only[nodes] at h3 h5;simp only[cY,uY];rw[Nx (x:=n+1) (by omega) (by omega),WY (x:=65536) (by omega),Bw]
  cases hd:dV 4096 d with
  | true =>
   have:=Py.1 hd;simp only[aI];rw[decide_eq_false (by omega)]
   simp
  | false =>
   have Jb:d<=4096:=by
    rcases Int.lt_or_le 4096 d with h|h
    ·rw[Px h] at hd;cases hd
    ·exact h
   rw[decide_eq_true Jb,sw];simp only[gh,bD];cases hl:lB (.mk op pl s0 s1 s2 s3 text mn mx nl args) with
   | false=>simp
   | true =>
   cases hk:fU (.mk op pl s0 s1 s2 s3 text mn mx nl args) with
   | false=>simp
   | true =>
   simp only[aI,sw];rw[Nx (x:=d+1) (by omega) (by omega),Nx (x:=s+1) (by omega) (by omega)]
   cases ho:op == 2 with
   | true =>
    simp only[aI];obtain⟨g1,g2⟩:=nS args (d+1) (n+1) (s+1) (by omega) (by omega) (by omega) (by omega) (by omega) (by omega)
    refine⟨g1,λhg=>?_⟩;obtain⟨g3,g4⟩:=g2 hg;rw[g3,g4];simp only[nodes,lE,ho,aI];omega
   | false =>
    simp only[gh,bD];obtain⟨g1,g2⟩:=nS args (d+1) (n+1) s (by omega) (by omega) (by omega) (by omega) (by omega) (by omega)
    refine⟨g1,λhg=>?_⟩;obtain⟨g3,g4⟩:=g2 hg;rw[g3,g4];simp only[nodes,lE,ho,gh,bD];omega
theorem nS:∀(l:List E)(d n s:Int),0<=d->d<=4097->0<=n->n+(fP l:Int)<=65536->0<=s->s+(fP l:Int)<=65536->(iI d l n s).1=rR l d/\(rR l d=true->(iI d l n s).2.1=n+fP l/\(iI d l n s).2.2=s+iO l)
 | [],d,n,s,_,_,_,_,_,_=>by simp[iI,rR,fP,iO]
 | a::l,d,n,s,h0,h1,h2,h3,h4,h5=>by
  simp only[fP] at h3 h5;obtain⟨g1,g2⟩:=pg a d n s h0 h1 h2 (by omega) h4 (by omega)
  simp only[iI,rR];cases hg:uY a d with
  | false =>
   rw[hg] at g1;simp[g1]
  | true =>
   rw[hg] at g1;obtain⟨g3,g4⟩:=g2 hg;have:=so a;simp only[g1,aI,sw,g3,g4];obtain⟨f1,f2⟩:=nS l d (n+nodes a) (s+lE a) h0 h1 (by omega) (by omega) (by omega) (by omega)
   refine⟨f1,λhh=>?_⟩;obtain⟨f3,f4⟩:=f2 hh;rw[f3,f4];simp only[fP,iO];omega
end
mutual
def gd:E->Bool
 | .mk op pl s0 s1 s2 s3 text mn mx nl args=>lB (.mk op pl s0 s1 s2 s3 text mn mx nl args) && (fU (.mk op pl s0 s1 s2 s3 text mn mx nl args) && JJ args)
def JJ:List E->Bool
 | []=>true
 | a::l=>gd a && JJ l
end
mutual
theorem x_:∀(e:E)(d:Int),d+nodes e<=4097->uY e d=gd e
 | .mk op pl s0 s1 s2 s3 text mn mx nl args,d,h=>by
  simp only[nodes] at h;simp only[uY,gd];rw[decide_eq_true (by omega),sw,Be args (d+1) (by omega)]
theorem Be:∀(l:List E)(d:Int),d+fP l<=4097->rR l d=JJ l
 | [],_,_=>rfl
 | a::l,d,h=>by
  simp only[fP] at h;simp only[rR,JJ];rw[x_ a d (by omega),Be l d (by omega)]
end
theorem zmd{e:E}(h:nodes e<=4000):JI e=gd e:=by
 obtain⟨h1,_⟩:=pg e 1 0 0 (by omega) (by omega) (by omega) (by omega) (by omega) (by omega)
 rw[JI,h1,x_ e 1 (by omega)]
theorem TT{e:E}(h:nodes e<=4000):vw e=if gd e then (if 1001<(lE e:Int) then 1001 else (lE e:Int)) else 0:=by
 obtain⟨h1,h2⟩:=pg e 1 0 0 (by omega) (by omega) (by omega) (by omega) (by omega) (by omega)
 have hg:=x_ e 1 (by omega)
 rw[vw,h1,hg];cases h3:gd e with
 | false=>rfl
 | true =>
  rw[(h2 (by rw[hg,h3])).2]
  simp only[oo,aI,Int.zero_add]
  by_cases h4:1001<(lE e:Int)
  ·rw[if_pos h4,Px h4];rfl
  ·rw[if_neg h4,WY (by omega)];rfl
theorem zme{e:E}(h:mM e=true):gd e=false:=by
 obtain⟨op,pl,s0,s1,s2,s3,text,mn,mx,nl,args⟩:=e;simp only[mM,eF,beq_iff_eq] at h;obtain⟨⟨⟨⟨⟨⟨rfl,_⟩,_⟩,_⟩,_⟩,_⟩,_⟩:=h;simp[gd,fU]
end
section
open Go.Vm.Sx
def D1(ns:List (Nat->Bool))(x:Nat):Nat->Bool:=ns.getD x c_
theorem zn4{ns:List (Nat->Bool)}{k x:Nat}{p:Nat->Bool}(hx:x<ns.length):D1 (ns.set k p) x=if k=x then p else D1 ns x:=by
 unfold D1;rw[List.getD_eq_getElem?_getD,List.getD_eq_getElem?_getD,tc]
 by_cases h:k=x
 ·subst h;simp[hx]
 ·simp[h]
theorem Yg{q:Nat->Bool}{x:Nat}:∀{ks:bO}{ns:List (Nat->Bool)},x<ns.length->∀y,D1 (mL q ks ns) x y=(D1 ns x y || (decide (x∈ks) && q y))
 | [],ns,_,y=>by simp[mL]
 | k::ks,ns,hx,y=>by
  rw[mL,Yg (by rw[bI];exact hx),zn4 hx]
  by_cases h:k=x
  ·subst h;simp only[aI,jG,dM,true_or,decide_true,sw];show(D1 ns k y || q y || (decide (k∈ks) && q y))=(D1 ns k y || q y)
   cases D1 ns k y<;>cases q y<;>simp
  ·have:decide (x∈k::ks)=decide (x∈ks):=by simp[Ne.symm h]
   rw[if_neg h,this]
def JK(ns:List (Nat->Bool))(x:Nat):Prop:=∃y,y<1216/\D1 ns x y=true
structure lT(ns ns':List (Nat->Bool)):Prop where
 len:ns.length<=ns'.length
 row:∀x,x<ns.length->∀y,D1 ns x y=true->D1 ns' x y=true
theorem lT.refl{ns:List (Nat->Bool)}:lT ns ns:=⟨dB _,λ_ _ _ h=>h⟩
theorem lT.trans{a b c:List (Nat->Bool)}(h:lT a b)(k:lT b c):lT a c:=⟨cZ h.len k.len,λx hx y hy=>k.row x (uO hx h.len) y (h.row x hx y hy)⟩
theorem lT.Bf{a b:List (Nat->Bool)}(h:lT a b){x:Nat}(hx:x<a.length)(hr:JK a x):JK b x:=by
 obtain⟨y,h1,h2⟩:=hr;exact⟨y,h1,h.row x hx y h2⟩
theorem lG{q:Nat->Bool}{ks:bO}{ns:List (Nat->Bool)}:lT ns (mL q ks ns):=⟨by rw[wm];exact dB _,λx hx y hy=>by rw[Yg hx,hy];rfl⟩
theorem zmf{ns:List (Nat->Bool)}{p:Nat->Bool}:lT ns (ns++[p]):=⟨by simp,λx hx y hy=>by
 unfold D1 at hy ⊢;rw[List.getD_eq_getElem?_getD] at hy ⊢
 rw[gF hx];exact hy⟩
structure Inv(n0:Nat)(P:Part)(ns:List (Nat->Bool)):Prop where
 nn:P.null=true\/∃y,y<1216/\P.first y=true
 lv:∀x,n0<=x->x<ns.length->P.last x=true\/JK ns x
theorem zhj{q:Nat->Bool}{p:Nat->Bool}{ns:List (Nat->Bool)}{x:Nat}(hx:x<ns.length)(Ld:x<1216)(hp:p x=true)(hq:∃y,y<1216/\q y=true):JK (mL q (jl p 19) ns) x:=by
 obtain⟨y,h1,h2⟩:=hq;refine⟨y,h1,?_⟩;rw[Yg hx,h2];have:x∈jl p 19:=iz.2 ⟨by omega,hp⟩
 simp[this]
theorem zhk{op:Int}{k:Nat}{a b:Part}{ns:List (Nat->Bool)}:lT ns (zQ op k a b ns).2:=by
 unfold zQ;split
 ·exact lT.refl
 ·split
  ·exact lT.refl
  ·simp only;exact lG
theorem zie{op:Int}{k:Nat}{n0:Nat}{a b:Part}{Qi ns:List (Nat->Bool)}(hk:0<k)(ha:Inv n0 a Qi)(hb:Inv Qi.length b ns)(hg:lT Qi ns)(hl:ns.length<=1200):Inv n0 (zQ op k a b ns).1 (zQ op k a b ns).2:=by
 unfold zQ;rw[if_neg (by omega)]
 split
 ·refine⟨?_,λx h0 hx=>?_⟩
  ·rcases ha.nn with h|⟨y,h1,h2⟩
   ·left;simp[h]
   ·right;exact⟨y,h1,by simp[jG,h2]⟩
  ·by_cases C1:x<Qi.length
   ·rcases ha.lv x h0 C1 with h|h
    ·left;simp[jG,h]
    ·right;exact hg.Bf C1 h
   ·rcases hb.lv x (by omega) hx with h|h
    ·left;simp[jG,h]
    ·right;exact h
 ·refine⟨?_,λx h0 hx=>?_⟩
  ·simp only;rcases ha.nn with h|⟨y,h1,h2⟩
   ·rcases hb.nn with h'|⟨y,h1,h2⟩
    ·left;simp[h,h']
    ·right;exact⟨y,h1,by simp[h,jG,h2]⟩
   ·right
    refine⟨y,h1,?_⟩;split
    ·simp[jG,h2]
    ·exact h2
  ·simp only[wm] at hx ⊢
   by_cases C1:x<Qi.length
   ·rcases ha.lv x h0 C1 with h|h
    ·rcases hb.nn with h'|h'
     ·left;simp[h',jG,h]
     ·right;exact zhj hx (by omega) h h'
    ·right;exact lG.Bf hx (hg.Bf C1 h)
   ·rcases hb.lv x (by omega) hx with h|h
    ·left
     split
     ·simp[jG,h]
     ·exact h
    ·right;exact lG.Bf hx h
variable{r:Int}
theorem zmg{op:Int}{q:Int×Int×Int×Int}{m:Mk}(ek:m.Ok)(aE:op=1\/op=2)(hl:m.sets.length<=1200):Inv m.next.length (jP op q r m).1 (jP op q r m).2.next/\lT m.next (jP op q r m).2.next/\(jP op q r m).2.sets.length=m.sets.length+(if op == 2 then 1 else 0)/\(jP op q r m).2.Ok:=by
 refine⟨?_,?_,?_,(zhe ek).1⟩
 ·unfold jP;split
  ·exact⟨.inl rfl,λx h0 hx=>by simp only at hx;omega⟩
  ·refine⟨.inr ⟨m.sets.length,by omega,by simp[jT,c_]⟩,λx h0 hx=>.inl ?_⟩
   simp only[aZ,I1] at hx;have:x=m.sets.length:=by rw[<- ek.n];omega
   simp[jT,c_,this]
 ·unfold jP;split
  ·exact lT.refl
  ·exact zmf
 ·unfold jP;rcases aE with rfl|rfl
  ·simp
  ·simp
theorem zmh{op mn mx:Int}{n0:Nat}{x:Part×Mk}(h:Inv n0 x.1 x.2.next)(ek:x.2.Ok):Inv n0 (xd op mn mx x).1 (xd op mn mx x).2.next/\lT x.2.next (xd op mn mx x).2.next/\(xd op mn mx x).2.Ok:=by
 unfold xd;split
 ·unfold xP;simp only;split
  ·refine⟨⟨?_,λy h0 hy=>?_⟩,lG,⟨ek.r,by simp only[wm];exact ek.n⟩⟩
   ·rcases h.nn with h1|h1
    ·left;simp[h1]
    ·right;exact h1
   ·rw[wm] at hy;rcases h.lv y h0 hy with h1|h1
    ·left;exact h1
    ·right;exact lG.Bf hy h1
  ·refine⟨⟨?_,h.lv⟩,lT.refl,⟨ek.r,ek.n⟩⟩;rcases h.nn with h1|h1
   ·left;simp[h1]
   ·right;exact h1
 ·exact⟨h,lT.refl,ek⟩
mutual
theorem Dc:∀(e:E)(m:Mk),gd e=true->m.Ok->m.sets.length+lE e<=1200->Inv m.next.length (iT r e m).1 (iT r e m).2.next/\lT m.next (iT r e m).2.next/\(iT r e m).2.sets.length=m.sets.length+lE e/\(iT r e m).2.Ok
 | .mk op pl s0 s1 s2 s3 tx mn mx nl [],m,hg,ek,hl=>by
  have aE:op=1\/op=2:=by
   simp only[gd,fU,eF] at hg
   by_cases h1:op=1
   ·exact .inl h1
   ·by_cases h2:op=2
    ·exact .inr h2
    ·have:=hg.2.1;simp[h1,h2] at this;exfalso;revert this;simp[dV]
  obtain⟨g1,g2,g3,g4⟩:=zmg (op:=op) (q:=(s0,s1,s2,s3)) (r:=r) ek aE (by omega)
  simp only[iT];refine⟨g1,g2,?_,g4⟩;rw[g3];simp only[lE,iO];rfl
 | .mk op pl s0 s1 s2 s3 tx mn mx nl (a::tl),m,hg,ek,hl=>by
  have aE:(op == 2)=false:=by
   simp only[gd,fU,eF] at hg;cases h2:op == 2 with
   | false=>rfl
   | true =>
    have:=hg.2.1;have e2:=beq_iff_eq.1 h2;subst e2;simp at this;omega
  have hgF:JJ (a::tl)=true:=by
   simp only[gd,eF] at hg;exact hg.2.2
  have rI:lE (.mk op pl s0 s1 s2 s3 tx mn mx nl (a::tl))=iO (a::tl):=by simp only[lE,aE,gh,bD,oh]
  rw[rI] at hl ⊢;obtain⟨g1,g2,g3,g4⟩:=Dd (a::tl) op 0 p0 m m.next.length hgF ek (.inl ⟨rfl,rfl,by simp⟩) hl
  rw[zhd];obtain⟨f1,f2,f3⟩:=zmh (op:=op) (mn:=mn) (mx:=mx) g1 g4;exact⟨f1,g2.trans f2,by rw[XT];exact g3,f3⟩
theorem Dd:∀(es:List E)(op:Int)(k:Nat)(a:Part)(m:Mk)(n0:Nat),JJ es=true->m.Ok->((k=0/\m.next.length=n0/\es≠[])\/(0<k/\Inv n0 a m.next))->m.sets.length+iO es<=1200 ->
  Inv n0 (sP r op k a es m).1 (sP r op k a es m).2.next/\lT m.next (sP r op k a es m).2.next/\(sP r op k a es m).2.sets.length=m.sets.length+iO es/\(sP r op k a es m).2.Ok
 | [],op,k,a,m,n0,hg,ek,hi,hl=>by
  rw[zjq];rcases hi with⟨_,_,h⟩|⟨_,h⟩
  ·exact absurd rfl h
  ·exact⟨h,lT.refl,by simp[iO],ek⟩
 | e::es,op,k,a,m,n0,hg,ek,hi,hl=>by
  simp only[JJ,eF] at hg;simp only[iO] at hl;obtain⟨g1,g2,g3,g4⟩:=Dc e m hg.1 ek (by omega)
  rw[XR];obtain⟨x,hx⟩:∃x,x=iT r e m:=⟨_,rfl⟩;rw[<- hx] at g1 g2 g3 g4 ⊢;have Av:(zQ op k a x.1 x.2.next).2.length=x.2.next.length:=XQ
  have Bc:Mk.Ok { x.2 with next:=(zQ op k a x.1 x.2.next).2 }:=⟨g4.r,by simp only[Av];exact g4.n⟩
  have hinv:Inv n0 (zQ op k a x.1 x.2.next).1 (zQ op k a x.1 x.2.next).2:=by
   rcases hi with⟨rfl,h,_⟩|⟨hk,h⟩
   ·subst h;simpa[zQ] using g1
   ·exact zie hk h g1 g2 (by rw[g4.n];omega)
  obtain⟨f1,f2,f3,f4⟩:=Dd es op (k+1) (zQ op k a x.1 x.2.next).1 { x.2 with next:=(zQ op k a x.1 x.2.next).2 } n0 hg.2 Bc (.inr ⟨by omega,hinv⟩) (by simp only;omega)
  refine⟨f1,(g2.trans zhk).trans f2,?_,f4⟩;rw[f3];simp only[iO];omega
end
def mN:List E->Nat
 | []=>0
 | e::es=>lE e+mN es
theorem Yh{n:Nat}:∀(es:List E)(r:Nat)(m:Mk),(∀e∈es,gd e=true)->m.Ok->m.sets.length+mN es<=1200->n+r+es.length<=1216->(∀x,x<m.next.length->JK m.next x) ->
  (qq n r es m).2.sets.length=m.sets.length+mN es/\(∀x,x<(qq n r es m).2.next.length->JK (qq n r es m).2.next x)/\(qq n r es m).2.Ok
 | [],r,m,hg,ek,hl,hn,hr=>⟨by simp[qq,mN],hr,ek⟩
 | e::es,r,m,hg,ek,hl,hn,hr=>by
  simp only[mN] at hl;simp only[bh] at hn;obtain⟨g1,g2,g3,g4⟩:=Dc (r:=r) e m (hg e (fy ..)) ek (by omega)
  have Bc:(jW n r e m).2.Ok:=by
   simp only[jW];exact⟨g4.r,by simp only[wm];exact g4.n⟩
  have hs:(jW n r e m).2.sets.length=m.sets.length+lE e:=by rw[Ya];exact g3
  have FA:∀x,x<(jW n r e m).2.next.length->JK (jW n r e m).2.next x:=λx hx=>by
   simp only[jW,wm] at hx ⊢;have AR:∃y,y<1216/\jT c_ (n+r) y=true:=⟨n+r,by omega,by simp[jT]⟩
   have Ld:x<1216:=by rw[g4.n,g3] at hx;omega
   by_cases Gr:x<m.next.length
   ·exact lG.Bf hx (g2.Bf Gr (hr x Gr))
   ·rcases g1.lv x (by omega) hx with h|h
    ·exact zhj hx Ld h AR
    ·exact lG.Bf hx h
  obtain⟨f1,f2,f3⟩:=Yh (n:=n) es (r+1) (jW n r e m).2 (λe he=>hg e (eo _ he)) Bc (by rw[hs];omega) (by omega) FA
  simp only[qq];exact⟨by rw[f1,hs,mN];omega,f2,f3⟩
theorem zjv{ns:List (Nat->Bool)}(h:∀x,x<ns.length->JK ns x):∀p∈ns,jl p 19≠[]:=by
 intro p hp e;obtain⟨x,hx,rfl⟩:=List.getElem_of_mem hp;obtain⟨y,h1,h2⟩:=h x hx
 have:y∈jl ns[x] 19:=iz.2 ⟨by omega,by
  unfold D1 at h2;rw[List.getD_eq_getElem?_getD,gG hx] at h2
  exact h2⟩
 rw[e] at this;cases this
end
end Go.Proofs.YthohlnmcjkjeiaaGreatDoor
